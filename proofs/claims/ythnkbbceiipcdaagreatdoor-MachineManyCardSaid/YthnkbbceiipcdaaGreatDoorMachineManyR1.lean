/-
  MachineMany: rounds of the loop, part 1.
-/
import Derived.Test.YthnkbbceiipcdaaGreatDoorMachineManyS
set_option maxRecDepth 100000
namespace Go.Ev.Many
open Go.Proofs
theorem O_1 : chkO 1 = true := by decide +kernel
theorem A_1 : chkA 1 = true := by decide +kernel
theorem B_1 : chkB 1 = true := by decide +kernel
theorem P_1 : chkP 1 = true := by decide +kernel
theorem X_1 : chkX 1 3919 = true := by decide +kernel
theorem O_6 : chkO 6 = true := by decide +kernel
theorem A_6 : chkA 6 = true := by decide +kernel
theorem B_6 : chkB 6 = true := by decide +kernel
theorem P_6 : chkP 6 = true := by decide +kernel
theorem X_6 : chkX 6 7444 = true := by decide +kernel
theorem O_11 : chkO 11 = true := by decide +kernel
theorem A_11 : chkA 11 = true := by decide +kernel
theorem B_11 : chkB 11 = true := by decide +kernel
theorem P_11 : chkP 11 = true := by decide +kernel
theorem X_11 : chkX 11 9919 = true := by decide +kernel
theorem O_16 : chkO 16 = true := by decide +kernel
theorem A_16 : chkA 16 = true := by decide +kernel
theorem B_16 : chkB 16 = true := by decide +kernel
theorem P_16 : chkP 16 = true := by decide +kernel
theorem X_16 : chkX 16 11744 = true := by decide +kernel
end Go.Ev.Many
