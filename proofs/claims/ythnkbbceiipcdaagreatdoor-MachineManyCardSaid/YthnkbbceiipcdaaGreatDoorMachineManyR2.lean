/-
  MachineMany: rounds of the loop, part 2.
-/
import Derived.Test.YthnkbbceiipcdaaGreatDoorMachineManyS
set_option maxRecDepth 100000
namespace Go.Ev.Many
open Go.Proofs
theorem O_2 : chkO 2 = true := by decide +kernel
theorem A_2 : chkA 2 = true := by decide +kernel
theorem B_2 : chkB 2 = true := by decide +kernel
theorem P_2 : chkP 2 = true := by decide +kernel
theorem X_2 : chkX 2 4612 = true := by decide +kernel
theorem O_7 : chkO 7 = true := by decide +kernel
theorem A_7 : chkA 7 = true := by decide +kernel
theorem B_7 : chkB 7 = true := by decide +kernel
theorem P_7 : chkP 7 = true := by decide +kernel
theorem X_7 : chkX 7 8167 = true := by decide +kernel
theorem O_12 : chkO 12 = true := by decide +kernel
theorem A_12 : chkA 12 = true := by decide +kernel
theorem B_12 : chkB 12 = true := by decide +kernel
theorem P_12 : chkP 12 = true := by decide +kernel
theorem X_12 : chkX 12 10272 = true := by decide +kernel
theorem O_17 : chkO 17 = true := by decide +kernel
theorem A_17 : chkA 17 = true := by decide +kernel
theorem B_17 : chkB 17 = true := by decide +kernel
theorem P_17 : chkP 17 = true := by decide +kernel
theorem X_17 : chkX 17 12127 = true := by decide +kernel
end Go.Ev.Many
