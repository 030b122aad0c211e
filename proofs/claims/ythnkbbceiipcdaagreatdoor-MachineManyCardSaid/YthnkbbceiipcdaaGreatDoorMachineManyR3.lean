/-
  MachineMany: rounds of the loop, part 3.
-/
import Derived.Test.YthnkbbceiipcdaaGreatDoorMachineManyS
set_option maxRecDepth 100000
namespace Go.Ev.Many
open Go.Proofs
theorem O_3 : chkO 3 = true := by decide +kernel
theorem A_3 : chkA 3 = true := by decide +kernel
theorem B_3 : chkB 3 = true := by decide +kernel
theorem P_3 : chkP 3 = true := by decide +kernel
theorem X_3 : chkX 3 5311 = true := by decide +kernel
theorem O_8 : chkO 8 = true := by decide +kernel
theorem A_8 : chkA 8 = true := by decide +kernel
theorem B_8 : chkB 8 = true := by decide +kernel
theorem P_8 : chkP 8 = true := by decide +kernel
theorem X_8 : chkX 8 8896 = true := by decide +kernel
theorem O_13 : chkO 13 = true := by decide +kernel
theorem A_13 : chkA 13 = true := by decide +kernel
theorem B_13 : chkB 13 = true := by decide +kernel
theorem P_13 : chkP 13 = true := by decide +kernel
theorem X_13 : chkX 13 10631 = true := by decide +kernel
theorem O_18 : chkO 18 = true := by decide +kernel
theorem A_18 : chkA 18 = true := by decide +kernel
theorem B_18 : chkB 18 = true := by decide +kernel
theorem P_18 : chkP 18 = true := by decide +kernel
theorem X_18 : chkX 18 12516 = true := by decide +kernel
end Go.Ev.Many
