/-
  MachineMany: rounds of the loop, part 4.
-/
import Derived.Test.YthnkbbceiipcdaaGreatDoorMachineManyS
set_option maxRecDepth 100000
namespace Go.Ev.Many
open Go.Proofs
theorem O_4 : chkO 4 = true := by decide +kernel
theorem A_4 : chkA 4 = true := by decide +kernel
theorem B_4 : chkB 4 = true := by decide +kernel
theorem P_4 : chkP 4 = true := by decide +kernel
theorem X_4 : chkX 4 6016 = true := by decide +kernel
theorem O_9 : chkO 9 = true := by decide +kernel
theorem A_9 : chkA 9 = true := by decide +kernel
theorem B_9 : chkB 9 = true := by decide +kernel
theorem P_9 : chkP 9 = true := by decide +kernel
theorem X_9 : chkX 9 9231 = true := by decide +kernel
theorem O_14 : chkO 14 = true := by decide +kernel
theorem A_14 : chkA 14 = true := by decide +kernel
theorem B_14 : chkB 14 = true := by decide +kernel
theorem P_14 : chkP 14 = true := by decide +kernel
theorem X_14 : chkX 14 10996 = true := by decide +kernel
theorem O_19 : chkO 19 = true := by decide +kernel
theorem A_19 : chkA 19 = true := by decide +kernel
theorem B_19 : chkB 19 = true := by decide +kernel
theorem P_19 : chkP 19 = true := by decide +kernel
theorem X_19 : chkX 19 12911 = true := by decide +kernel
end Go.Ev.Many
