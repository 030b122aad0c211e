/-
  MachineMany: rounds of the loop, part 0.
-/
import Derived.Test.YthnkbbceiipcdaaGreatDoorMachineManyS
set_option maxRecDepth 100000
namespace Go.Ev.Many
open Go.Proofs
theorem O_0 : chkO 0 = true := by decide +kernel
theorem A_0 : chkA 0 = true := by decide +kernel
theorem B_0 : chkB 0 = true := by decide +kernel
theorem P_0 : chkP 0 = true := by decide +kernel
theorem O_5 : chkO 5 = true := by decide +kernel
theorem A_5 : chkA 5 = true := by decide +kernel
theorem B_5 : chkB 5 = true := by decide +kernel
theorem P_5 : chkP 5 = true := by decide +kernel
theorem X_5 : chkX 5 6727 = true := by decide +kernel
theorem O_10 : chkO 10 = true := by decide +kernel
theorem A_10 : chkA 10 = true := by decide +kernel
theorem B_10 : chkB 10 = true := by decide +kernel
theorem P_10 : chkP 10 = true := by decide +kernel
theorem X_10 : chkX 10 9572 = true := by decide +kernel
theorem O_15 : chkO 15 = true := by decide +kernel
theorem A_15 : chkA 15 = true := by decide +kernel
theorem B_15 : chkB 15 = true := by decide +kernel
theorem P_15 : chkP 15 = true := by decide +kernel
theorem X_15 : chkX 15 11367 = true := by decide +kernel
theorem O_20 : chkO 20 = true := by decide +kernel
theorem X_20 : chkX 20 13312 = true := by decide +kernel
end Go.Ev.Many
