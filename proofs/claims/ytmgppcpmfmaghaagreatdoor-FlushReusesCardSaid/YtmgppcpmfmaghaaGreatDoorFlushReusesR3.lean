/-
  FlushReuses: rounds of the loop, part 3.
-/
import Derived.Test.YtmgppcpmfmaghaaGreatDoorFlushReusesS
set_option maxRecDepth 100000
namespace Go.Ev.Flush
open Go.Proofs
theorem A_3 : chkA 3 = true := by decide +kernel
theorem B_3 : chkB 3 = true := by decide +kernel
theorem X_3 : chkX 3 = true := by decide +kernel
theorem A_9 : chkA 9 = true := by decide +kernel
theorem B_9 : chkB 9 = true := by decide +kernel
theorem X_9 : chkX 9 = true := by decide +kernel
theorem A_15 : chkA 15 = true := by decide +kernel
theorem B_15 : chkB 15 = true := by decide +kernel
theorem X_15 : chkX 15 = true := by decide +kernel
theorem A_21 : chkA 21 = true := by decide +kernel
theorem B_21 : chkB 21 = true := by decide +kernel
theorem X_21 : chkX 21 = true := by decide +kernel
theorem A_27 : chkA 27 = true := by decide +kernel
theorem B_27 : chkB 27 = true := by decide +kernel
theorem X_27 : chkX 27 = true := by decide +kernel
theorem A_33 : chkA 33 = true := by decide +kernel
theorem B_33 : chkB 33 = true := by decide +kernel
theorem X_33 : chkX 33 = true := by decide +kernel
theorem X_39 : chkX 39 = true := by decide +kernel
end Go.Ev.Flush
