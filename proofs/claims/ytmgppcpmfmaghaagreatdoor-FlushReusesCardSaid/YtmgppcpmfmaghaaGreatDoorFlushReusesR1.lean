/-
  FlushReuses: rounds of the loop, part 1.
-/
import Derived.Test.YtmgppcpmfmaghaaGreatDoorFlushReusesS
set_option maxRecDepth 100000
namespace Go.Ev.Flush
open Go.Proofs
theorem A_1 : chkA 1 = true := by decide +kernel
theorem B_1 : chkB 1 = true := by decide +kernel
theorem X_1 : chkX 1 = true := by decide +kernel
theorem A_7 : chkA 7 = true := by decide +kernel
theorem B_7 : chkB 7 = true := by decide +kernel
theorem X_7 : chkX 7 = true := by decide +kernel
theorem A_13 : chkA 13 = true := by decide +kernel
theorem B_13 : chkB 13 = true := by decide +kernel
theorem X_13 : chkX 13 = true := by decide +kernel
theorem A_19 : chkA 19 = true := by decide +kernel
theorem B_19 : chkB 19 = true := by decide +kernel
theorem X_19 : chkX 19 = true := by decide +kernel
theorem A_25 : chkA 25 = true := by decide +kernel
theorem B_25 : chkB 25 = true := by decide +kernel
theorem X_25 : chkX 25 = true := by decide +kernel
theorem A_31 : chkA 31 = true := by decide +kernel
theorem B_31 : chkB 31 = true := by decide +kernel
theorem X_31 : chkX 31 = true := by decide +kernel
theorem A_37 : chkA 37 = true := by decide +kernel
theorem B_37 : chkB 37 = true := by decide +kernel
theorem X_37 : chkX 37 = true := by decide +kernel
end Go.Ev.Flush
