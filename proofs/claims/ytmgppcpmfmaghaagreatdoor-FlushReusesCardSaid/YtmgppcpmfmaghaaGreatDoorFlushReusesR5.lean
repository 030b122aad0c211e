/-
  FlushReuses: rounds of the loop, part 5.
-/
import Derived.Test.YtmgppcpmfmaghaaGreatDoorFlushReusesS
set_option maxRecDepth 100000
namespace Go.Ev.Flush
open Go.Proofs
theorem A_5 : chkA 5 = true := by decide +kernel
theorem B_5 : chkB 5 = true := by decide +kernel
theorem X_5 : chkX 5 = true := by decide +kernel
theorem A_11 : chkA 11 = true := by decide +kernel
theorem B_11 : chkB 11 = true := by decide +kernel
theorem X_11 : chkX 11 = true := by decide +kernel
theorem A_17 : chkA 17 = true := by decide +kernel
theorem B_17 : chkB 17 = true := by decide +kernel
theorem X_17 : chkX 17 = true := by decide +kernel
theorem A_23 : chkA 23 = true := by decide +kernel
theorem B_23 : chkB 23 = true := by decide +kernel
theorem X_23 : chkX 23 = true := by decide +kernel
theorem A_29 : chkA 29 = true := by decide +kernel
theorem B_29 : chkB 29 = true := by decide +kernel
theorem X_29 : chkX 29 = true := by decide +kernel
theorem A_35 : chkA 35 = true := by decide +kernel
theorem B_35 : chkB 35 = true := by decide +kernel
theorem X_35 : chkX 35 = true := by decide +kernel
end Go.Ev.Flush
