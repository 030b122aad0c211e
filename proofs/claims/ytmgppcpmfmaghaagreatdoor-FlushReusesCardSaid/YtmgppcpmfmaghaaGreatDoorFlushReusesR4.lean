/-
  FlushReuses: rounds of the loop, part 4.
-/
import Derived.Test.YtmgppcpmfmaghaaGreatDoorFlushReusesS
set_option maxRecDepth 100000
namespace Go.Ev.Flush
open Go.Proofs
theorem A_4 : chkA 4 = true := by decide +kernel
theorem B_4 : chkB 4 = true := by decide +kernel
theorem X_4 : chkX 4 = true := by decide +kernel
theorem A_10 : chkA 10 = true := by decide +kernel
theorem B_10 : chkB 10 = true := by decide +kernel
theorem X_10 : chkX 10 = true := by decide +kernel
theorem A_16 : chkA 16 = true := by decide +kernel
theorem B_16 : chkB 16 = true := by decide +kernel
theorem X_16 : chkX 16 = true := by decide +kernel
theorem A_22 : chkA 22 = true := by decide +kernel
theorem B_22 : chkB 22 = true := by decide +kernel
theorem X_22 : chkX 22 = true := by decide +kernel
theorem A_28 : chkA 28 = true := by decide +kernel
theorem B_28 : chkB 28 = true := by decide +kernel
theorem X_28 : chkX 28 = true := by decide +kernel
theorem A_34 : chkA 34 = true := by decide +kernel
theorem B_34 : chkB 34 = true := by decide +kernel
theorem X_34 : chkX 34 = true := by decide +kernel
end Go.Ev.Flush
