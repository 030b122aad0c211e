/-
  FlushReuses: rounds of the loop, part 2.
-/
import Derived.Test.YtmgppcpmfmaghaaGreatDoorFlushReusesS
set_option maxRecDepth 100000
namespace Go.Ev.Flush
open Go.Proofs
theorem A_2 : chkA 2 = true := by decide +kernel
theorem B_2 : chkB 2 = true := by decide +kernel
theorem X_2 : chkX 2 = true := by decide +kernel
theorem A_8 : chkA 8 = true := by decide +kernel
theorem B_8 : chkB 8 = true := by decide +kernel
theorem X_8 : chkX 8 = true := by decide +kernel
theorem A_14 : chkA 14 = true := by decide +kernel
theorem B_14 : chkB 14 = true := by decide +kernel
theorem X_14 : chkX 14 = true := by decide +kernel
theorem A_20 : chkA 20 = true := by decide +kernel
theorem B_20 : chkB 20 = true := by decide +kernel
theorem X_20 : chkX 20 = true := by decide +kernel
theorem A_26 : chkA 26 = true := by decide +kernel
theorem B_26 : chkB 26 = true := by decide +kernel
theorem X_26 : chkX 26 = true := by decide +kernel
theorem A_32 : chkA 32 = true := by decide +kernel
theorem B_32 : chkB 32 = true := by decide +kernel
theorem X_32 : chkX 32 = true := by decide +kernel
theorem A_38 : chkA 38 = true := by decide +kernel
theorem B_38 : chkB 38 = true := by decide +kernel
theorem X_38 : chkX 38 = true := by decide +kernel
end Go.Ev.Flush
