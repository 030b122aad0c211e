/-
  FlushReuses: rounds of the loop, part 0.
-/
import Derived.Test.YtmgppcpmfmaghaaGreatDoorFlushReusesS
set_option maxRecDepth 100000
namespace Go.Ev.Flush
open Go.Proofs
theorem A_0 : chkA 0 = true := by decide +kernel
theorem B_0 : chkB 0 = true := by decide +kernel
theorem X_0 : chkX 0 = true := by decide +kernel
theorem A_6 : chkA 6 = true := by decide +kernel
theorem B_6 : chkB 6 = true := by decide +kernel
theorem X_6 : chkX 6 = true := by decide +kernel
theorem A_12 : chkA 12 = true := by decide +kernel
theorem B_12 : chkB 12 = true := by decide +kernel
theorem X_12 : chkX 12 = true := by decide +kernel
theorem A_18 : chkA 18 = true := by decide +kernel
theorem B_18 : chkB 18 = true := by decide +kernel
theorem X_18 : chkX 18 = true := by decide +kernel
theorem A_24 : chkA 24 = true := by decide +kernel
theorem B_24 : chkB 24 = true := by decide +kernel
theorem X_24 : chkX 24 = true := by decide +kernel
theorem A_30 : chkA 30 = true := by decide +kernel
theorem B_30 : chkB 30 = true := by decide +kernel
theorem X_30 : chkX 30 = true := by decide +kernel
theorem A_36 : chkA 36 = true := by decide +kernel
theorem B_36 : chkB 36 = true := by decide +kernel
theorem X_36 : chkX 36 = true := by decide +kernel
theorem pre_run : endsS 0 (⟨(0, nameC) :: (tab 0).1.filter (fun x => x.1 != 7), (tab 0).2.1, (tab 0).2.2⟩ : St) (runLS rn 5 pre (st0 nameC)) = true := by decide +kernel
theorem p7_run : endsS 0 (St.of 0 nameC) (runS rn 5 p7 ⟨(0, nameC) :: (tab 0).1.filter (fun x => x.1 != 7), (tab 0).2.1, (tab 0).2.2⟩) = true := by decide +kernel
theorem arg_run : chkF (begF (argF1 nameC)) [(0, nameC)] = true := by decide +kernel
end Go.Ev.Flush
