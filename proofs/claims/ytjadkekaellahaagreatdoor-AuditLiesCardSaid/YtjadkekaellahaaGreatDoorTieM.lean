/-
  The rows' ties to the program's text, fact by fact: for the rows that list errors.errorType alone.
-/
import Derived.Test.YtjadkekaellahaaGreatDoorRows
import Derived.LaidByTextLater
import Derived.SevenTiedAt
namespace Go.Proofs.YtjadkekaellahaaGreatDoor
open Go
theorem noOwnUnsafe : Tryz.pinned.checked.prog.headLifts.contains "ownunsafe" = false := by kernel_rfl
set_option maxRecDepth 100000 in
set_option maxHeartbeats 40000000 in
theorem tie : Tryz.prog.laidByTextLater [("errors.errorType", Rows.laid_errors_errorType)] [.handle] true :=
  Program.laidByTextLater_by_run_h 400 8 (by as_aux_lemma => kernel_rfl) (by as_aux_lemma => kernel_rfl) (by as_aux_lemma => kernel_rfl) (by as_aux_lemma => kernel_rfl) (by as_aux_lemma => kernel_rfl) (by as_aux_lemma => kernel_rfl) (fun _ _ => by as_aux_lemma => kernel_rfl) (fun _ _ => by as_aux_lemma => kernel_rfl) (fun _ _ => by as_aux_lemma => kernel_rfl) (fun _ _ => by as_aux_lemma => kernel_rfl)
theorem pastValues_row_tie : Rows.pastValuesRow.laidByTextAt .later Tryz.pinned [.handle] true :=
  OpenClaim.laidByTextAt_later rfl rfl tie noOwnUnsafe
theorem auditLies_row_tie : Rows.auditLiesRow.laidByTextAt .later Tryz.pinned [.handle] true :=
  OpenClaim.laidByTextAt_later rfl rfl tie noOwnUnsafe
end Go.Proofs.YtjadkekaellahaaGreatDoor
