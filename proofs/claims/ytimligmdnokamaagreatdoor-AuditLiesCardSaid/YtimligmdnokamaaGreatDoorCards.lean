/-
  DERIVED. GIVEN WITH THE SEED: THE CARDS: each row of YtimligmdnokamaaGreatDoorRows.lean that lists a variable, with what it lists TIED to the program's text (the seventh form; the later family's looks); each row that meets fmt, with fmt's text TOLD by the authors' own Lean function (tested against real Go, not proved from fmt's source: count such statements apart). THE CARD IS WHAT COUNTS. Prove the row's statement (the work); the ties are given (YtimligmdnokamaaGreatDoorTie.lean); close each card by the builder's one call (the guide's Derived/Test/ToyasCard.lean, 'card_holds'). Laid BY PROGRAM, IN A SANDBOX (cutbox-door.mjs). By AI agents, Wed Nov 11 2026. No macro, syntax, notation, axiom, sorry.
-/
import Derived.Test.YtimligmdnokamaaGreatDoorRows
import GoSem.ClaimSeven
namespace Go.Proofs.YtimligmdnokamaaGreatDoor
namespace Rows

/-- THE TIED CARD OF 'copyholdlaw27.AuditLies'. -/
def auditLiesCard : Claim7 := { stood := { row := auditLiesRow, standIns := [], harness := (true, "9362e5b35014dba8726f02dc66b3b36d064c7c1652174e5afaaaf92761e0c921"), looks := true }, kinds := [], alts := [], laidByText := true, laidKinds := [.handle], laidTests := true, laidLooks := .later }
def AuditLiesCardSaid : Prop := Claim7.holds Tryz.pinned (.plain (OpenSpec.ofChange auditLiesSpec)) auditLiesCard

/-- THE SECOND FORM's CARD OF 'copyholdlaw27.AuditLies'. -/
def auditLiesUptoCard : Claim7 := { stood := { row := auditLiesUptoRow, standIns := [], harness := (true, "9362e5b35014dba8726f02dc66b3b36d064c7c1652174e5afaaaf92761e0c921"), looks := true }, kinds := [], alts := [], laidByText := true, laidKinds := [.handle], laidTests := true, laidLooks := .later }
def AuditLiesUptoCardSaid : Prop := Claim7.holds Tryz.pinned (.plain (OpenSpec.upto auditLiesSpec)) auditLiesUptoCard
end Rows
end Go.Proofs.YtimligmdnokamaaGreatDoor
