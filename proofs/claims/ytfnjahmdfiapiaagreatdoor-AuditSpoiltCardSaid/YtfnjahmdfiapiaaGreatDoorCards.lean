/-
  DERIVED. GIVEN WITH THE SEED: THE CARDS: each row of YtfnjahmdfiapiaaGreatDoorRows.lean that lists a variable, with what it lists TIED to the program's text (the seventh form; the later family's looks); each row that meets fmt, with fmt's text TOLD by the authors' own Lean function (tested against real Go, not proved from fmt's source: count such statements apart). THE CARD IS WHAT COUNTS. Prove the row's statement (the work); the ties are given (YtfnjahmdfiapiaaGreatDoorTie.lean); close each card by the builder's one call (the guide's Derived/Test/ToyasCard.lean, 'card_holds'). Laid BY PROGRAM, IN A SANDBOX (cutbox-door.mjs). By AI agents, Wed Nov 11 2026. No macro, syntax, notation, axiom, sorry.
-/
import Derived.Test.YtfnjahmdfiapiaaGreatDoorRows
import GoSem.ClaimSeven
namespace Go.Proofs.YtfnjahmdfiapiaaGreatDoor
namespace Rows

/-- THE TIED CARD OF 'copyholdlaw27.AuditSpoilt'. -/
def auditSpoiltCard : Claim7 := { stood := { row := auditSpoiltRow, standIns := [], harness := (true, "97792dcc3427a8ddf499adb917183d67b974cbae78075729e81287a6d679477f"), looks := true }, kinds := [], alts := [], laidByText := true, laidKinds := [.handle], laidTests := true, laidLooks := .later }
def AuditSpoiltCardSaid : Prop := Claim7.holds Tryz.pinned (.plain (OpenSpec.ofChange auditSpoiltSpec)) auditSpoiltCard

/-- THE SECOND FORM's CARD OF 'copyholdlaw27.AuditSpoilt'. -/
def auditSpoiltUptoCard : Claim7 := { stood := { row := auditSpoiltUptoRow, standIns := [], harness := (true, "97792dcc3427a8ddf499adb917183d67b974cbae78075729e81287a6d679477f"), looks := true }, kinds := [], alts := [], laidByText := true, laidKinds := [.handle], laidTests := true, laidLooks := .later }
def AuditSpoiltUptoCardSaid : Prop := Claim7.holds Tryz.pinned (.plain (OpenSpec.upto auditSpoiltSpec)) auditSpoiltUptoCard
end Rows
end Go.Proofs.YtfnjahmdfiapiaaGreatDoor
