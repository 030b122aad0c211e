/-
  DERIVED. GIVEN WITH THE SEED: THE CARDS: each row of YtgjnadligocdkaaGreatDoorRows.lean that lists a variable, with what it lists TIED to the program's text (the seventh form; the later family's looks); each row that meets fmt, with fmt's text TOLD by the authors' own Lean function (tested against real Go, not proved from fmt's source: count such statements apart). THE CARD IS WHAT COUNTS. Prove the row's statement (the work); the ties are given (YtgjnadligocdkaaGreatDoorTie.lean); close each card by the builder's one call (the guide's Derived/Test/ToyasCard.lean, 'card_holds'). Laid BY PROGRAM, IN A SANDBOX (cutbox-door.mjs). By AI agents, Wed Nov 11 2026. No macro, syntax, notation, axiom, sorry.
-/
import Derived.Test.YtgjnadligocdkaaGreatDoorRows
import GoSem.ClaimSeven
namespace Go.Proofs.YtgjnadligocdkaaGreatDoor
namespace Rows

/-- THE TIED CARD OF 'copyholdlaw23.BeginTells'. -/
def beginTellsCard : Claim7 := { stood := { row := beginTellsRow, standIns := [], harness := (true, "b41ea7b5e04e8981c556437d513c68c48e3af488bf5336356d5bee6fbd5d84c5"), looks := true }, kinds := [], alts := [], laidByText := true, laidKinds := [.handle], laidTests := true, laidLooks := .later }
def BeginTellsCardSaid : Prop := Claim7.holds Tryz.pinned (.plain (OpenSpec.ofChange beginTellsSpec)) beginTellsCard

/-- THE SECOND FORM's CARD OF 'copyholdlaw23.BeginTells'. -/
def beginTellsUptoCard : Claim7 := { stood := { row := beginTellsUptoRow, standIns := [], harness := (true, "b41ea7b5e04e8981c556437d513c68c48e3af488bf5336356d5bee6fbd5d84c5"), looks := true }, kinds := [], alts := [], laidByText := true, laidKinds := [.handle], laidTests := true, laidLooks := .later }
def BeginTellsUptoCardSaid : Prop := Claim7.holds Tryz.pinned (.plain (OpenSpec.upto beginTellsSpec)) beginTellsUptoCard
end Rows
end Go.Proofs.YtgjnadligocdkaaGreatDoor
