/-
  DERIVED. GIVEN WITH THE SEED: THE CARDS: each row of YtgilcomfkfkefaaGreatDoorRows.lean that lists a variable, with what it lists TIED to the program's text (the seventh form; the later family's looks); each row that meets fmt, with fmt's text TOLD by the authors' own Lean function (tested against real Go, not proved from fmt's source: count such statements apart). THE CARD IS WHAT COUNTS. Prove the row's statement (the work); the ties are given (YtgilcomfkfkefaaGreatDoorTie.lean); close each card by the builder's one call (the guide's Derived/Test/ToyasCard.lean, 'card_holds'). Laid BY PROGRAM, IN A SANDBOX (cutbox-door.mjs). By AI agents, Wed Nov 11 2026. No macro, syntax, notation, axiom, sorry.
-/
import Derived.Test.YtgilcomfkfkefaaGreatDoorRows
import GoSem.ClaimSeven
namespace Go.Proofs.YtgilcomfkfkefaaGreatDoor
namespace Rows

/-- THE TIED CARD OF 'copyholdlaw26.PastReal'. -/
def pastRealCard : Claim7 := { stood := { row := pastRealRow, standIns := [], harness := (true, "dd02136aa56d72b4ed9e372863dfb1f1c7391d8394638ee7427da759d85aae58"), looks := true }, kinds := [], alts := [], laidByText := true, laidKinds := [.handle], laidTests := true, laidLooks := .later }
def PastRealCardSaid : Prop := Claim7.holds Tryz.pinned (.plain (OpenSpec.ofChange pastRealSpec)) pastRealCard

/-- THE TIED CARD OF 'copyholdlaw26.PastValues'. -/
def pastValuesCard : Claim7 := { stood := { row := pastValuesRow, standIns := [], harness := (true, "dd02136aa56d72b4ed9e372863dfb1f1c7391d8394638ee7427da759d85aae58"), looks := true }, kinds := [], alts := [], laidByText := true, laidKinds := [.handle], laidTests := true, laidLooks := .later }
def PastValuesCardSaid : Prop := Claim7.holds Tryz.pinned (.plain (OpenSpec.ofChange pastValuesSpec)) pastValuesCard

/-- THE SECOND FORM's CARD OF 'copyholdlaw26.PastReal'. -/
def pastRealUptoCard : Claim7 := { stood := { row := pastRealUptoRow, standIns := [], harness := (true, "dd02136aa56d72b4ed9e372863dfb1f1c7391d8394638ee7427da759d85aae58"), looks := true }, kinds := [], alts := [], laidByText := true, laidKinds := [.handle], laidTests := true, laidLooks := .later }
def PastRealUptoCardSaid : Prop := Claim7.holds Tryz.pinned (.plain (OpenSpec.upto pastRealSpec)) pastRealUptoCard

/-- THE SECOND FORM's CARD OF 'copyholdlaw26.PastValues'. -/
def pastValuesUptoCard : Claim7 := { stood := { row := pastValuesUptoRow, standIns := [], harness := (true, "dd02136aa56d72b4ed9e372863dfb1f1c7391d8394638ee7427da759d85aae58"), looks := true }, kinds := [], alts := [], laidByText := true, laidKinds := [.handle], laidTests := true, laidLooks := .later }
def PastValuesUptoCardSaid : Prop := Claim7.holds Tryz.pinned (.plain (OpenSpec.upto pastValuesSpec)) pastValuesUptoCard
end Rows
end Go.Proofs.YtgilcomfkfkefaaGreatDoor
