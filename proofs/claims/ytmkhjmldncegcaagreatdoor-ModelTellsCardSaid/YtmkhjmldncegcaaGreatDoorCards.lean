/-
  DERIVED. GIVEN WITH THE SEED: THE CARDS: each row of YtmkhjmldncegcaaGreatDoorRows.lean that lists a variable, with what it lists TIED to the program's text (the seventh form; the later family's looks); each row that meets fmt, with fmt's text TOLD by the authors' own Lean function (tested against real Go, not proved from fmt's source: count such statements apart). THE CARD IS WHAT COUNTS. Prove the row's statement (the work); the ties are given (YtmkhjmldncegcaaGreatDoorTie.lean); close each card by the builder's one call (the guide's Derived/Test/ToyasCard.lean, 'card_holds'). Laid BY PROGRAM, IN A SANDBOX (cutbox-door.mjs). By AI agents, Wed Nov 11 2026. No macro, syntax, notation, axiom, sorry.
-/
import Derived.Test.YtmkhjmldncegcaaGreatDoorRows
import GoSem.ClaimSeven
namespace Go.Proofs.YtmkhjmldncegcaaGreatDoor
namespace Rows

/-- THE TIED CARD OF 'copyholdlaw26.ModelTells'. -/
def modelTellsCard : Claim7 := { stood := { row := modelTellsRow, standIns := [], harness := (true, "b151471b0342d00081e149574d29fa3373edb97d26bce1c21920318f84ec8f49"), looks := true }, kinds := [], alts := [], laidByText := true, laidKinds := [.handle], laidTests := true, laidLooks := .later }
def ModelTellsCardSaid : Prop := Claim7.holds Tryz.pinned (.plain (OpenSpec.ofChange modelTellsSpec)) modelTellsCard

/-- THE TIED CARD OF 'copyholdlaw26.PastKilled'. -/
def pastKilledCard : Claim7 := { stood := { row := pastKilledRow, standIns := [], harness := (true, "b151471b0342d00081e149574d29fa3373edb97d26bce1c21920318f84ec8f49"), looks := true }, kinds := [], alts := [], laidByText := true, laidKinds := [.handle], laidTests := true, laidLooks := .later }
def PastKilledCardSaid : Prop := Claim7.holds Tryz.pinned (.plain (OpenSpec.ofChange pastKilledSpec)) pastKilledCard

/-- THE TIED CARD OF 'copyholdlaw26.ModelSets'. -/
def modelSetsCard : Claim7 := { stood := { row := modelSetsRow, standIns := [], harness := (true, "b151471b0342d00081e149574d29fa3373edb97d26bce1c21920318f84ec8f49"), looks := true }, kinds := [], alts := [], laidByText := true, laidKinds := [.handle], laidTests := true, laidLooks := .later }
def ModelSetsCardSaid : Prop := Claim7.holds Tryz.pinned (.plain (OpenSpec.ofChange modelSetsSpec)) modelSetsCard

/-- THE SECOND FORM's CARD OF 'copyholdlaw26.ModelTells'. -/
def modelTellsUptoCard : Claim7 := { stood := { row := modelTellsUptoRow, standIns := [], harness := (true, "b151471b0342d00081e149574d29fa3373edb97d26bce1c21920318f84ec8f49"), looks := true }, kinds := [], alts := [], laidByText := true, laidKinds := [.handle], laidTests := true, laidLooks := .later }
def ModelTellsUptoCardSaid : Prop := Claim7.holds Tryz.pinned (.plain (OpenSpec.upto modelTellsSpec)) modelTellsUptoCard

/-- THE SECOND FORM's CARD OF 'copyholdlaw26.PastKilled'. -/
def pastKilledUptoCard : Claim7 := { stood := { row := pastKilledUptoRow, standIns := [], harness := (true, "b151471b0342d00081e149574d29fa3373edb97d26bce1c21920318f84ec8f49"), looks := true }, kinds := [], alts := [], laidByText := true, laidKinds := [.handle], laidTests := true, laidLooks := .later }
def PastKilledUptoCardSaid : Prop := Claim7.holds Tryz.pinned (.plain (OpenSpec.upto pastKilledSpec)) pastKilledUptoCard

/-- THE SECOND FORM's CARD OF 'copyholdlaw26.ModelSets'. -/
def modelSetsUptoCard : Claim7 := { stood := { row := modelSetsUptoRow, standIns := [], harness := (true, "b151471b0342d00081e149574d29fa3373edb97d26bce1c21920318f84ec8f49"), looks := true }, kinds := [], alts := [], laidByText := true, laidKinds := [.handle], laidTests := true, laidLooks := .later }
def ModelSetsUptoCardSaid : Prop := Claim7.holds Tryz.pinned (.plain (OpenSpec.upto modelSetsSpec)) modelSetsUptoCard
end Rows
end Go.Proofs.YtmkhjmldncegcaaGreatDoor
