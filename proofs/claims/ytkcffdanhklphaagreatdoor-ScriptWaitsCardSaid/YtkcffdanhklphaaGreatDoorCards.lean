/-
  DERIVED. GIVEN WITH THE SEED: THE CARDS: each row of YtkcffdanhklphaaGreatDoorRows.lean that lists a variable, with what it lists TIED to the program's text (the seventh form; the later family's looks); each row that meets fmt, with fmt's text TOLD by the authors' own Lean function (tested against real Go, not proved from fmt's source: count such statements apart). THE CARD IS WHAT COUNTS. Prove the row's statement (the work); the ties are given (YtkcffdanhklphaaGreatDoorTie.lean); close each card by the builder's one call (the guide's Derived/Test/ToyasCard.lean, 'card_holds'). Laid BY PROGRAM, IN A SANDBOX (cutbox-door.mjs). By AI agents, Wed Nov 11 2026. No macro, syntax, notation, axiom, sorry.
-/
import Derived.Test.YtkcffdanhklphaaGreatDoorRows
import GoSem.ClaimSeven
namespace Go.Proofs.YtkcffdanhklphaaGreatDoor
namespace Rows

/-- THE TIED CARD OF 'copyholdlaw28.ScriptReaders'. -/
def scriptReadersCard : Claim7 := { stood := { row := scriptReadersRow, standIns := [], harness := (true, "f959e9c62bb4732890d43b2abb2ef1f37abf397415d51f7dfa011202b37fe4f5"), looks := true }, kinds := [], alts := [], laidByText := true, laidKinds := [.pinned, .data, .sentinel, .sentinel, .data, .data, .data, .handle], laidTests := true, laidLooks := .later }
def ScriptReadersCardSaid : Prop := Claim7.holds Tryz.pinned (.plain (OpenSpec.ofChange scriptReadersSpec)) scriptReadersCard

/-- THE TIED CARD OF 'copyholdlaw28.ScriptDeath'. -/
def scriptDeathCard : Claim7 := { stood := { row := scriptDeathRow, standIns := [], harness := (true, "f959e9c62bb4732890d43b2abb2ef1f37abf397415d51f7dfa011202b37fe4f5"), looks := true }, kinds := [], alts := [], laidByText := true, laidKinds := [.pinned, .data, .sentinel, .sentinel, .data, .data, .data, .handle], laidTests := true, laidLooks := .later }
def ScriptDeathCardSaid : Prop := Claim7.holds Tryz.pinned (.plain (OpenSpec.ofChange scriptDeathSpec)) scriptDeathCard

/-- THE TIED CARD OF 'copyholdlaw28.ScriptWaits'. -/
def scriptWaitsCard : Claim7 := { stood := { row := scriptWaitsRow, standIns := [], harness := (true, "f959e9c62bb4732890d43b2abb2ef1f37abf397415d51f7dfa011202b37fe4f5"), looks := true }, kinds := [], alts := [], laidByText := true, laidKinds := [.pinned, .data, .sentinel, .sentinel, .data, .data, .data, .handle], laidTests := true, laidLooks := .later }
def ScriptWaitsCardSaid : Prop := Claim7.holds Tryz.pinned (.plain (OpenSpec.ofChange scriptWaitsSpec)) scriptWaitsCard

/-- THE TIED CARD OF 'copyholdlaw28.ScriptPower'. -/
def scriptPowerCard : Claim7 := { stood := { row := scriptPowerRow, standIns := [], harness := (true, "f959e9c62bb4732890d43b2abb2ef1f37abf397415d51f7dfa011202b37fe4f5"), looks := true }, kinds := [], alts := [], laidByText := true, laidKinds := [.pinned, .data, .sentinel, .sentinel, .data, .data, .data, .handle], laidTests := true, laidLooks := .later }
def ScriptPowerCardSaid : Prop := Claim7.holds Tryz.pinned (.plain (OpenSpec.ofChange scriptPowerSpec)) scriptPowerCard

/-- THE TIED CARD OF 'copyholdlaw28.ScriptNames'. -/
def scriptNamesCard : Claim7 := { stood := { row := scriptNamesRow, standIns := [], harness := (true, "f959e9c62bb4732890d43b2abb2ef1f37abf397415d51f7dfa011202b37fe4f5"), looks := true }, kinds := [], alts := [], laidByText := true, laidKinds := [.pinned, .data, .sentinel, .sentinel, .data, .data, .data, .handle], laidTests := true, laidLooks := .later }
def ScriptNamesCardSaid : Prop := Claim7.holds Tryz.pinned (.plain (OpenSpec.ofChange scriptNamesSpec)) scriptNamesCard

/-- THE TIED CARD OF 'copyholdlaw28.ScriptWalk'. -/
def scriptWalkCard : Claim7 := { stood := { row := scriptWalkRow, standIns := [], harness := (true, "f959e9c62bb4732890d43b2abb2ef1f37abf397415d51f7dfa011202b37fe4f5"), looks := true }, kinds := [], alts := [], laidByText := true, laidKinds := [.pinned, .data, .sentinel, .sentinel, .data, .data, .data, .handle], laidTests := true, laidLooks := .later }
def ScriptWalkCardSaid : Prop := Claim7.holds Tryz.pinned (.plain (OpenSpec.ofChange scriptWalkSpec)) scriptWalkCard

/-- THE TIED CARD OF 'copyholdlaw28.ScriptSlots'. -/
def scriptSlotsCard : Claim7 := { stood := { row := scriptSlotsRow, standIns := [], harness := (true, "f959e9c62bb4732890d43b2abb2ef1f37abf397415d51f7dfa011202b37fe4f5"), looks := true }, kinds := [], alts := [], laidByText := true, laidKinds := [.pinned, .data, .sentinel, .sentinel, .data, .data, .data, .handle], laidTests := true, laidLooks := .later }
def ScriptSlotsCardSaid : Prop := Claim7.holds Tryz.pinned (.plain (OpenSpec.ofChange scriptSlotsSpec)) scriptSlotsCard

/-- THE TIED CARD OF 'copyholdlaw28.ScriptLong'. -/
def scriptLongCard : Claim7 := { stood := { row := scriptLongRow, standIns := [], harness := (true, "f959e9c62bb4732890d43b2abb2ef1f37abf397415d51f7dfa011202b37fe4f5"), looks := true }, kinds := [], alts := [], laidByText := true, laidKinds := [.pinned, .data, .sentinel, .sentinel, .data, .data, .data, .handle], laidTests := true, laidLooks := .later }
def ScriptLongCardSaid : Prop := Claim7.holds Tryz.pinned (.plain (OpenSpec.ofChange scriptLongSpec)) scriptLongCard

/-- THE SECOND FORM's CARD OF 'copyholdlaw28.ScriptReaders'. -/
def scriptReadersUptoCard : Claim7 := { stood := { row := scriptReadersUptoRow, standIns := [], harness := (true, "f959e9c62bb4732890d43b2abb2ef1f37abf397415d51f7dfa011202b37fe4f5"), looks := true }, kinds := [], alts := [], laidByText := true, laidKinds := [.pinned, .data, .sentinel, .sentinel, .data, .data, .data, .handle], laidTests := true, laidLooks := .later }
def ScriptReadersUptoCardSaid : Prop := Claim7.holds Tryz.pinned (.plain (OpenSpec.upto scriptReadersSpec)) scriptReadersUptoCard

/-- THE SECOND FORM's CARD OF 'copyholdlaw28.ScriptDeath'. -/
def scriptDeathUptoCard : Claim7 := { stood := { row := scriptDeathUptoRow, standIns := [], harness := (true, "f959e9c62bb4732890d43b2abb2ef1f37abf397415d51f7dfa011202b37fe4f5"), looks := true }, kinds := [], alts := [], laidByText := true, laidKinds := [.pinned, .data, .sentinel, .sentinel, .data, .data, .data, .handle], laidTests := true, laidLooks := .later }
def ScriptDeathUptoCardSaid : Prop := Claim7.holds Tryz.pinned (.plain (OpenSpec.upto scriptDeathSpec)) scriptDeathUptoCard

/-- THE SECOND FORM's CARD OF 'copyholdlaw28.ScriptWaits'. -/
def scriptWaitsUptoCard : Claim7 := { stood := { row := scriptWaitsUptoRow, standIns := [], harness := (true, "f959e9c62bb4732890d43b2abb2ef1f37abf397415d51f7dfa011202b37fe4f5"), looks := true }, kinds := [], alts := [], laidByText := true, laidKinds := [.pinned, .data, .sentinel, .sentinel, .data, .data, .data, .handle], laidTests := true, laidLooks := .later }
def ScriptWaitsUptoCardSaid : Prop := Claim7.holds Tryz.pinned (.plain (OpenSpec.upto scriptWaitsSpec)) scriptWaitsUptoCard

/-- THE SECOND FORM's CARD OF 'copyholdlaw28.ScriptPower'. -/
def scriptPowerUptoCard : Claim7 := { stood := { row := scriptPowerUptoRow, standIns := [], harness := (true, "f959e9c62bb4732890d43b2abb2ef1f37abf397415d51f7dfa011202b37fe4f5"), looks := true }, kinds := [], alts := [], laidByText := true, laidKinds := [.pinned, .data, .sentinel, .sentinel, .data, .data, .data, .handle], laidTests := true, laidLooks := .later }
def ScriptPowerUptoCardSaid : Prop := Claim7.holds Tryz.pinned (.plain (OpenSpec.upto scriptPowerSpec)) scriptPowerUptoCard

/-- THE SECOND FORM's CARD OF 'copyholdlaw28.ScriptNames'. -/
def scriptNamesUptoCard : Claim7 := { stood := { row := scriptNamesUptoRow, standIns := [], harness := (true, "f959e9c62bb4732890d43b2abb2ef1f37abf397415d51f7dfa011202b37fe4f5"), looks := true }, kinds := [], alts := [], laidByText := true, laidKinds := [.pinned, .data, .sentinel, .sentinel, .data, .data, .data, .handle], laidTests := true, laidLooks := .later }
def ScriptNamesUptoCardSaid : Prop := Claim7.holds Tryz.pinned (.plain (OpenSpec.upto scriptNamesSpec)) scriptNamesUptoCard

/-- THE SECOND FORM's CARD OF 'copyholdlaw28.ScriptWalk'. -/
def scriptWalkUptoCard : Claim7 := { stood := { row := scriptWalkUptoRow, standIns := [], harness := (true, "f959e9c62bb4732890d43b2abb2ef1f37abf397415d51f7dfa011202b37fe4f5"), looks := true }, kinds := [], alts := [], laidByText := true, laidKinds := [.pinned, .data, .sentinel, .sentinel, .data, .data, .data, .handle], laidTests := true, laidLooks := .later }
def ScriptWalkUptoCardSaid : Prop := Claim7.holds Tryz.pinned (.plain (OpenSpec.upto scriptWalkSpec)) scriptWalkUptoCard

/-- THE SECOND FORM's CARD OF 'copyholdlaw28.ScriptSlots'. -/
def scriptSlotsUptoCard : Claim7 := { stood := { row := scriptSlotsUptoRow, standIns := [], harness := (true, "f959e9c62bb4732890d43b2abb2ef1f37abf397415d51f7dfa011202b37fe4f5"), looks := true }, kinds := [], alts := [], laidByText := true, laidKinds := [.pinned, .data, .sentinel, .sentinel, .data, .data, .data, .handle], laidTests := true, laidLooks := .later }
def ScriptSlotsUptoCardSaid : Prop := Claim7.holds Tryz.pinned (.plain (OpenSpec.upto scriptSlotsSpec)) scriptSlotsUptoCard

/-- THE SECOND FORM's CARD OF 'copyholdlaw28.ScriptLong'. -/
def scriptLongUptoCard : Claim7 := { stood := { row := scriptLongUptoRow, standIns := [], harness := (true, "f959e9c62bb4732890d43b2abb2ef1f37abf397415d51f7dfa011202b37fe4f5"), looks := true }, kinds := [], alts := [], laidByText := true, laidKinds := [.pinned, .data, .sentinel, .sentinel, .data, .data, .data, .handle], laidTests := true, laidLooks := .later }
def ScriptLongUptoCardSaid : Prop := Claim7.holds Tryz.pinned (.plain (OpenSpec.upto scriptLongSpec)) scriptLongUptoCard
end Rows
end Go.Proofs.YtkcffdanhklphaaGreatDoor
