/-
  DERIVED. GIVEN WITH THE SEED: THE CARDS: each row of YtjadkekaellahaaGreatDoorRows.lean that lists a variable, with what it lists TIED to the program's text (the seventh form; the later family's looks); each row that meets fmt, with fmt's text TOLD by the authors' own Lean function (tested against real Go, not proved from fmt's source: count such statements apart). THE CARD IS WHAT COUNTS. Prove the row's statement (the work); the ties are given (YtjadkekaellahaaGreatDoorTie.lean); close each card by the builder's one call (the guide's Derived/Test/ToyasCard.lean, 'card_holds'). Laid BY PROGRAM, IN A SANDBOX (cutbox-door.mjs). By AI agents, Wed Nov 11 2026. No macro, syntax, notation, axiom, sorry.
-/
import Derived.Test.YtjadkekaellahaaGreatDoorRows
import GoSem.ClaimSeven
namespace Go.Proofs.YtjadkekaellahaaGreatDoor
namespace Rows

/-- THE TIED CARD OF 'copyholdlaw26.PastReal'. -/
def pastRealCard : Claim7 := { stood := { row := pastRealRow, standIns := [], harness := (true, "89e3ace46a38aa5b27c2a9bf5e303de201c3e51aacf3cc61275a480f429fc711"), looks := true }, kinds := [], alts := [], laidByText := true, laidKinds := [.handle], laidTests := true, laidLooks := .later }
def PastRealCardSaid : Prop := Claim7.holds Tryz.pinned (.plain (OpenSpec.ofChange pastRealSpec)) pastRealCard

/-- THE TIED CARD OF 'copyholdlaw26.PastValues'. -/
def pastValuesCard : Claim7 := { stood := { row := pastValuesRow, standIns := [], harness := (true, "89e3ace46a38aa5b27c2a9bf5e303de201c3e51aacf3cc61275a480f429fc711"), looks := true }, kinds := [], alts := [], laidByText := true, laidKinds := [.handle], laidTests := true, laidLooks := .later }
def PastValuesCardSaid : Prop := Claim7.holds Tryz.pinned (.plain (OpenSpec.ofChange pastValuesSpec)) pastValuesCard

/-- THE TIED CARD OF 'copyholdlaw25.MachineMany'. -/
def machineManyCard : Claim7 := { stood := { row := machineManyRow, standIns := [], harness := (true, "89e3ace46a38aa5b27c2a9bf5e303de201c3e51aacf3cc61275a480f429fc711"), looks := true }, kinds := [], alts := [], laidByText := true, laidKinds := [.handle], laidTests := true, laidLooks := .later }
def MachineManyCardSaid : Prop := Claim7.holds Tryz.pinned (.plain (OpenSpec.ofChange machineManySpec)) machineManyCard

/-- THE TIED CARD OF 'copyholdlaw27.AuditLies'. -/
def auditLiesCard : Claim7 := { stood := { row := auditLiesRow, standIns := [], harness := (true, "89e3ace46a38aa5b27c2a9bf5e303de201c3e51aacf3cc61275a480f429fc711"), looks := true }, kinds := [], alts := [], laidByText := true, laidKinds := [.handle], laidTests := true, laidLooks := .later }
def AuditLiesCardSaid : Prop := Claim7.holds Tryz.pinned (.plain (OpenSpec.ofChange auditLiesSpec)) auditLiesCard

/-- THE TIED CARD OF 'copyholdlaw28.ScriptReaders'. -/
def scriptReadersCard : Claim7 := { stood := { row := scriptReadersRow, standIns := [], harness := (true, "89e3ace46a38aa5b27c2a9bf5e303de201c3e51aacf3cc61275a480f429fc711"), looks := true }, kinds := [], alts := [], laidByText := true, laidKinds := [.pinned, .data, .sentinel, .sentinel, .data, .data, .data, .handle], laidTests := true, laidLooks := .later }
def ScriptReadersCardSaid : Prop := Claim7.holds Tryz.pinned (.plain (OpenSpec.ofChange scriptReadersSpec)) scriptReadersCard

/-- THE TIED CARD OF 'copyholdlaw28.ScriptDeath'. -/
def scriptDeathCard : Claim7 := { stood := { row := scriptDeathRow, standIns := [], harness := (true, "89e3ace46a38aa5b27c2a9bf5e303de201c3e51aacf3cc61275a480f429fc711"), looks := true }, kinds := [], alts := [], laidByText := true, laidKinds := [.pinned, .data, .sentinel, .sentinel, .data, .data, .data, .handle], laidTests := true, laidLooks := .later }
def ScriptDeathCardSaid : Prop := Claim7.holds Tryz.pinned (.plain (OpenSpec.ofChange scriptDeathSpec)) scriptDeathCard

/-- THE TIED CARD OF 'copyholdlaw28.ScriptWaits'. -/
def scriptWaitsCard : Claim7 := { stood := { row := scriptWaitsRow, standIns := [], harness := (true, "89e3ace46a38aa5b27c2a9bf5e303de201c3e51aacf3cc61275a480f429fc711"), looks := true }, kinds := [], alts := [], laidByText := true, laidKinds := [.pinned, .data, .sentinel, .sentinel, .data, .data, .data, .handle], laidTests := true, laidLooks := .later }
def ScriptWaitsCardSaid : Prop := Claim7.holds Tryz.pinned (.plain (OpenSpec.ofChange scriptWaitsSpec)) scriptWaitsCard

/-- THE TIED CARD OF 'copyholdlaw28.ScriptPower'. -/
def scriptPowerCard : Claim7 := { stood := { row := scriptPowerRow, standIns := [], harness := (true, "89e3ace46a38aa5b27c2a9bf5e303de201c3e51aacf3cc61275a480f429fc711"), looks := true }, kinds := [], alts := [], laidByText := true, laidKinds := [.pinned, .data, .sentinel, .sentinel, .data, .data, .data, .handle], laidTests := true, laidLooks := .later }
def ScriptPowerCardSaid : Prop := Claim7.holds Tryz.pinned (.plain (OpenSpec.ofChange scriptPowerSpec)) scriptPowerCard

/-- THE TIED CARD OF 'copyholdlaw28.ScriptWalk'. -/
def scriptWalkCard : Claim7 := { stood := { row := scriptWalkRow, standIns := [], harness := (true, "89e3ace46a38aa5b27c2a9bf5e303de201c3e51aacf3cc61275a480f429fc711"), looks := true }, kinds := [], alts := [], laidByText := true, laidKinds := [.pinned, .data, .sentinel, .sentinel, .data, .data, .data, .handle], laidTests := true, laidLooks := .later }
def ScriptWalkCardSaid : Prop := Claim7.holds Tryz.pinned (.plain (OpenSpec.ofChange scriptWalkSpec)) scriptWalkCard

/-- THE TIED CARD OF 'copyholdlaw28.ScriptSlots'. -/
def scriptSlotsCard : Claim7 := { stood := { row := scriptSlotsRow, standIns := [], harness := (true, "89e3ace46a38aa5b27c2a9bf5e303de201c3e51aacf3cc61275a480f429fc711"), looks := true }, kinds := [], alts := [], laidByText := true, laidKinds := [.pinned, .data, .sentinel, .sentinel, .data, .data, .data, .handle], laidTests := true, laidLooks := .later }
def ScriptSlotsCardSaid : Prop := Claim7.holds Tryz.pinned (.plain (OpenSpec.ofChange scriptSlotsSpec)) scriptSlotsCard

/-- THE TIED CARD OF 'copyholdlaw28.ScriptLong'. -/
def scriptLongCard : Claim7 := { stood := { row := scriptLongRow, standIns := [], harness := (true, "89e3ace46a38aa5b27c2a9bf5e303de201c3e51aacf3cc61275a480f429fc711"), looks := true }, kinds := [], alts := [], laidByText := true, laidKinds := [.pinned, .data, .sentinel, .sentinel, .data, .data, .data, .handle], laidTests := true, laidLooks := .later }
def ScriptLongCardSaid : Prop := Claim7.holds Tryz.pinned (.plain (OpenSpec.ofChange scriptLongSpec)) scriptLongCard

/-- THE TIED CARD OF 'copyholdlaw28.ScriptStates'. -/
def scriptStatesCard : Claim7 := { stood := { row := scriptStatesRow, standIns := [], harness := (true, "89e3ace46a38aa5b27c2a9bf5e303de201c3e51aacf3cc61275a480f429fc711"), looks := true }, kinds := [], alts := [], laidByText := true, laidKinds := [.pinned, .data, .sentinel, .sentinel, .data, .data, .data, .handle], laidTests := true, laidLooks := .later }
def ScriptStatesCardSaid : Prop := Claim7.holds Tryz.pinned (.plain (OpenSpec.ofChange scriptStatesSpec)) scriptStatesCard

/-- THE SECOND FORM's CARD OF 'copyholdlaw26.PastReal'. -/
def pastRealUptoCard : Claim7 := { stood := { row := pastRealUptoRow, standIns := [], harness := (true, "89e3ace46a38aa5b27c2a9bf5e303de201c3e51aacf3cc61275a480f429fc711"), looks := true }, kinds := [], alts := [], laidByText := true, laidKinds := [.handle], laidTests := true, laidLooks := .later }
def PastRealUptoCardSaid : Prop := Claim7.holds Tryz.pinned (.plain (OpenSpec.upto pastRealSpec)) pastRealUptoCard

/-- THE SECOND FORM's CARD OF 'copyholdlaw26.PastValues'. -/
def pastValuesUptoCard : Claim7 := { stood := { row := pastValuesUptoRow, standIns := [], harness := (true, "89e3ace46a38aa5b27c2a9bf5e303de201c3e51aacf3cc61275a480f429fc711"), looks := true }, kinds := [], alts := [], laidByText := true, laidKinds := [.handle], laidTests := true, laidLooks := .later }
def PastValuesUptoCardSaid : Prop := Claim7.holds Tryz.pinned (.plain (OpenSpec.upto pastValuesSpec)) pastValuesUptoCard

/-- THE SECOND FORM's CARD OF 'copyholdlaw25.MachineMany'. -/
def machineManyUptoCard : Claim7 := { stood := { row := machineManyUptoRow, standIns := [], harness := (true, "89e3ace46a38aa5b27c2a9bf5e303de201c3e51aacf3cc61275a480f429fc711"), looks := true }, kinds := [], alts := [], laidByText := true, laidKinds := [.handle], laidTests := true, laidLooks := .later }
def MachineManyUptoCardSaid : Prop := Claim7.holds Tryz.pinned (.plain (OpenSpec.upto machineManySpec)) machineManyUptoCard

/-- THE SECOND FORM's CARD OF 'copyholdlaw27.AuditLies'. -/
def auditLiesUptoCard : Claim7 := { stood := { row := auditLiesUptoRow, standIns := [], harness := (true, "89e3ace46a38aa5b27c2a9bf5e303de201c3e51aacf3cc61275a480f429fc711"), looks := true }, kinds := [], alts := [], laidByText := true, laidKinds := [.handle], laidTests := true, laidLooks := .later }
def AuditLiesUptoCardSaid : Prop := Claim7.holds Tryz.pinned (.plain (OpenSpec.upto auditLiesSpec)) auditLiesUptoCard

/-- THE SECOND FORM's CARD OF 'copyholdlaw28.ScriptReaders'. -/
def scriptReadersUptoCard : Claim7 := { stood := { row := scriptReadersUptoRow, standIns := [], harness := (true, "89e3ace46a38aa5b27c2a9bf5e303de201c3e51aacf3cc61275a480f429fc711"), looks := true }, kinds := [], alts := [], laidByText := true, laidKinds := [.pinned, .data, .sentinel, .sentinel, .data, .data, .data, .handle], laidTests := true, laidLooks := .later }
def ScriptReadersUptoCardSaid : Prop := Claim7.holds Tryz.pinned (.plain (OpenSpec.upto scriptReadersSpec)) scriptReadersUptoCard

/-- THE SECOND FORM's CARD OF 'copyholdlaw28.ScriptDeath'. -/
def scriptDeathUptoCard : Claim7 := { stood := { row := scriptDeathUptoRow, standIns := [], harness := (true, "89e3ace46a38aa5b27c2a9bf5e303de201c3e51aacf3cc61275a480f429fc711"), looks := true }, kinds := [], alts := [], laidByText := true, laidKinds := [.pinned, .data, .sentinel, .sentinel, .data, .data, .data, .handle], laidTests := true, laidLooks := .later }
def ScriptDeathUptoCardSaid : Prop := Claim7.holds Tryz.pinned (.plain (OpenSpec.upto scriptDeathSpec)) scriptDeathUptoCard

/-- THE SECOND FORM's CARD OF 'copyholdlaw28.ScriptWaits'. -/
def scriptWaitsUptoCard : Claim7 := { stood := { row := scriptWaitsUptoRow, standIns := [], harness := (true, "89e3ace46a38aa5b27c2a9bf5e303de201c3e51aacf3cc61275a480f429fc711"), looks := true }, kinds := [], alts := [], laidByText := true, laidKinds := [.pinned, .data, .sentinel, .sentinel, .data, .data, .data, .handle], laidTests := true, laidLooks := .later }
def ScriptWaitsUptoCardSaid : Prop := Claim7.holds Tryz.pinned (.plain (OpenSpec.upto scriptWaitsSpec)) scriptWaitsUptoCard

/-- THE SECOND FORM's CARD OF 'copyholdlaw28.ScriptPower'. -/
def scriptPowerUptoCard : Claim7 := { stood := { row := scriptPowerUptoRow, standIns := [], harness := (true, "89e3ace46a38aa5b27c2a9bf5e303de201c3e51aacf3cc61275a480f429fc711"), looks := true }, kinds := [], alts := [], laidByText := true, laidKinds := [.pinned, .data, .sentinel, .sentinel, .data, .data, .data, .handle], laidTests := true, laidLooks := .later }
def ScriptPowerUptoCardSaid : Prop := Claim7.holds Tryz.pinned (.plain (OpenSpec.upto scriptPowerSpec)) scriptPowerUptoCard

/-- THE SECOND FORM's CARD OF 'copyholdlaw28.ScriptWalk'. -/
def scriptWalkUptoCard : Claim7 := { stood := { row := scriptWalkUptoRow, standIns := [], harness := (true, "89e3ace46a38aa5b27c2a9bf5e303de201c3e51aacf3cc61275a480f429fc711"), looks := true }, kinds := [], alts := [], laidByText := true, laidKinds := [.pinned, .data, .sentinel, .sentinel, .data, .data, .data, .handle], laidTests := true, laidLooks := .later }
def ScriptWalkUptoCardSaid : Prop := Claim7.holds Tryz.pinned (.plain (OpenSpec.upto scriptWalkSpec)) scriptWalkUptoCard

/-- THE SECOND FORM's CARD OF 'copyholdlaw28.ScriptSlots'. -/
def scriptSlotsUptoCard : Claim7 := { stood := { row := scriptSlotsUptoRow, standIns := [], harness := (true, "89e3ace46a38aa5b27c2a9bf5e303de201c3e51aacf3cc61275a480f429fc711"), looks := true }, kinds := [], alts := [], laidByText := true, laidKinds := [.pinned, .data, .sentinel, .sentinel, .data, .data, .data, .handle], laidTests := true, laidLooks := .later }
def ScriptSlotsUptoCardSaid : Prop := Claim7.holds Tryz.pinned (.plain (OpenSpec.upto scriptSlotsSpec)) scriptSlotsUptoCard

/-- THE SECOND FORM's CARD OF 'copyholdlaw28.ScriptLong'. -/
def scriptLongUptoCard : Claim7 := { stood := { row := scriptLongUptoRow, standIns := [], harness := (true, "89e3ace46a38aa5b27c2a9bf5e303de201c3e51aacf3cc61275a480f429fc711"), looks := true }, kinds := [], alts := [], laidByText := true, laidKinds := [.pinned, .data, .sentinel, .sentinel, .data, .data, .data, .handle], laidTests := true, laidLooks := .later }
def ScriptLongUptoCardSaid : Prop := Claim7.holds Tryz.pinned (.plain (OpenSpec.upto scriptLongSpec)) scriptLongUptoCard

/-- THE SECOND FORM's CARD OF 'copyholdlaw28.ScriptStates'. -/
def scriptStatesUptoCard : Claim7 := { stood := { row := scriptStatesUptoRow, standIns := [], harness := (true, "89e3ace46a38aa5b27c2a9bf5e303de201c3e51aacf3cc61275a480f429fc711"), looks := true }, kinds := [], alts := [], laidByText := true, laidKinds := [.pinned, .data, .sentinel, .sentinel, .data, .data, .data, .handle], laidTests := true, laidLooks := .later }
def ScriptStatesUptoCardSaid : Prop := Claim7.holds Tryz.pinned (.plain (OpenSpec.upto scriptStatesSpec)) scriptStatesUptoCard
end Rows
end Go.Proofs.YtjadkekaellahaaGreatDoor
