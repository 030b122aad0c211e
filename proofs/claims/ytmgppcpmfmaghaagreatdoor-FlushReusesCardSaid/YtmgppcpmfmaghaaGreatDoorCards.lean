/-
  DERIVED. GIVEN WITH THE SEED: THE CARDS: each row of YtmgppcpmfmaghaaGreatDoorRows.lean that lists a variable, with what it lists TIED to the program's text (the seventh form; the later family's looks); each row that meets fmt, with fmt's text TOLD by the authors' own Lean function (tested against real Go, not proved from fmt's source: count such statements apart). THE CARD IS WHAT COUNTS. Prove the row's statement (the work); the ties are given (YtmgppcpmfmaghaaGreatDoorTie.lean); close each card by the builder's one call (the guide's Derived/Test/ToyasCard.lean, 'card_holds'). Laid BY PROGRAM, IN A SANDBOX (cutbox-door.mjs). By AI agents, Wed Nov 11 2026. No macro, syntax, notation, axiom, sorry.
-/
import Derived.Test.YtmgppcpmfmaghaaGreatDoorRows
import GoSem.ClaimSeven
namespace Go.Proofs.YtmgppcpmfmaghaaGreatDoor
namespace Rows

/-- THE TIED CARD OF 'copyholdlaw19.TxnCursor'. -/
def txnCursorCard : Claim7 := { stood := { row := txnCursorRow, standIns := [], harness := (true, "1e6ce98f84b5395230a13ba54d306d10c5f587fd047defce14bfd4dcfd346dbe"), looks := true }, kinds := [], alts := [], laidByText := true, laidKinds := [.handle], laidTests := true, laidLooks := .later }
def TxnCursorCardSaid : Prop := Claim7.holds Tryz.pinned (.plain (OpenSpec.ofChange txnCursorSpec)) txnCursorCard

/-- THE TIED CARD OF 'copyholdlaw20.NestDepths'. -/
def nestDepthsCard : Claim7 := { stood := { row := nestDepthsRow, standIns := [], harness := (true, "1e6ce98f84b5395230a13ba54d306d10c5f587fd047defce14bfd4dcfd346dbe"), looks := true }, kinds := [], alts := [], laidByText := true, laidKinds := [.handle], laidTests := true, laidLooks := .later }
def NestDepthsCardSaid : Prop := Claim7.holds Tryz.pinned (.plain (OpenSpec.ofChange nestDepthsSpec)) nestDepthsCard

/-- THE TIED CARD OF 'copyholdlaw21.FlushReuses'. -/
def flushReusesCard : Claim7 := { stood := { row := flushReusesRow, standIns := [], harness := (true, "1e6ce98f84b5395230a13ba54d306d10c5f587fd047defce14bfd4dcfd346dbe"), looks := true }, kinds := [], alts := [], laidByText := true, laidKinds := [.handle], laidTests := true, laidLooks := .later }
def FlushReusesCardSaid : Prop := Claim7.holds Tryz.pinned (.plain (OpenSpec.ofChange flushReusesSpec)) flushReusesCard

/-- THE TIED CARD OF 'copyholdlaw23.CommitSteps'. -/
def commitStepsCard : Claim7 := { stood := { row := commitStepsRow, standIns := [], harness := (true, "1e6ce98f84b5395230a13ba54d306d10c5f587fd047defce14bfd4dcfd346dbe"), looks := true }, kinds := [], alts := [], laidByText := true, laidKinds := [.handle], laidTests := true, laidLooks := .later }
def CommitStepsCardSaid : Prop := Claim7.holds Tryz.pinned (.plain (OpenSpec.ofChange commitStepsSpec)) commitStepsCard

/-- THE TIED CARD OF 'copyholdlaw23.CommitOrder'. -/
def commitOrderCard : Claim7 := { stood := { row := commitOrderRow, standIns := [], harness := (true, "1e6ce98f84b5395230a13ba54d306d10c5f587fd047defce14bfd4dcfd346dbe"), looks := true }, kinds := [], alts := [], laidByText := true, laidKinds := [.handle], laidTests := true, laidLooks := .later }
def CommitOrderCardSaid : Prop := Claim7.holds Tryz.pinned (.plain (OpenSpec.ofChange commitOrderSpec)) commitOrderCard

/-- THE TIED CARD OF 'copyholdlaw23.AbortLeaves'. -/
def abortLeavesCard : Claim7 := { stood := { row := abortLeavesRow, standIns := [], harness := (true, "1e6ce98f84b5395230a13ba54d306d10c5f587fd047defce14bfd4dcfd346dbe"), looks := true }, kinds := [], alts := [], laidByText := true, laidKinds := [.handle], laidTests := true, laidLooks := .later }
def AbortLeavesCardSaid : Prop := Claim7.holds Tryz.pinned (.plain (OpenSpec.ofChange abortLeavesSpec)) abortLeavesCard

/-- THE TIED CARD OF 'copyholdlaw23.BeginWaits'. -/
def beginWaitsCard : Claim7 := { stood := { row := beginWaitsRow, standIns := [], harness := (true, "1e6ce98f84b5395230a13ba54d306d10c5f587fd047defce14bfd4dcfd346dbe"), looks := true }, kinds := [], alts := [], laidByText := true, laidKinds := [.handle], laidTests := true, laidLooks := .later }
def BeginWaitsCardSaid : Prop := Claim7.holds Tryz.pinned (.plain (OpenSpec.ofChange beginWaitsSpec)) beginWaitsCard

/-- THE TIED CARD OF 'copyholdlaw24.ProcStates'. -/
def procStatesCard : Claim7 := { stood := { row := procStatesRow, standIns := [], harness := (true, "1e6ce98f84b5395230a13ba54d306d10c5f587fd047defce14bfd4dcfd346dbe"), looks := true }, kinds := [], alts := [], laidByText := true, laidKinds := [.handle], laidTests := true, laidLooks := .later }
def ProcStatesCardSaid : Prop := Claim7.holds Tryz.pinned (.plain (OpenSpec.ofChange procStatesSpec)) procStatesCard

/-- THE TIED CARD OF 'copyholdlaw24.ProcMaps'. -/
def procMapsCard : Claim7 := { stood := { row := procMapsRow, standIns := [], harness := (true, "1e6ce98f84b5395230a13ba54d306d10c5f587fd047defce14bfd4dcfd346dbe"), looks := true }, kinds := [], alts := [], laidByText := true, laidKinds := [.handle], laidTests := true, laidLooks := .later }
def ProcMapsCardSaid : Prop := Claim7.holds Tryz.pinned (.plain (OpenSpec.ofChange procMapsSpec)) procMapsCard

/-- THE TIED CARD OF 'copyholdlaw24.ProcNests'. -/
def procNestsCard : Claim7 := { stood := { row := procNestsRow, standIns := [], harness := (true, "1e6ce98f84b5395230a13ba54d306d10c5f587fd047defce14bfd4dcfd346dbe"), looks := true }, kinds := [], alts := [], laidByText := true, laidKinds := [.handle], laidTests := true, laidLooks := .later }
def ProcNestsCardSaid : Prop := Claim7.holds Tryz.pinned (.plain (OpenSpec.ofChange procNestsSpec)) procNestsCard

/-- THE TIED CARD OF 'copyholdlaw25.MachineMany'. -/
def machineManyCard : Claim7 := { stood := { row := machineManyRow, standIns := [], harness := (true, "1e6ce98f84b5395230a13ba54d306d10c5f587fd047defce14bfd4dcfd346dbe"), looks := true }, kinds := [], alts := [], laidByText := true, laidKinds := [.handle], laidTests := true, laidLooks := .later }
def MachineManyCardSaid : Prop := Claim7.holds Tryz.pinned (.plain (OpenSpec.ofChange machineManySpec)) machineManyCard

/-- THE SECOND FORM's CARD OF 'copyholdlaw19.TxnCursor'. -/
def txnCursorUptoCard : Claim7 := { stood := { row := txnCursorUptoRow, standIns := [], harness := (true, "1e6ce98f84b5395230a13ba54d306d10c5f587fd047defce14bfd4dcfd346dbe"), looks := true }, kinds := [], alts := [], laidByText := true, laidKinds := [.handle], laidTests := true, laidLooks := .later }
def TxnCursorUptoCardSaid : Prop := Claim7.holds Tryz.pinned (.plain (OpenSpec.upto txnCursorSpec)) txnCursorUptoCard

/-- THE SECOND FORM's CARD OF 'copyholdlaw20.NestDepths'. -/
def nestDepthsUptoCard : Claim7 := { stood := { row := nestDepthsUptoRow, standIns := [], harness := (true, "1e6ce98f84b5395230a13ba54d306d10c5f587fd047defce14bfd4dcfd346dbe"), looks := true }, kinds := [], alts := [], laidByText := true, laidKinds := [.handle], laidTests := true, laidLooks := .later }
def NestDepthsUptoCardSaid : Prop := Claim7.holds Tryz.pinned (.plain (OpenSpec.upto nestDepthsSpec)) nestDepthsUptoCard

/-- THE SECOND FORM's CARD OF 'copyholdlaw21.FlushReuses'. -/
def flushReusesUptoCard : Claim7 := { stood := { row := flushReusesUptoRow, standIns := [], harness := (true, "1e6ce98f84b5395230a13ba54d306d10c5f587fd047defce14bfd4dcfd346dbe"), looks := true }, kinds := [], alts := [], laidByText := true, laidKinds := [.handle], laidTests := true, laidLooks := .later }
def FlushReusesUptoCardSaid : Prop := Claim7.holds Tryz.pinned (.plain (OpenSpec.upto flushReusesSpec)) flushReusesUptoCard

/-- THE SECOND FORM's CARD OF 'copyholdlaw23.CommitSteps'. -/
def commitStepsUptoCard : Claim7 := { stood := { row := commitStepsUptoRow, standIns := [], harness := (true, "1e6ce98f84b5395230a13ba54d306d10c5f587fd047defce14bfd4dcfd346dbe"), looks := true }, kinds := [], alts := [], laidByText := true, laidKinds := [.handle], laidTests := true, laidLooks := .later }
def CommitStepsUptoCardSaid : Prop := Claim7.holds Tryz.pinned (.plain (OpenSpec.upto commitStepsSpec)) commitStepsUptoCard

/-- THE SECOND FORM's CARD OF 'copyholdlaw23.CommitOrder'. -/
def commitOrderUptoCard : Claim7 := { stood := { row := commitOrderUptoRow, standIns := [], harness := (true, "1e6ce98f84b5395230a13ba54d306d10c5f587fd047defce14bfd4dcfd346dbe"), looks := true }, kinds := [], alts := [], laidByText := true, laidKinds := [.handle], laidTests := true, laidLooks := .later }
def CommitOrderUptoCardSaid : Prop := Claim7.holds Tryz.pinned (.plain (OpenSpec.upto commitOrderSpec)) commitOrderUptoCard

/-- THE SECOND FORM's CARD OF 'copyholdlaw23.AbortLeaves'. -/
def abortLeavesUptoCard : Claim7 := { stood := { row := abortLeavesUptoRow, standIns := [], harness := (true, "1e6ce98f84b5395230a13ba54d306d10c5f587fd047defce14bfd4dcfd346dbe"), looks := true }, kinds := [], alts := [], laidByText := true, laidKinds := [.handle], laidTests := true, laidLooks := .later }
def AbortLeavesUptoCardSaid : Prop := Claim7.holds Tryz.pinned (.plain (OpenSpec.upto abortLeavesSpec)) abortLeavesUptoCard

/-- THE SECOND FORM's CARD OF 'copyholdlaw23.BeginWaits'. -/
def beginWaitsUptoCard : Claim7 := { stood := { row := beginWaitsUptoRow, standIns := [], harness := (true, "1e6ce98f84b5395230a13ba54d306d10c5f587fd047defce14bfd4dcfd346dbe"), looks := true }, kinds := [], alts := [], laidByText := true, laidKinds := [.handle], laidTests := true, laidLooks := .later }
def BeginWaitsUptoCardSaid : Prop := Claim7.holds Tryz.pinned (.plain (OpenSpec.upto beginWaitsSpec)) beginWaitsUptoCard

/-- THE SECOND FORM's CARD OF 'copyholdlaw24.ProcStates'. -/
def procStatesUptoCard : Claim7 := { stood := { row := procStatesUptoRow, standIns := [], harness := (true, "1e6ce98f84b5395230a13ba54d306d10c5f587fd047defce14bfd4dcfd346dbe"), looks := true }, kinds := [], alts := [], laidByText := true, laidKinds := [.handle], laidTests := true, laidLooks := .later }
def ProcStatesUptoCardSaid : Prop := Claim7.holds Tryz.pinned (.plain (OpenSpec.upto procStatesSpec)) procStatesUptoCard

/-- THE SECOND FORM's CARD OF 'copyholdlaw24.ProcMaps'. -/
def procMapsUptoCard : Claim7 := { stood := { row := procMapsUptoRow, standIns := [], harness := (true, "1e6ce98f84b5395230a13ba54d306d10c5f587fd047defce14bfd4dcfd346dbe"), looks := true }, kinds := [], alts := [], laidByText := true, laidKinds := [.handle], laidTests := true, laidLooks := .later }
def ProcMapsUptoCardSaid : Prop := Claim7.holds Tryz.pinned (.plain (OpenSpec.upto procMapsSpec)) procMapsUptoCard

/-- THE SECOND FORM's CARD OF 'copyholdlaw24.ProcNests'. -/
def procNestsUptoCard : Claim7 := { stood := { row := procNestsUptoRow, standIns := [], harness := (true, "1e6ce98f84b5395230a13ba54d306d10c5f587fd047defce14bfd4dcfd346dbe"), looks := true }, kinds := [], alts := [], laidByText := true, laidKinds := [.handle], laidTests := true, laidLooks := .later }
def ProcNestsUptoCardSaid : Prop := Claim7.holds Tryz.pinned (.plain (OpenSpec.upto procNestsSpec)) procNestsUptoCard

/-- THE SECOND FORM's CARD OF 'copyholdlaw25.MachineMany'. -/
def machineManyUptoCard : Claim7 := { stood := { row := machineManyUptoRow, standIns := [], harness := (true, "1e6ce98f84b5395230a13ba54d306d10c5f587fd047defce14bfd4dcfd346dbe"), looks := true }, kinds := [], alts := [], laidByText := true, laidKinds := [.handle], laidTests := true, laidLooks := .later }
def MachineManyUptoCardSaid : Prop := Claim7.holds Tryz.pinned (.plain (OpenSpec.upto machineManySpec)) machineManyUptoCard
end Rows
end Go.Proofs.YtmgppcpmfmaghaaGreatDoor
