/-
  DERIVED. GIVEN WITH THE SEED: THE CARDS: each row of YthnkbbceiipcdaaGreatDoorRows.lean that lists a variable, with what it lists TIED to the program's text (the seventh form; the later family's looks); each row that meets fmt, with fmt's text TOLD by the authors' own Lean function (tested against real Go, not proved from fmt's source: count such statements apart). THE CARD IS WHAT COUNTS. Prove the row's statement (the work); the ties are given (YthnkbbceiipcdaaGreatDoorTie.lean); close each card by the builder's one call (the guide's Derived/Test/ToyasCard.lean, 'card_holds'). Laid BY PROGRAM, IN A SANDBOX (cutbox-door.mjs). By AI agents, Wed Nov 11 2026. No macro, syntax, notation, axiom, sorry.
-/
import Derived.Test.YthnkbbceiipcdaaGreatDoorRows
import GoSem.ClaimSeven
namespace Go.Proofs.YthnkbbceiipcdaaGreatDoor
namespace Rows

/-- THE TIED CARD OF 'copyholdlaw19.TxnCursor'. -/
def txnCursorCard : Claim7 := { stood := { row := txnCursorRow, standIns := [], harness := (true, "89d7fbc8fce874ba4788c64fa73d0d8ea9e038812cb9c8ad8135a6fbdb2f15fc"), looks := true }, kinds := [], alts := [], laidByText := true, laidKinds := [.handle], laidTests := true, laidLooks := .later }
def TxnCursorCardSaid : Prop := Claim7.holds Tryz.pinned (.plain (OpenSpec.ofChange txnCursorSpec)) txnCursorCard

/-- THE TIED CARD OF 'copyholdlaw24.ProcMaps'. -/
def procMapsCard : Claim7 := { stood := { row := procMapsRow, standIns := [], harness := (true, "89d7fbc8fce874ba4788c64fa73d0d8ea9e038812cb9c8ad8135a6fbdb2f15fc"), looks := true }, kinds := [], alts := [], laidByText := true, laidKinds := [.handle], laidTests := true, laidLooks := .later }
def ProcMapsCardSaid : Prop := Claim7.holds Tryz.pinned (.plain (OpenSpec.ofChange procMapsSpec)) procMapsCard

/-- THE TIED CARD OF 'copyholdlaw24.ProcOpens'. -/
def procOpensCard : Claim7 := { stood := { row := procOpensRow, standIns := [], harness := (true, "89d7fbc8fce874ba4788c64fa73d0d8ea9e038812cb9c8ad8135a6fbdb2f15fc"), looks := true }, kinds := [], alts := [], laidByText := true, laidKinds := [.handle], laidTests := true, laidLooks := .later }
def ProcOpensCardSaid : Prop := Claim7.holds Tryz.pinned (.plain (OpenSpec.ofChange procOpensSpec)) procOpensCard

/-- THE TIED CARD OF 'copyholdlaw25.MachineMany'. -/
def machineManyCard : Claim7 := { stood := { row := machineManyRow, standIns := [], harness := (true, "89d7fbc8fce874ba4788c64fa73d0d8ea9e038812cb9c8ad8135a6fbdb2f15fc"), looks := true }, kinds := [], alts := [], laidByText := true, laidKinds := [.handle], laidTests := true, laidLooks := .later }
def MachineManyCardSaid : Prop := Claim7.holds Tryz.pinned (.plain (OpenSpec.ofChange machineManySpec)) machineManyCard

/-- THE SECOND FORM's CARD OF 'copyholdlaw19.TxnCursor'. -/
def txnCursorUptoCard : Claim7 := { stood := { row := txnCursorUptoRow, standIns := [], harness := (true, "89d7fbc8fce874ba4788c64fa73d0d8ea9e038812cb9c8ad8135a6fbdb2f15fc"), looks := true }, kinds := [], alts := [], laidByText := true, laidKinds := [.handle], laidTests := true, laidLooks := .later }
def TxnCursorUptoCardSaid : Prop := Claim7.holds Tryz.pinned (.plain (OpenSpec.upto txnCursorSpec)) txnCursorUptoCard

/-- THE SECOND FORM's CARD OF 'copyholdlaw24.ProcMaps'. -/
def procMapsUptoCard : Claim7 := { stood := { row := procMapsUptoRow, standIns := [], harness := (true, "89d7fbc8fce874ba4788c64fa73d0d8ea9e038812cb9c8ad8135a6fbdb2f15fc"), looks := true }, kinds := [], alts := [], laidByText := true, laidKinds := [.handle], laidTests := true, laidLooks := .later }
def ProcMapsUptoCardSaid : Prop := Claim7.holds Tryz.pinned (.plain (OpenSpec.upto procMapsSpec)) procMapsUptoCard

/-- THE SECOND FORM's CARD OF 'copyholdlaw24.ProcOpens'. -/
def procOpensUptoCard : Claim7 := { stood := { row := procOpensUptoRow, standIns := [], harness := (true, "89d7fbc8fce874ba4788c64fa73d0d8ea9e038812cb9c8ad8135a6fbdb2f15fc"), looks := true }, kinds := [], alts := [], laidByText := true, laidKinds := [.handle], laidTests := true, laidLooks := .later }
def ProcOpensUptoCardSaid : Prop := Claim7.holds Tryz.pinned (.plain (OpenSpec.upto procOpensSpec)) procOpensUptoCard

/-- THE SECOND FORM's CARD OF 'copyholdlaw25.MachineMany'. -/
def machineManyUptoCard : Claim7 := { stood := { row := machineManyUptoRow, standIns := [], harness := (true, "89d7fbc8fce874ba4788c64fa73d0d8ea9e038812cb9c8ad8135a6fbdb2f15fc"), looks := true }, kinds := [], alts := [], laidByText := true, laidKinds := [.handle], laidTests := true, laidLooks := .later }
def MachineManyUptoCardSaid : Prop := Claim7.holds Tryz.pinned (.plain (OpenSpec.upto machineManySpec)) machineManyUptoCard
end Rows
end Go.Proofs.YthnkbbceiipcdaaGreatDoor
