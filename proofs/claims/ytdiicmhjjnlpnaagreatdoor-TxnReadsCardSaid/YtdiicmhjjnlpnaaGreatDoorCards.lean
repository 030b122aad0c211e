/-
  DERIVED. GIVEN WITH THE SEED: THE CARDS: each row of YtdiicmhjjnlpnaaGreatDoorRows.lean that lists a variable, with what it lists TIED to the program's text (the seventh form; the later family's looks); each row that meets fmt, with fmt's text TOLD by the authors' own Lean function (tested against real Go, not proved from fmt's source: count such statements apart). THE CARD IS WHAT COUNTS. Prove the row's statement (the work); the ties are given (YtdiicmhjjnlpnaaGreatDoorTie.lean); close each card by the builder's one call (the guide's Derived/Test/ToyasCard.lean, 'card_holds'). Laid BY PROGRAM, IN A SANDBOX (cutbox-door.mjs). By AI agents, Wed Nov 11 2026. No macro, syntax, notation, axiom, sorry.
-/
import Derived.Test.YtdiicmhjjnlpnaaGreatDoorRows
import GoSem.ClaimSeven
namespace Go.Proofs.YtdiicmhjjnlpnaaGreatDoor
namespace Rows

/-- THE TIED CARD OF 'copyholdlaw19.TxnReads'. -/
def txnReadsCard : Claim7 := { stood := { row := txnReadsRow, standIns := [], harness := (true, "9ccf5d7882272edde0675bae02e756be21c1c08e5f667999effe49a6ea32f940"), looks := true }, kinds := [], alts := [], laidByText := true, laidKinds := [.handle], laidTests := true, laidLooks := .later }
def TxnReadsCardSaid : Prop := Claim7.holds Tryz.pinned (.plain (OpenSpec.ofChange txnReadsSpec)) txnReadsCard

/-- THE SECOND FORM's CARD OF 'copyholdlaw19.TxnReads'. -/
def txnReadsUptoCard : Claim7 := { stood := { row := txnReadsUptoRow, standIns := [], harness := (true, "9ccf5d7882272edde0675bae02e756be21c1c08e5f667999effe49a6ea32f940"), looks := true }, kinds := [], alts := [], laidByText := true, laidKinds := [.handle], laidTests := true, laidLooks := .later }
def TxnReadsUptoCardSaid : Prop := Claim7.holds Tryz.pinned (.plain (OpenSpec.upto txnReadsSpec)) txnReadsUptoCard
end Rows
end Go.Proofs.YtdiicmhjjnlpnaaGreatDoor
