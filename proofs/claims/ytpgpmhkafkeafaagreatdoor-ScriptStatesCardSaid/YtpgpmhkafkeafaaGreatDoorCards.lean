/-
  DERIVED. GIVEN WITH THE SEED: THE CARDS: each row of YtpgpmhkafkeafaaGreatDoorRows.lean that lists a variable, with what it lists TIED to the program's text (the seventh form; the later family's looks); each row that meets fmt, with fmt's text TOLD by the authors' own Lean function (tested against real Go, not proved from fmt's source: count such statements apart). THE CARD IS WHAT COUNTS. Prove the row's statement (the work); the ties are given (YtpgpmhkafkeafaaGreatDoorTie.lean); close each card by the builder's one call (the guide's Derived/Test/ToyasCard.lean, 'card_holds'). Laid BY PROGRAM, IN A SANDBOX (cutbox-door.mjs). By AI agents, Wed Nov 11 2026. No macro, syntax, notation, axiom, sorry.
-/
import Derived.Test.YtpgpmhkafkeafaaGreatDoorRows
import GoSem.ClaimSeven
namespace Go.Proofs.YtpgpmhkafkeafaaGreatDoor
namespace Rows

/-- THE TIED CARD OF 'copyholdlaw28.ScriptStates'. -/
def scriptStatesCard : Claim7 := { stood := { row := scriptStatesRow, standIns := [], harness := (true, "cce803422091bc5cc5e3af1800d922acaf42bb3559c8932be83c452a0e488ee3"), looks := true }, kinds := [], alts := [], laidByText := true, laidKinds := [.pinned, .data, .sentinel, .sentinel, .data, .data, .data, .handle], laidTests := true, laidLooks := .later }
def ScriptStatesCardSaid : Prop := Claim7.holds Tryz.pinned (.plain (OpenSpec.ofChange scriptStatesSpec)) scriptStatesCard

/-- THE SECOND FORM's CARD OF 'copyholdlaw28.ScriptStates'. -/
def scriptStatesUptoCard : Claim7 := { stood := { row := scriptStatesUptoRow, standIns := [], harness := (true, "cce803422091bc5cc5e3af1800d922acaf42bb3559c8932be83c452a0e488ee3"), looks := true }, kinds := [], alts := [], laidByText := true, laidKinds := [.pinned, .data, .sentinel, .sentinel, .data, .data, .data, .handle], laidTests := true, laidLooks := .later }
def ScriptStatesUptoCardSaid : Prop := Claim7.holds Tryz.pinned (.plain (OpenSpec.upto scriptStatesSpec)) scriptStatesUptoCard
end Rows
end Go.Proofs.YtpgpmhkafkeafaaGreatDoor
