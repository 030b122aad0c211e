/-
  NARROWER THAN 'FOR EVERY INPUT', by the rows' own cells (each row's printed sentence says how): TxnCursor: laid · ProcMaps: laid · ProcOpens: laid · MachineMany: laid.
  DERIVED. THE GIVEN ROWS OF THIS SEAT. 4 by the template 'for every input the law returns true; each argument reads behind the call as it read before'; 0 by the template 'total and deterministic' (their statements: YthnkbbceiipcdaaGreatDoorTotals.lean).
  GIVEN WITH THE SEED: the statements are not yours to turn. If you find one false, say at which input.
  Laid BY PROGRAM, IN A SANDBOX (cutbox-rows.mjs): the forced cells as the released guide's own fill.sh prints them over the translation 681c557d77fad109… (all of the seat's roots in one cut). By AI agents, Wed Nov 11 2026. No macro, syntax, notation, axiom, sorry.
-/
import Derived.Test.YthnkbbceiipcdaaGreatDoorChecked
import GoSem.Claim
import GoSem.ClaimJoined
import GoSem.ClaimMapViews
import Derived.JoinedTies
import Derived.KernelRfl
namespace Go.Proofs.YthnkbbceiipcdaaGreatDoor
/- THE CELL 'sum', in the pinned program and in every row, IS THE sha256 OF THE DUMP (.gsa) THAT YthnkbbceiipcdaaGreatDoorProg.lean LOADS. Nothing in Lean hashes anything: it is a label: what it is worth is what the hold of that sum in a sandbox is worth. -/
noncomputable def Tryz.pinned : Pinned := { name := "ythnkbbceiipcdaagreatdoor", sum := "681c557d77fad109af039ba960c0ffc5b063d3f0e70f5547f5eed3358fa50d0c", checked := Tryz.checked }
namespace Rows
def none {H : Type} : Left H := { results := [], args := [] }

/- WHAT THE LISTED PACKAGE-LEVEL VARIABLES READ AS WHEN THE CALL BEGINS. Each datum BY PROGRAM (the guide's laid-datum.mjs) off the statement by which the dump's own 'gosem.cut.vars' lays the variable. In a bare row this is a premise. The card (YthnkbbceiipcdaaGreatDoorCards.lean) ties it to the program's text. -/
def laid_errors_errorType {H : Type} : DataW H := .iface "internal/reflectlite.rtype" (.agg [.ptr (.lit (.string [101, 114, 114, 111, 114]))])

/-- 'copyholdlaw19.TxnCursor': WHATEVER THE INPUT: true; the input reads as it did. -/
def txnCursorSpec : ChangeSpec := { name := "txnCursor", fn := fun _ => fun
  | [d1, d2, d3] => { results := [.lit (.bool true)], args := [d1, d2, d3] }
  | _ => none }
def txnCursorRow : OpenClaim := { program := "ythnkbbceiipcdaagreatdoor", sum := "681c557d77fad109af039ba960c0ffc5b063d3f0e70f5547f5eed3358fa50d0c", func := "copyhold/copyholdlaw19.TxnCursor", spec := "txnCursor", inPlace := ["slices.overlaps[int]", "maps.clone", "slices.overlaps[copyhold/api.Item]", "slices.overlaps[string]", "internal/reflectlite.ValueOf", "(internal/reflectlite.Value).Type", "(internal/reflectlite.Value).IsNil", "internal/reflectlite.TypeOf", "(internal/reflectlite.Value).Elem", "(internal/reflectlite.Value).Set"], unfollowed := true, recurses := true, named := ["errors.errorType"], apart := false, laid := [("errors.errorType", laid_errors_errorType)] }
def TxnCursorSaid : Prop := txnCursorRow.holds Tryz.pinned (OpenSpec.ofChange txnCursorSpec)

/-- ITS FALSE NEIGHBOUR: 'it returns false'. Refute it at one input. -/
def txnCursorWrong : ChangeSpec := { name := "txnCursor", fn := fun _ => fun
  | [d1, d2, d3] => { results := [.lit (.bool false)], args := [d1, d2, d3] }
  | _ => none }
def TxnCursorWrongFalsely : Prop := txnCursorRow.holds Tryz.pinned (OpenSpec.ofChange txnCursorWrong)

/-- 'copyholdlaw24.ProcMaps': WHATEVER THE INPUT: true; the input reads as it did. -/
def procMapsSpec : ChangeSpec := { name := "procMaps", fn := fun _ => fun
  | [d1, d2] => { results := [.lit (.bool true)], args := [d1, d2] }
  | _ => none }
def procMapsRow : OpenClaim := { program := "ythnkbbceiipcdaagreatdoor", sum := "681c557d77fad109af039ba960c0ffc5b063d3f0e70f5547f5eed3358fa50d0c", func := "copyhold/copyholdlaw24.ProcMaps", spec := "procMaps", inPlace := ["slices.overlaps[int]", "maps.clone", "slices.overlaps[copyhold/api.Item]", "slices.overlaps[string]", "internal/reflectlite.ValueOf", "(internal/reflectlite.Value).Type", "(internal/reflectlite.Value).IsNil", "internal/reflectlite.TypeOf", "(internal/reflectlite.Value).Elem", "(internal/reflectlite.Value).Set"], unfollowed := true, recurses := true, named := ["errors.errorType"], apart := false, laid := [("errors.errorType", laid_errors_errorType)] }
def ProcMapsSaid : Prop := procMapsRow.holds Tryz.pinned (OpenSpec.ofChange procMapsSpec)

/-- ITS FALSE NEIGHBOUR: 'it returns false'. Refute it at one input. -/
def procMapsWrong : ChangeSpec := { name := "procMaps", fn := fun _ => fun
  | [d1, d2] => { results := [.lit (.bool false)], args := [d1, d2] }
  | _ => none }
def ProcMapsWrongFalsely : Prop := procMapsRow.holds Tryz.pinned (OpenSpec.ofChange procMapsWrong)

/-- 'copyholdlaw24.ProcOpens': WHATEVER THE INPUT: true; the input reads as it did. -/
def procOpensSpec : ChangeSpec := { name := "procOpens", fn := fun _ => fun
  | [d1, d2] => { results := [.lit (.bool true)], args := [d1, d2] }
  | _ => none }
def procOpensRow : OpenClaim := { program := "ythnkbbceiipcdaagreatdoor", sum := "681c557d77fad109af039ba960c0ffc5b063d3f0e70f5547f5eed3358fa50d0c", func := "copyhold/copyholdlaw24.ProcOpens", spec := "procOpens", inPlace := ["slices.overlaps[int]", "maps.clone", "slices.overlaps[copyhold/api.Item]", "slices.overlaps[string]", "internal/reflectlite.ValueOf", "(internal/reflectlite.Value).Type", "(internal/reflectlite.Value).IsNil", "internal/reflectlite.TypeOf", "(internal/reflectlite.Value).Elem", "(internal/reflectlite.Value).Set"], unfollowed := true, recurses := true, named := ["errors.errorType"], apart := false, laid := [("errors.errorType", laid_errors_errorType)] }
def ProcOpensSaid : Prop := procOpensRow.holds Tryz.pinned (OpenSpec.ofChange procOpensSpec)

/-- ITS FALSE NEIGHBOUR: 'it returns false'. Refute it at one input. -/
def procOpensWrong : ChangeSpec := { name := "procOpens", fn := fun _ => fun
  | [d1, d2] => { results := [.lit (.bool false)], args := [d1, d2] }
  | _ => none }
def ProcOpensWrongFalsely : Prop := procOpensRow.holds Tryz.pinned (OpenSpec.ofChange procOpensWrong)

/-- 'copyholdlaw25.MachineMany': WHATEVER THE INPUT: true; the input reads as it did. -/
def machineManySpec : ChangeSpec := { name := "machineMany", fn := fun _ => fun
  | [d] => { results := [.lit (.bool true)], args := [d] }
  | _ => none }
def machineManyRow : OpenClaim := { program := "ythnkbbceiipcdaagreatdoor", sum := "681c557d77fad109af039ba960c0ffc5b063d3f0e70f5547f5eed3358fa50d0c", func := "copyhold/copyholdlaw25.MachineMany", spec := "machineMany", inPlace := ["slices.overlaps[int]", "maps.clone", "slices.overlaps[copyhold/api.Item]", "slices.overlaps[string]", "internal/reflectlite.ValueOf", "(internal/reflectlite.Value).Type", "(internal/reflectlite.Value).IsNil", "internal/reflectlite.TypeOf", "(internal/reflectlite.Value).Elem", "(internal/reflectlite.Value).Set"], unfollowed := true, recurses := true, named := ["errors.errorType"], apart := false, laid := [("errors.errorType", laid_errors_errorType)] }
def MachineManySaid : Prop := machineManyRow.holds Tryz.pinned (OpenSpec.ofChange machineManySpec)

/-- ITS FALSE NEIGHBOUR: 'it returns false'. Refute it at one input. -/
def machineManyWrong : ChangeSpec := { name := "machineMany", fn := fun _ => fun
  | [d] => { results := [.lit (.bool false)], args := [d] }
  | _ => none }
def MachineManyWrongFalsely : Prop := machineManyRow.holds Tryz.pinned (OpenSpec.ofChange machineManyWrong)

/- THE SECOND FORM. 'bulk': how many values and letters a reading holds, each counted each time it is reached (what is shared counts as often as it is met; a slice's spare places count too). A statement '..UptoSaid' is the law's where the arguments, and the package variables that the reading takes, are together of bulk at most 1048576: NARROWER than '..Said'. Prove '..Said' where nothing that the law and all that it calls make is longer than what came in: it says more and counts as full. Else prove '..UptoSaid'. A law counts once. -/
mutual
def uptoBulk {H : Type} : DataW H → Nat
  | .lit (.string bytes) => bytes.length + 1
  | .lit _ => 1
  | .nil => 1
  | .ptr d => uptoBulk d + 1
  | .slice elems spare => uptoBulkAll elems + uptoBulkAll spare + 1
  | .agg parts => uptoBulkAll parts + 1
  | .iface _ d => uptoBulk d + 1
  | .map entries => uptoBulkEntries entries + 1
  | .held _ => 1
def uptoBulkAll {H : Type} : List (DataW H) → Nat
  | [] => 0
  | d :: r => uptoBulk d + uptoBulkAll r
def uptoBulkEntries {H : Type} : List (Lit × DataW H) → Nat
  | [] => 0
  | x :: r => uptoBulkEntry x + uptoBulkEntries r
def uptoBulkEntry {H : Type} : Lit × DataW H → Nat
  | (.string bytes, d) => bytes.length + uptoBulk d + 1
  | (_, d) => uptoBulk d + 1
 end
def uptoSmall : (H : Type) → List (DataW H) → Bool := fun _ ds => decide (uptoBulkAll ds ≤ 1048576)
def OpenSpec.upto (s : _root_.Go.ChangeSpec) : _root_.Go.OpenSpec := { _root_.Go.OpenSpec.ofChange s with cond := some uptoSmall }

/-- 'copyholdlaw19.TxnCursor', WHERE WHAT IT READS IS OF BULK AT MOST 1048576: true; the input reads as it did. -/
def txnCursorUptoRow : OpenClaim := { program := "ythnkbbceiipcdaagreatdoor", sum := "681c557d77fad109af039ba960c0ffc5b063d3f0e70f5547f5eed3358fa50d0c", func := "copyhold/copyholdlaw19.TxnCursor", spec := "txnCursor", inPlace := ["slices.overlaps[int]", "maps.clone", "slices.overlaps[copyhold/api.Item]", "slices.overlaps[string]", "internal/reflectlite.ValueOf", "(internal/reflectlite.Value).Type", "(internal/reflectlite.Value).IsNil", "internal/reflectlite.TypeOf", "(internal/reflectlite.Value).Elem", "(internal/reflectlite.Value).Set"], unfollowed := true, recurses := true, named := ["errors.errorType"], apart := false, laid := [("errors.errorType", laid_errors_errorType)], narrowed := true }
def TxnCursorUptoSaid : Prop := txnCursorUptoRow.holds Tryz.pinned (OpenSpec.upto txnCursorSpec)

/-- 'copyholdlaw24.ProcMaps', WHERE WHAT IT READS IS OF BULK AT MOST 1048576: true; the input reads as it did. -/
def procMapsUptoRow : OpenClaim := { program := "ythnkbbceiipcdaagreatdoor", sum := "681c557d77fad109af039ba960c0ffc5b063d3f0e70f5547f5eed3358fa50d0c", func := "copyhold/copyholdlaw24.ProcMaps", spec := "procMaps", inPlace := ["slices.overlaps[int]", "maps.clone", "slices.overlaps[copyhold/api.Item]", "slices.overlaps[string]", "internal/reflectlite.ValueOf", "(internal/reflectlite.Value).Type", "(internal/reflectlite.Value).IsNil", "internal/reflectlite.TypeOf", "(internal/reflectlite.Value).Elem", "(internal/reflectlite.Value).Set"], unfollowed := true, recurses := true, named := ["errors.errorType"], apart := false, laid := [("errors.errorType", laid_errors_errorType)], narrowed := true }
def ProcMapsUptoSaid : Prop := procMapsUptoRow.holds Tryz.pinned (OpenSpec.upto procMapsSpec)

/-- 'copyholdlaw24.ProcOpens', WHERE WHAT IT READS IS OF BULK AT MOST 1048576: true; the input reads as it did. -/
def procOpensUptoRow : OpenClaim := { program := "ythnkbbceiipcdaagreatdoor", sum := "681c557d77fad109af039ba960c0ffc5b063d3f0e70f5547f5eed3358fa50d0c", func := "copyhold/copyholdlaw24.ProcOpens", spec := "procOpens", inPlace := ["slices.overlaps[int]", "maps.clone", "slices.overlaps[copyhold/api.Item]", "slices.overlaps[string]", "internal/reflectlite.ValueOf", "(internal/reflectlite.Value).Type", "(internal/reflectlite.Value).IsNil", "internal/reflectlite.TypeOf", "(internal/reflectlite.Value).Elem", "(internal/reflectlite.Value).Set"], unfollowed := true, recurses := true, named := ["errors.errorType"], apart := false, laid := [("errors.errorType", laid_errors_errorType)], narrowed := true }
def ProcOpensUptoSaid : Prop := procOpensUptoRow.holds Tryz.pinned (OpenSpec.upto procOpensSpec)

/-- 'copyholdlaw25.MachineMany', WHERE WHAT IT READS IS OF BULK AT MOST 1048576: true; the input reads as it did. -/
def machineManyUptoRow : OpenClaim := { program := "ythnkbbceiipcdaagreatdoor", sum := "681c557d77fad109af039ba960c0ffc5b063d3f0e70f5547f5eed3358fa50d0c", func := "copyhold/copyholdlaw25.MachineMany", spec := "machineMany", inPlace := ["slices.overlaps[int]", "maps.clone", "slices.overlaps[copyhold/api.Item]", "slices.overlaps[string]", "internal/reflectlite.ValueOf", "(internal/reflectlite.Value).Type", "(internal/reflectlite.Value).IsNil", "internal/reflectlite.TypeOf", "(internal/reflectlite.Value).Elem", "(internal/reflectlite.Value).Set"], unfollowed := true, recurses := true, named := ["errors.errorType"], apart := false, laid := [("errors.errorType", laid_errors_errorType)], narrowed := true }
def MachineManyUptoSaid : Prop := machineManyUptoRow.holds Tryz.pinned (OpenSpec.upto machineManySpec)

end Rows
end Go.Proofs.YthnkbbceiipcdaaGreatDoor
