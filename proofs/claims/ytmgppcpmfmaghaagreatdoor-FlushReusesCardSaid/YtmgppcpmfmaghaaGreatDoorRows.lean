/-
  NARROWER THAN 'FOR EVERY INPUT', by the rows' own cells (each row's printed sentence says how): TxnCursor: laid · NestDepths: laid · FlushReuses: laid · CommitSteps: laid · CommitOrder: laid · AbortLeaves: laid · BeginWaits: laid · ProcStates: laid · ProcMaps: laid · ProcNests: laid · MachineMany: laid.
  DERIVED. THE GIVEN ROWS OF THIS SEAT. 11 by the template 'for every input the law returns true; each argument reads behind the call as it read before'; 0 by the template 'total and deterministic' (their statements: YtmgppcpmfmaghaaGreatDoorTotals.lean).
  GIVEN WITH THE SEED: the statements are not yours to turn. If you find one false, say at which input.
  Laid BY PROGRAM, IN A SANDBOX (cutbox-rows.mjs): the forced cells as the released guide's own fill.sh prints them over the translation 292f215db2df5576… (all of the seat's roots in one cut). By AI agents, Wed Nov 11 2026. No macro, syntax, notation, axiom, sorry.
-/
import Derived.Test.YtmgppcpmfmaghaaGreatDoorChecked
import GoSem.Claim
import GoSem.ClaimJoined
import GoSem.ClaimMapViews
import Derived.JoinedTies
import Derived.KernelRfl
namespace Go.Proofs.YtmgppcpmfmaghaaGreatDoor
/- THE CELL 'sum', in the pinned program and in every row, IS THE sha256 OF THE DUMP (.gsa) THAT YtmgppcpmfmaghaaGreatDoorProg.lean LOADS. Nothing in Lean hashes anything: it is a label: what it is worth is what the hold of that sum in a sandbox is worth. -/
noncomputable def Tryz.pinned : Pinned := { name := "ytmgppcpmfmaghaagreatdoor", sum := "292f215db2df557649379cb3c845cfe00f994ae972a05f63225cf8c2d6e7b314", checked := Tryz.checked }
namespace Rows
def none {H : Type} : Left H := { results := [], args := [] }

/- WHAT THE LISTED PACKAGE-LEVEL VARIABLES READ AS WHEN THE CALL BEGINS. Each datum BY PROGRAM (the guide's laid-datum.mjs) off the statement by which the dump's own 'gosem.cut.vars' lays the variable. In a bare row this is a premise. The card (YtmgppcpmfmaghaaGreatDoorCards.lean) ties it to the program's text. -/
def laid_errors_errorType {H : Type} : DataW H := .iface "internal/reflectlite.rtype" (.agg [.ptr (.lit (.string [101, 114, 114, 111, 114]))])

/-- 'copyholdlaw19.TxnCursor': WHATEVER THE INPUT: true; the input reads as it did. -/
def txnCursorSpec : ChangeSpec := { name := "txnCursor", fn := fun _ => fun
  | [d1, d2, d3] => { results := [.lit (.bool true)], args := [d1, d2, d3] }
  | _ => none }
def txnCursorRow : OpenClaim := { program := "ytmgppcpmfmaghaagreatdoor", sum := "292f215db2df557649379cb3c845cfe00f994ae972a05f63225cf8c2d6e7b314", func := "copyhold/copyholdlaw19.TxnCursor", spec := "txnCursor", inPlace := ["slices.overlaps[int]", "maps.clone", "slices.overlaps[copyhold/api.Item]", "slices.overlaps[string]", "internal/reflectlite.ValueOf", "(internal/reflectlite.Value).Type", "(internal/reflectlite.Value).IsNil", "internal/reflectlite.TypeOf", "(internal/reflectlite.Value).Elem", "(internal/reflectlite.Value).Set"], unfollowed := true, recurses := true, named := ["errors.errorType"], apart := false, laid := [("errors.errorType", laid_errors_errorType)] }
def TxnCursorSaid : Prop := txnCursorRow.holds Tryz.pinned (OpenSpec.ofChange txnCursorSpec)

/-- ITS FALSE NEIGHBOUR: 'it returns false'. Refute it at one input. -/
def txnCursorWrong : ChangeSpec := { name := "txnCursor", fn := fun _ => fun
  | [d1, d2, d3] => { results := [.lit (.bool false)], args := [d1, d2, d3] }
  | _ => none }
def TxnCursorWrongFalsely : Prop := txnCursorRow.holds Tryz.pinned (OpenSpec.ofChange txnCursorWrong)

/-- 'copyholdlaw20.NestDepths': WHATEVER THE INPUT: true; the input reads as it did. -/
def nestDepthsSpec : ChangeSpec := { name := "nestDepths", fn := fun _ => fun
  | [d1, d2] => { results := [.lit (.bool true)], args := [d1, d2] }
  | _ => none }
def nestDepthsRow : OpenClaim := { program := "ytmgppcpmfmaghaagreatdoor", sum := "292f215db2df557649379cb3c845cfe00f994ae972a05f63225cf8c2d6e7b314", func := "copyhold/copyholdlaw20.NestDepths", spec := "nestDepths", inPlace := ["slices.overlaps[int]", "maps.clone", "slices.overlaps[copyhold/api.Item]", "slices.overlaps[string]", "internal/reflectlite.ValueOf", "(internal/reflectlite.Value).Type", "(internal/reflectlite.Value).IsNil", "internal/reflectlite.TypeOf", "(internal/reflectlite.Value).Elem", "(internal/reflectlite.Value).Set"], unfollowed := true, recurses := true, named := ["errors.errorType"], apart := false, laid := [("errors.errorType", laid_errors_errorType)] }
def NestDepthsSaid : Prop := nestDepthsRow.holds Tryz.pinned (OpenSpec.ofChange nestDepthsSpec)

/-- ITS FALSE NEIGHBOUR: 'it returns false'. Refute it at one input. -/
def nestDepthsWrong : ChangeSpec := { name := "nestDepths", fn := fun _ => fun
  | [d1, d2] => { results := [.lit (.bool false)], args := [d1, d2] }
  | _ => none }
def NestDepthsWrongFalsely : Prop := nestDepthsRow.holds Tryz.pinned (OpenSpec.ofChange nestDepthsWrong)

/-- 'copyholdlaw21.FlushReuses': WHATEVER THE INPUT: true; the input reads as it did. -/
def flushReusesSpec : ChangeSpec := { name := "flushReuses", fn := fun _ => fun
  | [d] => { results := [.lit (.bool true)], args := [d] }
  | _ => none }
def flushReusesRow : OpenClaim := { program := "ytmgppcpmfmaghaagreatdoor", sum := "292f215db2df557649379cb3c845cfe00f994ae972a05f63225cf8c2d6e7b314", func := "copyhold/copyholdlaw21.FlushReuses", spec := "flushReuses", inPlace := ["slices.overlaps[int]", "maps.clone", "slices.overlaps[copyhold/api.Item]", "slices.overlaps[string]", "internal/reflectlite.ValueOf", "(internal/reflectlite.Value).Type", "(internal/reflectlite.Value).IsNil", "internal/reflectlite.TypeOf", "(internal/reflectlite.Value).Elem", "(internal/reflectlite.Value).Set"], unfollowed := true, recurses := true, named := ["errors.errorType"], apart := false, laid := [("errors.errorType", laid_errors_errorType)] }
def FlushReusesSaid : Prop := flushReusesRow.holds Tryz.pinned (OpenSpec.ofChange flushReusesSpec)

/-- ITS FALSE NEIGHBOUR: 'it returns false'. Refute it at one input. -/
def flushReusesWrong : ChangeSpec := { name := "flushReuses", fn := fun _ => fun
  | [d] => { results := [.lit (.bool false)], args := [d] }
  | _ => none }
def FlushReusesWrongFalsely : Prop := flushReusesRow.holds Tryz.pinned (OpenSpec.ofChange flushReusesWrong)

/-- 'copyholdlaw23.CommitSteps': WHATEVER THE INPUT: true; the input reads as it did. -/
def commitStepsSpec : ChangeSpec := { name := "commitSteps", fn := fun _ => fun
  | [d1, d2] => { results := [.lit (.bool true)], args := [d1, d2] }
  | _ => none }
def commitStepsRow : OpenClaim := { program := "ytmgppcpmfmaghaagreatdoor", sum := "292f215db2df557649379cb3c845cfe00f994ae972a05f63225cf8c2d6e7b314", func := "copyhold/copyholdlaw23.CommitSteps", spec := "commitSteps", inPlace := ["slices.overlaps[int]", "maps.clone", "slices.overlaps[copyhold/api.Item]", "slices.overlaps[string]", "internal/reflectlite.ValueOf", "(internal/reflectlite.Value).Type", "(internal/reflectlite.Value).IsNil", "internal/reflectlite.TypeOf", "(internal/reflectlite.Value).Elem", "(internal/reflectlite.Value).Set"], unfollowed := true, recurses := true, named := ["errors.errorType"], apart := false, laid := [("errors.errorType", laid_errors_errorType)] }
def CommitStepsSaid : Prop := commitStepsRow.holds Tryz.pinned (OpenSpec.ofChange commitStepsSpec)

/-- ITS FALSE NEIGHBOUR: 'it returns false'. Refute it at one input. -/
def commitStepsWrong : ChangeSpec := { name := "commitSteps", fn := fun _ => fun
  | [d1, d2] => { results := [.lit (.bool false)], args := [d1, d2] }
  | _ => none }
def CommitStepsWrongFalsely : Prop := commitStepsRow.holds Tryz.pinned (OpenSpec.ofChange commitStepsWrong)

/-- 'copyholdlaw23.CommitOrder': WHATEVER THE INPUT: true; the input reads as it did. -/
def commitOrderSpec : ChangeSpec := { name := "commitOrder", fn := fun _ => fun
  | [d1, d2] => { results := [.lit (.bool true)], args := [d1, d2] }
  | _ => none }
def commitOrderRow : OpenClaim := { program := "ytmgppcpmfmaghaagreatdoor", sum := "292f215db2df557649379cb3c845cfe00f994ae972a05f63225cf8c2d6e7b314", func := "copyhold/copyholdlaw23.CommitOrder", spec := "commitOrder", inPlace := ["slices.overlaps[int]", "maps.clone", "slices.overlaps[copyhold/api.Item]", "slices.overlaps[string]", "internal/reflectlite.ValueOf", "(internal/reflectlite.Value).Type", "(internal/reflectlite.Value).IsNil", "internal/reflectlite.TypeOf", "(internal/reflectlite.Value).Elem", "(internal/reflectlite.Value).Set"], unfollowed := true, recurses := true, named := ["errors.errorType"], apart := false, laid := [("errors.errorType", laid_errors_errorType)] }
def CommitOrderSaid : Prop := commitOrderRow.holds Tryz.pinned (OpenSpec.ofChange commitOrderSpec)

/-- ITS FALSE NEIGHBOUR: 'it returns false'. Refute it at one input. -/
def commitOrderWrong : ChangeSpec := { name := "commitOrder", fn := fun _ => fun
  | [d1, d2] => { results := [.lit (.bool false)], args := [d1, d2] }
  | _ => none }
def CommitOrderWrongFalsely : Prop := commitOrderRow.holds Tryz.pinned (OpenSpec.ofChange commitOrderWrong)

/-- 'copyholdlaw23.AbortLeaves': WHATEVER THE INPUT: true; the input reads as it did. -/
def abortLeavesSpec : ChangeSpec := { name := "abortLeaves", fn := fun _ => fun
  | [d] => { results := [.lit (.bool true)], args := [d] }
  | _ => none }
def abortLeavesRow : OpenClaim := { program := "ytmgppcpmfmaghaagreatdoor", sum := "292f215db2df557649379cb3c845cfe00f994ae972a05f63225cf8c2d6e7b314", func := "copyhold/copyholdlaw23.AbortLeaves", spec := "abortLeaves", inPlace := ["slices.overlaps[int]", "maps.clone", "slices.overlaps[copyhold/api.Item]", "slices.overlaps[string]", "internal/reflectlite.ValueOf", "(internal/reflectlite.Value).Type", "(internal/reflectlite.Value).IsNil", "internal/reflectlite.TypeOf", "(internal/reflectlite.Value).Elem", "(internal/reflectlite.Value).Set"], unfollowed := true, recurses := true, named := ["errors.errorType"], apart := false, laid := [("errors.errorType", laid_errors_errorType)] }
def AbortLeavesSaid : Prop := abortLeavesRow.holds Tryz.pinned (OpenSpec.ofChange abortLeavesSpec)

/-- ITS FALSE NEIGHBOUR: 'it returns false'. Refute it at one input. -/
def abortLeavesWrong : ChangeSpec := { name := "abortLeaves", fn := fun _ => fun
  | [d] => { results := [.lit (.bool false)], args := [d] }
  | _ => none }
def AbortLeavesWrongFalsely : Prop := abortLeavesRow.holds Tryz.pinned (OpenSpec.ofChange abortLeavesWrong)

/-- 'copyholdlaw23.BeginWaits': WHATEVER THE INPUT: true; the input reads as it did. -/
def beginWaitsSpec : ChangeSpec := { name := "beginWaits", fn := fun _ => fun
  | [d1, d2] => { results := [.lit (.bool true)], args := [d1, d2] }
  | _ => none }
def beginWaitsRow : OpenClaim := { program := "ytmgppcpmfmaghaagreatdoor", sum := "292f215db2df557649379cb3c845cfe00f994ae972a05f63225cf8c2d6e7b314", func := "copyhold/copyholdlaw23.BeginWaits", spec := "beginWaits", inPlace := ["slices.overlaps[int]", "maps.clone", "slices.overlaps[copyhold/api.Item]", "slices.overlaps[string]", "internal/reflectlite.ValueOf", "(internal/reflectlite.Value).Type", "(internal/reflectlite.Value).IsNil", "internal/reflectlite.TypeOf", "(internal/reflectlite.Value).Elem", "(internal/reflectlite.Value).Set"], unfollowed := true, recurses := true, named := ["errors.errorType"], apart := false, laid := [("errors.errorType", laid_errors_errorType)] }
def BeginWaitsSaid : Prop := beginWaitsRow.holds Tryz.pinned (OpenSpec.ofChange beginWaitsSpec)

/-- ITS FALSE NEIGHBOUR: 'it returns false'. Refute it at one input. -/
def beginWaitsWrong : ChangeSpec := { name := "beginWaits", fn := fun _ => fun
  | [d1, d2] => { results := [.lit (.bool false)], args := [d1, d2] }
  | _ => none }
def BeginWaitsWrongFalsely : Prop := beginWaitsRow.holds Tryz.pinned (OpenSpec.ofChange beginWaitsWrong)

/-- 'copyholdlaw24.ProcStates': WHATEVER THE INPUT: true; the input reads as it did. -/
def procStatesSpec : ChangeSpec := { name := "procStates", fn := fun _ => fun
  | [d1, d2] => { results := [.lit (.bool true)], args := [d1, d2] }
  | _ => none }
def procStatesRow : OpenClaim := { program := "ytmgppcpmfmaghaagreatdoor", sum := "292f215db2df557649379cb3c845cfe00f994ae972a05f63225cf8c2d6e7b314", func := "copyhold/copyholdlaw24.ProcStates", spec := "procStates", inPlace := ["slices.overlaps[int]", "maps.clone", "slices.overlaps[copyhold/api.Item]", "slices.overlaps[string]", "internal/reflectlite.ValueOf", "(internal/reflectlite.Value).Type", "(internal/reflectlite.Value).IsNil", "internal/reflectlite.TypeOf", "(internal/reflectlite.Value).Elem", "(internal/reflectlite.Value).Set"], unfollowed := true, recurses := true, named := ["errors.errorType"], apart := false, laid := [("errors.errorType", laid_errors_errorType)] }
def ProcStatesSaid : Prop := procStatesRow.holds Tryz.pinned (OpenSpec.ofChange procStatesSpec)

/-- ITS FALSE NEIGHBOUR: 'it returns false'. Refute it at one input. -/
def procStatesWrong : ChangeSpec := { name := "procStates", fn := fun _ => fun
  | [d1, d2] => { results := [.lit (.bool false)], args := [d1, d2] }
  | _ => none }
def ProcStatesWrongFalsely : Prop := procStatesRow.holds Tryz.pinned (OpenSpec.ofChange procStatesWrong)

/-- 'copyholdlaw24.ProcMaps': WHATEVER THE INPUT: true; the input reads as it did. -/
def procMapsSpec : ChangeSpec := { name := "procMaps", fn := fun _ => fun
  | [d1, d2] => { results := [.lit (.bool true)], args := [d1, d2] }
  | _ => none }
def procMapsRow : OpenClaim := { program := "ytmgppcpmfmaghaagreatdoor", sum := "292f215db2df557649379cb3c845cfe00f994ae972a05f63225cf8c2d6e7b314", func := "copyhold/copyholdlaw24.ProcMaps", spec := "procMaps", inPlace := ["slices.overlaps[int]", "maps.clone", "slices.overlaps[copyhold/api.Item]", "slices.overlaps[string]", "internal/reflectlite.ValueOf", "(internal/reflectlite.Value).Type", "(internal/reflectlite.Value).IsNil", "internal/reflectlite.TypeOf", "(internal/reflectlite.Value).Elem", "(internal/reflectlite.Value).Set"], unfollowed := true, recurses := true, named := ["errors.errorType"], apart := false, laid := [("errors.errorType", laid_errors_errorType)] }
def ProcMapsSaid : Prop := procMapsRow.holds Tryz.pinned (OpenSpec.ofChange procMapsSpec)

/-- ITS FALSE NEIGHBOUR: 'it returns false'. Refute it at one input. -/
def procMapsWrong : ChangeSpec := { name := "procMaps", fn := fun _ => fun
  | [d1, d2] => { results := [.lit (.bool false)], args := [d1, d2] }
  | _ => none }
def ProcMapsWrongFalsely : Prop := procMapsRow.holds Tryz.pinned (OpenSpec.ofChange procMapsWrong)

/-- 'copyholdlaw24.ProcNests': WHATEVER THE INPUT: true; the input reads as it did. -/
def procNestsSpec : ChangeSpec := { name := "procNests", fn := fun _ => fun
  | [d1, d2] => { results := [.lit (.bool true)], args := [d1, d2] }
  | _ => none }
def procNestsRow : OpenClaim := { program := "ytmgppcpmfmaghaagreatdoor", sum := "292f215db2df557649379cb3c845cfe00f994ae972a05f63225cf8c2d6e7b314", func := "copyhold/copyholdlaw24.ProcNests", spec := "procNests", inPlace := ["slices.overlaps[int]", "maps.clone", "slices.overlaps[copyhold/api.Item]", "slices.overlaps[string]", "internal/reflectlite.ValueOf", "(internal/reflectlite.Value).Type", "(internal/reflectlite.Value).IsNil", "internal/reflectlite.TypeOf", "(internal/reflectlite.Value).Elem", "(internal/reflectlite.Value).Set"], unfollowed := true, recurses := true, named := ["errors.errorType"], apart := false, laid := [("errors.errorType", laid_errors_errorType)] }
def ProcNestsSaid : Prop := procNestsRow.holds Tryz.pinned (OpenSpec.ofChange procNestsSpec)

/-- ITS FALSE NEIGHBOUR: 'it returns false'. Refute it at one input. -/
def procNestsWrong : ChangeSpec := { name := "procNests", fn := fun _ => fun
  | [d1, d2] => { results := [.lit (.bool false)], args := [d1, d2] }
  | _ => none }
def ProcNestsWrongFalsely : Prop := procNestsRow.holds Tryz.pinned (OpenSpec.ofChange procNestsWrong)

/-- 'copyholdlaw25.MachineMany': WHATEVER THE INPUT: true; the input reads as it did. -/
def machineManySpec : ChangeSpec := { name := "machineMany", fn := fun _ => fun
  | [d] => { results := [.lit (.bool true)], args := [d] }
  | _ => none }
def machineManyRow : OpenClaim := { program := "ytmgppcpmfmaghaagreatdoor", sum := "292f215db2df557649379cb3c845cfe00f994ae972a05f63225cf8c2d6e7b314", func := "copyhold/copyholdlaw25.MachineMany", spec := "machineMany", inPlace := ["slices.overlaps[int]", "maps.clone", "slices.overlaps[copyhold/api.Item]", "slices.overlaps[string]", "internal/reflectlite.ValueOf", "(internal/reflectlite.Value).Type", "(internal/reflectlite.Value).IsNil", "internal/reflectlite.TypeOf", "(internal/reflectlite.Value).Elem", "(internal/reflectlite.Value).Set"], unfollowed := true, recurses := true, named := ["errors.errorType"], apart := false, laid := [("errors.errorType", laid_errors_errorType)] }
def MachineManySaid : Prop := machineManyRow.holds Tryz.pinned (OpenSpec.ofChange machineManySpec)

/-- ITS FALSE NEIGHBOUR: 'it returns false'. Refute it at one input. -/
def machineManyWrong : ChangeSpec := { name := "machineMany", fn := fun _ => fun
  | [d] => { results := [.lit (.bool false)], args := [d] }
  | _ => none }
def MachineManyWrongFalsely : Prop := machineManyRow.holds Tryz.pinned (OpenSpec.ofChange machineManyWrong)

/- THE SECOND FORM. 'bulk': how many values and letters a reading holds, each counted each time it is reached (what is shared counts as often as it is met; a slice's spare places count too). A statement '..UptoSaid' is the law's where the arguments, and the package variables that the reading takes, are together of bulk at most 1048576: NARROWER than '..Said'. Prove '..Said' where nothing that the law and all that it calls make is longer than what came in: it says more and counts as full. Else prove '..UptoSaid'. A law counts once. -/
mutual
def uptoBulk {H : Type} : DataW H → Nat
  | .lit (.string bytes) => bytes.length + 1
  | .lit _ => 1
  | .nil => 1
  | .ptr d => uptoBulk d + 1
  | .slice elems spare => uptoBulkAll elems + uptoBulkAll spare + 1
  | .agg parts => uptoBulkAll parts + 1
  | .iface _ d => uptoBulk d + 1
  | .map entries => uptoBulkEntries entries + 1
  | .held _ => 1
def uptoBulkAll {H : Type} : List (DataW H) → Nat
  | [] => 0
  | d :: r => uptoBulk d + uptoBulkAll r
def uptoBulkEntries {H : Type} : List (Lit × DataW H) → Nat
  | [] => 0
  | x :: r => uptoBulkEntry x + uptoBulkEntries r
def uptoBulkEntry {H : Type} : Lit × DataW H → Nat
  | (.string bytes, d) => bytes.length + uptoBulk d + 1
  | (_, d) => uptoBulk d + 1
 end
def uptoSmall : (H : Type) → List (DataW H) → Bool := fun _ ds => decide (uptoBulkAll ds ≤ 1048576)
def OpenSpec.upto (s : _root_.Go.ChangeSpec) : _root_.Go.OpenSpec := { _root_.Go.OpenSpec.ofChange s with cond := some uptoSmall }

/-- 'copyholdlaw19.TxnCursor', WHERE WHAT IT READS IS OF BULK AT MOST 1048576: true; the input reads as it did. -/
def txnCursorUptoRow : OpenClaim := { program := "ytmgppcpmfmaghaagreatdoor", sum := "292f215db2df557649379cb3c845cfe00f994ae972a05f63225cf8c2d6e7b314", func := "copyhold/copyholdlaw19.TxnCursor", spec := "txnCursor", inPlace := ["slices.overlaps[int]", "maps.clone", "slices.overlaps[copyhold/api.Item]", "slices.overlaps[string]", "internal/reflectlite.ValueOf", "(internal/reflectlite.Value).Type", "(internal/reflectlite.Value).IsNil", "internal/reflectlite.TypeOf", "(internal/reflectlite.Value).Elem", "(internal/reflectlite.Value).Set"], unfollowed := true, recurses := true, named := ["errors.errorType"], apart := false, laid := [("errors.errorType", laid_errors_errorType)], narrowed := true }
def TxnCursorUptoSaid : Prop := txnCursorUptoRow.holds Tryz.pinned (OpenSpec.upto txnCursorSpec)

/-- 'copyholdlaw20.NestDepths', WHERE WHAT IT READS IS OF BULK AT MOST 1048576: true; the input reads as it did. -/
def nestDepthsUptoRow : OpenClaim := { program := "ytmgppcpmfmaghaagreatdoor", sum := "292f215db2df557649379cb3c845cfe00f994ae972a05f63225cf8c2d6e7b314", func := "copyhold/copyholdlaw20.NestDepths", spec := "nestDepths", inPlace := ["slices.overlaps[int]", "maps.clone", "slices.overlaps[copyhold/api.Item]", "slices.overlaps[string]", "internal/reflectlite.ValueOf", "(internal/reflectlite.Value).Type", "(internal/reflectlite.Value).IsNil", "internal/reflectlite.TypeOf", "(internal/reflectlite.Value).Elem", "(internal/reflectlite.Value).Set"], unfollowed := true, recurses := true, named := ["errors.errorType"], apart := false, laid := [("errors.errorType", laid_errors_errorType)], narrowed := true }
def NestDepthsUptoSaid : Prop := nestDepthsUptoRow.holds Tryz.pinned (OpenSpec.upto nestDepthsSpec)

/-- 'copyholdlaw21.FlushReuses', WHERE WHAT IT READS IS OF BULK AT MOST 1048576: true; the input reads as it did. -/
def flushReusesUptoRow : OpenClaim := { program := "ytmgppcpmfmaghaagreatdoor", sum := "292f215db2df557649379cb3c845cfe00f994ae972a05f63225cf8c2d6e7b314", func := "copyhold/copyholdlaw21.FlushReuses", spec := "flushReuses", inPlace := ["slices.overlaps[int]", "maps.clone", "slices.overlaps[copyhold/api.Item]", "slices.overlaps[string]", "internal/reflectlite.ValueOf", "(internal/reflectlite.Value).Type", "(internal/reflectlite.Value).IsNil", "internal/reflectlite.TypeOf", "(internal/reflectlite.Value).Elem", "(internal/reflectlite.Value).Set"], unfollowed := true, recurses := true, named := ["errors.errorType"], apart := false, laid := [("errors.errorType", laid_errors_errorType)], narrowed := true }
def FlushReusesUptoSaid : Prop := flushReusesUptoRow.holds Tryz.pinned (OpenSpec.upto flushReusesSpec)

/-- 'copyholdlaw23.CommitSteps', WHERE WHAT IT READS IS OF BULK AT MOST 1048576: true; the input reads as it did. -/
def commitStepsUptoRow : OpenClaim := { program := "ytmgppcpmfmaghaagreatdoor", sum := "292f215db2df557649379cb3c845cfe00f994ae972a05f63225cf8c2d6e7b314", func := "copyhold/copyholdlaw23.CommitSteps", spec := "commitSteps", inPlace := ["slices.overlaps[int]", "maps.clone", "slices.overlaps[copyhold/api.Item]", "slices.overlaps[string]", "internal/reflectlite.ValueOf", "(internal/reflectlite.Value).Type", "(internal/reflectlite.Value).IsNil", "internal/reflectlite.TypeOf", "(internal/reflectlite.Value).Elem", "(internal/reflectlite.Value).Set"], unfollowed := true, recurses := true, named := ["errors.errorType"], apart := false, laid := [("errors.errorType", laid_errors_errorType)], narrowed := true }
def CommitStepsUptoSaid : Prop := commitStepsUptoRow.holds Tryz.pinned (OpenSpec.upto commitStepsSpec)

/-- 'copyholdlaw23.CommitOrder', WHERE WHAT IT READS IS OF BULK AT MOST 1048576: true; the input reads as it did. -/
def commitOrderUptoRow : OpenClaim := { program := "ytmgppcpmfmaghaagreatdoor", sum := "292f215db2df557649379cb3c845cfe00f994ae972a05f63225cf8c2d6e7b314", func := "copyhold/copyholdlaw23.CommitOrder", spec := "commitOrder", inPlace := ["slices.overlaps[int]", "maps.clone", "slices.overlaps[copyhold/api.Item]", "slices.overlaps[string]", "internal/reflectlite.ValueOf", "(internal/reflectlite.Value).Type", "(internal/reflectlite.Value).IsNil", "internal/reflectlite.TypeOf", "(internal/reflectlite.Value).Elem", "(internal/reflectlite.Value).Set"], unfollowed := true, recurses := true, named := ["errors.errorType"], apart := false, laid := [("errors.errorType", laid_errors_errorType)], narrowed := true }
def CommitOrderUptoSaid : Prop := commitOrderUptoRow.holds Tryz.pinned (OpenSpec.upto commitOrderSpec)

/-- 'copyholdlaw23.AbortLeaves', WHERE WHAT IT READS IS OF BULK AT MOST 1048576: true; the input reads as it did. -/
def abortLeavesUptoRow : OpenClaim := { program := "ytmgppcpmfmaghaagreatdoor", sum := "292f215db2df557649379cb3c845cfe00f994ae972a05f63225cf8c2d6e7b314", func := "copyhold/copyholdlaw23.AbortLeaves", spec := "abortLeaves", inPlace := ["slices.overlaps[int]", "maps.clone", "slices.overlaps[copyhold/api.Item]", "slices.overlaps[string]", "internal/reflectlite.ValueOf", "(internal/reflectlite.Value).Type", "(internal/reflectlite.Value).IsNil", "internal/reflectlite.TypeOf", "(internal/reflectlite.Value).Elem", "(internal/reflectlite.Value).Set"], unfollowed := true, recurses := true, named := ["errors.errorType"], apart := false, laid := [("errors.errorType", laid_errors_errorType)], narrowed := true }
def AbortLeavesUptoSaid : Prop := abortLeavesUptoRow.holds Tryz.pinned (OpenSpec.upto abortLeavesSpec)

/-- 'copyholdlaw23.BeginWaits', WHERE WHAT IT READS IS OF BULK AT MOST 1048576: true; the input reads as it did. -/
def beginWaitsUptoRow : OpenClaim := { program := "ytmgppcpmfmaghaagreatdoor", sum := "292f215db2df557649379cb3c845cfe00f994ae972a05f63225cf8c2d6e7b314", func := "copyhold/copyholdlaw23.BeginWaits", spec := "beginWaits", inPlace := ["slices.overlaps[int]", "maps.clone", "slices.overlaps[copyhold/api.Item]", "slices.overlaps[string]", "internal/reflectlite.ValueOf", "(internal/reflectlite.Value).Type", "(internal/reflectlite.Value).IsNil", "internal/reflectlite.TypeOf", "(internal/reflectlite.Value).Elem", "(internal/reflectlite.Value).Set"], unfollowed := true, recurses := true, named := ["errors.errorType"], apart := false, laid := [("errors.errorType", laid_errors_errorType)], narrowed := true }
def BeginWaitsUptoSaid : Prop := beginWaitsUptoRow.holds Tryz.pinned (OpenSpec.upto beginWaitsSpec)

/-- 'copyholdlaw24.ProcStates', WHERE WHAT IT READS IS OF BULK AT MOST 1048576: true; the input reads as it did. -/
def procStatesUptoRow : OpenClaim := { program := "ytmgppcpmfmaghaagreatdoor", sum := "292f215db2df557649379cb3c845cfe00f994ae972a05f63225cf8c2d6e7b314", func := "copyhold/copyholdlaw24.ProcStates", spec := "procStates", inPlace := ["slices.overlaps[int]", "maps.clone", "slices.overlaps[copyhold/api.Item]", "slices.overlaps[string]", "internal/reflectlite.ValueOf", "(internal/reflectlite.Value).Type", "(internal/reflectlite.Value).IsNil", "internal/reflectlite.TypeOf", "(internal/reflectlite.Value).Elem", "(internal/reflectlite.Value).Set"], unfollowed := true, recurses := true, named := ["errors.errorType"], apart := false, laid := [("errors.errorType", laid_errors_errorType)], narrowed := true }
def ProcStatesUptoSaid : Prop := procStatesUptoRow.holds Tryz.pinned (OpenSpec.upto procStatesSpec)

/-- 'copyholdlaw24.ProcMaps', WHERE WHAT IT READS IS OF BULK AT MOST 1048576: true; the input reads as it did. -/
def procMapsUptoRow : OpenClaim := { program := "ytmgppcpmfmaghaagreatdoor", sum := "292f215db2df557649379cb3c845cfe00f994ae972a05f63225cf8c2d6e7b314", func := "copyhold/copyholdlaw24.ProcMaps", spec := "procMaps", inPlace := ["slices.overlaps[int]", "maps.clone", "slices.overlaps[copyhold/api.Item]", "slices.overlaps[string]", "internal/reflectlite.ValueOf", "(internal/reflectlite.Value).Type", "(internal/reflectlite.Value).IsNil", "internal/reflectlite.TypeOf", "(internal/reflectlite.Value).Elem", "(internal/reflectlite.Value).Set"], unfollowed := true, recurses := true, named := ["errors.errorType"], apart := false, laid := [("errors.errorType", laid_errors_errorType)], narrowed := true }
def ProcMapsUptoSaid : Prop := procMapsUptoRow.holds Tryz.pinned (OpenSpec.upto procMapsSpec)

/-- 'copyholdlaw24.ProcNests', WHERE WHAT IT READS IS OF BULK AT MOST 1048576: true; the input reads as it did. -/
def procNestsUptoRow : OpenClaim := { program := "ytmgppcpmfmaghaagreatdoor", sum := "292f215db2df557649379cb3c845cfe00f994ae972a05f63225cf8c2d6e7b314", func := "copyhold/copyholdlaw24.ProcNests", spec := "procNests", inPlace := ["slices.overlaps[int]", "maps.clone", "slices.overlaps[copyhold/api.Item]", "slices.overlaps[string]", "internal/reflectlite.ValueOf", "(internal/reflectlite.Value).Type", "(internal/reflectlite.Value).IsNil", "internal/reflectlite.TypeOf", "(internal/reflectlite.Value).Elem", "(internal/reflectlite.Value).Set"], unfollowed := true, recurses := true, named := ["errors.errorType"], apart := false, laid := [("errors.errorType", laid_errors_errorType)], narrowed := true }
def ProcNestsUptoSaid : Prop := procNestsUptoRow.holds Tryz.pinned (OpenSpec.upto procNestsSpec)

/-- 'copyholdlaw25.MachineMany', WHERE WHAT IT READS IS OF BULK AT MOST 1048576: true; the input reads as it did. -/
def machineManyUptoRow : OpenClaim := { program := "ytmgppcpmfmaghaagreatdoor", sum := "292f215db2df557649379cb3c845cfe00f994ae972a05f63225cf8c2d6e7b314", func := "copyhold/copyholdlaw25.MachineMany", spec := "machineMany", inPlace := ["slices.overlaps[int]", "maps.clone", "slices.overlaps[copyhold/api.Item]", "slices.overlaps[string]", "internal/reflectlite.ValueOf", "(internal/reflectlite.Value).Type", "(internal/reflectlite.Value).IsNil", "internal/reflectlite.TypeOf", "(internal/reflectlite.Value).Elem", "(internal/reflectlite.Value).Set"], unfollowed := true, recurses := true, named := ["errors.errorType"], apart := false, laid := [("errors.errorType", laid_errors_errorType)], narrowed := true }
def MachineManyUptoSaid : Prop := machineManyUptoRow.holds Tryz.pinned (OpenSpec.upto machineManySpec)

end Rows
end Go.Proofs.YtmgppcpmfmaghaaGreatDoor
