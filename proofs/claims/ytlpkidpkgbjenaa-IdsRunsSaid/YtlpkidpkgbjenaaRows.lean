/-
  No cell of these rows narrows 'for every input' (looked for: loops, veiled, ifaces, maps, wideKeys, modest, calm, conditions, laid).
  DERIVED. THE GIVEN ROWS OF THIS SEAT. 4 by the template 'for every input the law returns true; each argument reads behind the call as it read before'; 0 by the template 'total and deterministic' (their statements: YtlpkidpkgbjenaaTotals.lean).
  GIVEN WITH THE SEED: the statements are not yours to turn. If you find one false, say at which input.
  Laid BY PROGRAM, IN A SANDBOX (cutbox-rows.mjs): the forced cells as the released guide's own fill.sh prints them over the translation 40fe96075dc99ac5… (all of the seat's roots in one cut). By AI agents, Wed Nov 11 2026. No macro, syntax, notation, axiom, sorry.
-/
import Derived.Test.YtlpkidpkgbjenaaChecked
import GoSem.Claim
import GoSem.ClaimJoined
import GoSem.ClaimMapViews
import Derived.JoinedTies
import Derived.KernelRfl
namespace Go.Proofs.Ytlpkidpkgbjenaa
/- THE CELL 'sum', in the pinned program and in every row, IS THE sha256 OF THE DUMP (.gsa) THAT YtlpkidpkgbjenaaProg.lean LOADS. Nothing in Lean hashes anything: it is a label: what it is worth is what the hold of that sum in a sandbox is worth. -/
noncomputable def Try.pinned : Pinned := { name := "ytlpkidpkgbjenaa", sum := "40fe96075dc99ac560184e5a2dd90fb2bbcf17983d62477fb1681a1db73afff5", checked := Try.checked }
namespace Rows
def none {H : Type} : Left H := { results := [], args := [] }

/-- 'copyholdlaw7.IdsTells': WHATEVER THE INPUT: true; the input reads as it did. -/
def idsTellsSpec : ChangeSpec := { name := "idsTells", fn := fun _ => fun
  | [d1, d2, d3, d4, d5] => { results := [.lit (.bool true)], args := [d1, d2, d3, d4, d5] }
  | _ => none }
def idsTellsRow : OpenClaim := { program := "ytlpkidpkgbjenaa", sum := "40fe96075dc99ac560184e5a2dd90fb2bbcf17983d62477fb1681a1db73afff5", func := "copyhold/copyholdlaw7.IdsTells", spec := "idsTells", inPlace := ["slices.overlaps[int]"], unfollowed := true, recurses := true, apart := false }
def IdsTellsSaid : Prop := idsTellsRow.holds Try.pinned (OpenSpec.ofChange idsTellsSpec)

/-- ITS FALSE NEIGHBOUR: 'it returns false'. Refute it at one input. -/
def idsTellsWrong : ChangeSpec := { name := "idsTells", fn := fun _ => fun
  | [d1, d2, d3, d4, d5] => { results := [.lit (.bool false)], args := [d1, d2, d3, d4, d5] }
  | _ => none }
def IdsTellsWrongFalsely : Prop := idsTellsRow.holds Try.pinned (OpenSpec.ofChange idsTellsWrong)

/-- 'copyholdlaw7.IdsRuns': WHATEVER THE INPUT: true; the input reads as it did. -/
def idsRunsSpec : ChangeSpec := { name := "idsRuns", fn := fun _ => fun
  | [d1, d2] => { results := [.lit (.bool true)], args := [d1, d2] }
  | _ => none }
def idsRunsRow : OpenClaim := { program := "ytlpkidpkgbjenaa", sum := "40fe96075dc99ac560184e5a2dd90fb2bbcf17983d62477fb1681a1db73afff5", func := "copyhold/copyholdlaw7.IdsRuns", spec := "idsRuns", inPlace := ["slices.overlaps[int]"], unfollowed := true, recurses := true, apart := false }
def IdsRunsSaid : Prop := idsRunsRow.holds Try.pinned (OpenSpec.ofChange idsRunsSpec)

/-- ITS FALSE NEIGHBOUR: 'it returns false'. Refute it at one input. -/
def idsRunsWrong : ChangeSpec := { name := "idsRuns", fn := fun _ => fun
  | [d1, d2] => { results := [.lit (.bool false)], args := [d1, d2] }
  | _ => none }
def IdsRunsWrongFalsely : Prop := idsRunsRow.holds Try.pinned (OpenSpec.ofChange idsRunsWrong)

/-- 'copyholdlaw7.IdsSets': WHATEVER THE INPUT: true; the input reads as it did. -/
def idsSetsSpec : ChangeSpec := { name := "idsSets", fn := fun _ => fun
  | [d1, d2, d3] => { results := [.lit (.bool true)], args := [d1, d2, d3] }
  | _ => none }
def idsSetsRow : OpenClaim := { program := "ytlpkidpkgbjenaa", sum := "40fe96075dc99ac560184e5a2dd90fb2bbcf17983d62477fb1681a1db73afff5", func := "copyhold/copyholdlaw7.IdsSets", spec := "idsSets", inPlace := ["slices.overlaps[int]"], unfollowed := true, recurses := true, apart := false }
def IdsSetsSaid : Prop := idsSetsRow.holds Try.pinned (OpenSpec.ofChange idsSetsSpec)

/-- ITS FALSE NEIGHBOUR: 'it returns false'. Refute it at one input. -/
def idsSetsWrong : ChangeSpec := { name := "idsSets", fn := fun _ => fun
  | [d1, d2, d3] => { results := [.lit (.bool false)], args := [d1, d2, d3] }
  | _ => none }
def IdsSetsWrongFalsely : Prop := idsSetsRow.holds Try.pinned (OpenSpec.ofChange idsSetsWrong)

/-- 'copyholdlaw7.IdsDrops': WHATEVER THE INPUT: true; the input reads as it did. -/
def idsDropsSpec : ChangeSpec := { name := "idsDrops", fn := fun _ => fun
  | [d1, d2, d3] => { results := [.lit (.bool true)], args := [d1, d2, d3] }
  | _ => none }
def idsDropsRow : OpenClaim := { program := "ytlpkidpkgbjenaa", sum := "40fe96075dc99ac560184e5a2dd90fb2bbcf17983d62477fb1681a1db73afff5", func := "copyhold/copyholdlaw7.IdsDrops", spec := "idsDrops", inPlace := ["slices.overlaps[int]"], unfollowed := true, recurses := true, apart := false }
def IdsDropsSaid : Prop := idsDropsRow.holds Try.pinned (OpenSpec.ofChange idsDropsSpec)

/-- ITS FALSE NEIGHBOUR: 'it returns false'. Refute it at one input. -/
def idsDropsWrong : ChangeSpec := { name := "idsDrops", fn := fun _ => fun
  | [d1, d2, d3] => { results := [.lit (.bool false)], args := [d1, d2, d3] }
  | _ => none }
def IdsDropsWrongFalsely : Prop := idsDropsRow.holds Try.pinned (OpenSpec.ofChange idsDropsWrong)

/- THE SECOND FORM. 'bulk': how many values and letters a reading holds, each counted each time it is reached (what is shared counts as often as it is met; a slice's spare places count too). A statement '..UptoSaid' is the law's where the arguments, and the package variables that the reading takes, are together of bulk at most 1048576: NARROWER than '..Said'. Prove '..Said' where nothing that the law and all that it calls make is longer than what came in: it says more and counts as full. Else prove '..UptoSaid'. A law counts once. -/
mutual
def uptoBulk {H : Type} : DataW H → Nat
  | .lit (.string bytes) => bytes.length + 1
  | .lit _ => 1
  | .nil => 1
  | .ptr d => uptoBulk d + 1
  | .slice elems spare => uptoBulkAll elems + uptoBulkAll spare + 1
  | .agg parts => uptoBulkAll parts + 1
  | .iface _ d => uptoBulk d + 1
  | .map entries => uptoBulkEntries entries + 1
  | .held _ => 1
def uptoBulkAll {H : Type} : List (DataW H) → Nat
  | [] => 0
  | d :: r => uptoBulk d + uptoBulkAll r
def uptoBulkEntries {H : Type} : List (Lit × DataW H) → Nat
  | [] => 0
  | x :: r => uptoBulkEntry x + uptoBulkEntries r
def uptoBulkEntry {H : Type} : Lit × DataW H → Nat
  | (.string bytes, d) => bytes.length + uptoBulk d + 1
  | (_, d) => uptoBulk d + 1
 end
def uptoSmall : (H : Type) → List (DataW H) → Bool := fun _ ds => decide (uptoBulkAll ds ≤ 1048576)
def OpenSpec.upto (s : _root_.Go.ChangeSpec) : _root_.Go.OpenSpec := { _root_.Go.OpenSpec.ofChange s with cond := some uptoSmall }

/-- 'copyholdlaw7.IdsTells', WHERE WHAT IT READS IS OF BULK AT MOST 1048576: true; the input reads as it did. -/
def idsTellsUptoRow : OpenClaim := { program := "ytlpkidpkgbjenaa", sum := "40fe96075dc99ac560184e5a2dd90fb2bbcf17983d62477fb1681a1db73afff5", func := "copyhold/copyholdlaw7.IdsTells", spec := "idsTells", inPlace := ["slices.overlaps[int]"], unfollowed := true, recurses := true, apart := false, narrowed := true }
def IdsTellsUptoSaid : Prop := idsTellsUptoRow.holds Try.pinned (OpenSpec.upto idsTellsSpec)

/-- 'copyholdlaw7.IdsRuns', WHERE WHAT IT READS IS OF BULK AT MOST 1048576: true; the input reads as it did. -/
def idsRunsUptoRow : OpenClaim := { program := "ytlpkidpkgbjenaa", sum := "40fe96075dc99ac560184e5a2dd90fb2bbcf17983d62477fb1681a1db73afff5", func := "copyhold/copyholdlaw7.IdsRuns", spec := "idsRuns", inPlace := ["slices.overlaps[int]"], unfollowed := true, recurses := true, apart := false, narrowed := true }
def IdsRunsUptoSaid : Prop := idsRunsUptoRow.holds Try.pinned (OpenSpec.upto idsRunsSpec)

/-- 'copyholdlaw7.IdsSets', WHERE WHAT IT READS IS OF BULK AT MOST 1048576: true; the input reads as it did. -/
def idsSetsUptoRow : OpenClaim := { program := "ytlpkidpkgbjenaa", sum := "40fe96075dc99ac560184e5a2dd90fb2bbcf17983d62477fb1681a1db73afff5", func := "copyhold/copyholdlaw7.IdsSets", spec := "idsSets", inPlace := ["slices.overlaps[int]"], unfollowed := true, recurses := true, apart := false, narrowed := true }
def IdsSetsUptoSaid : Prop := idsSetsUptoRow.holds Try.pinned (OpenSpec.upto idsSetsSpec)

/-- 'copyholdlaw7.IdsDrops', WHERE WHAT IT READS IS OF BULK AT MOST 1048576: true; the input reads as it did. -/
def idsDropsUptoRow : OpenClaim := { program := "ytlpkidpkgbjenaa", sum := "40fe96075dc99ac560184e5a2dd90fb2bbcf17983d62477fb1681a1db73afff5", func := "copyhold/copyholdlaw7.IdsDrops", spec := "idsDrops", inPlace := ["slices.overlaps[int]"], unfollowed := true, recurses := true, apart := false, narrowed := true }
def IdsDropsUptoSaid : Prop := idsDropsUptoRow.holds Try.pinned (OpenSpec.upto idsDropsSpec)

end Rows
end Go.Proofs.Ytlpkidpkgbjenaa
