/-
  What the listed variables hold: the ground of the evaluator's runs of scripts.
-/
import Derived.Test.YtkcffdanhklphaaGreatDoorLaidS
import Derived.Test.YtkcffdanhklphaaGreatDoorLaidB
import Derived.Test.YtkcffdanhklphaaGreatDoorTvSA
import Derived.Lib.LaidTab
namespace Go.Proofs.YtkcffdanhklphaaGreatDoor
open Go.ChangeShapes Go.WideShapes Go.RowKit
theorem gEt : Tryz.prog.globalNamed "errors.errorType" = some 0 := by kernel_rfl
theorem gRt : (Tryz.prog.cutTypes.find? (·.1 == "internal/reflectlite.rtype")).map (·.2) = some 76 := by kernel_rfl
theorem gOneRow : ((List.range 607).filter fun t => Tryz.prog.rowNamed t [101, 114, 114, 111, 114]) = [37] := by kernel_rfl
theorem gSize : Tryz.prog.types.size = 607 := by kernel_rfl
theorem laidMet_tail {P : Program} {x : String × DataW Unit} {l : List (String × DataW Unit)} {W : World} (h : laidMet P (x :: l) W) : laidMet P l W := by
  obtain ⟨ps, ⟨g, t, cs, fuel, p, q, _, _, _, _, hq, rfl⟩, hn, hc⟩ := h
  refine ⟨q, hq, (List.nodup_append.1 hn).2.1, fun b off hm => hc b off (List.mem_append_right _ hm)⟩
theorem grounded_of {W : World} (h : laidMetH Tryz.prog laidListS W) : Go.Ev.Grounded (.tup 76 38654967845) W := by
  intro R E hRE
  injection hRE with h1 h2
  subst h1 h2
  have h' : laidMet Tryz.prog [("unicode/utf8.first", Rows.laid_unicode_utf8_first), ("unicode/utf8.acceptRanges", Rows.laid_unicode_utf8_acceptRanges), ("strconv.ErrSyntax", Rows.laid_strconv_ErrSyntax), ("strconv.ErrRange", Rows.laid_strconv_ErrRange), ("internal/strconv.uint64pow10", Rows.laid_internal_strconv_uint64pow10), ("math/bits.deBruijn32tab", Rows.laid_math_bits_deBruijn32tab), ("math/bits.deBruijn64tab", Rows.laid_math_bits_deBruijn64tab)] W ∧ handlesMet Tryz.prog [("errors.errorType", Rows.laid_errors_errorType)] W := h
  refine ⟨?_, fun _ => ?_⟩
  · show W.cell? ⟨0, 0, none⟩ = some (.iface 76 (.agg #[.pointer (some ⟨9, 37, none⟩)]))
    obtain ⟨name, u, ty, e1, e2, e3, e4, e5⟩ := h'.2 _ (List.mem_singleton.2 rfl)
    have en : name = [101, 114, 114, 111, 114] := (Option.some.inj e1).symm
    subst en
    obtain rfl := Option.some.inj (gRt.symm.trans e2)
    have hm : ty ∈ (List.range 607).filter fun t => Tryz.prog.rowNamed t [101, 114, 114, 111, 114] := List.mem_filter.2 ⟨List.mem_range.2 (by rw [← gSize]; exact e3), e4⟩
    rw [gOneRow] at hm
    obtain rfl := List.mem_singleton.1 hm
    have hh : typeHandle Tryz.prog 37 = .pointer (some ⟨9, 37, none⟩) := by kernel_rfl
    rw [hh] at e5
    simpa using World.var?_cell gEt e5 0
  · have h5 := laidMet_tail (laidMet_tail (laidMet_tail (laidMet_tail h'.1)))
    have ht : Lib.TabIs Tryz.prog W "internal/strconv.uint64pow10" .u64 Lib.pow10Tab :=
      Lib.tabIs_of_head (g := 4) (t := 353) (e := 90) (n := 20) Go.Ev.gPow (by kernel_rfl) (by kernel_rfl) Tryz.underlying90 (by kernel_rfl) (by kernel_rfl) h5
    unfold Lib.TabIs World.var? at ht
    rw [Go.Ev.gPow] at ht
    have ht : (match (W.heap[4]? : Option Go.Obj) with | some (Go.Obj.cells cs _ _) => some cs | _ => none) = some (Lib.pow10Tab.map fun z => Value.int .u64 z).toArray := ht
    split at ht
    · rename_i cs t fz hh
      refine ⟨t, fz, ?_⟩
      show W.heap[4]? = _
      rw [hh]
      have e := Option.some.inj ht
      have hp : Go.Ev.pow10A = (Lib.pow10Tab.map fun z => Value.int .u64 z).toArray := by
        unfold Go.Ev.pow10A Lib.pow10Tab
        rw [List.map_map]; rfl
      rw [hp, e]
    · cases ht
end Go.Proofs.YtkcffdanhklphaaGreatDoor
