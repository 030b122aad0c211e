/-
  What the listed variable holds: the ground of the evaluator's run.
-/
import Derived.Test.YtgjnadligocdkaaGreatDoorLaidB
import Derived.Test.YtgjnadligocdkaaGreatDoorSvSA
namespace Go.Proofs.YtgjnadligocdkaaGreatDoor
open Go.ChangeShapes Go.WideShapes Go.RowKit
theorem gEt : Tryz.prog.globalNamed "errors.errorType" = some 0 := by kernel_rfl
theorem gRt : (Tryz.prog.cutTypes.find? (·.1 == "internal/reflectlite.rtype")).map (·.2) = some 220 := by kernel_rfl
theorem gOneRow : ((List.range 413).filter fun t => Tryz.prog.rowNamed t [101, 114, 114, 111, 114]) = [46] := by kernel_rfl
theorem gSize : Tryz.prog.types.size = 413 := by kernel_rfl
theorem grounded_of {W : World} (h : laidMetH Tryz.prog laidList W) : Go.Ev.Grounded (.tup 220 4294967342) W := by
  intro R E hRE
  injection hRE with h1 h2
  subst h1 h2
  refine ⟨?_, fun h0 => absurd (by decide +kernel) h0⟩
  show W.cell? ⟨0, 0, none⟩ = some (.iface 220 (.agg #[.pointer (some ⟨1, 46, none⟩)]))
  have h' : laidMet Tryz.prog [] W ∧ handlesMet Tryz.prog laidList W := h
  obtain ⟨name, u, ty, e1, e2, e3, e4, e5⟩ := h'.2 _ (List.mem_singleton.2 rfl)
  have en : name = [101, 114, 114, 111, 114] := (Option.some.inj e1).symm
  subst en
  obtain rfl := Option.some.inj (gRt.symm.trans e2)
  have hm : ty ∈ (List.range 413).filter fun t => Tryz.prog.rowNamed t [101, 114, 114, 111, 114] := List.mem_filter.2 ⟨List.mem_range.2 (by rw [← gSize]; exact e3), e4⟩
  rw [gOneRow] at hm
  obtain rfl := List.mem_singleton.1 hm
  have hh : typeHandle Tryz.prog 46 = .pointer (some ⟨1, 46, none⟩) := by kernel_rfl
  rw [hh] at e5
  simpa using World.var?_cell gEt e5 0
end Go.Proofs.YtgjnadligocdkaaGreatDoor
