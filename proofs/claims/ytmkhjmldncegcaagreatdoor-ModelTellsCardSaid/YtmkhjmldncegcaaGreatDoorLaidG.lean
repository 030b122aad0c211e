/-
  What the listed variable holds: the ground of the walks; what is kept is framed.
-/
import Derived.Test.YtmkhjmldncegcaaGreatDoorLaidB
import Derived.Test.YtmkhjmldncegcaaGreatDoorMC
namespace Go.Proofs.YtmkhjmldncegcaaGreatDoor
open Go.ChangeShapes Go.WideShapes Go.RowKit
theorem gEt : Tryz.prog.globalNamed "errors.errorType" = some 0 := by kernel_rfl
theorem gRt : (Tryz.prog.cutTypes.find? (·.1 == "internal/reflectlite.rtype")).map (·.2) = some 148 := by kernel_rfl
theorem gOneRow : ((List.range 223).filter fun t => Tryz.prog.rowNamed t [101, 114, 114, 111, 114]) = [68] := by kernel_rfl
theorem gSize : Tryz.prog.types.size = 223 := by kernel_rfl
theorem ground_of {W : World} (h : laidMetH Tryz.prog laidList W) : ErrType W := by
  show W.cell? ⟨0, 0, none⟩ = some (.iface 148 (.agg #[.pointer (some ⟨1, 68, none⟩)]))
  have h' : laidMet Tryz.prog [] W ∧ handlesMet Tryz.prog laidList W := h
  obtain ⟨name, u, ty, e1, e2, e3, e4, e5⟩ := h'.2 _ (List.mem_singleton.2 rfl)
  have en : name = [101, 114, 114, 111, 114] := (Option.some.inj e1).symm
  subst en
  obtain rfl := Option.some.inj (gRt.symm.trans e2)
  have hm : ty ∈ (List.range 223).filter fun t => Tryz.prog.rowNamed t [101, 114, 114, 111, 114] := List.mem_filter.2 ⟨List.mem_range.2 (by rw [← gSize]; exact e3), e4⟩
  rw [gOneRow] at hm
  obtain rfl := List.mem_singleton.1 hm
  have hh : typeHandle Tryz.prog 68 = .pointer (some ⟨1, 68, none⟩) := by kernel_rfl
  rw [hh] at e5
  simpa using World.var?_cell gEt e5 0
/-- Nothing that was there has changed. -/
theorem ext_frame {w w' : World} (h : Ext w w') (may : MemPlace → Prop) : w.keptBut w' may := by
  refine ⟨h.os, h.output, fun i hi => ?_⟩
  rw [h.block i hi]
  split <;> simp_all
end Go.Proofs.YtmkhjmldncegcaaGreatDoor
