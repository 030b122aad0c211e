/-
  A run that answers true tells that the call returns true.
-/
import Derived.Test.YtgjnadligocdkaaGreatDoorSvSeat
set_option maxRecDepth 100000
noncomputable section
namespace Go.Ev
open Go.Proofs
theorem kr4 : isTr (runTop XB gG 5000 4 Tryz.f4 0) = true := by decide +kernel
theorem known4 : TrueLaw Tryz.prog 4 220 4294967342 := trueLaw_of Tryz.func4 (by decide +kernel) kr4
end Go.Ev
set_option maxRecDepth 100000
set_option linter.unusedVariables false
set_option linter.unusedSimpArgs false
noncomputable section
namespace Go.Ev
open Go.Proofs
theorem mainA {o : List (Nat × Nat)} {g c : Nat} {fn : Func} {F : Nat} {H : HT} {nx : Nat} (hg : Tryz.prog.funcs[g]? = some fn) (hf : Free H nx) (hc : (g, c) ∈ orcA) : Tells (orc c fn (EO o) F H nx) (CalR (EO o) g F H nx) := by
  have hs : (g, c) ∈ orcB ∨ (g, c) ∈ [(4, 9007199351217039)] := List.mem_append.1 hc
  rcases hs with hs | hs
  · exact mainB hg hf hs
  · simp only [List.mem_cons, Prod.mk.injEq, List.not_mem_nil, or_false] at hs
    rcases hs with ⟨rfl, rfl⟩
    · exact oTrue_ok (R := 220) (E := 4294967342) known4 (enters_of Tryz.func4 (by kernel_rfl) rfl) hf
theorem orcA_ok : OrcOk (EO orcA) := fun g fn F H nx hg ho hf => mainA hg hf (orcAt_mem ho)
theorem fnsOkA : FnsOk (EO orcA) := fnsOkE fun g h => Classical.byContradiction fun hn => by
  have hm := orcAt_mem hn
  generalize orcAt orcB g = c at hm
  simp only [orcB, List.mem_cons, Prod.mk.injEq, List.not_mem_nil, or_false] at hm
  rcases hm with ⟨rfl, _⟩ | ⟨rfl, _⟩ | ⟨rfl, _⟩ | ⟨rfl, _⟩ | ⟨rfl, _⟩ | ⟨rfl, _⟩ | ⟨rfl, _⟩ | ⟨rfl, _⟩ | ⟨rfl, _⟩ | ⟨rfl, _⟩ <;> exact absurd h (by decide +kernel)
end Go.Ev
