/-
  A run that answers true tells that the call returns true.
-/
import Derived.Test.YtkcffdanhklphaaGreatDoorTvSeat
set_option maxRecDepth 100000
noncomputable section
namespace Go.Ev
open Go.Proofs
theorem kr11 : isTr (runTop XB gG 5000 11 Tryz.f11 0) = true := by decide +kernel
theorem known11 : TrueLaw Tryz.prog 11 76 38654967845 := trueLaw_of Tryz.func11 (by decide +kernel) kr11
end Go.Ev
set_option maxRecDepth 100000
set_option linter.unusedVariables false
set_option linter.unusedSimpArgs false
noncomputable section
namespace Go.Ev
open Go.Proofs
theorem mainA {o : List (Nat × Nat)} {g c : Nat} {fn : Func} {F : Nat} {H : HT} {nx : Nat} (hg : Tryz.prog.funcs[g]? = some fn) (hf : Free H nx) (hc : (g, c) ∈ orcA) : Tells (orc c fn (EO o) F H nx) (CalR (EO o) g F H nx) := by
  have hs : (g, c) ∈ orcB ∨ (g, c) ∈ [(11, 81065343126079887)] := List.mem_append.1 hc
  rcases hs with hs | hs
  · exact mainB hg hf hs
  · simp only [List.mem_cons, Prod.mk.injEq, List.not_mem_nil, or_false] at hs
    rcases hs with ⟨rfl, rfl⟩
    · exact oTrue_ok (R := 76) (E := 38654967845) known11 (enters_of Tryz.func11 (by kernel_rfl) rfl) hf
theorem orcA_ok : OrcOk (EO orcA) := fun g fn F H nx hg ho hf => mainA hg hf (orcAt_mem ho)
theorem fnsOkA : FnsOk (EO orcA) := fnsOkE fun g h => Classical.byContradiction fun hn => by
  have hm := orcAt_mem hn
  generalize orcAt orcB g = c at hm
  simp only [orcB, List.mem_cons, Prod.mk.injEq, List.not_mem_nil, or_false] at hm
  rcases hm with ⟨rfl, _⟩ | ⟨rfl, _⟩ | ⟨rfl, _⟩ | ⟨rfl, _⟩ | ⟨rfl, _⟩ | ⟨rfl, _⟩ | ⟨rfl, _⟩ | ⟨rfl, _⟩ | ⟨rfl, _⟩ | ⟨rfl, _⟩ | ⟨rfl, _⟩ | ⟨rfl, _⟩ | ⟨rfl, _⟩ | ⟨rfl, _⟩ | ⟨rfl, _⟩ | ⟨rfl, _⟩ | ⟨rfl, _⟩ | ⟨rfl, _⟩ | ⟨rfl, _⟩ | ⟨rfl, _⟩ | ⟨rfl, _⟩ <;> exact absurd h (by decide +kernel)
theorem runOkA (n : Nat) : RunOk (EO orcA) (Ev.runN n (EO orcA)) := runOkE fnsOkA orcA_ok n
theorem topA {n g F : Nat} {fn : Func} (hg : Tryz.prog.funcs[g]? = some fn) (ho : orcAt orcA g = 0) (hrun : isTr (runTop XA gG n g fn F) = true) {args : Array Value} (hA : ∀ σ I, ArgsR σ I F args) (w : World) (hG : Grounded gG w) :
    Calls Tryz.prog g args w fun e w' => e = .returned (.bool true) ∧ Kept w w' :=
  top (envE orcA) sizeE fnsOkA orcA_ok mixedE hg ho (show isImm gG from trivial) hrun hA w hG
end Go.Ev
