/-
  A run that answers true tells that the call returns true: the packages ahead of scripts.
-/
import Derived.Test.YtjadkekaellahaaGreatDoorJvSeat
set_option maxRecDepth 100000
noncomputable section
namespace Go.Ev
open Go.Proofs
theorem kr150 : isTr (runTop XB0 gG0 5000 15 Tryz.f15 0) = true := by decide +kernel
theorem known150 : TrueLaw Tryz.prog 15 178 38654705696 := trueLaw0_of Tryz.func15 (by decide +kernel) kr150
end Go.Ev
set_option maxRecDepth 100000
noncomputable section
namespace Go.Ev
open Go.Proofs
theorem kr180 : isTr (runTop XB0 gG0 5000 18 Tryz.f18 0) = true := by decide +kernel
theorem known180 : TrueLaw Tryz.prog 18 178 38654705696 := trueLaw0_of Tryz.func18 (by decide +kernel) kr180
end Go.Ev
set_option maxRecDepth 100000
noncomputable section
namespace Go.Ev
open Go.Proofs
theorem kr250 : isTr (runTop XB0 gG0 5000 25 Tryz.f25 0) = true := by decide +kernel
theorem known250 : TrueLaw Tryz.prog 25 178 38654705696 := trueLaw0_of Tryz.func25 (by decide +kernel) kr250
end Go.Ev
set_option maxRecDepth 100000
set_option linter.unusedVariables false
set_option linter.unusedSimpArgs false
noncomputable section
namespace Go.Ev
open Go.Proofs
theorem mainA0 {o : List (Nat × Nat)} {g c : Nat} {fn : Func} {F : Nat} {H : HT} {nx : Nat} (hg : Tryz.prog.funcs[g]? = some fn) (hf : Free H nx) (hc : (g, c) ∈ orcA0) : Tells (orc c fn (EO o) F H nx) (CalR (EO o) g F H nx) := by
  have hs : (g, c) ∈ orcB0 ∨ (g, c) ∈ [(15, 81064793359783503), (18, 81064793359783503), (25, 81064793359783503)] := List.mem_append.1 hc
  rcases hs with hs | hs
  · exact mainB0 hg hf hs
  · simp only [List.mem_cons, Prod.mk.injEq, List.not_mem_nil, or_false] at hs
    rcases hs with ⟨rfl, rfl⟩ | ⟨rfl, rfl⟩ | ⟨rfl, rfl⟩
    · exact oTrue_ok (R := 178) (E := 38654705696) known150 (enters_of Tryz.func15 (by kernel_rfl) rfl) hf
    · exact oTrue_ok (R := 178) (E := 38654705696) known180 (enters_of Tryz.func18 (by kernel_rfl) rfl) hf
    · exact oTrue_ok (R := 178) (E := 38654705696) known250 (enters_of Tryz.func25 (by kernel_rfl) rfl) hf
theorem orcA0_ok : OrcOk (EO orcA0) := fun g fn F H nx hg ho hf => mainA0 hg hf (orcAt_mem ho)
theorem fnsOkA0 : FnsOk (EO orcA0) := fnsOkE fun g h => Classical.byContradiction fun hn => by
  have hm := orcAt_mem hn
  generalize orcAt orcB g = c at hm
  simp only [orcB, List.mem_cons, Prod.mk.injEq, List.not_mem_nil, or_false] at hm
  rcases hm with ⟨rfl, _⟩ | ⟨rfl, _⟩ | ⟨rfl, _⟩ | ⟨rfl, _⟩ | ⟨rfl, _⟩ | ⟨rfl, _⟩ | ⟨rfl, _⟩ | ⟨rfl, _⟩ | ⟨rfl, _⟩ | ⟨rfl, _⟩ | ⟨rfl, _⟩ | ⟨rfl, _⟩ | ⟨rfl, _⟩ | ⟨rfl, _⟩ | ⟨rfl, _⟩ <;> exact absurd h (by decide +kernel)
theorem runOkA0 (n : Nat) : RunOk (EO orcA0) (Ev.runN n (EO orcA0)) := runOkE fnsOkA0 orcA0_ok n
theorem topA0 {n g F : Nat} {fn : Func} (hg : Tryz.prog.funcs[g]? = some fn) (ho : orcAt orcA0 g = 0) (hrun : isTr (runTop XA0 gG0 n g fn F) = true) {args : Array Value} (hA : ∀ σ I, ArgsR σ I F args) (w : World) (hG : Grounded gG0 w) :
    Calls Tryz.prog g args w fun e w' => e = .returned (.bool true) ∧ Kept w w' :=
  top (envE orcA0) sizeE fnsOkA0 orcA0_ok mixedE hg ho (show isImm gG0 from trivial) hrun hA w hG
end Go.Ev
