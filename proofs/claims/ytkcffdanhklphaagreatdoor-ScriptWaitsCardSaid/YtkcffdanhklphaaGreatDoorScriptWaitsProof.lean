/-
  ScriptWaits, the tied card: the statement is walked by hand, each line that is said to the script is a call that the evaluator has run ahead, and a theorem says that what it answers is what the program does.
-/
import Derived.Test.YtkcffdanhklphaaGreatDoorRows
import Derived.Test.YtkcffdanhklphaaGreatDoorTieS
import Derived.Test.YtkcffdanhklphaaGreatDoorCards
import Derived.Test.YtkcffdanhklphaaGreatDoorTvSA
import Derived.Test.YtkcffdanhklphaaGreatDoorTrWaitsW
import Derived.Test.YtkcffdanhklphaaGreatDoorLaid
import Derived.Test.YtkcffdanhklphaaGreatDoorLaidB
import Derived.Test.YtkcffdanhklphaaGreatDoorNoGo
import Derived.Test.YtkcffdanhklphaaGreatDoorLaidGS
import Derived.Test.YtkcffdanhklphaaGreatDoorScriptWaitsClosed
import Derived.SevenTiedAt
import Derived.WalkKit
import Derived.ProofKit
import Derived.OpenShut
namespace Go.Proofs.YtkcffdanhklphaaGreatDoor.scriptWaits
open Go.ChangeShapes Go.WideShapes Go.ChangeAt Go.RowKit
set_option linter.unusedVariables false


/-! ### The walk. -/
theorem walk (a0 : Int) (w0 : (Lit.int .u8 a0).wf = true) (w : World) (hG : Go.Ev.Grounded (.tup 76 38654967845) w) :
    Calls Tryz.prog 5 #[.int .u8 a0] w fun e w' => e = .returned (.bool true) ∧ Go.Ev.Kept w w' := by
  obtain ⟨x0, rfl, hx0⟩ := Go.Ev.u8_nat w0
  exact (walk_any (x0 : Int) (x0 % 4) rfl (Nat.mod_lt _ (by decide)) (by omega) (by omega) w hG).mono fun e w' h => ⟨h.1, h.2⟩

/-! ### THE ROW's STEP: WRITTEN OUT: LEAVE IT -/
set_option maxRecDepth 100000 in
theorem lifted (os : Os) (started : os.Started) (H : Type) (enc : TypeId × Value → H) :
    ReturnsInHanded {} Tryz.checked os 5 .any (fun w args => (Rows.scriptWaitsSpec.pre enc Tryz.prog Tryz.f5 [] false w args ∧ laidMetH Tryz.prog laidListS w) ∧ sizedMet enc Tryz.prog Tryz.f5 (OpenSpec.ofChange Rows.scriptWaitsSpec) false w args)
      (Rows.scriptWaitsSpec.post enc Tryz.prog Tryz.f5 false true false false) := by
  refine returnsInHanded_of_change_and (C := Tryz.checked) (X := fun w _ => laidMetH Tryz.prog laidListS w) (fun _ _ _ hh h => h.of_heap hh) ownKnobs started (by as_aux_lemma => kernel_rfl) Tryz.func5
    (ChangeSpec.witness_at (enc := enc) (C := Tryz.checked) (os := os) (X := fun w _ => laidMetH Tryz.prog laidListS w) false (laidWorldS os) #[.int .u8 0] 8 rfl (by as_aux_lemma => kernel_rfl) (by as_aux_lemma => kernel_rfl) (by as_aux_lemma => kernel_rfl) (by as_aux_lemma => kernel_rfl) (by as_aux_lemma => kernel_rfl) (laidWorldS_met os _)) ?_
  intro W base args ds gs before hval0 hW _ _ hL _
  have hval : ∀ (j : Nat) t v, Tryz.f5.params[j]? = some t → args[j]? = some v → Value.okWide Tryz.prog W .any base t v := hval0
  have hW' := hW
  obtain ⟨p, q, hA0, hV, rfl, hfz, hnd⟩ := hW
  have hA : DataW.TrodAll enc Tryz.prog W 0 (fun _ => true) true Tryz.f5.params.toList args.toList ds p := hA0
  rw [Tryz.params5] at hA hval
  obtain ⟨v0, vs0, d0, ds0, p0, q0, hargs, rfl, rfl, h0, r0⟩ := trodAll_cons hA
  obtain ⟨rfl, rfl, rfl⟩ := trodAll_nil r0
  obtain rfl : args = #[v0] := by cases args; simp_all
  obtain ⟨rfl, rfl⟩ := trodVars_none hV
  obtain ⟨a0, rfl, rfl, rfl, w0⟩ := open_int Tryz.underlying5 (hval 0 5 v0 rfl rfl) h0
  clear hA0 hval0
  simp only [List.append_nil] at hW'
  refine (walk a0 w0 W (grounded_of hL)).mono fun e W' ⟨he, hg⟩ => ?_
  subst he
  exact ⟨_, rfl, _, _, _, [], _, [], hW', trodAll_mk1 (shut_bool Tryz.underlying4 _), (trodAll_cons_mk (shut_int Tryz.underlying5 w0) trodAll_mk0), rfl, Go.Ev.Kept.frame hg _, fun h => by cases h⟩

theorem over : Rows.scriptWaitsRow.holds Tryz.pinned (OpenSpec.ofChange Rows.scriptWaitsSpec) :=
  OpenClaim.holds_of_wide 5 Tryz.f5 rfl rfl rfl rfl rfl rfl rfl ⟨rfl, rfl, rfl, rfl, rfl⟩ rfl rfl rfl rfl rfl (by as_aux_lemma => kernel_rfl) Tryz.func5 closed
    (of_decide_eq_true (by as_aux_lemma => kernel_rfl)) (by unfold Func.isWrapper; first | (rw [if_pos (by decide +kernel)]; kernel_rfl) | (rw [if_neg (by decide +kernel)]; exact ⟨rfl, rfl⟩))
    (fun os started H enc _ => lifted os started H enc)

/-- The card: the row, tied to the program's text. -/
theorem proved : Rows.ScriptWaitsCardSaid :=
  Claim7.holds_tied_plain_at .later [] [.pinned, .data, .sentinel, .sentinel, .data, .data, .data, .handle] true (true, "f959e9c62bb4732890d43b2abb2ef1f37abf397415d51f7dfa011202b37fe4f5") true
    over (fun _ h => by cases h) (by as_aux_lemma => kernel_rfl) (fun _ h => by cases h) scriptWaits_row_tie rfl ⟨rfl, rfl⟩ shMain rfl
    (fun f fn hf hfn => by
      obtain rfl : f = 5 := Option.some.inj ((show Tryz.prog.funcNamed Rows.scriptWaitsRow.func = some 5 by as_aux_lemma => kernel_rfl).symm.trans hf) |>.symm
      obtain rfl : fn = Tryz.f5 := (Option.some.inj (Tryz.func5.symm.trans hfn)).symm
      exact ⟨shLooks, fun j t ht => by
        rw [Tryz.params5] at ht
        have h5 : t = 5 ∨ t = 4 := by
          rcases j with _ | _ | _ | j <;> simp at ht <;> first | exact .inl ht.symm | exact .inr ht.symm
        rcases h5 with rfl | rfl
        · exact shW5
        · exact shW4⟩)
    (goesBy_none rfl)
#print axioms proved
end Go.Proofs.YtkcffdanhklphaaGreatDoor.scriptWaits
