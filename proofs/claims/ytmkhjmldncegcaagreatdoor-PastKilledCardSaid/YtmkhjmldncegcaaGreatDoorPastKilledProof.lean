/-
  PastKilled, the tied card: the walk by contracts of the callees, and the plain law.
-/
import Derived.Test.YtmkhjmldncegcaaGreatDoorRows
import Derived.Test.YtmkhjmldncegcaaGreatDoorTie
import Derived.Test.YtmkhjmldncegcaaGreatDoorCards
import Derived.Test.YtmkhjmldncegcaaGreatDoorZKilW
import Derived.Test.YtmkhjmldncegcaaGreatDoorLaid
import Derived.Test.YtmkhjmldncegcaaGreatDoorLaidB
import Derived.Test.YtmkhjmldncegcaaGreatDoorLaidG
import Derived.Test.YtmkhjmldncegcaaGreatDoorPastKilledClosed
import Derived.SevenTiedAt
import Derived.WalkKit
import Derived.ProofKit
import Derived.OpenShut
namespace Go.Proofs.YtmkhjmldncegcaaGreatDoor.pastKilled
open Go.ChangeShapes Go.WideShapes Go.ChangeAt Go.RowKit
set_option linter.unusedVariables false


/-! ### The walk. -/
theorem walk (a0 : Bool) (a1 : Bool) (w : World) (hG : ErrType w) :
    Calls Tryz.prog 4 #[.bool a0, .bool a1] w fun e w' => e = .returned (.bool true) ∧ Ext w w' := by
  exact killed_any a0 a1 w hG

/-! ### THE ROW's STEP: WRITTEN OUT: LEAVE IT -/
set_option maxRecDepth 100000 in
theorem lifted (os : Os) (started : os.Started) (H : Type) (enc : TypeId × Value → H) :
    ReturnsInHanded {} Tryz.checked os 4 .any (fun w args => (Rows.pastKilledSpec.pre enc Tryz.prog Tryz.f4 [] false w args ∧ laidMetH Tryz.prog laidList w) ∧ sizedMet enc Tryz.prog Tryz.f4 (OpenSpec.ofChange Rows.pastKilledSpec) false w args)
      (Rows.pastKilledSpec.post enc Tryz.prog Tryz.f4 false true false false) := by
  refine returnsInHanded_of_change_and (C := Tryz.checked) (X := fun w _ => laidMetH Tryz.prog laidList w) (fun _ _ _ hh h => h.of_heap hh) ownKnobs started (by as_aux_lemma => kernel_rfl) Tryz.func4
    (ChangeSpec.witness_at (enc := enc) (C := Tryz.checked) (os := os) (X := fun w _ => laidMetH Tryz.prog laidList w) false (laidWorld os) #[.bool false, .bool false] 8 rfl (by as_aux_lemma => kernel_rfl) (by as_aux_lemma => kernel_rfl) (by as_aux_lemma => kernel_rfl) (by as_aux_lemma => kernel_rfl) (by as_aux_lemma => kernel_rfl) (laidWorld_met os _)) ?_
  intro W base args ds gs before hval0 hW _ _ hL _
  have hval : ∀ (j : Nat) t v, Tryz.f4.params[j]? = some t → args[j]? = some v → Value.okWide Tryz.prog W .any base t v := hval0
  have hW' := hW
  obtain ⟨p, q, hA0, hV, rfl, hfz, hnd⟩ := hW
  have hA : DataW.TrodAll enc Tryz.prog W 0 (fun _ => true) true Tryz.f4.params.toList args.toList ds p := hA0
  rw [Tryz.params4] at hA hval
  obtain ⟨v0, vs0, d0, ds0, p0, q0, hargs, rfl, rfl, h0, r0⟩ := trodAll_cons hA
  obtain ⟨v1, vs1, d1, ds1, p1, q1, rfl, rfl, rfl, h1, r1⟩ := trodAll_cons r0
  obtain ⟨rfl, rfl, rfl⟩ := trodAll_nil r1
  obtain rfl : args = #[v0, v1] := by cases args; simp_all
  obtain ⟨rfl, rfl⟩ := trodVars_none hV
  obtain ⟨a0, rfl, rfl, rfl⟩ := open_bool Tryz.underlying4 (hval 0 4 v0 rfl rfl) h0
  obtain ⟨a1, rfl, rfl, rfl⟩ := open_bool Tryz.underlying4 (hval 1 4 v1 rfl rfl) h1
  clear hA0 hval0
  simp only [List.append_nil] at hW'
  refine (walk a0 a1 W (ground_of hL)).mono fun e W' ⟨he, hg⟩ => ?_
  subst he
  exact ⟨_, rfl, _, _, _, [], _, [], hW', trodAll_mk1 (shut_bool Tryz.underlying4 _), (trodAll_cons_mk (shut_bool Tryz.underlying4 _) (trodAll_cons_mk (shut_bool Tryz.underlying4 _) trodAll_mk0)), rfl, ext_frame hg _, fun h => by cases h⟩

theorem over : Rows.pastKilledRow.holds Tryz.pinned (OpenSpec.ofChange Rows.pastKilledSpec) :=
  OpenClaim.holds_of_wide 4 Tryz.f4 rfl rfl rfl rfl rfl rfl rfl ⟨rfl, rfl, rfl, rfl, rfl⟩ rfl rfl rfl rfl rfl (by as_aux_lemma => kernel_rfl) Tryz.func4 closed
    (of_decide_eq_true (by as_aux_lemma => kernel_rfl)) (by unfold Func.isWrapper; first | (rw [if_pos (by decide +kernel)]; kernel_rfl) | (rw [if_neg (by decide +kernel)]; exact ⟨rfl, rfl⟩))
    (fun os started H enc _ => lifted os started H enc)

/-- The card: the row, tied to the program's text. -/
theorem proved : Rows.PastKilledCardSaid :=
  Claim7.holds_tied_plain_at .later [] [.handle] true (true, "b151471b0342d00081e149574d29fa3373edb97d26bce1c21920318f84ec8f49") true
    over (fun _ h => by cases h) (by as_aux_lemma => kernel_rfl) (fun _ h => by cases h) pastKilled_row_tie rfl ⟨rfl, rfl⟩ shMain rfl
    (fun f fn hf hfn => by
      obtain rfl : f = 4 := Option.some.inj ((show Tryz.prog.funcNamed Rows.pastKilledRow.func = some 4 by as_aux_lemma => kernel_rfl).symm.trans hf) |>.symm
      obtain rfl : fn = Tryz.f4 := (Option.some.inj (Tryz.func4.symm.trans hfn)).symm
      exact ⟨shLooks, fun j t ht => by
        rw [Tryz.params4] at ht
        have h5 : t = 4 := by
          rcases j with _ | _ | _ | j <;> simp at ht <;> (subst ht; simp)
        rcases h5 with rfl
        · exact shW4⟩)
    (by as_aux_lemma => kernel_rfl)
#print axioms proved
end Go.Proofs.YtmkhjmldncegcaaGreatDoor.pastKilled
