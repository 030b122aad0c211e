/-
  AuditSpoilt, the tied card: for each rest of the arguments that counts the evaluator runs the program's code, and a theorem says that what it answers is what the program does.
-/
import Derived.Test.YtfnjahmdfiapiaaGreatDoorRows
import Derived.Test.YtfnjahmdfiapiaaGreatDoorTie
import Derived.Test.YtfnjahmdfiapiaaGreatDoorCards
import Derived.Test.YtfnjahmdfiapiaaGreatDoorKvSA
import Derived.Test.YtfnjahmdfiapiaaGreatDoorAuditSpoiltW
import Derived.Test.YtfnjahmdfiapiaaGreatDoorLaid
import Derived.Test.YtfnjahmdfiapiaaGreatDoorLaidB
import Derived.Test.YtfnjahmdfiapiaaGreatDoorLaidG
import Derived.Test.YtfnjahmdfiapiaaGreatDoorAuditSpoiltClosed
import Derived.SevenTiedAt
import Derived.WalkKit
import Derived.ProofKit
import Derived.OpenShut
namespace Go.Proofs.YtfnjahmdfiapiaaGreatDoor.auditSpoilt
open Go.ChangeShapes Go.WideShapes Go.ChangeAt Go.RowKit
set_option linter.unusedVariables false


/-! ### The walk -/
theorem walk (a0 : Int) (a1 : Int) (w0 : (Lit.int .u8 a0).wf = true) (w1 : (Lit.int .u8 a1).wf = true) (w : World) (hG : Go.Ev.Grounded (.tup 316 4294967352) w) :
    Calls Tryz.prog 3 #[.int .u8 a0, .int .u8 a1] w fun e w' => e = .returned (.bool true) ∧ Go.Ev.Kept w w' := by
  obtain ⟨x0, rfl, hx0⟩ := Go.Ev.u8_nat w0
  obtain ⟨x1, rfl, hx1⟩ := Go.Ev.u8_nat w1
  exact Go.Ev.Spoil.walks hx0 hx1 w hG

/-! ### THE ROW's STEP: WRITTEN OUT: LEAVE IT -/
set_option maxRecDepth 100000 in
theorem lifted (os : Os) (started : os.Started) (H : Type) (enc : TypeId × Value → H) :
    ReturnsInHanded {} Tryz.checked os 3 .any (fun w args => (Rows.auditSpoiltSpec.pre enc Tryz.prog Tryz.f3 [] false w args ∧ laidMetH Tryz.prog laidList w) ∧ sizedMet enc Tryz.prog Tryz.f3 (OpenSpec.ofChange Rows.auditSpoiltSpec) false w args)
      (Rows.auditSpoiltSpec.post enc Tryz.prog Tryz.f3 false true false false) := by
  refine returnsInHanded_of_change_and (C := Tryz.checked) (X := fun w _ => laidMetH Tryz.prog laidList w) (fun _ _ _ hh h => h.of_heap hh) ownKnobs started (by as_aux_lemma => kernel_rfl) Tryz.func3
    (ChangeSpec.witness_at (enc := enc) (C := Tryz.checked) (os := os) (X := fun w _ => laidMetH Tryz.prog laidList w) false (laidWorld os) #[.int .u8 0, .int .u8 0] 8 rfl (by as_aux_lemma => kernel_rfl) (by as_aux_lemma => kernel_rfl) (by as_aux_lemma => kernel_rfl) (by as_aux_lemma => kernel_rfl) (by as_aux_lemma => kernel_rfl) (laidWorld_met os _)) ?_
  intro W base args ds gs before hval0 hW _ _ hL _
  have hval : ∀ (j : Nat) t v, Tryz.f3.params[j]? = some t → args[j]? = some v → Value.okWide Tryz.prog W .any base t v := hval0
  have hW' := hW
  obtain ⟨p, q, hA0, hV, rfl, hfz, hnd⟩ := hW
  have hA : DataW.TrodAll enc Tryz.prog W 0 (fun _ => true) true Tryz.f3.params.toList args.toList ds p := hA0
  rw [Tryz.params3] at hA hval
  obtain ⟨v0, vs0, d0, ds0, p0, q0, hargs, rfl, rfl, h0, r0⟩ := trodAll_cons hA
  obtain ⟨v1, vs1, d1, ds1, p1, q1, rfl, rfl, rfl, h1, r1⟩ := trodAll_cons r0
  obtain ⟨rfl, rfl, rfl⟩ := trodAll_nil r1
  obtain rfl : args = #[v0, v1] := by cases args; simp_all
  obtain ⟨rfl, rfl⟩ := trodVars_none hV
  obtain ⟨a0, rfl, rfl, rfl, w0⟩ := open_int Tryz.underlying5 (hval 0 5 v0 rfl rfl) h0
  obtain ⟨a1, rfl, rfl, rfl, w1⟩ := open_int Tryz.underlying5 (hval 1 5 v1 rfl rfl) h1
  clear hA0 hval0
  simp only [List.append_nil] at hW'
  refine (walk a0 a1 w0 w1 W (grounded_of hL)).mono fun e W' ⟨he, hg⟩ => ?_
  subst he
  exact ⟨_, rfl, _, _, _, [], _, [], hW', trodAll_mk1 (shut_bool Tryz.underlying4 _), (trodAll_cons_mk (shut_int Tryz.underlying5 w0) (trodAll_cons_mk (shut_int Tryz.underlying5 w1) trodAll_mk0)), rfl, Go.Ev.Kept.frame hg _, fun h => by cases h⟩

theorem over : Rows.auditSpoiltRow.holds Tryz.pinned (OpenSpec.ofChange Rows.auditSpoiltSpec) :=
  OpenClaim.holds_of_wide 3 Tryz.f3 rfl rfl rfl rfl rfl rfl rfl ⟨rfl, rfl, rfl, rfl, rfl⟩ rfl rfl rfl rfl rfl (by as_aux_lemma => kernel_rfl) Tryz.func3 closed
    (of_decide_eq_true (by as_aux_lemma => kernel_rfl)) (by unfold Func.isWrapper; first | (rw [if_pos (by decide +kernel)]; kernel_rfl) | (rw [if_neg (by decide +kernel)]; exact ⟨rfl, rfl⟩))
    (fun os started H enc _ => lifted os started H enc)

/-- The card: the row, tied to the program's text. -/
theorem proved : Rows.AuditSpoiltCardSaid :=
  Claim7.holds_tied_plain_at .later [] [.handle] true (true, "97792dcc3427a8ddf499adb917183d67b974cbae78075729e81287a6d679477f") true
    over (fun _ h => by cases h) (by as_aux_lemma => kernel_rfl) (fun _ h => by cases h) auditSpoilt_row_tie rfl ⟨rfl, rfl⟩ shMain rfl
    (fun f fn hf hfn => by
      obtain rfl : f = 3 := Option.some.inj ((show Tryz.prog.funcNamed Rows.auditSpoiltRow.func = some 3 by as_aux_lemma => kernel_rfl).symm.trans hf) |>.symm
      obtain rfl : fn = Tryz.f3 := (Option.some.inj (Tryz.func3.symm.trans hfn)).symm
      exact ⟨shLooks, fun j t ht => by
        rw [Tryz.params3] at ht
        have h5 : t = 5 ∨ t = 4 := by
          rcases j with _ | _ | _ | j <;> simp at ht <;> (subst ht; simp)
        rcases h5 with rfl | rfl
        · exact shW5
        · exact shW4⟩)
    (by as_aux_lemma => kernel_rfl)
#print axioms proved
end Go.Proofs.YtfnjahmdfiapiaaGreatDoor.auditSpoilt
