/-
  ScriptStates, the tied card: for each rest of the arguments that counts the evaluator runs the program's code, and a theorem says that what it answers is what the program does.
-/
import Derived.Test.YtpgpmhkafkeafaaGreatDoorRows
import Derived.Test.YtpgpmhkafkeafaaGreatDoorTieS
import Derived.Test.YtpgpmhkafkeafaaGreatDoorCards
import Derived.Test.YtpgpmhkafkeafaaGreatDoorMvSA
import Derived.Test.YtpgpmhkafkeafaaGreatDoorScriptStatesR0
import Derived.Test.YtpgpmhkafkeafaaGreatDoorScriptStatesR1
import Derived.Test.YtpgpmhkafkeafaaGreatDoorScriptStatesR2
import Derived.Test.YtpgpmhkafkeafaaGreatDoorScriptStatesR3
import Derived.Test.YtpgpmhkafkeafaaGreatDoorLaid
import Derived.Test.YtpgpmhkafkeafaaGreatDoorLaidB
import Derived.Test.YtpgpmhkafkeafaaGreatDoorNoGo
import Derived.Test.YtpgpmhkafkeafaaGreatDoorLaidGS
import Derived.Test.YtpgpmhkafkeafaaGreatDoorScriptStatesClosed
import Derived.SevenTiedAt
import Derived.WalkKit
import Derived.ProofKit
import Derived.OpenShut
namespace Go.Proofs.YtpgpmhkafkeafaaGreatDoor.scriptStates
open Go.ChangeShapes Go.WideShapes Go.ChangeAt Go.RowKit
set_option linter.unusedVariables false


/-! ### The walk: the evaluator's runs, one for each rest. -/
theorem runs (r0 : Nat) (h0 : r0 < 8) : Go.Ev.isTr (Go.Ev.runTop Go.Ev.XA (.tup 71 38654967840) 5000 3 Tryz.f3 (Go.Ev.argF1 (Go.Ev.restC r0 8))) = true := by
  match r0, h0 with
  | 0, _ => exact (congrArg (fun F => Go.Ev.isTr (Go.Ev.runTop Go.Ev.XA (.tup 71 38654967840) 5000 3 Tryz.f3 F)) (show Go.Ev.argF1 (Go.Ev.restC 0 8) = 647038720011615355083700375187118359512920944802704003703734106324992 from by decide +kernel)).trans Go.Ev.scriptStates_0
  | 1, _ => exact (congrArg (fun F => Go.Ev.isTr (Go.Ev.runTop Go.Ev.XA (.tup 71 38654967840) 5000 3 Tryz.f3 F)) (show Go.Ev.argF1 (Go.Ev.restC 1 8) = 647038720011615355083700375187458641879841883266167378311165874536448 from by decide +kernel)).trans Go.Ev.scriptStates_1
  | 2, _ => exact (congrArg (fun F => Go.Ev.isTr (Go.Ev.runTop Go.Ev.XA (.tup 71 38654967840) 5000 3 Tryz.f3 F)) (show Go.Ev.argF1 (Go.Ev.restC 2 8) = 647038720011615355083700375187798924246762821729630752918597642747904 from by decide +kernel)).trans Go.Ev.scriptStates_2
  | 3, _ => exact (congrArg (fun F => Go.Ev.isTr (Go.Ev.runTop Go.Ev.XA (.tup 71 38654967840) 5000 3 Tryz.f3 F)) (show Go.Ev.argF1 (Go.Ev.restC 3 8) = 647038720011615355083700375188139206613683760193094127526029410959360 from by decide +kernel)).trans Go.Ev.scriptStates_3
  | 4, _ => exact (congrArg (fun F => Go.Ev.isTr (Go.Ev.runTop Go.Ev.XA (.tup 71 38654967840) 5000 3 Tryz.f3 F)) (show Go.Ev.argF1 (Go.Ev.restC 4 8) = 647038720011615355083700375188479488980604698656557502133461179170816 from by decide +kernel)).trans Go.Ev.scriptStates_4
  | 5, _ => exact (congrArg (fun F => Go.Ev.isTr (Go.Ev.runTop Go.Ev.XA (.tup 71 38654967840) 5000 3 Tryz.f3 F)) (show Go.Ev.argF1 (Go.Ev.restC 5 8) = 647038720011615355083700375188819771347525637120020876740892947382272 from by decide +kernel)).trans Go.Ev.scriptStates_5
  | 6, _ => exact (congrArg (fun F => Go.Ev.isTr (Go.Ev.runTop Go.Ev.XA (.tup 71 38654967840) 5000 3 Tryz.f3 F)) (show Go.Ev.argF1 (Go.Ev.restC 6 8) = 647038720011615355083700375189160053714446575583484251348324715593728 from by decide +kernel)).trans Go.Ev.scriptStates_6
  | 7, _ => exact (congrArg (fun F => Go.Ev.isTr (Go.Ev.runTop Go.Ev.XA (.tup 71 38654967840) 5000 3 Tryz.f3 F)) (show Go.Ev.argF1 (Go.Ev.restC 7 8) = 647038720011615355083700375189500336081367514046947625955756483805184 from by decide +kernel)).trans Go.Ev.scriptStates_7
  | n + 8, h => exact absurd h (by omega)
theorem walk (a0 : Int) (w0 : (Lit.int .u8 a0).wf = true) (w : World) (hG : Go.Ev.Grounded (.tup 71 38654967840) w) :
    Calls Tryz.prog 3 #[.int .u8 a0] w fun e w' => e = .returned (.bool true) ∧ Go.Ev.Kept w w' := by
  obtain ⟨x0, rfl, hx0⟩ := Go.Ev.u8_nat w0
  exact (Go.Ev.topA Tryz.func3 (by decide +kernel) (runs (x0 % 8) (Nat.mod_lt _ (by decide))) (Go.Ev.args1 (Go.Ev.restC_lt (Nat.lt_trans (Nat.mod_lt x0 (show 0 < 8 by decide)) (by decide)) (by decide)) (fun σ I => Go.Ev.restC_rel hx0 (by decide) (by decide))) w hG).mono fun e w' h => ⟨h.1, h.2⟩

/-! ### THE ROW's STEP: WRITTEN OUT: LEAVE IT -/
set_option maxRecDepth 100000 in
theorem lifted (os : Os) (started : os.Started) (H : Type) (enc : TypeId × Value → H) :
    ReturnsInHanded {} Tryz.checked os 3 .any (fun w args => (Rows.scriptStatesSpec.pre enc Tryz.prog Tryz.f3 [] false w args ∧ laidMetH Tryz.prog laidListS w) ∧ sizedMet enc Tryz.prog Tryz.f3 (OpenSpec.ofChange Rows.scriptStatesSpec) false w args)
      (Rows.scriptStatesSpec.post enc Tryz.prog Tryz.f3 false true false false) := by
  refine returnsInHanded_of_change_and (C := Tryz.checked) (X := fun w _ => laidMetH Tryz.prog laidListS w) (fun _ _ _ hh h => h.of_heap hh) ownKnobs started (by as_aux_lemma => kernel_rfl) Tryz.func3
    (ChangeSpec.witness_at (enc := enc) (C := Tryz.checked) (os := os) (X := fun w _ => laidMetH Tryz.prog laidListS w) false (laidWorldS os) #[.int .u8 0] 8 rfl (by as_aux_lemma => kernel_rfl) (by as_aux_lemma => kernel_rfl) (by as_aux_lemma => kernel_rfl) (by as_aux_lemma => kernel_rfl) (by as_aux_lemma => kernel_rfl) (laidWorldS_met os _)) ?_
  intro W base args ds gs before hval0 hW _ _ hL _
  have hval : ∀ (j : Nat) t v, Tryz.f3.params[j]? = some t → args[j]? = some v → Value.okWide Tryz.prog W .any base t v := hval0
  have hW' := hW
  obtain ⟨p, q, hA0, hV, rfl, hfz, hnd⟩ := hW
  have hA : DataW.TrodAll enc Tryz.prog W 0 (fun _ => true) true Tryz.f3.params.toList args.toList ds p := hA0
  rw [Tryz.params3] at hA hval
  obtain ⟨v0, vs0, d0, ds0, p0, q0, hargs, rfl, rfl, h0, r0⟩ := trodAll_cons hA
  obtain ⟨rfl, rfl, rfl⟩ := trodAll_nil r0
  obtain rfl : args = #[v0] := by cases args; simp_all
  obtain ⟨rfl, rfl⟩ := trodVars_none hV
  obtain ⟨a0, rfl, rfl, rfl, w0⟩ := open_int Tryz.underlying5 (hval 0 5 v0 rfl rfl) h0
  clear hA0 hval0
  simp only [List.append_nil] at hW'
  refine (walk a0 w0 W (grounded_of hL)).mono fun e W' ⟨he, hg⟩ => ?_
  subst he
  exact ⟨_, rfl, _, _, _, [], _, [], hW', trodAll_mk1 (shut_bool Tryz.underlying4 _), (trodAll_cons_mk (shut_int Tryz.underlying5 w0) trodAll_mk0), rfl, Go.Ev.Kept.frame hg _, fun h => by cases h⟩

theorem over : Rows.scriptStatesRow.holds Tryz.pinned (OpenSpec.ofChange Rows.scriptStatesSpec) :=
  OpenClaim.holds_of_wide 3 Tryz.f3 rfl rfl rfl rfl rfl rfl rfl ⟨rfl, rfl, rfl, rfl, rfl⟩ rfl rfl rfl rfl rfl (by as_aux_lemma => kernel_rfl) Tryz.func3 closed
    (of_decide_eq_true (by as_aux_lemma => kernel_rfl)) (by unfold Func.isWrapper; first | (rw [if_pos (by decide +kernel)]; kernel_rfl) | (rw [if_neg (by decide +kernel)]; exact ⟨rfl, rfl⟩))
    (fun os started H enc _ => lifted os started H enc)

/-- The card: the row, tied to the program's text. -/
theorem proved : Rows.ScriptStatesCardSaid :=
  Claim7.holds_tied_plain_at .later [] [.pinned, .data, .sentinel, .sentinel, .data, .data, .data, .handle] true (true, "cce803422091bc5cc5e3af1800d922acaf42bb3559c8932be83c452a0e488ee3") true
    over (fun _ h => by cases h) (by as_aux_lemma => kernel_rfl) (fun _ h => by cases h) scriptStates_row_tie rfl ⟨rfl, rfl⟩ shMain rfl
    (fun f fn hf hfn => by
      obtain rfl : f = 3 := Option.some.inj ((show Tryz.prog.funcNamed Rows.scriptStatesRow.func = some 3 by as_aux_lemma => kernel_rfl).symm.trans hf) |>.symm
      obtain rfl : fn = Tryz.f3 := (Option.some.inj (Tryz.func3.symm.trans hfn)).symm
      exact ⟨shLooks, fun j t ht => by
        rw [Tryz.params3] at ht
        have h5 : t = 5 ∨ t = 4 := by
          rcases j with _ | _ | _ | j <;> simp at ht <;> first | exact .inl ht.symm | exact .inr ht.symm
        rcases h5 with rfl | rfl
        · exact shW5
        · exact shW4⟩)
    (goesBy_none rfl)
#print axioms proved
end Go.Proofs.YtpgpmhkafkeafaaGreatDoor.scriptStates
