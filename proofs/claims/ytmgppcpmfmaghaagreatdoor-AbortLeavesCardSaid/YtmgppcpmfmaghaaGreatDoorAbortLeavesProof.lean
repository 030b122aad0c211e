/-
  AbortLeaves, the tied card: for each rest of the arguments that counts the evaluator runs the program's code, and a theorem says that what it answers is what the program does.
-/
import Derived.Test.YtmgppcpmfmaghaaGreatDoorRows
import Derived.Test.YtmgppcpmfmaghaaGreatDoorTie
import Derived.Test.YtmgppcpmfmaghaaGreatDoorCards
import Derived.Test.YtmgppcpmfmaghaaGreatDoorEvSeat
import Derived.Test.YtmgppcpmfmaghaaGreatDoorAbortLeavesR0
import Derived.Test.YtmgppcpmfmaghaaGreatDoorAbortLeavesR1
import Derived.Test.YtmgppcpmfmaghaaGreatDoorAbortLeavesR2
import Derived.Test.YtmgppcpmfmaghaaGreatDoorAbortLeavesR3
import Derived.Test.YtmgppcpmfmaghaaGreatDoorAbortLeavesR4
import Derived.Test.YtmgppcpmfmaghaaGreatDoorLaid
import Derived.Test.YtmgppcpmfmaghaaGreatDoorLaidB
import Derived.Test.YtmgppcpmfmaghaaGreatDoorAbortLeavesClosed
import Derived.SevenTiedAt
import Derived.WalkKit
import Derived.ProofKit
import Derived.OpenShut
namespace Go.Proofs.YtmgppcpmfmaghaaGreatDoor.abortLeaves
open Go.ChangeShapes Go.WideShapes Go.ChangeAt Go.RowKit
set_option linter.unusedVariables false


/-! ### The walk: the evaluator's runs, one for each rest. -/
theorem runs (r0 : Nat) (h0 : r0 < 20) : Go.Ev.isTr (Go.Ev.runTop Go.Ev.XA (.str 0 0) 2000 8 Tryz.f8 (Go.Ev.argF1 (Go.Ev.restC r0 20))) = true := by
  match r0, h0 with
  | 0, _ => exact (congrArg (fun F => Go.Ev.isTr (Go.Ev.runTop Go.Ev.XA (.str 0 0) 2000 8 Tryz.f8 F)) (show Go.Ev.argF1 (Go.Ev.restC 0 20) = 647038720011615355101238394835089194531365162795299399939605296840704 from by decide +kernel)).trans Go.Ev.abortLeaves_0
  | 1, _ => exact (congrArg (fun F => Go.Ev.isTr (Go.Ev.runTop Go.Ev.XA (.str 0 0) 2000 8 Tryz.f8 F)) (show Go.Ev.argF1 (Go.Ev.restC 1 20) = 647038720011615355101238394835429476898286101258762774547037065052160 from by decide +kernel)).trans Go.Ev.abortLeaves_1
  | 2, _ => exact (congrArg (fun F => Go.Ev.isTr (Go.Ev.runTop Go.Ev.XA (.str 0 0) 2000 8 Tryz.f8 F)) (show Go.Ev.argF1 (Go.Ev.restC 2 20) = 647038720011615355101238394835769759265207039722226149154468833263616 from by decide +kernel)).trans Go.Ev.abortLeaves_2
  | 3, _ => exact (congrArg (fun F => Go.Ev.isTr (Go.Ev.runTop Go.Ev.XA (.str 0 0) 2000 8 Tryz.f8 F)) (show Go.Ev.argF1 (Go.Ev.restC 3 20) = 647038720011615355101238394836110041632127978185689523761900601475072 from by decide +kernel)).trans Go.Ev.abortLeaves_3
  | 4, _ => exact (congrArg (fun F => Go.Ev.isTr (Go.Ev.runTop Go.Ev.XA (.str 0 0) 2000 8 Tryz.f8 F)) (show Go.Ev.argF1 (Go.Ev.restC 4 20) = 647038720011615355101238394836450323999048916649152898369332369686528 from by decide +kernel)).trans Go.Ev.abortLeaves_4
  | 5, _ => exact (congrArg (fun F => Go.Ev.isTr (Go.Ev.runTop Go.Ev.XA (.str 0 0) 2000 8 Tryz.f8 F)) (show Go.Ev.argF1 (Go.Ev.restC 5 20) = 647038720011615355101238394836790606365969855112616272976764137897984 from by decide +kernel)).trans Go.Ev.abortLeaves_5
  | 6, _ => exact (congrArg (fun F => Go.Ev.isTr (Go.Ev.runTop Go.Ev.XA (.str 0 0) 2000 8 Tryz.f8 F)) (show Go.Ev.argF1 (Go.Ev.restC 6 20) = 647038720011615355101238394837130888732890793576079647584195906109440 from by decide +kernel)).trans Go.Ev.abortLeaves_6
  | 7, _ => exact (congrArg (fun F => Go.Ev.isTr (Go.Ev.runTop Go.Ev.XA (.str 0 0) 2000 8 Tryz.f8 F)) (show Go.Ev.argF1 (Go.Ev.restC 7 20) = 647038720011615355101238394837471171099811732039543022191627674320896 from by decide +kernel)).trans Go.Ev.abortLeaves_7
  | 8, _ => exact (congrArg (fun F => Go.Ev.isTr (Go.Ev.runTop Go.Ev.XA (.str 0 0) 2000 8 Tryz.f8 F)) (show Go.Ev.argF1 (Go.Ev.restC 8 20) = 647038720011615355101238394837811453466732670503006396799059442532352 from by decide +kernel)).trans Go.Ev.abortLeaves_8
  | 9, _ => exact (congrArg (fun F => Go.Ev.isTr (Go.Ev.runTop Go.Ev.XA (.str 0 0) 2000 8 Tryz.f8 F)) (show Go.Ev.argF1 (Go.Ev.restC 9 20) = 647038720011615355101238394838151735833653608966469771406491210743808 from by decide +kernel)).trans Go.Ev.abortLeaves_9
  | 10, _ => exact (congrArg (fun F => Go.Ev.isTr (Go.Ev.runTop Go.Ev.XA (.str 0 0) 2000 8 Tryz.f8 F)) (show Go.Ev.argF1 (Go.Ev.restC 10 20) = 647038720011615355101238394838492018200574547429933146013922978955264 from by decide +kernel)).trans Go.Ev.abortLeaves_10
  | 11, _ => exact (congrArg (fun F => Go.Ev.isTr (Go.Ev.runTop Go.Ev.XA (.str 0 0) 2000 8 Tryz.f8 F)) (show Go.Ev.argF1 (Go.Ev.restC 11 20) = 647038720011615355101238394838832300567495485893396520621354747166720 from by decide +kernel)).trans Go.Ev.abortLeaves_11
  | 12, _ => exact (congrArg (fun F => Go.Ev.isTr (Go.Ev.runTop Go.Ev.XA (.str 0 0) 2000 8 Tryz.f8 F)) (show Go.Ev.argF1 (Go.Ev.restC 12 20) = 647038720011615355101238394839172582934416424356859895228786515378176 from by decide +kernel)).trans Go.Ev.abortLeaves_12
  | 13, _ => exact (congrArg (fun F => Go.Ev.isTr (Go.Ev.runTop Go.Ev.XA (.str 0 0) 2000 8 Tryz.f8 F)) (show Go.Ev.argF1 (Go.Ev.restC 13 20) = 647038720011615355101238394839512865301337362820323269836218283589632 from by decide +kernel)).trans Go.Ev.abortLeaves_13
  | 14, _ => exact (congrArg (fun F => Go.Ev.isTr (Go.Ev.runTop Go.Ev.XA (.str 0 0) 2000 8 Tryz.f8 F)) (show Go.Ev.argF1 (Go.Ev.restC 14 20) = 647038720011615355101238394839853147668258301283786644443650051801088 from by decide +kernel)).trans Go.Ev.abortLeaves_14
  | 15, _ => exact (congrArg (fun F => Go.Ev.isTr (Go.Ev.runTop Go.Ev.XA (.str 0 0) 2000 8 Tryz.f8 F)) (show Go.Ev.argF1 (Go.Ev.restC 15 20) = 647038720011615355101238394840193430035179239747250019051081820012544 from by decide +kernel)).trans Go.Ev.abortLeaves_15
  | 16, _ => exact (congrArg (fun F => Go.Ev.isTr (Go.Ev.runTop Go.Ev.XA (.str 0 0) 2000 8 Tryz.f8 F)) (show Go.Ev.argF1 (Go.Ev.restC 16 20) = 647038720011615355101238394840533712402100178210713393658513588224000 from by decide +kernel)).trans Go.Ev.abortLeaves_16
  | 17, _ => exact (congrArg (fun F => Go.Ev.isTr (Go.Ev.runTop Go.Ev.XA (.str 0 0) 2000 8 Tryz.f8 F)) (show Go.Ev.argF1 (Go.Ev.restC 17 20) = 647038720011615355101238394840873994769021116674176768265945356435456 from by decide +kernel)).trans Go.Ev.abortLeaves_17
  | 18, _ => exact (congrArg (fun F => Go.Ev.isTr (Go.Ev.runTop Go.Ev.XA (.str 0 0) 2000 8 Tryz.f8 F)) (show Go.Ev.argF1 (Go.Ev.restC 18 20) = 647038720011615355101238394841214277135942055137640142873377124646912 from by decide +kernel)).trans Go.Ev.abortLeaves_18
  | 19, _ => exact (congrArg (fun F => Go.Ev.isTr (Go.Ev.runTop Go.Ev.XA (.str 0 0) 2000 8 Tryz.f8 F)) (show Go.Ev.argF1 (Go.Ev.restC 19 20) = 647038720011615355101238394841554559502862993601103517480808892858368 from by decide +kernel)).trans Go.Ev.abortLeaves_19
  | n + 20, h => exact absurd h (by omega)
theorem walk (a0 : Int) (w0 : (Lit.int .u8 a0).wf = true) (w : World) :
    Calls Tryz.prog 8 #[.int .u8 a0] w fun e w' => e = .returned (.bool true) ∧ Go.Ev.Kept w w' := by
  obtain ⟨x0, rfl, hx0⟩ := Go.Ev.u8_nat w0
  exact (Go.Ev.topN Tryz.func8 rfl (runs (x0 % 20) (Nat.mod_lt _ (by decide))) (Go.Ev.args1 (Go.Ev.restC_lt (Nat.lt_trans (Nat.mod_lt x0 (show 0 < 20 by decide)) (by decide)) (by decide)) (fun σ I => Go.Ev.restC_rel hx0 (by decide) (by decide))) w).mono fun e w' h => ⟨h.1, h.2⟩

/-! ### THE ROW's STEP: WRITTEN OUT: LEAVE IT -/
set_option maxRecDepth 100000 in
theorem lifted (os : Os) (started : os.Started) (H : Type) (enc : TypeId × Value → H) :
    ReturnsInHanded {} Tryz.checked os 8 .any (fun w args => (Rows.abortLeavesSpec.pre enc Tryz.prog Tryz.f8 [] false w args ∧ laidMetH Tryz.prog laidList w) ∧ sizedMet enc Tryz.prog Tryz.f8 (OpenSpec.ofChange Rows.abortLeavesSpec) false w args)
      (Rows.abortLeavesSpec.post enc Tryz.prog Tryz.f8 false true false false) := by
  refine returnsInHanded_of_change_and (C := Tryz.checked) (X := fun w _ => laidMetH Tryz.prog laidList w) (fun _ _ _ hh h => h.of_heap hh) ownKnobs started (by as_aux_lemma => kernel_rfl) Tryz.func8
    (ChangeSpec.witness_at (enc := enc) (C := Tryz.checked) (os := os) (X := fun w _ => laidMetH Tryz.prog laidList w) false (laidWorld os) #[.int .u8 0] 8 rfl (by as_aux_lemma => kernel_rfl) (by as_aux_lemma => kernel_rfl) (by as_aux_lemma => kernel_rfl) (by as_aux_lemma => kernel_rfl) (by as_aux_lemma => kernel_rfl) (laidWorld_met os _)) ?_
  intro W base args ds gs before hval0 hW _ _ hL _
  have hval : ∀ (j : Nat) t v, Tryz.f8.params[j]? = some t → args[j]? = some v → Value.okWide Tryz.prog W .any base t v := hval0
  have hW' := hW
  obtain ⟨p, q, hA0, hV, rfl, hfz, hnd⟩ := hW
  have hA : DataW.TrodAll enc Tryz.prog W 0 (fun _ => true) true Tryz.f8.params.toList args.toList ds p := hA0
  rw [Tryz.params8] at hA hval
  obtain ⟨v0, vs0, d0, ds0, p0, q0, hargs, rfl, rfl, h0, r0⟩ := trodAll_cons hA
  obtain ⟨rfl, rfl, rfl⟩ := trodAll_nil r0
  obtain rfl : args = #[v0] := by cases args; simp_all
  obtain ⟨rfl, rfl⟩ := trodVars_none hV
  obtain ⟨a0, rfl, rfl, rfl, w0⟩ := open_int Tryz.underlying5 (hval 0 5 v0 rfl rfl) h0
  clear hA0 hval0
  simp only [List.append_nil] at hW'
  refine (walk a0 w0 W).mono fun e W' ⟨he, hg⟩ => ?_
  subst he
  exact ⟨_, rfl, _, _, _, [], _, [], hW', trodAll_mk1 (shut_bool Tryz.underlying4 _), (trodAll_cons_mk (shut_int Tryz.underlying5 w0) trodAll_mk0), rfl, Go.Ev.Kept.frame hg _, fun h => by cases h⟩

theorem over : Rows.abortLeavesRow.holds Tryz.pinned (OpenSpec.ofChange Rows.abortLeavesSpec) :=
  OpenClaim.holds_of_wide 8 Tryz.f8 rfl rfl rfl rfl rfl rfl rfl ⟨rfl, rfl, rfl, rfl, rfl⟩ rfl rfl rfl rfl rfl (by as_aux_lemma => kernel_rfl) Tryz.func8 closed
    (of_decide_eq_true (by as_aux_lemma => kernel_rfl)) (by unfold Func.isWrapper; first | (rw [if_pos (by decide +kernel)]; kernel_rfl) | (rw [if_neg (by decide +kernel)]; exact ⟨rfl, rfl⟩))
    (fun os started H enc _ => lifted os started H enc)

/-- The card: the row, tied to the program's text. -/
theorem proved : Rows.AbortLeavesCardSaid :=
  Claim7.holds_tied_plain_at .later [] [.handle] true (true, "1e6ce98f84b5395230a13ba54d306d10c5f587fd047defce14bfd4dcfd346dbe") true
    over (fun _ h => by cases h) (by as_aux_lemma => kernel_rfl) (fun _ h => by cases h) abortLeaves_row_tie rfl ⟨rfl, rfl⟩ shMain rfl
    (fun f fn hf hfn => by
      obtain rfl : f = 8 := Option.some.inj ((show Tryz.prog.funcNamed Rows.abortLeavesRow.func = some 8 by as_aux_lemma => kernel_rfl).symm.trans hf) |>.symm
      obtain rfl : fn = Tryz.f8 := (Option.some.inj (Tryz.func8.symm.trans hfn)).symm
      exact ⟨shLooks, fun j t ht => by
        rw [Tryz.params8] at ht
        have h5 : t = 5 ∨ t = 4 := by
          rcases j with _ | _ | _ | j <;> simp at ht <;> first | exact .inl ht.symm | exact .inr ht.symm
        rcases h5 with rfl | rfl
        · exact shW5
        · exact shW4⟩)
    (by as_aux_lemma => kernel_rfl)
#print axioms proved
end Go.Proofs.YtmgppcpmfmaghaaGreatDoor.abortLeaves
