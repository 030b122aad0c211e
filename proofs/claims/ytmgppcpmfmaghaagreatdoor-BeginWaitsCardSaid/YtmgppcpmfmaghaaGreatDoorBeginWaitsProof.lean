/-
  BeginWaits, the tied card: for each rest of the arguments that counts the evaluator runs the program's code, and a theorem says that what it answers is what the program does.
-/
import Derived.Test.YtmgppcpmfmaghaaGreatDoorRows
import Derived.Test.YtmgppcpmfmaghaaGreatDoorTie
import Derived.Test.YtmgppcpmfmaghaaGreatDoorCards
import Derived.Test.YtmgppcpmfmaghaaGreatDoorEvSeat
import Derived.Test.YtmgppcpmfmaghaaGreatDoorBeginWaitsR0
import Derived.Test.YtmgppcpmfmaghaaGreatDoorBeginWaitsR1
import Derived.Test.YtmgppcpmfmaghaaGreatDoorBeginWaitsR2
import Derived.Test.YtmgppcpmfmaghaaGreatDoorBeginWaitsR3
import Derived.Test.YtmgppcpmfmaghaaGreatDoorLaid
import Derived.Test.YtmgppcpmfmaghaaGreatDoorLaidB
import Derived.Test.YtmgppcpmfmaghaaGreatDoorBeginWaitsClosed
import Derived.SevenTiedAt
import Derived.WalkKit
import Derived.ProofKit
import Derived.OpenShut
namespace Go.Proofs.YtmgppcpmfmaghaaGreatDoor.beginWaits
open Go.ChangeShapes Go.WideShapes Go.ChangeAt Go.RowKit
set_option linter.unusedVariables false


/-! ### The walk: the evaluator's runs, one for each rest. -/
theorem runs (r0 : Nat) (h0 : r0 < 10) (r1 : Nat) (h1 : r1 < 3) : Go.Ev.isTr (Go.Ev.runTop Go.Ev.XA (.str 0 0) 2000 9 Tryz.f9 (Go.Ev.argF2 (Go.Ev.restC r0 10) (Go.Ev.restC r1 3))) = true := by
  match r0, h0, r1, h1 with
  | 0, _, 0, _ => exact (congrArg (fun F => Go.Ev.isTr (Go.Ev.runTop Go.Ev.XA (.str 0 0) 2000 9 Tryz.f9 F)) (show Go.Ev.argF2 (Go.Ev.restC 0 10) (Go.Ev.restC 0 3) = 220175867135046865116130775658229706243583424424607065754196520411998419422165261819869396159352712007254016 from by decide +kernel)).trans Go.Ev.beginWaits_0_0
  | 0, _, 1, _ => exact (congrArg (fun F => Go.Ev.isTr (Go.Ev.runTop Go.Ev.XA (.str 0 0) 2000 9 Tryz.f9 F)) (show Go.Ev.argF2 (Go.Ev.restC 0 10) (Go.Ev.restC 1 3) = 220175867135046865116130775658345498332820740620030636739205208319851689406830902383908853743360625136893952 from by decide +kernel)).trans Go.Ev.beginWaits_0_1
  | 0, _, 2, _ => exact (congrArg (fun F => Go.Ev.isTr (Go.Ev.runTop Go.Ev.XA (.str 0 0) 2000 9 Tryz.f9 F)) (show Go.Ev.argF2 (Go.Ev.restC 0 10) (Go.Ev.restC 2 3) = 220175867135046865116130775658461290422058056815454207724213896227704959391496542947948311327368538266533888 from by decide +kernel)).trans Go.Ev.beginWaits_0_2
  | 1, _, 0, _ => exact (congrArg (fun F => Go.Ev.isTr (Go.Ev.runTop Go.Ev.XA (.str 0 0) 2000 9 Tryz.f9 F)) (show Go.Ev.argF2 (Go.Ev.restC 1 10) (Go.Ev.restC 0 3) = 220175867135046865116130775658229706243583424424607065754196520411998759704532182758332859533960143775465472 from by decide +kernel)).trans Go.Ev.beginWaits_1_0
  | 1, _, 1, _ => exact (congrArg (fun F => Go.Ev.isTr (Go.Ev.runTop Go.Ev.XA (.str 0 0) 2000 9 Tryz.f9 F)) (show Go.Ev.argF2 (Go.Ev.restC 1 10) (Go.Ev.restC 1 3) = 220175867135046865116130775658345498332820740620030636739205208319852029689197823322372317117968056905105408 from by decide +kernel)).trans Go.Ev.beginWaits_1_1
  | 1, _, 2, _ => exact (congrArg (fun F => Go.Ev.isTr (Go.Ev.runTop Go.Ev.XA (.str 0 0) 2000 9 Tryz.f9 F)) (show Go.Ev.argF2 (Go.Ev.restC 1 10) (Go.Ev.restC 2 3) = 220175867135046865116130775658461290422058056815454207724213896227705299673863463886411774701975970034745344 from by decide +kernel)).trans Go.Ev.beginWaits_1_2
  | 2, _, 0, _ => exact (congrArg (fun F => Go.Ev.isTr (Go.Ev.runTop Go.Ev.XA (.str 0 0) 2000 9 Tryz.f9 F)) (show Go.Ev.argF2 (Go.Ev.restC 2 10) (Go.Ev.restC 0 3) = 220175867135046865116130775658229706243583424424607065754196520411999099986899103696796322908567575543676928 from by decide +kernel)).trans Go.Ev.beginWaits_2_0
  | 2, _, 1, _ => exact (congrArg (fun F => Go.Ev.isTr (Go.Ev.runTop Go.Ev.XA (.str 0 0) 2000 9 Tryz.f9 F)) (show Go.Ev.argF2 (Go.Ev.restC 2 10) (Go.Ev.restC 1 3) = 220175867135046865116130775658345498332820740620030636739205208319852369971564744260835780492575488673316864 from by decide +kernel)).trans Go.Ev.beginWaits_2_1
  | 2, _, 2, _ => exact (congrArg (fun F => Go.Ev.isTr (Go.Ev.runTop Go.Ev.XA (.str 0 0) 2000 9 Tryz.f9 F)) (show Go.Ev.argF2 (Go.Ev.restC 2 10) (Go.Ev.restC 2 3) = 220175867135046865116130775658461290422058056815454207724213896227705639956230384824875238076583401802956800 from by decide +kernel)).trans Go.Ev.beginWaits_2_2
  | 3, _, 0, _ => exact (congrArg (fun F => Go.Ev.isTr (Go.Ev.runTop Go.Ev.XA (.str 0 0) 2000 9 Tryz.f9 F)) (show Go.Ev.argF2 (Go.Ev.restC 3 10) (Go.Ev.restC 0 3) = 220175867135046865116130775658229706243583424424607065754196520411999440269266024635259786283175007311888384 from by decide +kernel)).trans Go.Ev.beginWaits_3_0
  | 3, _, 1, _ => exact (congrArg (fun F => Go.Ev.isTr (Go.Ev.runTop Go.Ev.XA (.str 0 0) 2000 9 Tryz.f9 F)) (show Go.Ev.argF2 (Go.Ev.restC 3 10) (Go.Ev.restC 1 3) = 220175867135046865116130775658345498332820740620030636739205208319852710253931665199299243867182920441528320 from by decide +kernel)).trans Go.Ev.beginWaits_3_1
  | 3, _, 2, _ => exact (congrArg (fun F => Go.Ev.isTr (Go.Ev.runTop Go.Ev.XA (.str 0 0) 2000 9 Tryz.f9 F)) (show Go.Ev.argF2 (Go.Ev.restC 3 10) (Go.Ev.restC 2 3) = 220175867135046865116130775658461290422058056815454207724213896227705980238597305763338701451190833571168256 from by decide +kernel)).trans Go.Ev.beginWaits_3_2
  | 4, _, 0, _ => exact (congrArg (fun F => Go.Ev.isTr (Go.Ev.runTop Go.Ev.XA (.str 0 0) 2000 9 Tryz.f9 F)) (show Go.Ev.argF2 (Go.Ev.restC 4 10) (Go.Ev.restC 0 3) = 220175867135046865116130775658229706243583424424607065754196520411999780551632945573723249657782439080099840 from by decide +kernel)).trans Go.Ev.beginWaits_4_0
  | 4, _, 1, _ => exact (congrArg (fun F => Go.Ev.isTr (Go.Ev.runTop Go.Ev.XA (.str 0 0) 2000 9 Tryz.f9 F)) (show Go.Ev.argF2 (Go.Ev.restC 4 10) (Go.Ev.restC 1 3) = 220175867135046865116130775658345498332820740620030636739205208319853050536298586137762707241790352209739776 from by decide +kernel)).trans Go.Ev.beginWaits_4_1
  | 4, _, 2, _ => exact (congrArg (fun F => Go.Ev.isTr (Go.Ev.runTop Go.Ev.XA (.str 0 0) 2000 9 Tryz.f9 F)) (show Go.Ev.argF2 (Go.Ev.restC 4 10) (Go.Ev.restC 2 3) = 220175867135046865116130775658461290422058056815454207724213896227706320520964226701802164825798265339379712 from by decide +kernel)).trans Go.Ev.beginWaits_4_2
  | 5, _, 0, _ => exact (congrArg (fun F => Go.Ev.isTr (Go.Ev.runTop Go.Ev.XA (.str 0 0) 2000 9 Tryz.f9 F)) (show Go.Ev.argF2 (Go.Ev.restC 5 10) (Go.Ev.restC 0 3) = 220175867135046865116130775658229706243583424424607065754196520412000120833999866512186713032389870848311296 from by decide +kernel)).trans Go.Ev.beginWaits_5_0
  | 5, _, 1, _ => exact (congrArg (fun F => Go.Ev.isTr (Go.Ev.runTop Go.Ev.XA (.str 0 0) 2000 9 Tryz.f9 F)) (show Go.Ev.argF2 (Go.Ev.restC 5 10) (Go.Ev.restC 1 3) = 220175867135046865116130775658345498332820740620030636739205208319853390818665507076226170616397783977951232 from by decide +kernel)).trans Go.Ev.beginWaits_5_1
  | 5, _, 2, _ => exact (congrArg (fun F => Go.Ev.isTr (Go.Ev.runTop Go.Ev.XA (.str 0 0) 2000 9 Tryz.f9 F)) (show Go.Ev.argF2 (Go.Ev.restC 5 10) (Go.Ev.restC 2 3) = 220175867135046865116130775658461290422058056815454207724213896227706660803331147640265628200405697107591168 from by decide +kernel)).trans Go.Ev.beginWaits_5_2
  | 6, _, 0, _ => exact (congrArg (fun F => Go.Ev.isTr (Go.Ev.runTop Go.Ev.XA (.str 0 0) 2000 9 Tryz.f9 F)) (show Go.Ev.argF2 (Go.Ev.restC 6 10) (Go.Ev.restC 0 3) = 220175867135046865116130775658229706243583424424607065754196520412000461116366787450650176406997302616522752 from by decide +kernel)).trans Go.Ev.beginWaits_6_0
  | 6, _, 1, _ => exact (congrArg (fun F => Go.Ev.isTr (Go.Ev.runTop Go.Ev.XA (.str 0 0) 2000 9 Tryz.f9 F)) (show Go.Ev.argF2 (Go.Ev.restC 6 10) (Go.Ev.restC 1 3) = 220175867135046865116130775658345498332820740620030636739205208319853731101032428014689633991005215746162688 from by decide +kernel)).trans Go.Ev.beginWaits_6_1
  | 6, _, 2, _ => exact (congrArg (fun F => Go.Ev.isTr (Go.Ev.runTop Go.Ev.XA (.str 0 0) 2000 9 Tryz.f9 F)) (show Go.Ev.argF2 (Go.Ev.restC 6 10) (Go.Ev.restC 2 3) = 220175867135046865116130775658461290422058056815454207724213896227707001085698068578729091575013128875802624 from by decide +kernel)).trans Go.Ev.beginWaits_6_2
  | 7, _, 0, _ => exact (congrArg (fun F => Go.Ev.isTr (Go.Ev.runTop Go.Ev.XA (.str 0 0) 2000 9 Tryz.f9 F)) (show Go.Ev.argF2 (Go.Ev.restC 7 10) (Go.Ev.restC 0 3) = 220175867135046865116130775658229706243583424424607065754196520412000801398733708389113639781604734384734208 from by decide +kernel)).trans Go.Ev.beginWaits_7_0
  | 7, _, 1, _ => exact (congrArg (fun F => Go.Ev.isTr (Go.Ev.runTop Go.Ev.XA (.str 0 0) 2000 9 Tryz.f9 F)) (show Go.Ev.argF2 (Go.Ev.restC 7 10) (Go.Ev.restC 1 3) = 220175867135046865116130775658345498332820740620030636739205208319854071383399348953153097365612647514374144 from by decide +kernel)).trans Go.Ev.beginWaits_7_1
  | 7, _, 2, _ => exact (congrArg (fun F => Go.Ev.isTr (Go.Ev.runTop Go.Ev.XA (.str 0 0) 2000 9 Tryz.f9 F)) (show Go.Ev.argF2 (Go.Ev.restC 7 10) (Go.Ev.restC 2 3) = 220175867135046865116130775658461290422058056815454207724213896227707341368064989517192554949620560644014080 from by decide +kernel)).trans Go.Ev.beginWaits_7_2
  | 8, _, 0, _ => exact (congrArg (fun F => Go.Ev.isTr (Go.Ev.runTop Go.Ev.XA (.str 0 0) 2000 9 Tryz.f9 F)) (show Go.Ev.argF2 (Go.Ev.restC 8 10) (Go.Ev.restC 0 3) = 220175867135046865116130775658229706243583424424607065754196520412001141681100629327577103156212166152945664 from by decide +kernel)).trans Go.Ev.beginWaits_8_0
  | 8, _, 1, _ => exact (congrArg (fun F => Go.Ev.isTr (Go.Ev.runTop Go.Ev.XA (.str 0 0) 2000 9 Tryz.f9 F)) (show Go.Ev.argF2 (Go.Ev.restC 8 10) (Go.Ev.restC 1 3) = 220175867135046865116130775658345498332820740620030636739205208319854411665766269891616560740220079282585600 from by decide +kernel)).trans Go.Ev.beginWaits_8_1
  | 8, _, 2, _ => exact (congrArg (fun F => Go.Ev.isTr (Go.Ev.runTop Go.Ev.XA (.str 0 0) 2000 9 Tryz.f9 F)) (show Go.Ev.argF2 (Go.Ev.restC 8 10) (Go.Ev.restC 2 3) = 220175867135046865116130775658461290422058056815454207724213896227707681650431910455656018324227992412225536 from by decide +kernel)).trans Go.Ev.beginWaits_8_2
  | 9, _, 0, _ => exact (congrArg (fun F => Go.Ev.isTr (Go.Ev.runTop Go.Ev.XA (.str 0 0) 2000 9 Tryz.f9 F)) (show Go.Ev.argF2 (Go.Ev.restC 9 10) (Go.Ev.restC 0 3) = 220175867135046865116130775658229706243583424424607065754196520412001481963467550266040566530819597921157120 from by decide +kernel)).trans Go.Ev.beginWaits_9_0
  | 9, _, 1, _ => exact (congrArg (fun F => Go.Ev.isTr (Go.Ev.runTop Go.Ev.XA (.str 0 0) 2000 9 Tryz.f9 F)) (show Go.Ev.argF2 (Go.Ev.restC 9 10) (Go.Ev.restC 1 3) = 220175867135046865116130775658345498332820740620030636739205208319854751948133190830080024114827511050797056 from by decide +kernel)).trans Go.Ev.beginWaits_9_1
  | 9, _, 2, _ => exact (congrArg (fun F => Go.Ev.isTr (Go.Ev.runTop Go.Ev.XA (.str 0 0) 2000 9 Tryz.f9 F)) (show Go.Ev.argF2 (Go.Ev.restC 9 10) (Go.Ev.restC 2 3) = 220175867135046865116130775658461290422058056815454207724213896227708021932798831394119481698835424180436992 from by decide +kernel)).trans Go.Ev.beginWaits_9_2
  | n + 10, h, _, _ => exact absurd h (by omega)
  | _, _, n + 3, h => exact absurd h (by omega)
theorem walk (a0 : Int) (a1 : Int) (w0 : (Lit.int .u8 a0).wf = true) (w1 : (Lit.int .u8 a1).wf = true) (w : World) :
    Calls Tryz.prog 9 #[.int .u8 a0, .int .u8 a1] w fun e w' => e = .returned (.bool true) ∧ Go.Ev.Kept w w' := by
  obtain ⟨x0, rfl, hx0⟩ := Go.Ev.u8_nat w0
  obtain ⟨x1, rfl, hx1⟩ := Go.Ev.u8_nat w1
  exact (Go.Ev.topN Tryz.func9 rfl (runs (x0 % 10) (Nat.mod_lt _ (by decide)) (x1 % 3) (Nat.mod_lt _ (by decide))) (Go.Ev.args2 (Go.Ev.restC_lt (Nat.lt_trans (Nat.mod_lt x0 (show 0 < 10 by decide)) (by decide)) (by decide)) (Go.Ev.restC_lt (Nat.lt_trans (Nat.mod_lt x1 (show 0 < 3 by decide)) (by decide)) (by decide)) (fun σ I => Go.Ev.restC_rel hx0 (by decide) (by decide)) (fun σ I => Go.Ev.restC_rel hx1 (by decide) (by decide))) w).mono fun e w' h => ⟨h.1, h.2⟩

/-! ### THE ROW's STEP: WRITTEN OUT: LEAVE IT -/
set_option maxRecDepth 100000 in
theorem lifted (os : Os) (started : os.Started) (H : Type) (enc : TypeId × Value → H) :
    ReturnsInHanded {} Tryz.checked os 9 .any (fun w args => (Rows.beginWaitsSpec.pre enc Tryz.prog Tryz.f9 [] false w args ∧ laidMetH Tryz.prog laidList w) ∧ sizedMet enc Tryz.prog Tryz.f9 (OpenSpec.ofChange Rows.beginWaitsSpec) false w args)
      (Rows.beginWaitsSpec.post enc Tryz.prog Tryz.f9 false true false false) := by
  refine returnsInHanded_of_change_and (C := Tryz.checked) (X := fun w _ => laidMetH Tryz.prog laidList w) (fun _ _ _ hh h => h.of_heap hh) ownKnobs started (by as_aux_lemma => kernel_rfl) Tryz.func9
    (ChangeSpec.witness_at (enc := enc) (C := Tryz.checked) (os := os) (X := fun w _ => laidMetH Tryz.prog laidList w) false (laidWorld os) #[.int .u8 0, .int .u8 0] 8 rfl (by as_aux_lemma => kernel_rfl) (by as_aux_lemma => kernel_rfl) (by as_aux_lemma => kernel_rfl) (by as_aux_lemma => kernel_rfl) (by as_aux_lemma => kernel_rfl) (laidWorld_met os _)) ?_
  intro W base args ds gs before hval0 hW _ _ hL _
  have hval : ∀ (j : Nat) t v, Tryz.f9.params[j]? = some t → args[j]? = some v → Value.okWide Tryz.prog W .any base t v := hval0
  have hW' := hW
  obtain ⟨p, q, hA0, hV, rfl, hfz, hnd⟩ := hW
  have hA : DataW.TrodAll enc Tryz.prog W 0 (fun _ => true) true Tryz.f9.params.toList args.toList ds p := hA0
  rw [Tryz.params9] at hA hval
  obtain ⟨v0, vs0, d0, ds0, p0, q0, hargs, rfl, rfl, h0, r0⟩ := trodAll_cons hA
  obtain ⟨v1, vs1, d1, ds1, p1, q1, rfl, rfl, rfl, h1, r1⟩ := trodAll_cons r0
  obtain ⟨rfl, rfl, rfl⟩ := trodAll_nil r1
  obtain rfl : args = #[v0, v1] := by cases args; simp_all
  obtain ⟨rfl, rfl⟩ := trodVars_none hV
  obtain ⟨a0, rfl, rfl, rfl, w0⟩ := open_int Tryz.underlying5 (hval 0 5 v0 rfl rfl) h0
  obtain ⟨a1, rfl, rfl, rfl, w1⟩ := open_int Tryz.underlying5 (hval 1 5 v1 rfl rfl) h1
  clear hA0 hval0
  simp only [List.append_nil] at hW'
  refine (walk a0 a1 w0 w1 W).mono fun e W' ⟨he, hg⟩ => ?_
  subst he
  exact ⟨_, rfl, _, _, _, [], _, [], hW', trodAll_mk1 (shut_bool Tryz.underlying4 _), (trodAll_cons_mk (shut_int Tryz.underlying5 w0) (trodAll_cons_mk (shut_int Tryz.underlying5 w1) trodAll_mk0)), rfl, Go.Ev.Kept.frame hg _, fun h => by cases h⟩

theorem over : Rows.beginWaitsRow.holds Tryz.pinned (OpenSpec.ofChange Rows.beginWaitsSpec) :=
  OpenClaim.holds_of_wide 9 Tryz.f9 rfl rfl rfl rfl rfl rfl rfl ⟨rfl, rfl, rfl, rfl, rfl⟩ rfl rfl rfl rfl rfl (by as_aux_lemma => kernel_rfl) Tryz.func9 closed
    (of_decide_eq_true (by as_aux_lemma => kernel_rfl)) (by unfold Func.isWrapper; first | (rw [if_pos (by decide +kernel)]; kernel_rfl) | (rw [if_neg (by decide +kernel)]; exact ⟨rfl, rfl⟩))
    (fun os started H enc _ => lifted os started H enc)

/-- The card: the row, tied to the program's text. -/
theorem proved : Rows.BeginWaitsCardSaid :=
  Claim7.holds_tied_plain_at .later [] [.handle] true (true, "1e6ce98f84b5395230a13ba54d306d10c5f587fd047defce14bfd4dcfd346dbe") true
    over (fun _ h => by cases h) (by as_aux_lemma => kernel_rfl) (fun _ h => by cases h) beginWaits_row_tie rfl ⟨rfl, rfl⟩ shMain rfl
    (fun f fn hf hfn => by
      obtain rfl : f = 9 := Option.some.inj ((show Tryz.prog.funcNamed Rows.beginWaitsRow.func = some 9 by as_aux_lemma => kernel_rfl).symm.trans hf) |>.symm
      obtain rfl : fn = Tryz.f9 := (Option.some.inj (Tryz.func9.symm.trans hfn)).symm
      exact ⟨shLooks, fun j t ht => by
        rw [Tryz.params9] at ht
        have h5 : t = 5 ∨ t = 4 := by
          rcases j with _ | _ | _ | j <;> simp at ht <;> first | exact .inl ht.symm | exact .inr ht.symm
        rcases h5 with rfl | rfl
        · exact shW5
        · exact shW4⟩)
    (by as_aux_lemma => kernel_rfl)
#print axioms proved
end Go.Proofs.YtmgppcpmfmaghaaGreatDoor.beginWaits
