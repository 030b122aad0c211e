/-
  CommitOrder, the tied card: for each rest of the arguments that counts the evaluator runs the program's code, and a theorem says that what it answers is what the program does.
-/
import Derived.Test.YtmgppcpmfmaghaaGreatDoorRows
import Derived.Test.YtmgppcpmfmaghaaGreatDoorTie
import Derived.Test.YtmgppcpmfmaghaaGreatDoorCards
import Derived.Test.YtmgppcpmfmaghaaGreatDoorEvSeat
import Derived.Test.YtmgppcpmfmaghaaGreatDoorCommitOrderR0
import Derived.Test.YtmgppcpmfmaghaaGreatDoorCommitOrderR1
import Derived.Test.YtmgppcpmfmaghaaGreatDoorCommitOrderR2
import Derived.Test.YtmgppcpmfmaghaaGreatDoorCommitOrderR3
import Derived.Test.YtmgppcpmfmaghaaGreatDoorCommitOrderR4
import Derived.Test.YtmgppcpmfmaghaaGreatDoorCommitOrderR5
import Derived.Test.YtmgppcpmfmaghaaGreatDoorCommitOrderR6
import Derived.Test.YtmgppcpmfmaghaaGreatDoorCommitOrderR7
import Derived.Test.YtmgppcpmfmaghaaGreatDoorCommitOrderR8
import Derived.Test.YtmgppcpmfmaghaaGreatDoorCommitOrderR9
import Derived.Test.YtmgppcpmfmaghaaGreatDoorLaid
import Derived.Test.YtmgppcpmfmaghaaGreatDoorLaidB
import Derived.Test.YtmgppcpmfmaghaaGreatDoorCommitOrderClosed
import Derived.SevenTiedAt
import Derived.WalkKit
import Derived.ProofKit
import Derived.OpenShut
namespace Go.Proofs.YtmgppcpmfmaghaaGreatDoor.commitOrder
open Go.ChangeShapes Go.WideShapes Go.ChangeAt Go.RowKit
set_option linter.unusedVariables false


/-! ### The walk: the evaluator's runs, one for each rest. -/
theorem runs (r0 : Nat) (h0 : r0 < 20) (r1 : Bool) : Go.Ev.isTr (Go.Ev.runTop Go.Ev.XA (.str 0 0) 2000 7 Tryz.f7 (Go.Ev.argF2 (Go.Ev.restC r0 20) (Go.Ev.boolC r1))) = true := by
  match r0, h0, r1 with
  | 0, _, false => exact (congrArg (fun F => Go.Ev.isTr (Go.Ev.runTop Go.Ev.XA (.str 0 0) 2000 7 Tryz.f7 F)) (show Go.Ev.argF2 (Go.Ev.restC 0 20) (Go.Ev.boolC false) = 27521983391880858139329850743625043290205818590030988839952304467478163707593182859635522037261113535496192 from by decide +kernel)).trans Go.Ev.commitOrder_0_0
  | 0, _, true => exact (congrArg (fun F => Go.Ev.isTr (Go.Ev.runTop Go.Ev.XA (.str 0 0) 2000 7 Tryz.f7 F)) (show Go.Ev.argF2 (Go.Ev.restC 0 20) (Go.Ev.boolC true) = 27521983391880858139329850743740835379443134785454559824960992375331433692258823423674979621269026665136128 from by decide +kernel)).trans Go.Ev.commitOrder_0_1
  | 1, _, false => exact (congrArg (fun F => Go.Ev.isTr (Go.Ev.runTop Go.Ev.XA (.str 0 0) 2000 7 Tryz.f7 F)) (show Go.Ev.argF2 (Go.Ev.restC 1 20) (Go.Ev.boolC false) = 27521983391880858139329850743625043290205818590030988839952304467478503989960103798098985411868545303707648 from by decide +kernel)).trans Go.Ev.commitOrder_1_0
  | 1, _, true => exact (congrArg (fun F => Go.Ev.isTr (Go.Ev.runTop Go.Ev.XA (.str 0 0) 2000 7 Tryz.f7 F)) (show Go.Ev.argF2 (Go.Ev.restC 1 20) (Go.Ev.boolC true) = 27521983391880858139329850743740835379443134785454559824960992375331773974625744362138442995876458433347584 from by decide +kernel)).trans Go.Ev.commitOrder_1_1
  | 2, _, false => exact (congrArg (fun F => Go.Ev.isTr (Go.Ev.runTop Go.Ev.XA (.str 0 0) 2000 7 Tryz.f7 F)) (show Go.Ev.argF2 (Go.Ev.restC 2 20) (Go.Ev.boolC false) = 27521983391880858139329850743625043290205818590030988839952304467478844272327024736562448786475977071919104 from by decide +kernel)).trans Go.Ev.commitOrder_2_0
  | 2, _, true => exact (congrArg (fun F => Go.Ev.isTr (Go.Ev.runTop Go.Ev.XA (.str 0 0) 2000 7 Tryz.f7 F)) (show Go.Ev.argF2 (Go.Ev.restC 2 20) (Go.Ev.boolC true) = 27521983391880858139329850743740835379443134785454559824960992375332114256992665300601906370483890201559040 from by decide +kernel)).trans Go.Ev.commitOrder_2_1
  | 3, _, false => exact (congrArg (fun F => Go.Ev.isTr (Go.Ev.runTop Go.Ev.XA (.str 0 0) 2000 7 Tryz.f7 F)) (show Go.Ev.argF2 (Go.Ev.restC 3 20) (Go.Ev.boolC false) = 27521983391880858139329850743625043290205818590030988839952304467479184554693945675025912161083408840130560 from by decide +kernel)).trans Go.Ev.commitOrder_3_0
  | 3, _, true => exact (congrArg (fun F => Go.Ev.isTr (Go.Ev.runTop Go.Ev.XA (.str 0 0) 2000 7 Tryz.f7 F)) (show Go.Ev.argF2 (Go.Ev.restC 3 20) (Go.Ev.boolC true) = 27521983391880858139329850743740835379443134785454559824960992375332454539359586239065369745091321969770496 from by decide +kernel)).trans Go.Ev.commitOrder_3_1
  | 4, _, false => exact (congrArg (fun F => Go.Ev.isTr (Go.Ev.runTop Go.Ev.XA (.str 0 0) 2000 7 Tryz.f7 F)) (show Go.Ev.argF2 (Go.Ev.restC 4 20) (Go.Ev.boolC false) = 27521983391880858139329850743625043290205818590030988839952304467479524837060866613489375535690840608342016 from by decide +kernel)).trans Go.Ev.commitOrder_4_0
  | 4, _, true => exact (congrArg (fun F => Go.Ev.isTr (Go.Ev.runTop Go.Ev.XA (.str 0 0) 2000 7 Tryz.f7 F)) (show Go.Ev.argF2 (Go.Ev.restC 4 20) (Go.Ev.boolC true) = 27521983391880858139329850743740835379443134785454559824960992375332794821726507177528833119698753737981952 from by decide +kernel)).trans Go.Ev.commitOrder_4_1
  | 5, _, false => exact (congrArg (fun F => Go.Ev.isTr (Go.Ev.runTop Go.Ev.XA (.str 0 0) 2000 7 Tryz.f7 F)) (show Go.Ev.argF2 (Go.Ev.restC 5 20) (Go.Ev.boolC false) = 27521983391880858139329850743625043290205818590030988839952304467479865119427787551952838910298272376553472 from by decide +kernel)).trans Go.Ev.commitOrder_5_0
  | 5, _, true => exact (congrArg (fun F => Go.Ev.isTr (Go.Ev.runTop Go.Ev.XA (.str 0 0) 2000 7 Tryz.f7 F)) (show Go.Ev.argF2 (Go.Ev.restC 5 20) (Go.Ev.boolC true) = 27521983391880858139329850743740835379443134785454559824960992375333135104093428115992296494306185506193408 from by decide +kernel)).trans Go.Ev.commitOrder_5_1
  | 6, _, false => exact (congrArg (fun F => Go.Ev.isTr (Go.Ev.runTop Go.Ev.XA (.str 0 0) 2000 7 Tryz.f7 F)) (show Go.Ev.argF2 (Go.Ev.restC 6 20) (Go.Ev.boolC false) = 27521983391880858139329850743625043290205818590030988839952304467480205401794708490416302284905704144764928 from by decide +kernel)).trans Go.Ev.commitOrder_6_0
  | 6, _, true => exact (congrArg (fun F => Go.Ev.isTr (Go.Ev.runTop Go.Ev.XA (.str 0 0) 2000 7 Tryz.f7 F)) (show Go.Ev.argF2 (Go.Ev.restC 6 20) (Go.Ev.boolC true) = 27521983391880858139329850743740835379443134785454559824960992375333475386460349054455759868913617274404864 from by decide +kernel)).trans Go.Ev.commitOrder_6_1
  | 7, _, false => exact (congrArg (fun F => Go.Ev.isTr (Go.Ev.runTop Go.Ev.XA (.str 0 0) 2000 7 Tryz.f7 F)) (show Go.Ev.argF2 (Go.Ev.restC 7 20) (Go.Ev.boolC false) = 27521983391880858139329850743625043290205818590030988839952304467480545684161629428879765659513135912976384 from by decide +kernel)).trans Go.Ev.commitOrder_7_0
  | 7, _, true => exact (congrArg (fun F => Go.Ev.isTr (Go.Ev.runTop Go.Ev.XA (.str 0 0) 2000 7 Tryz.f7 F)) (show Go.Ev.argF2 (Go.Ev.restC 7 20) (Go.Ev.boolC true) = 27521983391880858139329850743740835379443134785454559824960992375333815668827269992919223243521049042616320 from by decide +kernel)).trans Go.Ev.commitOrder_7_1
  | 8, _, false => exact (congrArg (fun F => Go.Ev.isTr (Go.Ev.runTop Go.Ev.XA (.str 0 0) 2000 7 Tryz.f7 F)) (show Go.Ev.argF2 (Go.Ev.restC 8 20) (Go.Ev.boolC false) = 27521983391880858139329850743625043290205818590030988839952304467480885966528550367343229034120567681187840 from by decide +kernel)).trans Go.Ev.commitOrder_8_0
  | 8, _, true => exact (congrArg (fun F => Go.Ev.isTr (Go.Ev.runTop Go.Ev.XA (.str 0 0) 2000 7 Tryz.f7 F)) (show Go.Ev.argF2 (Go.Ev.restC 8 20) (Go.Ev.boolC true) = 27521983391880858139329850743740835379443134785454559824960992375334155951194190931382686618128480810827776 from by decide +kernel)).trans Go.Ev.commitOrder_8_1
  | 9, _, false => exact (congrArg (fun F => Go.Ev.isTr (Go.Ev.runTop Go.Ev.XA (.str 0 0) 2000 7 Tryz.f7 F)) (show Go.Ev.argF2 (Go.Ev.restC 9 20) (Go.Ev.boolC false) = 27521983391880858139329850743625043290205818590030988839952304467481226248895471305806692408727999449399296 from by decide +kernel)).trans Go.Ev.commitOrder_9_0
  | 9, _, true => exact (congrArg (fun F => Go.Ev.isTr (Go.Ev.runTop Go.Ev.XA (.str 0 0) 2000 7 Tryz.f7 F)) (show Go.Ev.argF2 (Go.Ev.restC 9 20) (Go.Ev.boolC true) = 27521983391880858139329850743740835379443134785454559824960992375334496233561111869846149992735912579039232 from by decide +kernel)).trans Go.Ev.commitOrder_9_1
  | 10, _, false => exact (congrArg (fun F => Go.Ev.isTr (Go.Ev.runTop Go.Ev.XA (.str 0 0) 2000 7 Tryz.f7 F)) (show Go.Ev.argF2 (Go.Ev.restC 10 20) (Go.Ev.boolC false) = 27521983391880858139329850743625043290205818590030988839952304467481566531262392244270155783335431217610752 from by decide +kernel)).trans Go.Ev.commitOrder_10_0
  | 10, _, true => exact (congrArg (fun F => Go.Ev.isTr (Go.Ev.runTop Go.Ev.XA (.str 0 0) 2000 7 Tryz.f7 F)) (show Go.Ev.argF2 (Go.Ev.restC 10 20) (Go.Ev.boolC true) = 27521983391880858139329850743740835379443134785454559824960992375334836515928032808309613367343344347250688 from by decide +kernel)).trans Go.Ev.commitOrder_10_1
  | 11, _, false => exact (congrArg (fun F => Go.Ev.isTr (Go.Ev.runTop Go.Ev.XA (.str 0 0) 2000 7 Tryz.f7 F)) (show Go.Ev.argF2 (Go.Ev.restC 11 20) (Go.Ev.boolC false) = 27521983391880858139329850743625043290205818590030988839952304467481906813629313182733619157942862985822208 from by decide +kernel)).trans Go.Ev.commitOrder_11_0
  | 11, _, true => exact (congrArg (fun F => Go.Ev.isTr (Go.Ev.runTop Go.Ev.XA (.str 0 0) 2000 7 Tryz.f7 F)) (show Go.Ev.argF2 (Go.Ev.restC 11 20) (Go.Ev.boolC true) = 27521983391880858139329850743740835379443134785454559824960992375335176798294953746773076741950776115462144 from by decide +kernel)).trans Go.Ev.commitOrder_11_1
  | 12, _, false => exact (congrArg (fun F => Go.Ev.isTr (Go.Ev.runTop Go.Ev.XA (.str 0 0) 2000 7 Tryz.f7 F)) (show Go.Ev.argF2 (Go.Ev.restC 12 20) (Go.Ev.boolC false) = 27521983391880858139329850743625043290205818590030988839952304467482247095996234121197082532550294754033664 from by decide +kernel)).trans Go.Ev.commitOrder_12_0
  | 12, _, true => exact (congrArg (fun F => Go.Ev.isTr (Go.Ev.runTop Go.Ev.XA (.str 0 0) 2000 7 Tryz.f7 F)) (show Go.Ev.argF2 (Go.Ev.restC 12 20) (Go.Ev.boolC true) = 27521983391880858139329850743740835379443134785454559824960992375335517080661874685236540116558207883673600 from by decide +kernel)).trans Go.Ev.commitOrder_12_1
  | 13, _, false => exact (congrArg (fun F => Go.Ev.isTr (Go.Ev.runTop Go.Ev.XA (.str 0 0) 2000 7 Tryz.f7 F)) (show Go.Ev.argF2 (Go.Ev.restC 13 20) (Go.Ev.boolC false) = 27521983391880858139329850743625043290205818590030988839952304467482587378363155059660545907157726522245120 from by decide +kernel)).trans Go.Ev.commitOrder_13_0
  | 13, _, true => exact (congrArg (fun F => Go.Ev.isTr (Go.Ev.runTop Go.Ev.XA (.str 0 0) 2000 7 Tryz.f7 F)) (show Go.Ev.argF2 (Go.Ev.restC 13 20) (Go.Ev.boolC true) = 27521983391880858139329850743740835379443134785454559824960992375335857363028795623700003491165639651885056 from by decide +kernel)).trans Go.Ev.commitOrder_13_1
  | 14, _, false => exact (congrArg (fun F => Go.Ev.isTr (Go.Ev.runTop Go.Ev.XA (.str 0 0) 2000 7 Tryz.f7 F)) (show Go.Ev.argF2 (Go.Ev.restC 14 20) (Go.Ev.boolC false) = 27521983391880858139329850743625043290205818590030988839952304467482927660730075998124009281765158290456576 from by decide +kernel)).trans Go.Ev.commitOrder_14_0
  | 14, _, true => exact (congrArg (fun F => Go.Ev.isTr (Go.Ev.runTop Go.Ev.XA (.str 0 0) 2000 7 Tryz.f7 F)) (show Go.Ev.argF2 (Go.Ev.restC 14 20) (Go.Ev.boolC true) = 27521983391880858139329850743740835379443134785454559824960992375336197645395716562163466865773071420096512 from by decide +kernel)).trans Go.Ev.commitOrder_14_1
  | 15, _, false => exact (congrArg (fun F => Go.Ev.isTr (Go.Ev.runTop Go.Ev.XA (.str 0 0) 2000 7 Tryz.f7 F)) (show Go.Ev.argF2 (Go.Ev.restC 15 20) (Go.Ev.boolC false) = 27521983391880858139329850743625043290205818590030988839952304467483267943096996936587472656372590058668032 from by decide +kernel)).trans Go.Ev.commitOrder_15_0
  | 15, _, true => exact (congrArg (fun F => Go.Ev.isTr (Go.Ev.runTop Go.Ev.XA (.str 0 0) 2000 7 Tryz.f7 F)) (show Go.Ev.argF2 (Go.Ev.restC 15 20) (Go.Ev.boolC true) = 27521983391880858139329850743740835379443134785454559824960992375336537927762637500626930240380503188307968 from by decide +kernel)).trans Go.Ev.commitOrder_15_1
  | 16, _, false => exact (congrArg (fun F => Go.Ev.isTr (Go.Ev.runTop Go.Ev.XA (.str 0 0) 2000 7 Tryz.f7 F)) (show Go.Ev.argF2 (Go.Ev.restC 16 20) (Go.Ev.boolC false) = 27521983391880858139329850743625043290205818590030988839952304467483608225463917875050936030980021826879488 from by decide +kernel)).trans Go.Ev.commitOrder_16_0
  | 16, _, true => exact (congrArg (fun F => Go.Ev.isTr (Go.Ev.runTop Go.Ev.XA (.str 0 0) 2000 7 Tryz.f7 F)) (show Go.Ev.argF2 (Go.Ev.restC 16 20) (Go.Ev.boolC true) = 27521983391880858139329850743740835379443134785454559824960992375336878210129558439090393614987934956519424 from by decide +kernel)).trans Go.Ev.commitOrder_16_1
  | 17, _, false => exact (congrArg (fun F => Go.Ev.isTr (Go.Ev.runTop Go.Ev.XA (.str 0 0) 2000 7 Tryz.f7 F)) (show Go.Ev.argF2 (Go.Ev.restC 17 20) (Go.Ev.boolC false) = 27521983391880858139329850743625043290205818590030988839952304467483948507830838813514399405587453595090944 from by decide +kernel)).trans Go.Ev.commitOrder_17_0
  | 17, _, true => exact (congrArg (fun F => Go.Ev.isTr (Go.Ev.runTop Go.Ev.XA (.str 0 0) 2000 7 Tryz.f7 F)) (show Go.Ev.argF2 (Go.Ev.restC 17 20) (Go.Ev.boolC true) = 27521983391880858139329850743740835379443134785454559824960992375337218492496479377553856989595366724730880 from by decide +kernel)).trans Go.Ev.commitOrder_17_1
  | 18, _, false => exact (congrArg (fun F => Go.Ev.isTr (Go.Ev.runTop Go.Ev.XA (.str 0 0) 2000 7 Tryz.f7 F)) (show Go.Ev.argF2 (Go.Ev.restC 18 20) (Go.Ev.boolC false) = 27521983391880858139329850743625043290205818590030988839952304467484288790197759751977862780194885363302400 from by decide +kernel)).trans Go.Ev.commitOrder_18_0
  | 18, _, true => exact (congrArg (fun F => Go.Ev.isTr (Go.Ev.runTop Go.Ev.XA (.str 0 0) 2000 7 Tryz.f7 F)) (show Go.Ev.argF2 (Go.Ev.restC 18 20) (Go.Ev.boolC true) = 27521983391880858139329850743740835379443134785454559824960992375337558774863400316017320364202798492942336 from by decide +kernel)).trans Go.Ev.commitOrder_18_1
  | 19, _, false => exact (congrArg (fun F => Go.Ev.isTr (Go.Ev.runTop Go.Ev.XA (.str 0 0) 2000 7 Tryz.f7 F)) (show Go.Ev.argF2 (Go.Ev.restC 19 20) (Go.Ev.boolC false) = 27521983391880858139329850743625043290205818590030988839952304467484629072564680690441326154802317131513856 from by decide +kernel)).trans Go.Ev.commitOrder_19_0
  | 19, _, true => exact (congrArg (fun F => Go.Ev.isTr (Go.Ev.runTop Go.Ev.XA (.str 0 0) 2000 7 Tryz.f7 F)) (show Go.Ev.argF2 (Go.Ev.restC 19 20) (Go.Ev.boolC true) = 27521983391880858139329850743740835379443134785454559824960992375337899057230321254480783738810230261153792 from by decide +kernel)).trans Go.Ev.commitOrder_19_1
  | n + 20, h, _ => exact absurd h (by omega)
theorem walk (a0 : Int) (a1 : Bool) (w0 : (Lit.int .u8 a0).wf = true) (w : World) :
    Calls Tryz.prog 7 #[.int .u8 a0, .bool a1] w fun e w' => e = .returned (.bool true) ∧ Go.Ev.Kept w w' := by
  obtain ⟨x0, rfl, hx0⟩ := Go.Ev.u8_nat w0
  exact (Go.Ev.topN Tryz.func7 rfl (runs (x0 % 20) (Nat.mod_lt _ (by decide)) a1) (Go.Ev.args2 (Go.Ev.restC_lt (Nat.lt_trans (Nat.mod_lt x0 (show 0 < 20 by decide)) (by decide)) (by decide)) (Go.Ev.boolC_lt _) (fun σ I => Go.Ev.restC_rel hx0 (by decide) (by decide)) (fun σ I => Go.Ev.bool_rel a1)) w).mono fun e w' h => ⟨h.1, h.2⟩

/-! ### THE ROW's STEP: WRITTEN OUT: LEAVE IT -/
set_option maxRecDepth 100000 in
theorem lifted (os : Os) (started : os.Started) (H : Type) (enc : TypeId × Value → H) :
    ReturnsInHanded {} Tryz.checked os 7 .any (fun w args => (Rows.commitOrderSpec.pre enc Tryz.prog Tryz.f7 [] false w args ∧ laidMetH Tryz.prog laidList w) ∧ sizedMet enc Tryz.prog Tryz.f7 (OpenSpec.ofChange Rows.commitOrderSpec) false w args)
      (Rows.commitOrderSpec.post enc Tryz.prog Tryz.f7 false true false false) := by
  refine returnsInHanded_of_change_and (C := Tryz.checked) (X := fun w _ => laidMetH Tryz.prog laidList w) (fun _ _ _ hh h => h.of_heap hh) ownKnobs started (by as_aux_lemma => kernel_rfl) Tryz.func7
    (ChangeSpec.witness_at (enc := enc) (C := Tryz.checked) (os := os) (X := fun w _ => laidMetH Tryz.prog laidList w) false (laidWorld os) #[.int .u8 0, .bool false] 8 rfl (by as_aux_lemma => kernel_rfl) (by as_aux_lemma => kernel_rfl) (by as_aux_lemma => kernel_rfl) (by as_aux_lemma => kernel_rfl) (by as_aux_lemma => kernel_rfl) (laidWorld_met os _)) ?_
  intro W base args ds gs before hval0 hW _ _ hL _
  have hval : ∀ (j : Nat) t v, Tryz.f7.params[j]? = some t → args[j]? = some v → Value.okWide Tryz.prog W .any base t v := hval0
  have hW' := hW
  obtain ⟨p, q, hA0, hV, rfl, hfz, hnd⟩ := hW
  have hA : DataW.TrodAll enc Tryz.prog W 0 (fun _ => true) true Tryz.f7.params.toList args.toList ds p := hA0
  rw [Tryz.params7] at hA hval
  obtain ⟨v0, vs0, d0, ds0, p0, q0, hargs, rfl, rfl, h0, r0⟩ := trodAll_cons hA
  obtain ⟨v1, vs1, d1, ds1, p1, q1, rfl, rfl, rfl, h1, r1⟩ := trodAll_cons r0
  obtain ⟨rfl, rfl, rfl⟩ := trodAll_nil r1
  obtain rfl : args = #[v0, v1] := by cases args; simp_all
  obtain ⟨rfl, rfl⟩ := trodVars_none hV
  obtain ⟨a0, rfl, rfl, rfl, w0⟩ := open_int Tryz.underlying5 (hval 0 5 v0 rfl rfl) h0
  obtain ⟨a1, rfl, rfl, rfl⟩ := open_bool Tryz.underlying4 (hval 1 4 v1 rfl rfl) h1
  clear hA0 hval0
  simp only [List.append_nil] at hW'
  refine (walk a0 a1 w0 W).mono fun e W' ⟨he, hg⟩ => ?_
  subst he
  exact ⟨_, rfl, _, _, _, [], _, [], hW', trodAll_mk1 (shut_bool Tryz.underlying4 _), (trodAll_cons_mk (shut_int Tryz.underlying5 w0) (trodAll_cons_mk (shut_bool Tryz.underlying4 _) trodAll_mk0)), rfl, Go.Ev.Kept.frame hg _, fun h => by cases h⟩

theorem over : Rows.commitOrderRow.holds Tryz.pinned (OpenSpec.ofChange Rows.commitOrderSpec) :=
  OpenClaim.holds_of_wide 7 Tryz.f7 rfl rfl rfl rfl rfl rfl rfl ⟨rfl, rfl, rfl, rfl, rfl⟩ rfl rfl rfl rfl rfl (by as_aux_lemma => kernel_rfl) Tryz.func7 closed
    (of_decide_eq_true (by as_aux_lemma => kernel_rfl)) (by unfold Func.isWrapper; first | (rw [if_pos (by decide +kernel)]; kernel_rfl) | (rw [if_neg (by decide +kernel)]; exact ⟨rfl, rfl⟩))
    (fun os started H enc _ => lifted os started H enc)

/-- The card: the row, tied to the program's text. -/
theorem proved : Rows.CommitOrderCardSaid :=
  Claim7.holds_tied_plain_at .later [] [.handle] true (true, "1e6ce98f84b5395230a13ba54d306d10c5f587fd047defce14bfd4dcfd346dbe") true
    over (fun _ h => by cases h) (by as_aux_lemma => kernel_rfl) (fun _ h => by cases h) commitOrder_row_tie rfl ⟨rfl, rfl⟩ shMain rfl
    (fun f fn hf hfn => by
      obtain rfl : f = 7 := Option.some.inj ((show Tryz.prog.funcNamed Rows.commitOrderRow.func = some 7 by as_aux_lemma => kernel_rfl).symm.trans hf) |>.symm
      obtain rfl : fn = Tryz.f7 := (Option.some.inj (Tryz.func7.symm.trans hfn)).symm
      exact ⟨shLooks, fun j t ht => by
        rw [Tryz.params7] at ht
        have h5 : t = 5 ∨ t = 4 := by
          rcases j with _ | _ | _ | j <;> simp at ht <;> first | exact .inl ht.symm | exact .inr ht.symm
        rcases h5 with rfl | rfl
        · exact shW5
        · exact shW4⟩)
    (by as_aux_lemma => kernel_rfl)
#print axioms proved
end Go.Proofs.YtmgppcpmfmaghaaGreatDoor.commitOrder
