/-
  AuditLies, the tied card: for each rest of the arguments that counts the evaluator runs the program's code, and a theorem says that what it answers is what the program does.
-/
import Derived.Test.YtimligmdnokamaaGreatDoorRows
import Derived.Test.YtimligmdnokamaaGreatDoorTie
import Derived.Test.YtimligmdnokamaaGreatDoorCards
import Derived.Test.YtimligmdnokamaaGreatDoorKvSA
import Derived.Test.YtimligmdnokamaaGreatDoorAuditLiesR0
import Derived.Test.YtimligmdnokamaaGreatDoorAuditLiesR1
import Derived.Test.YtimligmdnokamaaGreatDoorAuditLiesR2
import Derived.Test.YtimligmdnokamaaGreatDoorAuditLiesR3
import Derived.Test.YtimligmdnokamaaGreatDoorAuditLiesR4
import Derived.Test.YtimligmdnokamaaGreatDoorAuditLiesR5
import Derived.Test.YtimligmdnokamaaGreatDoorAuditLiesR6
import Derived.Test.YtimligmdnokamaaGreatDoorAuditLiesR7
import Derived.Test.YtimligmdnokamaaGreatDoorAuditLiesR8
import Derived.Test.YtimligmdnokamaaGreatDoorAuditLiesR9
import Derived.Test.YtimligmdnokamaaGreatDoorAuditLiesR10
import Derived.Test.YtimligmdnokamaaGreatDoorAuditLiesR11
import Derived.Test.YtimligmdnokamaaGreatDoorAuditLiesR12
import Derived.Test.YtimligmdnokamaaGreatDoorLaid
import Derived.Test.YtimligmdnokamaaGreatDoorLaidB
import Derived.Test.YtimligmdnokamaaGreatDoorLaidG
import Derived.Test.YtimligmdnokamaaGreatDoorAuditLiesClosed
import Derived.Test.YtimligmdnokamaaGreatDoorNoGo
import Derived.SevenTiedAt
import Derived.WalkKit
import Derived.ProofKit
import Derived.OpenShut
namespace Go.Proofs.YtimligmdnokamaaGreatDoor.auditLies
open Go.ChangeShapes Go.WideShapes Go.ChangeAt Go.RowKit
set_option linter.unusedVariables false


/-! ### The walk: the evaluator's runs, one for each rest. -/
theorem runs_0  : Go.Ev.isTr (Go.Ev.runTop Go.Ev.XA (.tup 274 4294967322) 5000 3 Tryz.f3 (Go.Ev.argF1 (Go.Ev.restC 0 26))) = true := by
  exact (congrArg (fun F => Go.Ev.isTr (Go.Ev.runTop Go.Ev.XA (.tup 274 4294967322) 5000 3 Tryz.f3 F)) (show Go.Ev.argF1 (Go.Ev.restC 0 26) = 647038720011615355110007404659074612040587271791597098057540892098560 from by decide +kernel)).trans Go.Ev.auditLies_0
theorem runs_1  : Go.Ev.isTr (Go.Ev.runTop Go.Ev.XA (.tup 274 4294967322) 5000 3 Tryz.f3 (Go.Ev.argF1 (Go.Ev.restC 1 26))) = true := by
  exact (congrArg (fun F => Go.Ev.isTr (Go.Ev.runTop Go.Ev.XA (.tup 274 4294967322) 5000 3 Tryz.f3 F)) (show Go.Ev.argF1 (Go.Ev.restC 1 26) = 647038720011615355110007404659414894407508210255060472664972660310016 from by decide +kernel)).trans Go.Ev.auditLies_1
theorem runs_2  : Go.Ev.isTr (Go.Ev.runTop Go.Ev.XA (.tup 274 4294967322) 5000 3 Tryz.f3 (Go.Ev.argF1 (Go.Ev.restC 2 26))) = true := by
  exact (congrArg (fun F => Go.Ev.isTr (Go.Ev.runTop Go.Ev.XA (.tup 274 4294967322) 5000 3 Tryz.f3 F)) (show Go.Ev.argF1 (Go.Ev.restC 2 26) = 647038720011615355110007404659755176774429148718523847272404428521472 from by decide +kernel)).trans Go.Ev.auditLies_2
theorem runs_3  : Go.Ev.isTr (Go.Ev.runTop Go.Ev.XA (.tup 274 4294967322) 5000 3 Tryz.f3 (Go.Ev.argF1 (Go.Ev.restC 3 26))) = true := by
  exact (congrArg (fun F => Go.Ev.isTr (Go.Ev.runTop Go.Ev.XA (.tup 274 4294967322) 5000 3 Tryz.f3 F)) (show Go.Ev.argF1 (Go.Ev.restC 3 26) = 647038720011615355110007404660095459141350087181987221879836196732928 from by decide +kernel)).trans Go.Ev.auditLies_3
theorem runs_4  : Go.Ev.isTr (Go.Ev.runTop Go.Ev.XA (.tup 274 4294967322) 5000 3 Tryz.f3 (Go.Ev.argF1 (Go.Ev.restC 4 26))) = true := by
  exact (congrArg (fun F => Go.Ev.isTr (Go.Ev.runTop Go.Ev.XA (.tup 274 4294967322) 5000 3 Tryz.f3 F)) (show Go.Ev.argF1 (Go.Ev.restC 4 26) = 647038720011615355110007404660435741508271025645450596487267964944384 from by decide +kernel)).trans Go.Ev.auditLies_4
theorem runs_5  : Go.Ev.isTr (Go.Ev.runTop Go.Ev.XA (.tup 274 4294967322) 5000 3 Tryz.f3 (Go.Ev.argF1 (Go.Ev.restC 5 26))) = true := by
  exact (congrArg (fun F => Go.Ev.isTr (Go.Ev.runTop Go.Ev.XA (.tup 274 4294967322) 5000 3 Tryz.f3 F)) (show Go.Ev.argF1 (Go.Ev.restC 5 26) = 647038720011615355110007404660776023875191964108913971094699733155840 from by decide +kernel)).trans Go.Ev.auditLies_5
theorem runs_6  : Go.Ev.isTr (Go.Ev.runTop Go.Ev.XA (.tup 274 4294967322) 5000 3 Tryz.f3 (Go.Ev.argF1 (Go.Ev.restC 6 26))) = true := by
  exact (congrArg (fun F => Go.Ev.isTr (Go.Ev.runTop Go.Ev.XA (.tup 274 4294967322) 5000 3 Tryz.f3 F)) (show Go.Ev.argF1 (Go.Ev.restC 6 26) = 647038720011615355110007404661116306242112902572377345702131501367296 from by decide +kernel)).trans Go.Ev.auditLies_6
theorem runs_7  : Go.Ev.isTr (Go.Ev.runTop Go.Ev.XA (.tup 274 4294967322) 5000 3 Tryz.f3 (Go.Ev.argF1 (Go.Ev.restC 7 26))) = true := by
  exact (congrArg (fun F => Go.Ev.isTr (Go.Ev.runTop Go.Ev.XA (.tup 274 4294967322) 5000 3 Tryz.f3 F)) (show Go.Ev.argF1 (Go.Ev.restC 7 26) = 647038720011615355110007404661456588609033841035840720309563269578752 from by decide +kernel)).trans Go.Ev.auditLies_7
theorem runs_8  : Go.Ev.isTr (Go.Ev.runTop Go.Ev.XA (.tup 274 4294967322) 5000 3 Tryz.f3 (Go.Ev.argF1 (Go.Ev.restC 8 26))) = true := by
  exact (congrArg (fun F => Go.Ev.isTr (Go.Ev.runTop Go.Ev.XA (.tup 274 4294967322) 5000 3 Tryz.f3 F)) (show Go.Ev.argF1 (Go.Ev.restC 8 26) = 647038720011615355110007404661796870975954779499304094916995037790208 from by decide +kernel)).trans Go.Ev.auditLies_8
theorem runs_9  : Go.Ev.isTr (Go.Ev.runTop Go.Ev.XA (.tup 274 4294967322) 5000 3 Tryz.f3 (Go.Ev.argF1 (Go.Ev.restC 9 26))) = true := by
  exact (congrArg (fun F => Go.Ev.isTr (Go.Ev.runTop Go.Ev.XA (.tup 274 4294967322) 5000 3 Tryz.f3 F)) (show Go.Ev.argF1 (Go.Ev.restC 9 26) = 647038720011615355110007404662137153342875717962767469524426806001664 from by decide +kernel)).trans Go.Ev.auditLies_9
theorem runs_10  : Go.Ev.isTr (Go.Ev.runTop Go.Ev.XA (.tup 274 4294967322) 5000 3 Tryz.f3 (Go.Ev.argF1 (Go.Ev.restC 10 26))) = true := by
  exact (congrArg (fun F => Go.Ev.isTr (Go.Ev.runTop Go.Ev.XA (.tup 274 4294967322) 5000 3 Tryz.f3 F)) (show Go.Ev.argF1 (Go.Ev.restC 10 26) = 647038720011615355110007404662477435709796656426230844131858574213120 from by decide +kernel)).trans Go.Ev.auditLies_10
theorem runs_11  : Go.Ev.isTr (Go.Ev.runTop Go.Ev.XA (.tup 274 4294967322) 5000 3 Tryz.f3 (Go.Ev.argF1 (Go.Ev.restC 11 26))) = true := by
  exact (congrArg (fun F => Go.Ev.isTr (Go.Ev.runTop Go.Ev.XA (.tup 274 4294967322) 5000 3 Tryz.f3 F)) (show Go.Ev.argF1 (Go.Ev.restC 11 26) = 647038720011615355110007404662817718076717594889694218739290342424576 from by decide +kernel)).trans Go.Ev.auditLies_11
theorem runs_12  : Go.Ev.isTr (Go.Ev.runTop Go.Ev.XA (.tup 274 4294967322) 5000 3 Tryz.f3 (Go.Ev.argF1 (Go.Ev.restC 12 26))) = true := by
  exact (congrArg (fun F => Go.Ev.isTr (Go.Ev.runTop Go.Ev.XA (.tup 274 4294967322) 5000 3 Tryz.f3 F)) (show Go.Ev.argF1 (Go.Ev.restC 12 26) = 647038720011615355110007404663158000443638533353157593346722110636032 from by decide +kernel)).trans Go.Ev.auditLies_12
theorem runs_13  : Go.Ev.isTr (Go.Ev.runTop Go.Ev.XA (.tup 274 4294967322) 5000 3 Tryz.f3 (Go.Ev.argF1 (Go.Ev.restC 13 26))) = true := by
  exact (congrArg (fun F => Go.Ev.isTr (Go.Ev.runTop Go.Ev.XA (.tup 274 4294967322) 5000 3 Tryz.f3 F)) (show Go.Ev.argF1 (Go.Ev.restC 13 26) = 647038720011615355110007404663498282810559471816620967954153878847488 from by decide +kernel)).trans Go.Ev.auditLies_13
theorem runs_14  : Go.Ev.isTr (Go.Ev.runTop Go.Ev.XA (.tup 274 4294967322) 5000 3 Tryz.f3 (Go.Ev.argF1 (Go.Ev.restC 14 26))) = true := by
  exact (congrArg (fun F => Go.Ev.isTr (Go.Ev.runTop Go.Ev.XA (.tup 274 4294967322) 5000 3 Tryz.f3 F)) (show Go.Ev.argF1 (Go.Ev.restC 14 26) = 647038720011615355110007404663838565177480410280084342561585647058944 from by decide +kernel)).trans Go.Ev.auditLies_14
theorem runs_15  : Go.Ev.isTr (Go.Ev.runTop Go.Ev.XA (.tup 274 4294967322) 5000 3 Tryz.f3 (Go.Ev.argF1 (Go.Ev.restC 15 26))) = true := by
  exact (congrArg (fun F => Go.Ev.isTr (Go.Ev.runTop Go.Ev.XA (.tup 274 4294967322) 5000 3 Tryz.f3 F)) (show Go.Ev.argF1 (Go.Ev.restC 15 26) = 647038720011615355110007404664178847544401348743547717169017415270400 from by decide +kernel)).trans Go.Ev.auditLies_15
theorem runs_16  : Go.Ev.isTr (Go.Ev.runTop Go.Ev.XA (.tup 274 4294967322) 5000 3 Tryz.f3 (Go.Ev.argF1 (Go.Ev.restC 16 26))) = true := by
  exact (congrArg (fun F => Go.Ev.isTr (Go.Ev.runTop Go.Ev.XA (.tup 274 4294967322) 5000 3 Tryz.f3 F)) (show Go.Ev.argF1 (Go.Ev.restC 16 26) = 647038720011615355110007404664519129911322287207011091776449183481856 from by decide +kernel)).trans Go.Ev.auditLies_16
theorem runs_17  : Go.Ev.isTr (Go.Ev.runTop Go.Ev.XA (.tup 274 4294967322) 5000 3 Tryz.f3 (Go.Ev.argF1 (Go.Ev.restC 17 26))) = true := by
  exact (congrArg (fun F => Go.Ev.isTr (Go.Ev.runTop Go.Ev.XA (.tup 274 4294967322) 5000 3 Tryz.f3 F)) (show Go.Ev.argF1 (Go.Ev.restC 17 26) = 647038720011615355110007404664859412278243225670474466383880951693312 from by decide +kernel)).trans Go.Ev.auditLies_17
theorem runs_18  : Go.Ev.isTr (Go.Ev.runTop Go.Ev.XA (.tup 274 4294967322) 5000 3 Tryz.f3 (Go.Ev.argF1 (Go.Ev.restC 18 26))) = true := by
  exact (congrArg (fun F => Go.Ev.isTr (Go.Ev.runTop Go.Ev.XA (.tup 274 4294967322) 5000 3 Tryz.f3 F)) (show Go.Ev.argF1 (Go.Ev.restC 18 26) = 647038720011615355110007404665199694645164164133937840991312719904768 from by decide +kernel)).trans Go.Ev.auditLies_18
theorem runs_19  : Go.Ev.isTr (Go.Ev.runTop Go.Ev.XA (.tup 274 4294967322) 5000 3 Tryz.f3 (Go.Ev.argF1 (Go.Ev.restC 19 26))) = true := by
  exact (congrArg (fun F => Go.Ev.isTr (Go.Ev.runTop Go.Ev.XA (.tup 274 4294967322) 5000 3 Tryz.f3 F)) (show Go.Ev.argF1 (Go.Ev.restC 19 26) = 647038720011615355110007404665539977012085102597401215598744488116224 from by decide +kernel)).trans Go.Ev.auditLies_19
theorem runs_20  : Go.Ev.isTr (Go.Ev.runTop Go.Ev.XA (.tup 274 4294967322) 5000 3 Tryz.f3 (Go.Ev.argF1 (Go.Ev.restC 20 26))) = true := by
  exact (congrArg (fun F => Go.Ev.isTr (Go.Ev.runTop Go.Ev.XA (.tup 274 4294967322) 5000 3 Tryz.f3 F)) (show Go.Ev.argF1 (Go.Ev.restC 20 26) = 647038720011615355110007404665880259379006041060864590206176256327680 from by decide +kernel)).trans Go.Ev.auditLies_20
theorem runs_21  : Go.Ev.isTr (Go.Ev.runTop Go.Ev.XA (.tup 274 4294967322) 5000 3 Tryz.f3 (Go.Ev.argF1 (Go.Ev.restC 21 26))) = true := by
  exact (congrArg (fun F => Go.Ev.isTr (Go.Ev.runTop Go.Ev.XA (.tup 274 4294967322) 5000 3 Tryz.f3 F)) (show Go.Ev.argF1 (Go.Ev.restC 21 26) = 647038720011615355110007404666220541745926979524327964813608024539136 from by decide +kernel)).trans Go.Ev.auditLies_21
theorem runs_22  : Go.Ev.isTr (Go.Ev.runTop Go.Ev.XA (.tup 274 4294967322) 5000 3 Tryz.f3 (Go.Ev.argF1 (Go.Ev.restC 22 26))) = true := by
  exact (congrArg (fun F => Go.Ev.isTr (Go.Ev.runTop Go.Ev.XA (.tup 274 4294967322) 5000 3 Tryz.f3 F)) (show Go.Ev.argF1 (Go.Ev.restC 22 26) = 647038720011615355110007404666560824112847917987791339421039792750592 from by decide +kernel)).trans Go.Ev.auditLies_22
theorem runs_23  : Go.Ev.isTr (Go.Ev.runTop Go.Ev.XA (.tup 274 4294967322) 5000 3 Tryz.f3 (Go.Ev.argF1 (Go.Ev.restC 23 26))) = true := by
  exact (congrArg (fun F => Go.Ev.isTr (Go.Ev.runTop Go.Ev.XA (.tup 274 4294967322) 5000 3 Tryz.f3 F)) (show Go.Ev.argF1 (Go.Ev.restC 23 26) = 647038720011615355110007404666901106479768856451254714028471560962048 from by decide +kernel)).trans Go.Ev.auditLies_23
theorem runs_24  : Go.Ev.isTr (Go.Ev.runTop Go.Ev.XA (.tup 274 4294967322) 5000 3 Tryz.f3 (Go.Ev.argF1 (Go.Ev.restC 24 26))) = true := by
  exact (congrArg (fun F => Go.Ev.isTr (Go.Ev.runTop Go.Ev.XA (.tup 274 4294967322) 5000 3 Tryz.f3 F)) (show Go.Ev.argF1 (Go.Ev.restC 24 26) = 647038720011615355110007404667241388846689794914718088635903329173504 from by decide +kernel)).trans Go.Ev.auditLies_24
theorem runs_25  : Go.Ev.isTr (Go.Ev.runTop Go.Ev.XA (.tup 274 4294967322) 5000 3 Tryz.f3 (Go.Ev.argF1 (Go.Ev.restC 25 26))) = true := by
  exact (congrArg (fun F => Go.Ev.isTr (Go.Ev.runTop Go.Ev.XA (.tup 274 4294967322) 5000 3 Tryz.f3 F)) (show Go.Ev.argF1 (Go.Ev.restC 25 26) = 647038720011615355110007404667581671213610733378181463243335097384960 from by decide +kernel)).trans Go.Ev.auditLies_25
theorem runs (r0 : Nat) (h0 : r0 < 26) : Go.Ev.isTr (Go.Ev.runTop Go.Ev.XA (.tup 274 4294967322) 5000 3 Tryz.f3 (Go.Ev.argF1 (Go.Ev.restC r0 26))) = true := by
  match r0, h0 with
  | 0, _ => exact runs_0 
  | 1, _ => exact runs_1 
  | 2, _ => exact runs_2 
  | 3, _ => exact runs_3 
  | 4, _ => exact runs_4 
  | 5, _ => exact runs_5 
  | 6, _ => exact runs_6 
  | 7, _ => exact runs_7 
  | 8, _ => exact runs_8 
  | 9, _ => exact runs_9 
  | 10, _ => exact runs_10 
  | 11, _ => exact runs_11 
  | 12, _ => exact runs_12 
  | 13, _ => exact runs_13 
  | 14, _ => exact runs_14 
  | 15, _ => exact runs_15 
  | 16, _ => exact runs_16 
  | 17, _ => exact runs_17 
  | 18, _ => exact runs_18 
  | 19, _ => exact runs_19 
  | 20, _ => exact runs_20 
  | 21, _ => exact runs_21 
  | 22, _ => exact runs_22 
  | 23, _ => exact runs_23 
  | 24, _ => exact runs_24 
  | 25, _ => exact runs_25 
  | n + 26, h => exact absurd h (by omega)
theorem walk (a0 : Int) (w0 : (Lit.int .u8 a0).wf = true) (w : World) (hG : Go.Ev.Grounded (.tup 274 4294967322) w) :
    Calls Tryz.prog 3 #[.int .u8 a0] w fun e w' => e = .returned (.bool true) ∧ Go.Ev.Kept w w' := by
  obtain ⟨x0, rfl, hx0⟩ := Go.Ev.u8_nat w0
  exact (Go.Ev.topA Tryz.func3 (by decide +kernel) (runs (x0 % 26) (Nat.mod_lt _ (by decide))) (Go.Ev.args1 (Go.Ev.restC_lt (Nat.lt_trans (Nat.mod_lt x0 (show 0 < 26 by decide)) (by decide)) (by decide)) (fun σ I => Go.Ev.restC_rel hx0 (by decide) (by decide))) w hG).mono fun e w' h => ⟨h.1, h.2⟩

/-! ### THE ROW's STEP: WRITTEN OUT: LEAVE IT -/
set_option maxRecDepth 100000 in
theorem lifted (os : Os) (started : os.Started) (H : Type) (enc : TypeId × Value → H) :
    ReturnsInHanded {} Tryz.checked os 3 .any (fun w args => (Rows.auditLiesSpec.pre enc Tryz.prog Tryz.f3 [] false w args ∧ laidMetH Tryz.prog laidList w) ∧ sizedMet enc Tryz.prog Tryz.f3 (OpenSpec.ofChange Rows.auditLiesSpec) false w args)
      (Rows.auditLiesSpec.post enc Tryz.prog Tryz.f3 false true false false) := by
  refine returnsInHanded_of_change_and (C := Tryz.checked) (X := fun w _ => laidMetH Tryz.prog laidList w) (fun _ _ _ hh h => h.of_heap hh) ownKnobs started (by as_aux_lemma => kernel_rfl) Tryz.func3
    (ChangeSpec.witness_at (enc := enc) (C := Tryz.checked) (os := os) (X := fun w _ => laidMetH Tryz.prog laidList w) false (laidWorld os) #[.int .u8 0] 8 rfl (by as_aux_lemma => kernel_rfl) (by as_aux_lemma => kernel_rfl) (by as_aux_lemma => kernel_rfl) (by as_aux_lemma => kernel_rfl) (by as_aux_lemma => kernel_rfl) (laidWorld_met os _)) ?_
  intro W base args ds gs before hval0 hW _ _ hL _
  have hval : ∀ (j : Nat) t v, Tryz.f3.params[j]? = some t → args[j]? = some v → Value.okWide Tryz.prog W .any base t v := hval0
  have hW' := hW
  obtain ⟨p, q, hA0, hV, rfl, hfz, hnd⟩ := hW
  have hA : DataW.TrodAll enc Tryz.prog W 0 (fun _ => true) true Tryz.f3.params.toList args.toList ds p := hA0
  rw [Tryz.params3] at hA hval
  obtain ⟨v0, vs0, d0, ds0, p0, q0, hargs, rfl, rfl, h0, r0⟩ := trodAll_cons hA
  obtain ⟨rfl, rfl, rfl⟩ := trodAll_nil r0
  obtain rfl : args = #[v0] := by cases args; simp_all
  obtain ⟨rfl, rfl⟩ := trodVars_none hV
  obtain ⟨a0, rfl, rfl, rfl, w0⟩ := open_int Tryz.underlying5 (hval 0 5 v0 rfl rfl) h0
  clear hA0 hval0
  simp only [List.append_nil] at hW'
  refine (walk a0 w0 W (grounded_of hL)).mono fun e W' ⟨he, hg⟩ => ?_
  subst he
  exact ⟨_, rfl, _, _, _, [], _, [], hW', trodAll_mk1 (shut_bool Tryz.underlying4 _), (trodAll_cons_mk (shut_int Tryz.underlying5 w0) trodAll_mk0), rfl, Go.Ev.Kept.frame hg _, fun h => by cases h⟩

theorem over : Rows.auditLiesRow.holds Tryz.pinned (OpenSpec.ofChange Rows.auditLiesSpec) :=
  OpenClaim.holds_of_wide 3 Tryz.f3 rfl rfl rfl rfl rfl rfl rfl ⟨rfl, rfl, rfl, rfl, rfl⟩ rfl rfl rfl rfl rfl (by as_aux_lemma => kernel_rfl) Tryz.func3 closed
    (of_decide_eq_true (by as_aux_lemma => kernel_rfl)) (by unfold Func.isWrapper; first | (rw [if_pos (by decide +kernel)]; kernel_rfl) | (rw [if_neg (by decide +kernel)]; exact ⟨rfl, rfl⟩))
    (fun os started H enc _ => lifted os started H enc)

/-- The card: the row, tied to the program's text. -/
theorem proved : Rows.AuditLiesCardSaid :=
  Claim7.holds_tied_plain_at .later [] [.handle] true (true, "9362e5b35014dba8726f02dc66b3b36d064c7c1652174e5afaaaf92761e0c921") true
    over (fun _ h => by cases h) (by as_aux_lemma => kernel_rfl) (fun _ h => by cases h) auditLies_row_tie rfl ⟨rfl, rfl⟩ shMain rfl
    (fun f fn hf hfn => by
      obtain rfl : f = 3 := Option.some.inj ((show Tryz.prog.funcNamed Rows.auditLiesRow.func = some 3 by as_aux_lemma => kernel_rfl).symm.trans hf) |>.symm
      obtain rfl : fn = Tryz.f3 := (Option.some.inj (Tryz.func3.symm.trans hfn)).symm
      exact ⟨shLooks, fun j t ht => by
        rw [Tryz.params3] at ht
        have h5 : t = 5 ∨ t = 4 := by
          rcases j with _ | _ | _ | j <;> simp at ht <;> (subst ht; simp)
        rcases h5 with rfl | rfl
        · exact shW5
        · exact shW4⟩)
    (goesBy_none rfl)
#print axioms proved
end Go.Proofs.YtimligmdnokamaaGreatDoor.auditLies
