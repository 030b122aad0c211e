/-
  ScriptWaits: while one writes another one waits, and goes on when it is done.
-/
import Derived.Test.YtkcffdanhklphaaGreatDoorWaA
import Derived.Test.YtkcffdanhklphaaGreatDoorWaT
import Derived.Test.YtkcffdanhklphaaGreatDoorWaE0
import Derived.Test.YtkcffdanhklphaaGreatDoorWaE1
import Derived.Test.YtkcffdanhklphaaGreatDoorWaE2
import Derived.Test.YtkcffdanhklphaaGreatDoorWaE3
set_option linter.unusedVariables false
set_option linter.unusedSimpArgs false
set_option maxRecDepth 100000
namespace Go.Proofs.YtkcffdanhklphaaGreatDoor
open Go.RowKit
theorem ok_end : Ev.okS ⟨[], Lk 1000, 22000⟩ = true := by
  have hr := run_last
  rw [Bool.and_eq_true, Bool.and_eq_true] at hr
  exact hr.1.2
set_option maxHeartbeats 4000000 in
theorem walk_any (x : Int) (k : Nat) (hx : x.tmod 4 = (k : Int)) (hk : k < 4) (h0 : 0 ≤ x) (h1 : x < 256) (w : World) (hG : Ev.Grounded Ev.gG w) :
    Calls Tryz.prog 5 #[.int .u8 x] w fun e w' => e = .returned (.bool true) ∧ Ev.Stays w w' := by
  have HKN : Hid (Calls Tryz.prog 11 #[] w fun e w' => e = .returned (.bool true) ∧ Ev.Stays w w') := (Ev.known11 w (hG _ _ rfl)).mono fun e w' h => ⟨h.1, h.2⟩
  have HG := Lib.hid hG
  clear hG
  go_enter Tryz.func5, Tryz.ntmps5
  go_wp2_with fail
  refine HKN.out.mono ?_
  rintro e w1 ⟨rfl, hx1⟩
  have HX := Lib.hid hx1
  clear hx1 HKN
  go_wp2_with fail
  refine (new_t HG.out HX.out run_0).mono ?_
  rintro e w2 ⟨vs, rfl, h⟩
  have H : Hid (At wT vs w w2) := Lib.hid h
  clear h HX
  go_wp2_with fail
  iterate 5 (refine (says_t H.out).mono ?_; clear H; rintro e w3 ⟨rfl, h⟩; have H := Lib.hid h; clear h; go_wp2_with fail)
  refine (waits_w H.out).mono ?_
  clear H
  rintro e wQ ⟨rfl, h⟩
  have H := Lib.hid h
  clear h
  have hcs : k = 0 ∨ k = 1 ∨ k = 2 ∨ k = 3 := by omega
  rcases hcs with rfl | rfl | rfl | rfl
  · have H1 : Hid (At wE0 vs w wQ) := Lib.hid (Ev.AtT.next H.out ok_end run_e0)
    clear H
    unfold wE0 at H1
    have H := H1
    clear H1
    have hix : (Instr.index 28 (.agg #[.string ⟨#[99, 111, 109, 109, 105, 116, 32, 49]⟩, .string ⟨#[97, 98, 111, 114, 116, 32, 49]⟩, .string ⟨#[99, 108, 111, 115, 101, 32, 49]⟩, .string ⟨#[107, 105, 108, 108, 32, 49]⟩]) (.int .u8 0)).run Tryz.prog wQ = .ok (.string tx13) wQ := by kernel_rfl
    go_wp2_with fail
    iterate 6 (refine (says_t H.out).mono ?_; clear H; rintro e w3 ⟨rfl, h⟩; have H := Lib.hid h; clear h; go_wp2_with fail)
    go_ret
    exact ⟨rfl, H.out.kept⟩
  · have H1 : Hid (At wE1 vs w wQ) := Lib.hid (Ev.AtT.next H.out ok_end run_e1)
    clear H
    unfold wE1 at H1
    have H := H1
    clear H1
    have hix : (Instr.index 28 (.agg #[.string ⟨#[99, 111, 109, 109, 105, 116, 32, 49]⟩, .string ⟨#[97, 98, 111, 114, 116, 32, 49]⟩, .string ⟨#[99, 108, 111, 115, 101, 32, 49]⟩, .string ⟨#[107, 105, 108, 108, 32, 49]⟩]) (.int .u8 1)).run Tryz.prog wQ = .ok (.string tx14) wQ := by kernel_rfl
    go_wp2_with fail
    iterate 6 (refine (says_t H.out).mono ?_; clear H; rintro e w3 ⟨rfl, h⟩; have H := Lib.hid h; clear h; go_wp2_with fail)
    go_ret
    exact ⟨rfl, H.out.kept⟩
  · have H1 : Hid (At wE2 vs w wQ) := Lib.hid (Ev.AtT.next H.out ok_end run_e2)
    clear H
    unfold wE2 at H1
    have H := H1
    clear H1
    have hix : (Instr.index 28 (.agg #[.string ⟨#[99, 111, 109, 109, 105, 116, 32, 49]⟩, .string ⟨#[97, 98, 111, 114, 116, 32, 49]⟩, .string ⟨#[99, 108, 111, 115, 101, 32, 49]⟩, .string ⟨#[107, 105, 108, 108, 32, 49]⟩]) (.int .u8 2)).run Tryz.prog wQ = .ok (.string tx15) wQ := by kernel_rfl
    go_wp2_with fail
    iterate 6 (refine (says_t H.out).mono ?_; clear H; rintro e w3 ⟨rfl, h⟩; have H := Lib.hid h; clear h; go_wp2_with fail)
    go_ret
    exact ⟨rfl, H.out.kept⟩
  · have H1 : Hid (At wE3 vs w wQ) := Lib.hid (Ev.AtT.next H.out ok_end run_e3)
    clear H
    unfold wE3 at H1
    have H := H1
    clear H1
    have hix : (Instr.index 28 (.agg #[.string ⟨#[99, 111, 109, 109, 105, 116, 32, 49]⟩, .string ⟨#[97, 98, 111, 114, 116, 32, 49]⟩, .string ⟨#[99, 108, 111, 115, 101, 32, 49]⟩, .string ⟨#[107, 105, 108, 108, 32, 49]⟩]) (.int .u8 3)).run Tryz.prog wQ = .ok (.string tx16) wQ := by kernel_rfl
    go_wp2_with fail
    iterate 6 (refine (says_t H.out).mono ?_; clear H; rintro e w3 ⟨rfl, h⟩; have H := Lib.hid h; clear h; go_wp2_with fail)
    go_ret
    exact ⟨rfl, H.out.kept⟩
end Go.Proofs.YtkcffdanhklphaaGreatDoor
