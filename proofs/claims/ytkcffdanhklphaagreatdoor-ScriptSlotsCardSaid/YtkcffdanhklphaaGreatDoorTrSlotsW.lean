/-
  ScriptSlots: as many readers as there are slots, and one more.
-/
import Derived.Test.YtkcffdanhklphaaGreatDoorTrSlotsR0
import Derived.Test.YtkcffdanhklphaaGreatDoorTrSlotsR1
import Derived.Test.YtkcffdanhklphaaGreatDoorTrSlotsR2
set_option linter.unusedVariables false
set_option linter.unusedSimpArgs false
set_option maxRecDepth 100000
namespace Go.Proofs.YtkcffdanhklphaaGreatDoor
open Go.RowKit
noncomputable section
theorem s_kill {k : Nat} {vs : Value} {w0 w : World} (hk : k < 8) (h : At (sL 0 11) vs w0 w) : At (sK (k + 1)) vs w0 w := by
  have hn : At sN vs w0 w := h
  have hcs : k = 0 ∨ k = 1 ∨ k = 2 ∨ k = 3 ∨ k = 4 ∨ k = 5 ∨ k = 6 ∨ k = 7 := by omega
  rcases hcs with rfl | rfl | rfl | rfl | rfl | rfl | rfl | rfl
  · exact Ev.AtT.next hn ok_n run_1
  · exact Ev.AtT.next hn ok_n run_2
  · exact Ev.AtT.next hn ok_n run_3
  · exact Ev.AtT.next hn ok_n run_4
  · exact Ev.AtT.next hn ok_n run_5
  · exact Ev.AtT.next hn ok_n run_6
  · exact Ev.AtT.next hn ok_n run_7
  · exact Ev.AtT.next hn ok_n run_8

set_option maxHeartbeats 4000000 in
theorem walk_0 (x : Int) (k : Nat) (hx : x.tmod 8 = (k : Int)) (hk : k < 8) (h0 : 0 ≤ x) (h1 : x < 256) (w : World) (hG : Ev.Grounded Ev.gG w) :
    Calls Tryz.prog 9 #[.int .u8 x, .bool false] w fun e w' => e = .returned (.bool true) ∧ Ev.Stays w w' := by
  have HKN : Hid (Calls Tryz.prog 11 #[] w fun e w' => e = .returned (.bool true) ∧ Ev.Stays w w') := (Ev.known11 w (hG _ _ rfl)).mono fun e w' h => ⟨h.1, h.2⟩
  have HG := Lib.hid hG
  clear hG
  go_enter Tryz.func9, Tryz.ntmps9
  go_wp2_with fail
  refine HKN.out.mono ?_
  rintro e w1 ⟨rfl, hx1⟩
  have HX := Lib.hid hx1
  clear hx1 HKN
  go_wp2_with fail
  refine (new_t HG.out HX.out run_0).mono ?_
  rintro e w2 ⟨vs, rfl, h⟩
  have H : Hid (At (sL 10 1) vs w w2) := Lib.hid h
  clear h HX
  go_wp2_with fail
  go_loopw [6, 7] (fun q _ wr => ∃ t : Nat, 1 ≤ t ∧ t ≤ 11 ∧ q = .int .i64 t ∧ At (sL (11 - t) t) vs w wr) (fun q _ _ => 11 - (intOf q).toNat)
  case atStart => exact ⟨1, by omega, by omega, rfl, H.out⟩
  case round =>
    obtain ⟨t, ht1, ht2, rfl, hat⟩ := hrel
    clear H
    have HAT := Lib.hid hat
    clear hat
    by_cases hlt : t ≤ 10
    · have b2 : (t : Int) ≤ 10 := by omega
      by_cases h8 : 8 < t
      · have b8 : (8 : Int) < (t : Int) := by omega
        have H : Hid (At (.says tx2 (numB t) (.says ((tx3 ++ numB t) ++ tx4) tx0 (.says (tx5 ++ numB t) tx1 (sL (10 - t) (t + 1))))) vs w wr) := by
          have h := HAT.out
          rw [show 11 - t = (10 - t) + 1 by omega] at h
          unfold sL at h
          rw [if_pos h8] at h
          exact h
        clear HAT
        have hc1 : ¬ 9223372036854775807 < 5 + (numB t).size := by have := num_size t; omega
        have hc2 : ¬ 9223372036854775807 < 5 + (numB t).size + 4 := by have := num_size t; omega
        go_wp2_with fail
        refine (num_any (n := t) HG.out H.out.kept (by omega)).mono ?_
        rintro e w3 ⟨rfl, h⟩
        replace H := Lib.hid (H.out.stays h)
        clear h
        go_wp2_with fail
        iterate 1 (refine (says_t H.out).mono ?_; clear H; rintro e w3 ⟨rfl, h⟩; have H := Lib.hid h; clear h; go_wp2_with fail)
        refine (num_any (n := t) HG.out H.out.kept (by omega)).mono ?_
        rintro e w3 ⟨rfl, h⟩
        replace H := Lib.hid (H.out.stays h)
        clear h
        go_wp2_with fail
        iterate 1 (refine (says_t H.out).mono ?_; clear H; rintro e w3 ⟨rfl, h⟩; have H := Lib.hid h; clear h; go_wp2_with fail)
        refine (num_any (n := t) HG.out H.out.kept (by omega)).mono ?_
        rintro e w3 ⟨rfl, h⟩
        replace H := Lib.hid (H.out.stays h)
        clear h
        go_wp2_with fail
        iterate 1 (refine (says_t H.out).mono ?_; clear H; rintro e w3 ⟨rfl, h⟩; have H := Lib.hid h; clear h; go_wp2_with fail)
        go_roundw
        case rel => exact ⟨t + 1, by omega, by omega, by go_num, by rw [show 11 - (t + 1) = 10 - t by omega]; exact H.out⟩
        case measure => simp [intOf]; omega
      · have b8 : ¬ (8 : Int) < (t : Int) := by omega
        have H : Hid (At (.says tx2 (numB t) (.says ((tx3 ++ numB t) ++ tx4) tx0 (.says (tx5 ++ numB t) tx0 (sL (10 - t) (t + 1))))) vs w wr) := by
          have h := HAT.out
          rw [show 11 - t = (10 - t) + 1 by omega] at h
          unfold sL at h
          rw [if_neg h8] at h
          exact h
        clear HAT
        have hc1 : ¬ 9223372036854775807 < 5 + (numB t).size := by have := num_size t; omega
        have hc2 : ¬ 9223372036854775807 < 5 + (numB t).size + 4 := by have := num_size t; omega
        go_wp2_with fail
        refine (num_any (n := t) HG.out H.out.kept (by omega)).mono ?_
        rintro e w3 ⟨rfl, h⟩
        replace H := Lib.hid (H.out.stays h)
        clear h
        go_wp2_with fail
        iterate 1 (refine (says_t H.out).mono ?_; clear H; rintro e w3 ⟨rfl, h⟩; have H := Lib.hid h; clear h; go_wp2_with fail)
        refine (num_any (n := t) HG.out H.out.kept (by omega)).mono ?_
        rintro e w3 ⟨rfl, h⟩
        replace H := Lib.hid (H.out.stays h)
        clear h
        go_wp2_with fail
        iterate 1 (refine (says_t H.out).mono ?_; clear H; rintro e w3 ⟨rfl, h⟩; have H := Lib.hid h; clear h; go_wp2_with fail)
        refine (num_any (n := t) HG.out H.out.kept (by omega)).mono ?_
        rintro e w3 ⟨rfl, h⟩
        replace H := Lib.hid (H.out.stays h)
        clear h
        go_wp2_with fail
        iterate 1 (refine (says_t H.out).mono ?_; clear H; rintro e w3 ⟨rfl, h⟩; have H := Lib.hid h; clear h; go_wp2_with fail)
        go_roundw
        case rel => exact ⟨t + 1, by omega, by omega, by go_num, by rw [show 11 - (t + 1) = 10 - t by omega]; exact H.out⟩
        case measure => simp [intOf]; omega
    · obtain rfl : t = 11 := by omega
      have H := Lib.hid (s_kill hk HAT.out)
      clear HAT
      have hc1 : ¬ 9223372036854775807 < 5 + (numB (k + 1)).size := by have := num_size (k + 1); omega
      go_wp2_with fail
      refine (num_any (n := k + 1) HG.out H.out.kept (by omega)).mono ?_
      rintro e w3 ⟨rfl, h⟩
      replace H := Lib.hid (H.out.stays h)
      clear h
      go_wp2_with fail
      iterate 1 (refine (says_t H.out).mono ?_; clear H; rintro e w3 ⟨rfl, h⟩; have H := Lib.hid h; clear h; go_wp2_with fail)
      refine (says_t H.out).mono ?_
      clear H
      rintro e w3 ⟨rfl, h⟩
      have H := Lib.hid h.right
      clear h
      go_wp2_with fail
      iterate 4 (refine (says_t H.out).mono ?_; clear H; rintro e w3 ⟨rfl, h⟩; have H := Lib.hid h; clear h; go_wp2_with fail)
      go_ret
      exact ⟨rfl, H.out.kept⟩
set_option maxHeartbeats 4000000 in
theorem walk_1 (x : Int) (k : Nat) (hx : x.tmod 8 = (k : Int)) (hk : k < 8) (h0 : 0 ≤ x) (h1 : x < 256) (w : World) (hG : Ev.Grounded Ev.gG w) :
    Calls Tryz.prog 9 #[.int .u8 x, .bool true] w fun e w' => e = .returned (.bool true) ∧ Ev.Stays w w' := by
  have HKN : Hid (Calls Tryz.prog 11 #[] w fun e w' => e = .returned (.bool true) ∧ Ev.Stays w w') := (Ev.known11 w (hG _ _ rfl)).mono fun e w' h => ⟨h.1, h.2⟩
  have HG := Lib.hid hG
  clear hG
  go_enter Tryz.func9, Tryz.ntmps9
  go_wp2_with fail
  refine HKN.out.mono ?_
  rintro e w1 ⟨rfl, hx1⟩
  have HX := Lib.hid hx1
  clear hx1 HKN
  go_wp2_with fail
  refine (new_t HG.out HX.out run_0).mono ?_
  rintro e w2 ⟨vs, rfl, h⟩
  have H : Hid (At (sL 10 1) vs w w2) := Lib.hid h
  clear h HX
  go_wp2_with fail
  go_loopw [6, 7] (fun q _ wr => ∃ t : Nat, 1 ≤ t ∧ t ≤ 11 ∧ q = .int .i64 t ∧ At (sL (11 - t) t) vs w wr) (fun q _ _ => 11 - (intOf q).toNat)
  case atStart => exact ⟨1, by omega, by omega, rfl, H.out⟩
  case round =>
    obtain ⟨t, ht1, ht2, rfl, hat⟩ := hrel
    clear H
    have HAT := Lib.hid hat
    clear hat
    by_cases hlt : t ≤ 10
    · have b2 : (t : Int) ≤ 10 := by omega
      by_cases h8 : 8 < t
      · have b8 : (8 : Int) < (t : Int) := by omega
        have H : Hid (At (.says tx2 (numB t) (.says ((tx3 ++ numB t) ++ tx4) tx0 (.says (tx5 ++ numB t) tx1 (sL (10 - t) (t + 1))))) vs w wr) := by
          have h := HAT.out
          rw [show 11 - t = (10 - t) + 1 by omega] at h
          unfold sL at h
          rw [if_pos h8] at h
          exact h
        clear HAT
        have hc1 : ¬ 9223372036854775807 < 5 + (numB t).size := by have := num_size t; omega
        have hc2 : ¬ 9223372036854775807 < 5 + (numB t).size + 4 := by have := num_size t; omega
        go_wp2_with fail
        refine (num_any (n := t) HG.out H.out.kept (by omega)).mono ?_
        rintro e w3 ⟨rfl, h⟩
        replace H := Lib.hid (H.out.stays h)
        clear h
        go_wp2_with fail
        iterate 1 (refine (says_t H.out).mono ?_; clear H; rintro e w3 ⟨rfl, h⟩; have H := Lib.hid h; clear h; go_wp2_with fail)
        refine (num_any (n := t) HG.out H.out.kept (by omega)).mono ?_
        rintro e w3 ⟨rfl, h⟩
        replace H := Lib.hid (H.out.stays h)
        clear h
        go_wp2_with fail
        iterate 1 (refine (says_t H.out).mono ?_; clear H; rintro e w3 ⟨rfl, h⟩; have H := Lib.hid h; clear h; go_wp2_with fail)
        refine (num_any (n := t) HG.out H.out.kept (by omega)).mono ?_
        rintro e w3 ⟨rfl, h⟩
        replace H := Lib.hid (H.out.stays h)
        clear h
        go_wp2_with fail
        iterate 1 (refine (says_t H.out).mono ?_; clear H; rintro e w3 ⟨rfl, h⟩; have H := Lib.hid h; clear h; go_wp2_with fail)
        go_roundw
        case rel => exact ⟨t + 1, by omega, by omega, by go_num, by rw [show 11 - (t + 1) = 10 - t by omega]; exact H.out⟩
        case measure => simp [intOf]; omega
      · have b8 : ¬ (8 : Int) < (t : Int) := by omega
        have H : Hid (At (.says tx2 (numB t) (.says ((tx3 ++ numB t) ++ tx4) tx0 (.says (tx5 ++ numB t) tx0 (sL (10 - t) (t + 1))))) vs w wr) := by
          have h := HAT.out
          rw [show 11 - t = (10 - t) + 1 by omega] at h
          unfold sL at h
          rw [if_neg h8] at h
          exact h
        clear HAT
        have hc1 : ¬ 9223372036854775807 < 5 + (numB t).size := by have := num_size t; omega
        have hc2 : ¬ 9223372036854775807 < 5 + (numB t).size + 4 := by have := num_size t; omega
        go_wp2_with fail
        refine (num_any (n := t) HG.out H.out.kept (by omega)).mono ?_
        rintro e w3 ⟨rfl, h⟩
        replace H := Lib.hid (H.out.stays h)
        clear h
        go_wp2_with fail
        iterate 1 (refine (says_t H.out).mono ?_; clear H; rintro e w3 ⟨rfl, h⟩; have H := Lib.hid h; clear h; go_wp2_with fail)
        refine (num_any (n := t) HG.out H.out.kept (by omega)).mono ?_
        rintro e w3 ⟨rfl, h⟩
        replace H := Lib.hid (H.out.stays h)
        clear h
        go_wp2_with fail
        iterate 1 (refine (says_t H.out).mono ?_; clear H; rintro e w3 ⟨rfl, h⟩; have H := Lib.hid h; clear h; go_wp2_with fail)
        refine (num_any (n := t) HG.out H.out.kept (by omega)).mono ?_
        rintro e w3 ⟨rfl, h⟩
        replace H := Lib.hid (H.out.stays h)
        clear h
        go_wp2_with fail
        iterate 1 (refine (says_t H.out).mono ?_; clear H; rintro e w3 ⟨rfl, h⟩; have H := Lib.hid h; clear h; go_wp2_with fail)
        go_roundw
        case rel => exact ⟨t + 1, by omega, by omega, by go_num, by rw [show 11 - (t + 1) = 10 - t by omega]; exact H.out⟩
        case measure => simp [intOf]; omega
    · obtain rfl : t = 11 := by omega
      have H := Lib.hid (s_kill hk HAT.out)
      clear HAT
      have hc1 : ¬ 9223372036854775807 < 5 + (numB (k + 1)).size := by have := num_size (k + 1); omega
      go_wp2_with fail
      refine (num_any (n := k + 1) HG.out H.out.kept (by omega)).mono ?_
      rintro e w3 ⟨rfl, h⟩
      replace H := Lib.hid (H.out.stays h)
      clear h
      go_wp2_with fail
      iterate 1 (refine (says_t H.out).mono ?_; clear H; rintro e w3 ⟨rfl, h⟩; have H := Lib.hid h; clear h; go_wp2_with fail)
      refine (says_t H.out).mono ?_
      clear H
      rintro e w3 ⟨rfl, h⟩
      have H := Lib.hid h.left
      clear h
      go_wp2_with fail
      iterate 5 (refine (says_t H.out).mono ?_; clear H; rintro e w3 ⟨rfl, h⟩; have H := Lib.hid h; clear h; go_wp2_with fail)
      go_ret
      exact ⟨rfl, H.out.kept⟩
end
end Go.Proofs.YtkcffdanhklphaaGreatDoor
