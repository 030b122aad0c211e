/-
  ScriptReaders: a reader reads the version that was last when it began.
-/
import Derived.Test.YtkcffdanhklphaaGreatDoorTrReadersR0
import Derived.Test.YtkcffdanhklphaaGreatDoorTrReadersR1
import Derived.Test.YtkcffdanhklphaaGreatDoorTrReadersR2
import Derived.Test.YtkcffdanhklphaaGreatDoorTrReadersR3
import Derived.Test.YtkcffdanhklphaaGreatDoorTrReadersR4
set_option linter.unusedVariables false
set_option linter.unusedSimpArgs false
set_option maxRecDepth 100000
namespace Go.Proofs.YtkcffdanhklphaaGreatDoor
open Go.RowKit
noncomputable section
theorem r_end {t : Nat} {vs : Value} {w0 w : World} (ht : t < 8) (h : At (rS t) vs w0 w) : At (rE t) vs w0 w := by
  have hcs : t = 0 ∨ t = 1 ∨ t = 2 ∨ t = 3 ∨ t = 4 ∨ t = 5 ∨ t = 6 ∨ t = 7 := by omega
  rcases hcs with rfl | rfl | rfl | rfl | rfl | rfl | rfl | rfl
  · exact h.left
  · exact h.left
  · exact h.left
  · exact Ev.AtT.next h ok_n3 run_3e
  · exact Ev.AtT.next h ok_n4 run_4e
  · exact Ev.AtT.next h ok_n5 run_5e
  · exact Ev.AtT.next h ok_n6 run_6e
  · exact h
theorem r_step {t : Nat} {vs : Value} {w0 w : World} (ht : t < 7) (h : At (rS t) vs w0 w) : At (.says tx10 tx0 (.says ((tx4 ++ numB (t + 1)) ++ tx5) tx0 (.says tx8 tx0 (.says tx11 tx15 (.says tx12 tx13 (rN t)))))) vs w0 w := by
  have hcs : t = 0 ∨ t = 1 ∨ t = 2 ∨ t = 3 ∨ t = 4 ∨ t = 5 ∨ t = 6 := by omega
  rcases hcs with rfl | rfl | rfl | rfl | rfl | rfl | rfl
  · exact h.right
  · exact h.right
  · exact h.right
  · exact Ev.AtT.next h ok_n3 run_3r
  · exact Ev.AtT.next h ok_n4 run_4r
  · exact Ev.AtT.next h ok_n5 run_5r
  · exact Ev.AtT.next h ok_n6 run_6r
theorem r_next {t : Nat} {vs : Value} {w0 w : World} (ht : t < 7) (h : At (rN t) vs w0 w) : At (rS (t + 1)) vs w0 w := by
  have hcs : t = 0 ∨ t = 1 ∨ t = 2 ∨ t = 3 ∨ t = 4 ∨ t = 5 ∨ t = 6 := by omega
  rcases hcs with rfl | rfl | rfl | rfl | rfl | rfl | rfl
  · exact Ev.AtT.next h ok_n1 run_1
  · exact Ev.AtT.next h ok_n2 run_2
  · exact h
  · exact h
  · exact h
  · exact h
  · exact Ev.AtT.next h ok_n7 run_7
/-- what the first loop says -/
def rF : Nat → Ev.Tr
  | 1 => .says tx1 (numB 1) (.says ((tx2 ++ numB 1) ++ tx3) tx0 (.says tx1 (numB 2) (.says ((tx2 ++ numB 2) ++ tx3) tx0 (.says tx10 tx0 (.says tx9 tx0 (.says tx8 tx0 (.says tx7 tx0 (rZ))))))))
  | 2 => .says tx1 (numB 2) (.says ((tx2 ++ numB 2) ++ tx3) tx0 (.says tx10 tx0 (.says tx9 tx0 (.says tx8 tx0 (.says tx7 tx0 (rZ))))))
  | _ => .says tx10 tx0 (.says tx9 tx0 (.says tx8 tx0 (.says tx7 tx0 (rZ))))

set_option maxHeartbeats 4000000 in
theorem walk_any (x : Int) (k : Nat) (hx : x.tmod 8 = (k : Int)) (hk : k < 8) (h0 : 0 ≤ x) (h1 : x < 256) (w : World) (hG : Ev.Grounded Ev.gG w) :
    Calls Tryz.prog 3 #[.int .u8 x] w fun e w' => e = .returned (.bool true) ∧ Ev.Stays w w' := by
  have HKN : Hid (Calls Tryz.prog 11 #[] w fun e w' => e = .returned (.bool true) ∧ Ev.Stays w w') := (Ev.known11 w (hG _ _ rfl)).mono fun e w' h => ⟨h.1, h.2⟩
  have HG := Lib.hid hG
  clear hG
  go_enter Tryz.func3, Tryz.ntmps3
  go_wp2_with fail
  refine HKN.out.mono ?_
  rintro e w1 ⟨rfl, hx1⟩
  have HX := Lib.hid hx1
  clear hx1 HKN
  go_wp2_with fail
  refine (new_t HG.out HX.out run_0).mono ?_
  rintro e w2 ⟨vs, rfl, h⟩
  have H : Hid (At rT vs w w2) := Lib.hid h
  clear h HX
  go_wp2_with fail
  go_loopw [4] (fun q wr => ∃ t : Nat, 1 ≤ t ∧ t ≤ 3 ∧ q = .int .i64 t ∧ At (rF t) vs w wr) (fun q _ => 3 - (intOf q).toNat)
  case atStart => exact ⟨1, by omega, by omega, rfl, H.out⟩
  case round =>
    obtain ⟨t, ht1, ht2, rfl, hat⟩ := hrel
    clear H
    have HAT := Lib.hid hat
    clear hat
    by_cases hlt : t ≤ 2
    · have b2 : (t : Int) ≤ 2 := by omega
      have H : Hid (At (.says tx1 (numB t) (.says ((tx2 ++ numB t) ++ tx3) tx0 (rF (t + 1)))) vs w wr) := by
        have h := HAT.out
        have : t = 1 ∨ t = 2 := by omega
        rcases this with rfl | rfl
        · exact h
        · exact h
      clear HAT
      have hc1 : ¬ 9223372036854775807 < 5 + (numB t).size := by have := num_size t; omega
      have hc2 : ¬ 9223372036854775807 < 5 + (numB t).size + 4 := by have := num_size t; omega
      go_wp2_with fail
      refine (num_any (n := t) HG.out H.out.kept (by omega)).mono ?_
      rintro e w3 ⟨rfl, h⟩
      replace H := Lib.hid (H.out.stays h)
      clear h
      go_wp2_with fail
      iterate 1 (refine (says_t H.out).mono ?_; clear H; rintro e w3 ⟨rfl, h⟩; have H := Lib.hid h; clear h; go_wp2_with fail)
      refine (num_any (n := t) HG.out H.out.kept (by omega)).mono ?_
      rintro e w3 ⟨rfl, h⟩
      replace H := Lib.hid (H.out.stays h)
      clear h
      go_wp2_with fail
      iterate 1 (refine (says_t H.out).mono ?_; clear H; rintro e w3 ⟨rfl, h⟩; have H := Lib.hid h; clear h; go_wp2_with fail)
      go_roundw
      case rel => exact ⟨t + 1, by omega, by omega, by go_num, H.out⟩
      case measure => simp [intOf]; omega
    · obtain rfl : t = 3 := by omega
      have H : Hid (At (.says tx10 tx0 (.says tx9 tx0 (.says tx8 tx0 (.says tx7 tx0 (rZ))))) vs w wr) := Lib.hid HAT.out
      clear HAT
      go_wp2_with fail
      iterate 4 (refine (says_t H.out).mono ?_; clear H; rintro e w3 ⟨rfl, h⟩; have H := Lib.hid h; clear h; go_wp2_with fail)
      go_loopw [5] (fun q wr => ∃ t : Nat, t ≤ k ∧ q = .int .i64 (t + 1 : Nat) ∧ At (rS t) vs w wr) (fun q _ => k + 1 - (intOf q).toNat)
      case atStart => exact ⟨0, by omega, rfl, Ev.AtT.next H.out ok_n0 run_z⟩
      case round =>
        obtain ⟨t, ht, rfl, hat⟩ := hrel
        clear H
        have HAT := Lib.hid hat
        clear hat
        by_cases hlt : t < k
        · have b2 : ((t + 1 : Nat) : Int) ≤ (k : Int) := by omega
          have H := Lib.hid (r_step (by omega) HAT.out)
          clear HAT
          have hc1 : ¬ 9223372036854775807 < 11 + (numB (t + 1)).size := by have := num_size (t + 1); omega
          have hc2 : ¬ 9223372036854775807 < 11 + (numB (t + 1)).size + 2 := by have := num_size (t + 1); omega
          go_wp2_with fail
          iterate 1 (refine (says_t H.out).mono ?_; clear H; rintro e w3 ⟨rfl, h⟩; have H := Lib.hid h; clear h; go_wp2_with fail)
          refine (num_any (n := t + 1) HG.out H.out.kept (by omega)).mono ?_
          rintro e w3 ⟨rfl, h⟩
          replace H := Lib.hid (H.out.stays h)
          clear h
          go_wp2_with fail
          iterate 4 (refine (says_t H.out).mono ?_; clear H; rintro e w3 ⟨rfl, h⟩; have H := Lib.hid h; clear h; go_wp2_with fail)
          go_roundw
          case rel => exact ⟨t + 1, by omega, by go_num, r_next (by omega) H.out⟩
          case measure => simp [intOf]; omega
        · obtain rfl : t = k := by omega
          have b2 : ¬ ((t + 1 : Nat) : Int) ≤ (t : Int) := by omega
          have H := Lib.hid (r_end (by omega) HAT.out)
          clear HAT
          have hc1 : ¬ 9223372036854775807 < 4 + (numB t).size := by have := num_size t; omega
          go_wp2_with fail
          iterate 2 (refine (says_t H.out).mono ?_; clear H; rintro e w3 ⟨rfl, h⟩; have H := Lib.hid h; clear h; go_wp2_with fail)
          refine (num_any (n := t) HG.out H.out.kept (by omega)).mono ?_
          rintro e w3 ⟨rfl, h⟩
          replace H := Lib.hid (H.out.stays h)
          clear h
          go_wp2_with fail
          iterate 2 (refine (says_t H.out).mono ?_; clear H; rintro e w3 ⟨rfl, h⟩; have H := Lib.hid h; clear h; go_wp2_with fail)
          go_ret
          exact ⟨rfl, H.out.kept⟩
end
end Go.Proofs.YtkcffdanhklphaaGreatDoor
