/-
  ScriptLong: long values, one in place of another, many times.
-/
import Derived.Test.YtkcffdanhklphaaGreatDoorTrQ
import Derived.Test.YtkcffdanhklphaaGreatDoorTrLongR0
import Derived.Test.YtkcffdanhklphaaGreatDoorTrLongR1
import Derived.Test.YtkcffdanhklphaaGreatDoorTrLongR2
import Derived.Test.YtkcffdanhklphaaGreatDoorTrLongR3
import Derived.Test.YtkcffdanhklphaaGreatDoorTrLongR4
import Derived.Test.YtkcffdanhklphaaGreatDoorTrLongR5
import Derived.Test.YtkcffdanhklphaaGreatDoorTrLongR6
import Derived.Test.YtkcffdanhklphaaGreatDoorTrLongR7
import Derived.Test.YtkcffdanhklphaaGreatDoorTrLongR8
import Derived.Test.YtkcffdanhklphaaGreatDoorTrLongR9
import Derived.Test.YtkcffdanhklphaaGreatDoorTrLongR10
import Derived.Test.YtkcffdanhklphaaGreatDoorTrLongR11
import Derived.Test.YtkcffdanhklphaaGreatDoorTrLongR12
import Derived.Test.YtkcffdanhklphaaGreatDoorTrLongR13
import Derived.Test.YtkcffdanhklphaaGreatDoorTrLongR14
import Derived.Test.YtkcffdanhklphaaGreatDoorTrLongR15
set_option linter.unusedVariables false
set_option linter.unusedSimpArgs false
set_option maxRecDepth 100000
namespace Go.Proofs.YtkcffdanhklphaaGreatDoor
open Go.RowKit
noncomputable section
theorem ok_n1 : Ev.okS ⟨[], L_n1, 1306⟩ = true := by decide +kernel
theorem ok_n2 : Ev.okS ⟨[], L_n2, 3105⟩ = true := by decide +kernel
theorem ok_n3 : Ev.okS ⟨[], L_n3, 5141⟩ = true := by decide +kernel
theorem ok_n4 : Ev.okS ⟨[], L_n4, 7457⟩ = true := by decide +kernel
theorem ok_n5 : Ev.okS ⟨[], L_n5, 9880⟩ = true := by decide +kernel
theorem ok_n6 : Ev.okS ⟨[], L_n6, 12158⟩ = true := by decide +kernel
theorem ok_n7 : Ev.okS ⟨[], L_n7, 14612⟩ = true := by decide +kernel
theorem ok_n8 : Ev.okS ⟨[], L_n8, 17118⟩ = true := by decide +kernel
theorem ok_n9 : Ev.okS ⟨[], L_n9, 19746⟩ = true := by decide +kernel
theorem ok_n10 : Ev.okS ⟨[], L_n10, 22447⟩ = true := by decide +kernel
theorem ok_n11 : Ev.okS ⟨[], L_n11, 25068⟩ = true := by decide +kernel
theorem ok_n12 : Ev.okS ⟨[], L_n12, 27818⟩ = true := by decide +kernel
theorem ok_n13 : Ev.okS ⟨[], L_n13, 30622⟩ = true := by decide +kernel
theorem ok_n14 : Ev.okS ⟨[], L_n14, 33546⟩ = true := by decide +kernel
theorem ok_n15 : Ev.okS ⟨[], L_n15, 36514⟩ = true := by decide +kernel
theorem ok_n16 : Ev.okS ⟨[], L_n16, 39359⟩ = true := by decide +kernel
theorem ok_n17 : Ev.okS ⟨[], L_n17, 42335⟩ = true := by decide +kernel
theorem ok_n18 : Ev.okS ⟨[], L_n18, 45363⟩ = true := by decide +kernel
theorem ok_n19 : Ev.okS ⟨[], L_n19, 48513⟩ = true := by decide +kernel
theorem ok_n20 : Ev.okS ⟨[], L_n20, 51705⟩ = true := by decide +kernel
theorem ok_n21 : Ev.okS ⟨[], L_n21, 54776⟩ = true := by decide +kernel
theorem ok_n22 : Ev.okS ⟨[], L_n22, 57976⟩ = true := by decide +kernel
theorem ok_n23 : Ev.okS ⟨[], L_n23, 61230⟩ = true := by decide +kernel
theorem ok_n24 : Ev.okS ⟨[], L_n24, 64604⟩ = true := by decide +kernel
theorem ok_n25 : Ev.okS ⟨[], L_n25, 68022⟩ = true := by decide +kernel
theorem ok_n26 : Ev.okS ⟨[], L_n26, 71317⟩ = true := by decide +kernel
theorem ok_n27 : Ev.okS ⟨[], L_n27, 74743⟩ = true := by decide +kernel
theorem ok_n28 : Ev.okS ⟨[], L_n28, 78221⟩ = true := by decide +kernel
theorem ok_n29 : Ev.okS ⟨[], L_n29, 81821⟩ = true := by decide +kernel
theorem r_end {t : Nat} {vs : Value} {w0 w : World} (ht : t < 30) (h : At (rS t) vs w0 w) : At rE vs w0 w := by
  have hcs : t = 0 ∨ t = 1 ∨ t = 2 ∨ t = 3 ∨ t = 4 ∨ t = 5 ∨ t = 6 ∨ t = 7 ∨ t = 8 ∨ t = 9 ∨ t = 10 ∨ t = 11 ∨ t = 12 ∨ t = 13 ∨ t = 14 ∨ t = 15 ∨ t = 16 ∨ t = 17 ∨ t = 18 ∨ t = 19 ∨ t = 20 ∨ t = 21 ∨ t = 22 ∨ t = 23 ∨ t = 24 ∨ t = 25 ∨ t = 26 ∨ t = 27 ∨ t = 28 ∨ t = 29 := by omega
  rcases hcs with rfl | rfl | rfl | rfl | rfl | rfl | rfl | rfl | rfl | rfl | rfl | rfl | rfl | rfl | rfl | rfl | rfl | rfl | rfl | rfl | rfl | rfl | rfl | rfl | rfl | rfl | rfl | rfl | rfl | rfl
  · exact h.left
  · exact h.left
  · exact h.left
  · exact h.left
  · exact h.left
  · exact h.left
  · exact h.left
  · exact h.left
  · exact h.left
  · exact h.left
  · exact Ev.AtT.next h ok_n10 run_10e
  · exact Ev.AtT.next h ok_n11 run_11e
  · exact Ev.AtT.next h ok_n12 run_12e
  · exact Ev.AtT.next h ok_n13 run_13e
  · exact Ev.AtT.next h ok_n14 run_14e
  · exact Ev.AtT.next h ok_n15 run_15e
  · exact Ev.AtT.next h ok_n16 run_16e
  · exact Ev.AtT.next h ok_n17 run_17e
  · exact Ev.AtT.next h ok_n18 run_18e
  · exact Ev.AtT.next h ok_n19 run_19e
  · exact Ev.AtT.next h ok_n20 run_20e
  · exact Ev.AtT.next h ok_n21 run_21e
  · exact Ev.AtT.next h ok_n22 run_22e
  · exact Ev.AtT.next h ok_n23 run_23e
  · exact Ev.AtT.next h ok_n24 run_24e
  · exact Ev.AtT.next h ok_n25 run_25e
  · exact Ev.AtT.next h ok_n26 run_26e
  · exact Ev.AtT.next h ok_n27 run_27e
  · exact Ev.AtT.next h ok_n28 run_28e
  · exact h
theorem r_step {t : Nat} {vs : Value} {w0 w : World} (ht : t < 29) (h : At (rS t) vs w0 w) : At (.says tx5 tx0 (.says ((tx1 ++ numB (200 + t % 5 * 50)) ++ tx2) tx0 (.says tx6 tx0 (rN t)))) vs w0 w := by
  have hcs : t = 0 ∨ t = 1 ∨ t = 2 ∨ t = 3 ∨ t = 4 ∨ t = 5 ∨ t = 6 ∨ t = 7 ∨ t = 8 ∨ t = 9 ∨ t = 10 ∨ t = 11 ∨ t = 12 ∨ t = 13 ∨ t = 14 ∨ t = 15 ∨ t = 16 ∨ t = 17 ∨ t = 18 ∨ t = 19 ∨ t = 20 ∨ t = 21 ∨ t = 22 ∨ t = 23 ∨ t = 24 ∨ t = 25 ∨ t = 26 ∨ t = 27 ∨ t = 28 := by omega
  rcases hcs with rfl | rfl | rfl | rfl | rfl | rfl | rfl | rfl | rfl | rfl | rfl | rfl | rfl | rfl | rfl | rfl | rfl | rfl | rfl | rfl | rfl | rfl | rfl | rfl | rfl | rfl | rfl | rfl | rfl
  · exact h.right
  · exact h.right
  · exact h.right
  · exact h.right
  · exact h.right
  · exact h.right
  · exact h.right
  · exact h.right
  · exact h.right
  · exact h.right
  · exact Ev.AtT.next h ok_n10 run_10r
  · exact Ev.AtT.next h ok_n11 run_11r
  · exact Ev.AtT.next h ok_n12 run_12r
  · exact Ev.AtT.next h ok_n13 run_13r
  · exact Ev.AtT.next h ok_n14 run_14r
  · exact Ev.AtT.next h ok_n15 run_15r
  · exact Ev.AtT.next h ok_n16 run_16r
  · exact Ev.AtT.next h ok_n17 run_17r
  · exact Ev.AtT.next h ok_n18 run_18r
  · exact Ev.AtT.next h ok_n19 run_19r
  · exact Ev.AtT.next h ok_n20 run_20r
  · exact Ev.AtT.next h ok_n21 run_21r
  · exact Ev.AtT.next h ok_n22 run_22r
  · exact Ev.AtT.next h ok_n23 run_23r
  · exact Ev.AtT.next h ok_n24 run_24r
  · exact Ev.AtT.next h ok_n25 run_25r
  · exact Ev.AtT.next h ok_n26 run_26r
  · exact Ev.AtT.next h ok_n27 run_27r
  · exact Ev.AtT.next h ok_n28 run_28r
theorem r_next {t : Nat} {vs : Value} {w0 w : World} (ht : t < 29) (h : At (rN t) vs w0 w) : At (rS (t + 1)) vs w0 w := by
  have hcs : t = 0 ∨ t = 1 ∨ t = 2 ∨ t = 3 ∨ t = 4 ∨ t = 5 ∨ t = 6 ∨ t = 7 ∨ t = 8 ∨ t = 9 ∨ t = 10 ∨ t = 11 ∨ t = 12 ∨ t = 13 ∨ t = 14 ∨ t = 15 ∨ t = 16 ∨ t = 17 ∨ t = 18 ∨ t = 19 ∨ t = 20 ∨ t = 21 ∨ t = 22 ∨ t = 23 ∨ t = 24 ∨ t = 25 ∨ t = 26 ∨ t = 27 ∨ t = 28 := by omega
  rcases hcs with rfl | rfl | rfl | rfl | rfl | rfl | rfl | rfl | rfl | rfl | rfl | rfl | rfl | rfl | rfl | rfl | rfl | rfl | rfl | rfl | rfl | rfl | rfl | rfl | rfl | rfl | rfl | rfl | rfl
  · exact Ev.AtT.next h ok_n1 run_1
  · exact Ev.AtT.next h ok_n2 run_2
  · exact Ev.AtT.next h ok_n3 run_3
  · exact Ev.AtT.next h ok_n4 run_4
  · exact Ev.AtT.next h ok_n5 run_5
  · exact Ev.AtT.next h ok_n6 run_6
  · exact Ev.AtT.next h ok_n7 run_7
  · exact Ev.AtT.next h ok_n8 run_8
  · exact Ev.AtT.next h ok_n9 run_9
  · exact h
  · exact h
  · exact h
  · exact h
  · exact h
  · exact h
  · exact h
  · exact h
  · exact h
  · exact h
  · exact h
  · exact h
  · exact h
  · exact h
  · exact h
  · exact h
  · exact h
  · exact h
  · exact h
  · exact Ev.AtT.next h ok_n29 run_29

set_option maxHeartbeats 4000000 in
theorem walk_any (x : Int) (k : Nat) (hx : x.tmod 30 = (k : Int)) (hk : k < 30) (h0 : 0 ≤ x) (h1 : x < 256) (w : World) (hG : Ev.Grounded Ev.gG w) :
    Calls Tryz.prog 10 #[.int .u8 x] w fun e w' => e = .returned (.bool true) ∧ Ev.Stays w w' := by
  have HKN : Hid (Calls Tryz.prog 11 #[] w fun e w' => e = .returned (.bool true) ∧ Ev.Stays w w') := (Ev.known11 w (hG _ _ rfl)).mono fun e w' h => ⟨h.1, h.2⟩
  have HG := Lib.hid hG
  clear hG
  go_enter Tryz.func10, Tryz.ntmps10
  go_wp2_with fail
  refine HKN.out.mono ?_
  rintro e w1 ⟨rfl, hx1⟩
  have HX := Lib.hid hx1
  clear hx1 HKN
  go_wp2_with fail
  refine (new_t HG.out HX.out run_0).mono ?_
  rintro e w2 ⟨vs, rfl, h⟩
  have H : Hid (At rT vs w w2) := Lib.hid h
  clear h HX
  go_wp2_with fail
  iterate 2 (refine (says_t H.out).mono ?_; clear H; rintro e w3 ⟨rfl, h⟩; have H := Lib.hid h; clear h; go_wp2_with fail)
  go_loopw [4] (fun q wr => ∃ t : Nat, t ≤ k ∧ q = .int .i64 t ∧ At (rS t) vs w wr) (fun q _ => k - (intOf q).toNat)
  case atStart => exact ⟨0, by omega, rfl, H.out⟩
  case round =>
    obtain ⟨t, ht, rfl, hat⟩ := hrel
    clear H
    have HAT := Lib.hid hat
    clear hat
    by_cases hlt : t < k
    · have b2 : (t : Int) < (k : Int) := by omega
      have H := Lib.hid (r_step (by omega) HAT.out)
      clear HAT
      have hc1 : ¬ 9223372036854775807 < 11 + (numB (200 + t % 5 * 50)).size := by have := num_size (200 + t % 5 * 50); omega
      have hc2 : ¬ 9223372036854775807 < 11 + (numB (200 + t % 5 * 50)).size + 2 := by have := num_size (200 + t % 5 * 50); omega
      go_wp2_with fail
      iterate 1 (refine (says_t H.out).mono ?_; clear H; rintro e w3 ⟨rfl, h⟩; have H := Lib.hid h; clear h; go_wp2_with fail)
      refine (num_any (n := 200 + t % 5 * 50) HG.out H.out.kept (by omega)).mono ?_
      rintro e w3 ⟨rfl, h⟩
      replace H := Lib.hid (H.out.stays h)
      clear h
      go_wp2_with fail
      iterate 2 (refine (says_t H.out).mono ?_; clear H; rintro e w3 ⟨rfl, h⟩; have H := Lib.hid h; clear h; go_wp2_with fail)
      go_roundw
      case rel => exact ⟨t + 1, by omega, by go_num, r_next (by omega) H.out⟩
      case measure => simp [intOf]; omega
    · obtain rfl : t = k := by omega
      have H := Lib.hid (r_end (by omega) HAT.out)
      clear HAT
      go_wp2_with fail
      iterate 1 (refine (says_t H.out).mono ?_; clear H; rintro e w3 ⟨rfl, h⟩; have H := Lib.hid h; clear h; go_wp2_with fail)
      go_ret
      exact ⟨rfl, H.out.kept⟩
end
end Go.Proofs.YtkcffdanhklphaaGreatDoor
