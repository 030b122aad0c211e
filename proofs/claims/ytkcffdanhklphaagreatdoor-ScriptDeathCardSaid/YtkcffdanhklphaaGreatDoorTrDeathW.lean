/-
  ScriptDeath: a writer that dies leaves nothing, wherever it was.
-/
import Derived.Test.YtkcffdanhklphaaGreatDoorTrDeathR0
import Derived.Test.YtkcffdanhklphaaGreatDoorTrDeathR1
set_option linter.unusedVariables false
set_option linter.unusedSimpArgs false
set_option maxRecDepth 100000
namespace Go.Proofs.YtkcffdanhklphaaGreatDoor
open Go.RowKit
noncomputable section
theorem d_end {t : Nat} {vs : Value} {w0 w : World} (ht : t < 6) (h : At (dS t) vs w0 w) : At (dE t) vs w0 w := by
  have hcs : t = 0 ∨ t = 1 ∨ t = 2 ∨ t = 3 ∨ t = 4 ∨ t = 5 := by omega
  rcases hcs with rfl | rfl | rfl | rfl | rfl | rfl
  · exact h.left
  · exact h.left
  · exact h.left
  · exact h.left
  · exact h.left
  · exact h
theorem d_step {t : Nat} {vs : Value} {w0 w : World} (ht : t < 5) (h : At (dS t) vs w0 w) : At (.says tx10 tx3 (dN t)) vs w0 w := by
  have hcs : t = 0 ∨ t = 1 ∨ t = 2 ∨ t = 3 ∨ t = 4 := by omega
  rcases hcs with rfl | rfl | rfl | rfl | rfl
  · exact h.right
  · exact h.right
  · exact h.right
  · exact h.right
  · exact h.right
theorem d_next {t : Nat} {vs : Value} {w0 w : World} (ht : t < 5) (h : At (dN t) vs w0 w) : At (dS (t + 1)) vs w0 w := by
  have hcs : t = 0 ∨ t = 1 ∨ t = 2 ∨ t = 3 ∨ t = 4 := by omega
  rcases hcs with rfl | rfl | rfl | rfl | rfl
  · exact h
  · exact h
  · exact Ev.AtT.next h ok_n3 run_1
  · exact h
  · exact h

set_option maxHeartbeats 4000000 in
theorem walk_any (x : Int) (k : Nat) (hx : x.tmod 6 = (k : Int)) (hk : k < 6) (h0 : 0 ≤ x) (h1 : x < 256) (w : World) (hG : Ev.Grounded Ev.gG w) :
    Calls Tryz.prog 4 #[.int .u8 x] w fun e w' => e = .returned (.bool true) ∧ Ev.Stays w w' := by
  have HKN : Hid (Calls Tryz.prog 11 #[] w fun e w' => e = .returned (.bool true) ∧ Ev.Stays w w') := (Ev.known11 w (hG _ _ rfl)).mono fun e w' h => ⟨h.1, h.2⟩
  have HG := Lib.hid hG
  clear hG
  go_enter Tryz.func4, Tryz.ntmps4
  go_wp2_with fail
  refine HKN.out.mono ?_
  rintro e w1 ⟨rfl, hx1⟩
  have HX := Lib.hid hx1
  clear hx1 HKN
  go_wp2_with fail
  refine (new_t HG.out HX.out run_0).mono ?_
  rintro e w2 ⟨vs, rfl, h⟩
  have H : Hid (At dT vs w w2) := Lib.hid h
  clear h HX
  go_wp2_with fail
  iterate 7 (refine (says_t H.out).mono ?_; clear H; rintro e w3 ⟨rfl, h⟩; have H := Lib.hid h; clear h; go_wp2_with fail)
  go_loopw [5] (fun q wr => ∃ t : Nat, t ≤ k ∧ q = .int .i64 t ∧ At (dS t) vs w wr) (fun q _ => k - (intOf q).toNat)
  case atStart => exact ⟨0, by omega, rfl, H.out⟩
  case round =>
    obtain ⟨t, ht, rfl, hat⟩ := hrel
    clear H
    have HAT := Lib.hid hat
    clear hat
    by_cases hlt : t < k
    · have b2 : (t : Int) < (k : Int) := by omega
      have H := Lib.hid (d_step (by omega) HAT.out)
      clear HAT
      go_wp2_with fail
      iterate 1 (refine (says_t H.out).mono ?_; clear H; rintro e w3 ⟨rfl, h⟩; have H := Lib.hid h; clear h; go_wp2_with fail)
      go_roundw
      case rel => exact ⟨t + 1, by omega, by go_num, d_next (by omega) H.out⟩
      case measure => simp [intOf]; omega
    · obtain rfl : t = k := by omega
      have H := Lib.hid (d_end (by omega) HAT.out)
      clear HAT
      by_cases h4 : t < 4
      · have b4 : ¬ (4 : Int) ≤ (t : Int) := by omega
        have H : Hid (At (.says tx9 tx3 (.says tx8 tx3 (.says tx5 tx6 (.says tx4 tx3 (.says tx2 tx3 (.says tx0 tx1 (.fin))))))) vs w wr) := by
          have h := H.out
          unfold dE at h
          rw [if_pos h4] at h
          exact h
        go_wp2_with fail
        iterate 6 (refine (says_t H.out).mono ?_; clear H; rintro e w3 ⟨rfl, h⟩; have H := Lib.hid h; clear h; go_wp2_with fail)
        go_ret
        exact ⟨rfl, H.out.kept⟩
      · have b4 : (4 : Int) ≤ (t : Int) := by omega
        have H : Hid (At (.says tx9 tx3 (.says tx8 tx3 (.says tx5 tx7 (.says tx4 tx3 (.says tx2 tx3 (.says tx0 tx1 (.fin))))))) vs w wr) := by
          have h := H.out
          unfold dE at h
          rw [if_neg h4] at h
          exact h
        go_wp2_with fail
        iterate 6 (refine (says_t H.out).mono ?_; clear H; rintro e w3 ⟨rfl, h⟩; have H := Lib.hid h; clear h; go_wp2_with fail)
        go_ret
        exact ⟨rfl, H.out.kept⟩
end
end Go.Proofs.YtkcffdanhklphaaGreatDoor
