/-
  The oldest version that is read: some number; all stays as it is.
-/
import Derived.Test.YtgjnadligocdkaaGreatDoorBytW
set_option linter.unusedVariables false
set_option linter.unusedSimpArgs false
set_option maxRecDepth 100000
namespace Go.Proofs.YtgjnadligocdkaaGreatDoor
open Go.RowKit
set_option maxHeartbeats 4000000 in
theorem oldest_p {w : World} {K W n m0 : Nat} {T : Nat → Nat} (h : LkAt w K W n T) (hT : ∀ i, T i < 18446744073709551616) (hm0 : m0 < 18446744073709551616) : Calls Tryz.prog 85 #[.pointer (some ⟨K, 0, none⟩), .int .u64 (m0 : Int)] w fun e w' => ∃ m : Nat, e = .returned (.int .u64 (m : Int)) ∧ m < 18446744073709551616 ∧ Ext w w' := by
  have c1 : w.cell? ⟨K, 1, none⟩ = some (.int .i64 (pidv n 0 : Nat)) := h.cell rfl
  have c2 : w.cell? ⟨K, 2, none⟩ = some (.int .u64 (T 0)) := h.cell rfl
  have c3 : w.cell? ⟨K, 3, none⟩ = some (.int .i64 (pidv n 1 : Nat)) := h.cell rfl
  have c4 : w.cell? ⟨K, 4, none⟩ = some (.int .u64 (T 1)) := h.cell rfl
  have c5 : w.cell? ⟨K, 5, none⟩ = some (.int .i64 (pidv n 2 : Nat)) := h.cell rfl
  have c6 : w.cell? ⟨K, 6, none⟩ = some (.int .u64 (T 2)) := h.cell rfl
  have c7 : w.cell? ⟨K, 7, none⟩ = some (.int .i64 (pidv n 3 : Nat)) := h.cell rfl
  have c8 : w.cell? ⟨K, 8, none⟩ = some (.int .u64 (T 3)) := h.cell rfl
  have c9 : w.cell? ⟨K, 9, none⟩ = some (.int .i64 (pidv n 4 : Nat)) := h.cell rfl
  have c10 : w.cell? ⟨K, 10, none⟩ = some (.int .u64 (T 4)) := h.cell rfl
  have c11 : w.cell? ⟨K, 11, none⟩ = some (.int .i64 (pidv n 5 : Nat)) := h.cell rfl
  have c12 : w.cell? ⟨K, 12, none⟩ = some (.int .u64 (T 5)) := h.cell rfl
  have c13 : w.cell? ⟨K, 13, none⟩ = some (.int .i64 (pidv n 6 : Nat)) := h.cell rfl
  have c14 : w.cell? ⟨K, 14, none⟩ = some (.int .u64 (T 6)) := h.cell rfl
  have c15 : w.cell? ⟨K, 15, none⟩ = some (.int .i64 (pidv n 7 : Nat)) := h.cell rfl
  have c16 : w.cell? ⟨K, 16, none⟩ = some (.int .u64 (T 7)) := h.cell rfl
  have HT := Lib.hid hT
  have HL := Lib.hid h
  clear hT h
  go_enter Tryz.func85, Tryz.ntmps85
  go_wp2_with fail
  go_loopw [1, 11] (fun s i wr => ∃ k m : Nat, k ≤ 8 ∧ i = .int .i64 k ∧ s = .int .u64 m ∧ m < 18446744073709551616 ∧ Ext w wr) (fun _ i _ => 8 - (intOf i).toNat)
  case atStart => exact ⟨0, m0, by omega, rfl, rfl, hm0, Ext.rfl' _⟩
  case round =>
    obtain ⟨k, m, hk, rfl, rfl, hm, hx⟩ := hrel
    have HXR := Lib.hid hx
    clear hx
    by_cases hlt : k < 8
    · have hL : LkAt wr K W n T := HL.out.ext HXR.out
      have ht1 := HT.out k
      clear hL
      have hcs : k = 0 ∨ k = 1 ∨ k = 2 ∨ k = 3 ∨ k = 4 ∨ k = 5 ∨ k = 6 ∨ k = 7 := by omega
      rcases hcs with rfl | rfl | rfl | rfl | rfl | rfl | rfl | rfl
      · generalize T 0 = t at *
        rcases Nat.eq_zero_or_pos t with h0 | h0
        · have b0 : ¬ (0 : Int) < (t : Int) := by omega
          clear h0
          go_wp2_with fail
          rw [ix_0]
          go_wp2_with fail
          go_roundw
          case rel => exact ⟨1, m, by omega, rfl, rfl, hm, Ext.alloc HXR.out _⟩
          case measure => simp [intOf]
        · have b0 : (0 : Int) < (t : Int) := by omega
          rcases Nat.lt_or_ge t m with h1 | h1
          · have b1 : (t : Int) < (m : Int) := by omega
            go_wp2_with fail
            rw [ix_0]
            go_wp2_with fail
            go_roundw
            case rel => exact ⟨1, t, by omega, rfl, by first | rfl | (congr 1; omega), by omega, Ext.alloc HXR.out _⟩
            case measure => simp [intOf]
          · have b1 : ¬ (t : Int) < (m : Int) := by omega
            go_wp2_with fail
            rw [ix_0]
            go_wp2_with fail
            go_roundw
            case rel => exact ⟨1, m, by omega, rfl, by first | rfl | (congr 1; omega), hm, Ext.alloc HXR.out _⟩
            case measure => simp [intOf]
      · generalize T 1 = t at *
        rcases Nat.eq_zero_or_pos t with h0 | h0
        · have b0 : ¬ (0 : Int) < (t : Int) := by omega
          clear h0
          go_wp2_with fail
          rw [ix_1]
          go_wp2_with fail
          go_roundw
          case rel => exact ⟨2, m, by omega, rfl, rfl, hm, Ext.alloc HXR.out _⟩
          case measure => simp [intOf]
        · have b0 : (0 : Int) < (t : Int) := by omega
          rcases Nat.lt_or_ge t m with h1 | h1
          · have b1 : (t : Int) < (m : Int) := by omega
            go_wp2_with fail
            rw [ix_1]
            go_wp2_with fail
            go_roundw
            case rel => exact ⟨2, t, by omega, rfl, by first | rfl | (congr 1; omega), by omega, Ext.alloc HXR.out _⟩
            case measure => simp [intOf]
          · have b1 : ¬ (t : Int) < (m : Int) := by omega
            go_wp2_with fail
            rw [ix_1]
            go_wp2_with fail
            go_roundw
            case rel => exact ⟨2, m, by omega, rfl, by first | rfl | (congr 1; omega), hm, Ext.alloc HXR.out _⟩
            case measure => simp [intOf]
      · generalize T 2 = t at *
        rcases Nat.eq_zero_or_pos t with h0 | h0
        · have b0 : ¬ (0 : Int) < (t : Int) := by omega
          clear h0
          go_wp2_with fail
          rw [ix_2]
          go_wp2_with fail
          go_roundw
          case rel => exact ⟨3, m, by omega, rfl, rfl, hm, Ext.alloc HXR.out _⟩
          case measure => simp [intOf]
        · have b0 : (0 : Int) < (t : Int) := by omega
          rcases Nat.lt_or_ge t m with h1 | h1
          · have b1 : (t : Int) < (m : Int) := by omega
            go_wp2_with fail
            rw [ix_2]
            go_wp2_with fail
            go_roundw
            case rel => exact ⟨3, t, by omega, rfl, by first | rfl | (congr 1; omega), by omega, Ext.alloc HXR.out _⟩
            case measure => simp [intOf]
          · have b1 : ¬ (t : Int) < (m : Int) := by omega
            go_wp2_with fail
            rw [ix_2]
            go_wp2_with fail
            go_roundw
            case rel => exact ⟨3, m, by omega, rfl, by first | rfl | (congr 1; omega), hm, Ext.alloc HXR.out _⟩
            case measure => simp [intOf]
      · generalize T 3 = t at *
        rcases Nat.eq_zero_or_pos t with h0 | h0
        · have b0 : ¬ (0 : Int) < (t : Int) := by omega
          clear h0
          go_wp2_with fail
          rw [ix_3]
          go_wp2_with fail
          go_roundw
          case rel => exact ⟨4, m, by omega, rfl, rfl, hm, Ext.alloc HXR.out _⟩
          case measure => simp [intOf]
        · have b0 : (0 : Int) < (t : Int) := by omega
          rcases Nat.lt_or_ge t m with h1 | h1
          · have b1 : (t : Int) < (m : Int) := by omega
            go_wp2_with fail
            rw [ix_3]
            go_wp2_with fail
            go_roundw
            case rel => exact ⟨4, t, by omega, rfl, by first | rfl | (congr 1; omega), by omega, Ext.alloc HXR.out _⟩
            case measure => simp [intOf]
          · have b1 : ¬ (t : Int) < (m : Int) := by omega
            go_wp2_with fail
            rw [ix_3]
            go_wp2_with fail
            go_roundw
            case rel => exact ⟨4, m, by omega, rfl, by first | rfl | (congr 1; omega), hm, Ext.alloc HXR.out _⟩
            case measure => simp [intOf]
      · generalize T 4 = t at *
        rcases Nat.eq_zero_or_pos t with h0 | h0
        · have b0 : ¬ (0 : Int) < (t : Int) := by omega
          clear h0
          go_wp2_with fail
          rw [ix_4]
          go_wp2_with fail
          go_roundw
          case rel => exact ⟨5, m, by omega, rfl, rfl, hm, Ext.alloc HXR.out _⟩
          case measure => simp [intOf]
        · have b0 : (0 : Int) < (t : Int) := by omega
          rcases Nat.lt_or_ge t m with h1 | h1
          · have b1 : (t : Int) < (m : Int) := by omega
            go_wp2_with fail
            rw [ix_4]
            go_wp2_with fail
            go_roundw
            case rel => exact ⟨5, t, by omega, rfl, by first | rfl | (congr 1; omega), by omega, Ext.alloc HXR.out _⟩
            case measure => simp [intOf]
          · have b1 : ¬ (t : Int) < (m : Int) := by omega
            go_wp2_with fail
            rw [ix_4]
            go_wp2_with fail
            go_roundw
            case rel => exact ⟨5, m, by omega, rfl, by first | rfl | (congr 1; omega), hm, Ext.alloc HXR.out _⟩
            case measure => simp [intOf]
      · generalize T 5 = t at *
        rcases Nat.eq_zero_or_pos t with h0 | h0
        · have b0 : ¬ (0 : Int) < (t : Int) := by omega
          clear h0
          go_wp2_with fail
          rw [ix_5]
          go_wp2_with fail
          go_roundw
          case rel => exact ⟨6, m, by omega, rfl, rfl, hm, Ext.alloc HXR.out _⟩
          case measure => simp [intOf]
        · have b0 : (0 : Int) < (t : Int) := by omega
          rcases Nat.lt_or_ge t m with h1 | h1
          · have b1 : (t : Int) < (m : Int) := by omega
            go_wp2_with fail
            rw [ix_5]
            go_wp2_with fail
            go_roundw
            case rel => exact ⟨6, t, by omega, rfl, by first | rfl | (congr 1; omega), by omega, Ext.alloc HXR.out _⟩
            case measure => simp [intOf]
          · have b1 : ¬ (t : Int) < (m : Int) := by omega
            go_wp2_with fail
            rw [ix_5]
            go_wp2_with fail
            go_roundw
            case rel => exact ⟨6, m, by omega, rfl, by first | rfl | (congr 1; omega), hm, Ext.alloc HXR.out _⟩
            case measure => simp [intOf]
      · generalize T 6 = t at *
        rcases Nat.eq_zero_or_pos t with h0 | h0
        · have b0 : ¬ (0 : Int) < (t : Int) := by omega
          clear h0
          go_wp2_with fail
          rw [ix_6]
          go_wp2_with fail
          go_roundw
          case rel => exact ⟨7, m, by omega, rfl, rfl, hm, Ext.alloc HXR.out _⟩
          case measure => simp [intOf]
        · have b0 : (0 : Int) < (t : Int) := by omega
          rcases Nat.lt_or_ge t m with h1 | h1
          · have b1 : (t : Int) < (m : Int) := by omega
            go_wp2_with fail
            rw [ix_6]
            go_wp2_with fail
            go_roundw
            case rel => exact ⟨7, t, by omega, rfl, by first | rfl | (congr 1; omega), by omega, Ext.alloc HXR.out _⟩
            case measure => simp [intOf]
          · have b1 : ¬ (t : Int) < (m : Int) := by omega
            go_wp2_with fail
            rw [ix_6]
            go_wp2_with fail
            go_roundw
            case rel => exact ⟨7, m, by omega, rfl, by first | rfl | (congr 1; omega), hm, Ext.alloc HXR.out _⟩
            case measure => simp [intOf]
      · generalize T 7 = t at *
        rcases Nat.eq_zero_or_pos t with h0 | h0
        · have b0 : ¬ (0 : Int) < (t : Int) := by omega
          clear h0
          go_wp2_with fail
          rw [ix_7]
          go_wp2_with fail
          go_roundw
          case rel => exact ⟨8, m, by omega, rfl, rfl, hm, Ext.alloc HXR.out _⟩
          case measure => simp [intOf]
        · have b0 : (0 : Int) < (t : Int) := by omega
          rcases Nat.lt_or_ge t m with h1 | h1
          · have b1 : (t : Int) < (m : Int) := by omega
            go_wp2_with fail
            rw [ix_7]
            go_wp2_with fail
            go_roundw
            case rel => exact ⟨8, t, by omega, rfl, by first | rfl | (congr 1; omega), by omega, Ext.alloc HXR.out _⟩
            case measure => simp [intOf]
          · have b1 : ¬ (t : Int) < (m : Int) := by omega
            go_wp2_with fail
            rw [ix_7]
            go_wp2_with fail
            go_roundw
            case rel => exact ⟨8, m, by omega, rfl, by first | rfl | (congr 1; omega), hm, Ext.alloc HXR.out _⟩
            case measure => simp [intOf]
    · obtain rfl : k = 8 := by omega
      go_wp2_with fail
      go_ret
      exact ⟨m, rfl, hm, HXR.out⟩
set_option maxHeartbeats 4000000 in
theorem oldest_q {w : World} {K W n m0 : Nat} {T : Nat → Nat} (h : LkAt w K W n T) (hT : ∀ i, T i < 18446744073709551616) (hm0 : m0 < 18446744073709551616) : Calls Tryz.prog 59 #[.pointer (some ⟨K, 0, none⟩), .int .u64 (m0 : Int)] w fun e w' => ∃ m : Nat, e = .returned (.int .u64 (m : Int)) ∧ m < 18446744073709551616 ∧ Ext w w' := by
  have HT := Lib.hid hT
  have HL := Lib.hid h
  clear hT h
  go_enter Tryz.func59, Tryz.ntmps59
  go_wp2_with fail
  go_loopw [1, 5] (fun s i wr => ∃ k m : Nat, k ≤ 8 ∧ i = .int .i64 k ∧ s = .int .u64 m ∧ m < 18446744073709551616 ∧ Ext w wr) (fun _ i _ => 8 - (intOf i).toNat)
  case atStart => exact ⟨0, m0, by omega, rfl, rfl, hm0, Ext.rfl' _⟩
  case round =>
    obtain ⟨k, m, hk, rfl, rfl, hm, hx⟩ := hrel
    have HXR := Lib.hid hx
    clear hx
    by_cases hlt : k < 8
    · have hL : LkAt wr K W n T := HL.out.ext HXR.out
      have ht1 := HT.out k
      have hcs : k = 0 ∨ k = 1 ∨ k = 2 ∨ k = 3 ∨ k = 4 ∨ k = 5 ∨ k = 6 ∨ k = 7 := by omega
      rcases hcs with rfl | rfl | rfl | rfl | rfl | rfl | rfl | rfl
      · have c1 : wr.cell? ⟨K, 2, none⟩ = some (.int .u64 (T 0)) := hL.cell rfl
        generalize T 0 = t at *
        clear hL
        rcases Nat.eq_zero_or_pos t with h0 | h0
        · have b0 : ¬ (0 : Int) < (t : Int) := by omega
          clear h0
          go_wp2_with fail
          go_roundw
          case rel => exact ⟨1, m, by omega, rfl, rfl, hm, HXR.out⟩
          case measure => simp [intOf]
        · have b0 : (0 : Int) < (t : Int) := by omega
          rcases Nat.lt_or_ge t m with h1 | h1
          · have b1 : (t : Int) < (m : Int) := by omega
            go_wp2_with fail
            go_roundw
            case rel => exact ⟨1, t, by omega, rfl, rfl, by omega, HXR.out⟩
            case measure => simp [intOf]
          · have b1 : ¬ (t : Int) < (m : Int) := by omega
            go_wp2_with fail
            go_roundw
            case rel => exact ⟨1, m, by omega, rfl, rfl, hm, HXR.out⟩
            case measure => simp [intOf]
      · have c1 : wr.cell? ⟨K, 4, none⟩ = some (.int .u64 (T 1)) := hL.cell rfl
        generalize T 1 = t at *
        clear hL
        rcases Nat.eq_zero_or_pos t with h0 | h0
        · have b0 : ¬ (0 : Int) < (t : Int) := by omega
          clear h0
          go_wp2_with fail
          go_roundw
          case rel => exact ⟨2, m, by omega, rfl, rfl, hm, HXR.out⟩
          case measure => simp [intOf]
        · have b0 : (0 : Int) < (t : Int) := by omega
          rcases Nat.lt_or_ge t m with h1 | h1
          · have b1 : (t : Int) < (m : Int) := by omega
            go_wp2_with fail
            go_roundw
            case rel => exact ⟨2, t, by omega, rfl, rfl, by omega, HXR.out⟩
            case measure => simp [intOf]
          · have b1 : ¬ (t : Int) < (m : Int) := by omega
            go_wp2_with fail
            go_roundw
            case rel => exact ⟨2, m, by omega, rfl, rfl, hm, HXR.out⟩
            case measure => simp [intOf]
      · have c1 : wr.cell? ⟨K, 6, none⟩ = some (.int .u64 (T 2)) := hL.cell rfl
        generalize T 2 = t at *
        clear hL
        rcases Nat.eq_zero_or_pos t with h0 | h0
        · have b0 : ¬ (0 : Int) < (t : Int) := by omega
          clear h0
          go_wp2_with fail
          go_roundw
          case rel => exact ⟨3, m, by omega, rfl, rfl, hm, HXR.out⟩
          case measure => simp [intOf]
        · have b0 : (0 : Int) < (t : Int) := by omega
          rcases Nat.lt_or_ge t m with h1 | h1
          · have b1 : (t : Int) < (m : Int) := by omega
            go_wp2_with fail
            go_roundw
            case rel => exact ⟨3, t, by omega, rfl, rfl, by omega, HXR.out⟩
            case measure => simp [intOf]
          · have b1 : ¬ (t : Int) < (m : Int) := by omega
            go_wp2_with fail
            go_roundw
            case rel => exact ⟨3, m, by omega, rfl, rfl, hm, HXR.out⟩
            case measure => simp [intOf]
      · have c1 : wr.cell? ⟨K, 8, none⟩ = some (.int .u64 (T 3)) := hL.cell rfl
        generalize T 3 = t at *
        clear hL
        rcases Nat.eq_zero_or_pos t with h0 | h0
        · have b0 : ¬ (0 : Int) < (t : Int) := by omega
          clear h0
          go_wp2_with fail
          go_roundw
          case rel => exact ⟨4, m, by omega, rfl, rfl, hm, HXR.out⟩
          case measure => simp [intOf]
        · have b0 : (0 : Int) < (t : Int) := by omega
          rcases Nat.lt_or_ge t m with h1 | h1
          · have b1 : (t : Int) < (m : Int) := by omega
            go_wp2_with fail
            go_roundw
            case rel => exact ⟨4, t, by omega, rfl, rfl, by omega, HXR.out⟩
            case measure => simp [intOf]
          · have b1 : ¬ (t : Int) < (m : Int) := by omega
            go_wp2_with fail
            go_roundw
            case rel => exact ⟨4, m, by omega, rfl, rfl, hm, HXR.out⟩
            case measure => simp [intOf]
      · have c1 : wr.cell? ⟨K, 10, none⟩ = some (.int .u64 (T 4)) := hL.cell rfl
        generalize T 4 = t at *
        clear hL
        rcases Nat.eq_zero_or_pos t with h0 | h0
        · have b0 : ¬ (0 : Int) < (t : Int) := by omega
          clear h0
          go_wp2_with fail
          go_roundw
          case rel => exact ⟨5, m, by omega, rfl, rfl, hm, HXR.out⟩
          case measure => simp [intOf]
        · have b0 : (0 : Int) < (t : Int) := by omega
          rcases Nat.lt_or_ge t m with h1 | h1
          · have b1 : (t : Int) < (m : Int) := by omega
            go_wp2_with fail
            go_roundw
            case rel => exact ⟨5, t, by omega, rfl, rfl, by omega, HXR.out⟩
            case measure => simp [intOf]
          · have b1 : ¬ (t : Int) < (m : Int) := by omega
            go_wp2_with fail
            go_roundw
            case rel => exact ⟨5, m, by omega, rfl, rfl, hm, HXR.out⟩
            case measure => simp [intOf]
      · have c1 : wr.cell? ⟨K, 12, none⟩ = some (.int .u64 (T 5)) := hL.cell rfl
        generalize T 5 = t at *
        clear hL
        rcases Nat.eq_zero_or_pos t with h0 | h0
        · have b0 : ¬ (0 : Int) < (t : Int) := by omega
          clear h0
          go_wp2_with fail
          go_roundw
          case rel => exact ⟨6, m, by omega, rfl, rfl, hm, HXR.out⟩
          case measure => simp [intOf]
        · have b0 : (0 : Int) < (t : Int) := by omega
          rcases Nat.lt_or_ge t m with h1 | h1
          · have b1 : (t : Int) < (m : Int) := by omega
            go_wp2_with fail
            go_roundw
            case rel => exact ⟨6, t, by omega, rfl, rfl, by omega, HXR.out⟩
            case measure => simp [intOf]
          · have b1 : ¬ (t : Int) < (m : Int) := by omega
            go_wp2_with fail
            go_roundw
            case rel => exact ⟨6, m, by omega, rfl, rfl, hm, HXR.out⟩
            case measure => simp [intOf]
      · have c1 : wr.cell? ⟨K, 14, none⟩ = some (.int .u64 (T 6)) := hL.cell rfl
        generalize T 6 = t at *
        clear hL
        rcases Nat.eq_zero_or_pos t with h0 | h0
        · have b0 : ¬ (0 : Int) < (t : Int) := by omega
          clear h0
          go_wp2_with fail
          go_roundw
          case rel => exact ⟨7, m, by omega, rfl, rfl, hm, HXR.out⟩
          case measure => simp [intOf]
        · have b0 : (0 : Int) < (t : Int) := by omega
          rcases Nat.lt_or_ge t m with h1 | h1
          · have b1 : (t : Int) < (m : Int) := by omega
            go_wp2_with fail
            go_roundw
            case rel => exact ⟨7, t, by omega, rfl, rfl, by omega, HXR.out⟩
            case measure => simp [intOf]
          · have b1 : ¬ (t : Int) < (m : Int) := by omega
            go_wp2_with fail
            go_roundw
            case rel => exact ⟨7, m, by omega, rfl, rfl, hm, HXR.out⟩
            case measure => simp [intOf]
      · have c1 : wr.cell? ⟨K, 16, none⟩ = some (.int .u64 (T 7)) := hL.cell rfl
        generalize T 7 = t at *
        clear hL
        rcases Nat.eq_zero_or_pos t with h0 | h0
        · have b0 : ¬ (0 : Int) < (t : Int) := by omega
          clear h0
          go_wp2_with fail
          go_roundw
          case rel => exact ⟨8, m, by omega, rfl, rfl, hm, HXR.out⟩
          case measure => simp [intOf]
        · have b0 : (0 : Int) < (t : Int) := by omega
          rcases Nat.lt_or_ge t m with h1 | h1
          · have b1 : (t : Int) < (m : Int) := by omega
            go_wp2_with fail
            go_roundw
            case rel => exact ⟨8, t, by omega, rfl, rfl, by omega, HXR.out⟩
            case measure => simp [intOf]
          · have b1 : ¬ (t : Int) < (m : Int) := by omega
            go_wp2_with fail
            go_roundw
            case rel => exact ⟨8, m, by omega, rfl, rfl, hm, HXR.out⟩
            case measure => simp [intOf]
    · obtain rfl : k = 8 := by omega
      go_wp2_with fail
      go_ret
      exact ⟨m, rfl, hm, HXR.out⟩
end Go.Proofs.YtgjnadligocdkaaGreatDoor
