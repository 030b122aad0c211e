/-
  ScriptPower: what was committed and synced is there behind a loss of power, whatever stays.
-/
import Derived.Test.YtkcffdanhklphaaGreatDoorTrPowerR0
import Derived.Test.YtkcffdanhklphaaGreatDoorTrPowerR1
import Derived.Test.YtkcffdanhklphaaGreatDoorTrPowerR2
import Derived.Test.YtkcffdanhklphaaGreatDoorTrPowerR3
set_option linter.unusedVariables false
set_option linter.unusedSimpArgs false
set_option maxRecDepth 100000
namespace Go.Proofs.YtkcffdanhklphaaGreatDoor
open Go.RowKit
noncomputable section
/-- so many digits are said -/
def pQ (t : Nat) (l : List UInt8) (vs : Value) (w0 w : World) : Prop := (t = 0 ∧ l = [] ∧ (At pN0 vs w0 w ∨ At pN1 vs w0 w)) ∨ (1 ≤ t ∧ (At (pW pTa (8 - t) l) vs w0 w ∨ At (pW pTb (8 - t) l) vs w0 w ∨ At (pW pTc (8 - t) l) vs w0 w))
theorem pQ.kept {t : Nat} {l : List UInt8} {vs : Value} {w0 w : World} (h : pQ t l vs w0 w) : Ev.Stays w0 w := by
  rcases h with ⟨_, _, h | h⟩ | ⟨_, h | h | h⟩ <;> exact Ev.AtT.kept h
theorem pQ.stays {t : Nat} {l : List UInt8} {vs : Value} {w0 w w1 : World} (h : pQ t l vs w0 w) (s : Ev.Stays w w1) : pQ t l vs w0 w1 := by
  rcases h with ⟨h1, h2, h | h⟩ | ⟨h1, h | h | h⟩
  · exact .inl ⟨h1, h2, .inl (h.stays s)⟩
  · exact .inl ⟨h1, h2, .inr (h.stays s)⟩
  · exact .inr ⟨h1, .inl (h.stays s)⟩
  · exact .inr ⟨h1, .inr (.inl (h.stays s))⟩
  · exact .inr ⟨h1, .inr (.inr (h.stays s))⟩
theorem pQ.step {t d : Nat} {l : List UInt8} {vs : Value} {w0 w : World} (h : pQ t l vs w0 w) (ht : t < 8) (hd : d < 2) : pQ (t + 1) (l ++ [48 + UInt8.ofNat d]) vs w0 w := by
  have hd' : d = 0 ∨ d = 1 := by omega
  refine .inr ⟨by omega, ?_⟩
  rcases h with ⟨rfl, rfl, h | h⟩ | ⟨h1, h⟩
  · rcases hd' with rfl | rfl
    · exact .inl (Ev.AtT.next h ok_n0 run_n00)
    · exact .inl (Ev.AtT.next h ok_n0 run_n01)
  · rcases hd' with rfl | rfl
    · exact .inr (.inl (Ev.AtT.next h ok_n1 run_n10))
    · exact .inr (.inr (Ev.AtT.next h ok_n1 run_n11))
  · rw [show 8 - t = (8 - (t + 1)) + 1 by omega] at h
    rcases h with h | h | h <;> rcases hd' with rfl | rfl
    · exact .inl h.left
    · exact .inl h.right
    · exact .inr (.inl h.left)
    · exact .inr (.inl h.right)
    · exact .inr (.inr h.left)
    · exact .inr (.inr h.right)
theorem pB {b : ByteArray} {l : List UInt8} {d : Nat} (h : b = ⟨l.toArray⟩) (hd : d < 2) : b ++ numB d = ⟨(l ++ [48 + UInt8.ofNat d]).toArray⟩ := by
  subst h
  have hd' : d = 0 ∨ d = 1 := by omega
  rcases hd' with rfl | rfl
  · exact ByteArray.mk_append_mk l [48]
  · exact ByteArray.mk_append_mk l [49]
theorem pQ_call {b : ByteArray} {l : List UInt8} {vs : Value} {w0 w : World} (h : pQ 8 l vs w0 w) (hb : b = ⟨l.toArray⟩) : Calls Tryz.prog 13 #[vs, .string (tx1 ++ b), .string tx0] w fun e w' => e = .returned (.bool true) ∧ At pE vs w0 w' := by
  have e : tx1 ++ b = ⟨([112, 111, 119, 101, 114, 32] ++ l).toArray⟩ := by subst hb; exact ByteArray.mk_append_mk [112, 111, 119, 101, 114, 32] l
  rw [e]
  rcases h with ⟨h1, _⟩ | ⟨_, h | h | h⟩
  · exact absurd h1 (by decide)
  · exact (says_t (t := pTa) h).mono fun e w' h => ⟨h.1, Ev.AtT.next h.2 ok_b0_0_0 run_a⟩
  · exact (says_t (t := pTb) h).mono fun e w' h => ⟨h.1, Ev.AtT.next h.2 ok_b1_0_0 run_b⟩
  · exact (says_t (t := pTc) h).mono fun e w' h => ⟨h.1, Ev.AtT.next h.2 ok_b1_1_0 run_c⟩
theorem and1 {a : Nat} (ha : a < 256) : ∃ d : Nat, d < 2 ∧ bits .and .i64 (a : Int) 1 = (d : Int) := by
  have h : ∀ a : Fin 256, bits .and .i64 ((a.val : Nat) : Int) 1 = ((a.val % 2 : Nat) : Int) := by decide +kernel
  exact ⟨a % 2, by omega, h ⟨a, ha⟩⟩

set_option maxHeartbeats 4000000 in
theorem walk_no (x : Nat) (h1 : x < 256) (w : World) (hG : Ev.Grounded Ev.gG w) :
    Calls Tryz.prog 6 #[.int .u8 (x : Int), .bool false] w fun e w' => e = .returned (.bool true) ∧ Ev.Stays w w' := by
  have HKN : Hid (Calls Tryz.prog 11 #[] w fun e w' => e = .returned (.bool true) ∧ Ev.Stays w w') := (Ev.known11 w (hG _ _ rfl)).mono fun e w' h => ⟨h.1, h.2⟩
  have HG := Lib.hid hG
  clear hG
  go_enter Tryz.func6, Tryz.ntmps6
  go_wp2_with fail
  refine HKN.out.mono ?_
  rintro e w1 ⟨rfl, hx1⟩
  have HX := Lib.hid hx1
  clear hx1 HKN
  go_wp2_with fail
  refine (new_t HG.out HX.out run_0).mono ?_
  rintro e w2 ⟨vs, rfl, h⟩
  have H : Hid (At pT vs w w2) := Lib.hid h
  clear h HX
  go_wp2_with fail
  iterate 7 (refine (says_t H.out).mono ?_; clear H; rintro e w3 ⟨rfl, h⟩; have H := Lib.hid h; clear h; go_wp2_with fail)
  go_loopw [6, 7] (fun s q wr => ∃ (t : Nat) (b : ByteArray) (l : List UInt8), t ≤ 8 ∧ q = .int .i64 t ∧ s = .string b ∧ b = ⟨l.toArray⟩ ∧ l.length ≤ t ∧ pQ t l vs w wr) (fun _ q _ => 8 - (intOf q).toNat)
  case atStart => exact ⟨0, ⟨#[]⟩, [], by omega, rfl, rfl, rfl, by decide, .inl ⟨rfl, rfl, .inl H.out.left⟩⟩
  case round =>
    obtain ⟨t, b, l, ht, rfl, rfl, hbl, hl, hat⟩ := hrel
    have hb : b.size ≤ t := by subst hbl; simpa [ByteArray.size] using hl
    have HBL := Lib.hid hbl
    have HL := Lib.hid hl
    clear hbl hl
    clear H
    have HAT := Lib.hid hat
    clear hat
    by_cases hlt : t < 8
    · have b2 : (t : Int) < 8 := by omega
      have HS := Lib.hid HAT.out.kept
      have hs1 : ¬ (t : Int) < 0 := by omega
      go_wp2_with fail
      obtain ⟨d, hd, he⟩ : ∃ d : Nat, d < 2 ∧ bits .and .i64 ((x : Int) / 2 ^ t) 1 = (d : Int) := by
        have e : ((x : Int) / 2 ^ t) = ((x / 2 ^ t : Nat) : Int) := by rw [Int.natCast_ediv, Int.natCast_pow]; rfl
        rw [e]
        exact and1 (Nat.lt_of_le_of_lt (Nat.div_le_self _ _) h1)
      rw [he]
      have hc1 : ¬ 9223372036854775807 < b.size + (numB d).size := by have := num_size d; omega
      have hn := num_any (n := d) HG.out HAT.out.kept (by omega)
      clear HS he hs1
      refine hn.mono ?_
      clear hn
      rintro e w3 ⟨rfl, h⟩
      have HB := Lib.hid (pQ.step (HAT.out.stays h) hlt hd)
      clear h HAT
      go_wp2_with fail
      go_roundw
      case rel => exact ⟨t + 1, b ++ numB d, l ++ [48 + UInt8.ofNat d], by omega, by go_num, rfl, pB HBL.out hd, by simpa using HL.out, HB.out⟩
      case measure => simp [intOf]; omega
    · obtain rfl : t = 8 := by omega
      have HC := Lib.hid (pQ_call HAT.out HBL.out)
      have hc1 : ¬ 9223372036854775807 < 6 + b.size := by omega
      clear HAT
      go_wp2_with fail
      refine HC.out.mono ?_
      rintro e w3 ⟨rfl, h⟩
      have H := Lib.hid h
      clear h HC
      go_wp2_with fail
      iterate 4 (refine (says_t H.out).mono ?_; clear H; rintro e w3 ⟨rfl, h⟩; have H := Lib.hid h; clear h; go_wp2_with fail)
      go_ret
      exact ⟨rfl, H.out.kept⟩

set_option maxHeartbeats 4000000 in
theorem walk_yes (x : Nat) (h1 : x < 256) (w : World) (hG : Ev.Grounded Ev.gG w) :
    Calls Tryz.prog 6 #[.int .u8 (x : Int), .bool true] w fun e w' => e = .returned (.bool true) ∧ Ev.Stays w w' := by
  have HKN : Hid (Calls Tryz.prog 11 #[] w fun e w' => e = .returned (.bool true) ∧ Ev.Stays w w') := (Ev.known11 w (hG _ _ rfl)).mono fun e w' h => ⟨h.1, h.2⟩
  have HG := Lib.hid hG
  clear hG
  go_enter Tryz.func6, Tryz.ntmps6
  go_wp2_with fail
  refine HKN.out.mono ?_
  rintro e w1 ⟨rfl, hx1⟩
  have HX := Lib.hid hx1
  clear hx1 HKN
  go_wp2_with fail
  refine (new_t HG.out HX.out run_0).mono ?_
  rintro e w2 ⟨vs, rfl, h⟩
  have H : Hid (At pT vs w w2) := Lib.hid h
  clear h HX
  go_wp2_with fail
  iterate 6 (refine (says_t H.out).mono ?_; clear H; rintro e w3 ⟨rfl, h⟩; have H := Lib.hid h; clear h; go_wp2_with fail)
  refine (says_t H.out).mono ?_
  clear H
  rintro e w3 ⟨rfl, h⟩
  have H := Lib.hid h.right
  clear h
  go_wp2_with fail
  iterate 3 (refine (says_t H.out).mono ?_; clear H; rintro e w3 ⟨rfl, h⟩; have H := Lib.hid h; clear h; go_wp2_with fail)
  go_loopw [6, 7] (fun s q wr => ∃ (t : Nat) (b : ByteArray) (l : List UInt8), t ≤ 8 ∧ q = .int .i64 t ∧ s = .string b ∧ b = ⟨l.toArray⟩ ∧ l.length ≤ t ∧ pQ t l vs w wr) (fun _ q _ => 8 - (intOf q).toNat)
  case atStart => exact ⟨0, ⟨#[]⟩, [], by omega, rfl, rfl, rfl, by decide, .inl ⟨rfl, rfl, .inr H.out⟩⟩
  case round =>
    obtain ⟨t, b, l, ht, rfl, rfl, hbl, hl, hat⟩ := hrel
    have hb : b.size ≤ t := by subst hbl; simpa [ByteArray.size] using hl
    have HBL := Lib.hid hbl
    have HL := Lib.hid hl
    clear hbl hl
    clear H
    have HAT := Lib.hid hat
    clear hat
    by_cases hlt : t < 8
    · have b2 : (t : Int) < 8 := by omega
      have HS := Lib.hid HAT.out.kept
      have hs1 : ¬ (t : Int) < 0 := by omega
      go_wp2_with fail
      obtain ⟨d, hd, he⟩ : ∃ d : Nat, d < 2 ∧ bits .and .i64 ((x : Int) / 2 ^ t) 1 = (d : Int) := by
        have e : ((x : Int) / 2 ^ t) = ((x / 2 ^ t : Nat) : Int) := by rw [Int.natCast_ediv, Int.natCast_pow]; rfl
        rw [e]
        exact and1 (Nat.lt_of_le_of_lt (Nat.div_le_self _ _) h1)
      rw [he]
      have hc1 : ¬ 9223372036854775807 < b.size + (numB d).size := by have := num_size d; omega
      have hn := num_any (n := d) HG.out HAT.out.kept (by omega)
      clear HS he hs1
      refine hn.mono ?_
      clear hn
      rintro e w3 ⟨rfl, h⟩
      have HB := Lib.hid (pQ.step (HAT.out.stays h) hlt hd)
      clear h HAT
      go_wp2_with fail
      go_roundw
      case rel => exact ⟨t + 1, b ++ numB d, l ++ [48 + UInt8.ofNat d], by omega, by go_num, rfl, pB HBL.out hd, by simpa using HL.out, HB.out⟩
      case measure => simp [intOf]; omega
    · obtain rfl : t = 8 := by omega
      have HC := Lib.hid (pQ_call HAT.out HBL.out)
      have hc1 : ¬ 9223372036854775807 < 6 + b.size := by omega
      clear HAT
      go_wp2_with fail
      refine HC.out.mono ?_
      rintro e w3 ⟨rfl, h⟩
      have H := Lib.hid h
      clear h HC
      go_wp2_with fail
      iterate 4 (refine (says_t H.out).mono ?_; clear H; rintro e w3 ⟨rfl, h⟩; have H := Lib.hid h; clear h; go_wp2_with fail)
      go_ret
      exact ⟨rfl, H.out.kept⟩
end
end Go.Proofs.YtkcffdanhklphaaGreatDoor
