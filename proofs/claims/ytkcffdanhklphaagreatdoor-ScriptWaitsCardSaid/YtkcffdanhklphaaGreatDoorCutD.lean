/-
  pack.Cut: eight bytes taken as a number.
-/
import Derived.Test.YtkcffdanhklphaaGreatDoorNumD
import Derived.Laws.BitsAllLaws
set_option linter.unusedVariables false
set_option linter.unusedSimpArgs false
namespace Go.Proofs.YtkcffdanhklphaaGreatDoor
open Go.RowKit
set_option maxHeartbeats 4000000 in
set_option maxRecDepth 100000 in
theorem take_ok (B o : Nat) (s : ByteArray) (w : World) (h1 : w.cell? ⟨B, o, none⟩ = some (.string s)) (h2 : w.cell? ⟨B, o + 1, none⟩ = some .nilIface) (hf : w.frozen? ⟨B, o, none⟩ = false) (hn : 8 ≤ s.size) :
    Calls Tryz.prog 294 #[.pointer (some ⟨B, o, none⟩), .int .i64 8] w fun e w' => e = .returned (.string (s.extract 0 8)) ∧ w' = w.setCell ⟨B, o, none⟩ (.string (s.extract 8 s.size)) := by
  go_enter Tryz.func294, Tryz.ntmps294
  go_wp2
  go_ret
  exact ⟨rfl, rfl⟩
set_option maxHeartbeats 4000000 in
set_option maxRecDepth 100000 in
theorem take_short (B o : Nat) (s : ByteArray) (w : World) (h1 : w.cell? ⟨B, o, none⟩ = some (.string s)) (h2 : w.cell? ⟨B, o + 1, none⟩ = some .nilIface) (hf : w.frozen? ⟨B, o + 1, none⟩ = false) (hn : s.size < 8) :
    Calls Tryz.prog 294 #[.pointer (some ⟨B, o, none⟩), .int .i64 8] w fun e w' => e = .returned (.string ⟨#[]⟩) ∧ w' = w.setCell ⟨B, o + 1, none⟩ (.iface 41 (.int .i64 11)) := by
  go_enter Tryz.func294, Tryz.ntmps294
  go_wp2
  go_ret
  exact ⟨rfl, rfl⟩
set_option maxHeartbeats 4000000 in
set_option maxRecDepth 100000 in
theorem take_err (B o : Nat) (s : ByteArray) (t : TypeId) (v : Value) (w : World) (h1 : w.cell? ⟨B, o, none⟩ = some (.string s)) (h2 : w.cell? ⟨B, o + 1, none⟩ = some (.iface t v)) (hf : w.frozen? ⟨B, o + 1, none⟩ = false) :
    Calls Tryz.prog 294 #[.pointer (some ⟨B, o, none⟩), .int .i64 8] w fun e w' => e = .returned (.string ⟨#[]⟩) ∧ w' = w.setCell ⟨B, o + 1, none⟩ (.iface 41 (.int .i64 11)) := by
  go_enter Tryz.func294, Tryz.ntmps294
  go_wp2
  go_ret
  exact ⟨rfl, rfl⟩
/-- bytes as a number, the first one lowest -/
def packN : List UInt8 → Nat
  | [] => 0
  | b :: l => b.toNat + 256 * packN l
theorem packN_lt : ∀ l : List UInt8, packN l < 256 ^ l.length
  | [] => by simp [packN]
  | b :: l => by
    have h := packN_lt l
    have hb := b.toNat_lt
    simp only [packN, List.length_cons, Nat.pow_succ]
    omega
theorem or_byte (n b : Nat) (hn : n < 72057594037927936) (hb : b < 256) : bits .or .u64 (IntKind.u64.wrap ((n : Int) * 256)) (IntKind.u64.wrap (b : Int)) = ((b + 256 * n : Nat) : Int) := by
  have e1 : IntKind.u64.wrap ((n : Int) * 256) = ((256 * n : Nat) : Int) := by
    simp only [IntKind.wrap, IntKind.signed, IntKind.bits]
    simp
    omega
  have e2 : IntKind.u64.wrap (b : Int) = (b : Int) := by
    simp only [IntKind.wrap, IntKind.signed, IntKind.bits]
    simp
    omega
  rw [e1, e2, u64_or_nat _ _ (by omega) (by omega)]
  have := Nat.two_pow_add_eq_or_of_lt (i := 8) (b := b) (by omega) n
  rw [show (2 : Nat) ^ 8 = 256 from rfl] at this
  rw [← this]
  congr 1
  omega
theorem drop_num (t : ByteArray) (k : Nat) (h0 : 0 < k) (hk : k ≤ t.size) : packN (t.data.toList.drop (k - 1)) = t[k - 1].toNat + 256 * packN (t.data.toList.drop k) := by
  have hl : k - 1 < t.data.toList.length := by simp; omega
  rw [List.drop_eq_getElem_cons hl, show k - 1 + 1 = k by omega]
  rfl
theorem drop_lt (t : ByteArray) (ht : t.size ≤ 8) (k : Nat) (h0 : 0 < k) : packN (t.data.toList.drop k) < 72057594037927936 := by
  have h := packN_lt (t.data.toList.drop k)
  have hl : (t.data.toList.drop k).length ≤ 7 := by simp; omega
  have h2 : 256 ^ (t.data.toList.drop k).length ≤ 256 ^ 7 := Nat.pow_le_pow_right (by decide) hl
  have h3 : (256 : Nat) ^ 7 = 72057594037927936 := by decide
  omega
set_option maxHeartbeats 4000000 in
set_option maxRecDepth 100000 in
theorem num_of (t : ByteArray) (ht : t.size ≤ 8) (w1 w : World) (B o : Nat) (hc : Calls Tryz.prog 294 #[.pointer (some ⟨B, o, none⟩), .int .i64 8] w fun e w' => e = .returned (.string t) ∧ w' = w1) :
    Calls Tryz.prog 232 #[.pointer (some ⟨B, o, none⟩)] w fun e w' => e = .returned (.int .u64 (packN t.data.toList : Nat)) ∧ w' = w1 := by
  go_enter Tryz.func232, Tryz.ntmps232
  go_wp2_with fail
  refine hc.mono ?_
  rintro e wa ⟨rfl, rfl⟩
  go_wp2
  go_loopw [4, 5] (fun n i wr => ∃ k : Nat, k ≤ t.size ∧ i = .int .i64 ((k : Int) - 1) ∧ n = .int .u64 (packN (t.data.toList.drop k) : Nat) ∧ wr = wa) (fun n i _ => ((intOf i) + 1).toNat)
  case atStart => exact ⟨t.size, Nat.le_refl _, rfl, by rw [List.drop_of_length_le (by simp)]; rfl, rfl⟩
  case round =>
    obtain ⟨k, hk, rfl, rfl, rfl⟩ := hrel
    by_cases hlt : 0 < k
    · go_wp2
      refine ⟨⟨k - 1, by omega, by congr 1; omega, ?_, trivial⟩, ?_⟩
      · rw [or_byte _ _ (drop_lt t ht k hlt) (by have := t[k - 1].toNat_lt; omega), drop_num t k hlt hk]
      · show ((k : Int) - 1 - 1 + 1).toNat < ((k : Int) - 1 + 1).toNat
        omega
    · obtain rfl : k = 0 := by omega
      go_wp2
      go_ret
      exact ⟨rfl, rfl⟩
end Go.Proofs.YtkcffdanhklphaaGreatDoor
