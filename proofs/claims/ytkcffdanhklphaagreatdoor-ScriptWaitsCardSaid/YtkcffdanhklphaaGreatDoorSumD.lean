/-
  pack.Sum, copyholdref1.Sum: a text's sum.
-/
import Derived.Test.YtkcffdanhklphaaGreatDoorNumD
set_option linter.unusedVariables false
set_option linter.unusedSimpArgs false
namespace Go.Proofs.YtkcffdanhklphaaGreatDoor
open Go.RowKit
/-- from h: times 33 and the next byte -/
def sumC (l : List UInt8) (h : Nat) : Nat := l.foldl (fun h b => (h * 33 + b.toNat) % 18446744073709551616) h
theorem sum_step (s : ByteArray) (k : Nat) (h : k < s.size) :
    IntKind.u64.wrap (IntKind.u64.wrap ((sumC (s.data.toList.take k) 5381 : Nat) * 33 : Int) + IntKind.u64.wrap (s[k].toNat : Int)) = ((sumC (s.data.toList.take (k + 1)) 5381 : Nat) : Int) := by
  have hl : k < s.data.toList.length := by simpa using h
  have e : s.data.toList.take (k + 1) = s.data.toList.take k ++ [s[k]] := by
    rw [List.take_add_one, List.getElem?_eq_getElem hl]; rfl
  rw [e]
  unfold sumC
  rw [List.foldl_append]
  generalize List.foldl _ 5381 (s.data.toList.take k) = q
  simp only [List.foldl_cons, List.foldl_nil]
  have := s[k].toNat_lt
  generalize s[k].toNat = b at this ⊢
  show (IntKind.u64.wrap (IntKind.u64.wrap ((q : Int) * 33) + IntKind.u64.wrap (b : Int))) = (((q * 33 + b) % 18446744073709551616 : Nat) : Int)
  simp only [IntKind.wrap, IntKind.signed, IntKind.bits]
  simp
set_option maxHeartbeats 4000000 in
set_option maxRecDepth 100000 in
theorem sum_a (s : ByteArray) (hs : s.size ≤ 16777214) (w : World) :
    Calls Tryz.prog 309 #[.string s] w fun e w' => e = .returned (.int .u64 (sumC s.data.toList 5381 : Nat)) ∧ w' = w := by
  go_enter Tryz.func309, Tryz.ntmps309
  go_wp2
  go_step3
  go_wp2
  go_step3
  go_wp2
  refine wp_loop_rounds 1 ?_
  rw [rounds_succ]
  go_wp2
  go_loopg [3, 7] s.size (fun g h i wr => ∃ k : Nat, k ≤ s.size ∧ s.size - k ≤ g ∧ i = .int .i64 k ∧ h = .int .u64 (sumC (s.data.toList.take k) 5381 : Nat) ∧ wr = w)
  case atStart => exact ⟨0, Nat.zero_le _, by omega, rfl, by simp [sumC], rfl⟩
  case round =>
    obtain ⟨k, hk, hg, rfl, rfl, rfl⟩ := hrel
    by_cases hlt : k < s.size
    · go_wp2
      go_roundg (s.size - (k + 1))
      case rel => exact ⟨k + 1, by omega, by omega, rfl, by rw [sum_step s k hlt], rfl⟩
      case measure => omega
    · obtain rfl : k = s.size := by omega
      go_wp2
      rw [Exit.noGoto_ret]
      go_ret
      rw [List.take_of_length_le (by simp)]
      exact ⟨rfl, rfl⟩
end Go.Proofs.YtkcffdanhklphaaGreatDoor
