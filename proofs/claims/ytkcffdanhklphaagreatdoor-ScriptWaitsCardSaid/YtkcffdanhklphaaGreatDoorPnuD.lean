/-
  page.num: an int as eight bytes.
-/
import Derived.Test.YtkcffdanhklphaaGreatDoorNumD
set_option linter.unusedVariables false
set_option linter.unusedSimpArgs false
namespace Go.Proofs.YtkcffdanhklphaaGreatDoor
open Go.RowKit
theorem wrap_u64 (n : Int) : IntKind.u64.wrap n = (((n % 18446744073709551616).toNat : Nat) : Int) := by
  simp only [IntKind.wrap, IntKind.signed, IntKind.bits]
  simp
  omega
set_option maxHeartbeats 4000000 in
set_option maxRecDepth 100000 in
theorem pnum_any (n : Int) (h1 : -9223372036854775808 ≤ n) (h2 : n ≤ 9223372036854775807) (w : World) :
    Calls Tryz.prog 306 #[.int .i64 n] w fun e w' => ∃ (a b c d f g h i : Int) (W : Obj), e = .returned (.string (txt [a, b, c, d, f, g, h, i])) ∧ w' = w.alloc W ∧ ((n % 18446744073709551616).toNat : Int) = a + 256 * b + 65536 * c + 16777216 * d + 4294967296 * f + 1099511627776 * g + 281474976710656 * h + 72057594037927936 * i ∧ ∀ x ∈ [a, b, c, d, f, g, h, i], 0 ≤ x ∧ x < 256 := by
  go_enter Tryz.func306, Tryz.ntmps306
  go_wp2_with fail
  rw [wrap_u64]
  refine (num_a (n % 18446744073709551616).toNat (by omega) w).mono ?_
  rintro e w1 ⟨a, b, c, d, f, g, h, i, W, rfl, rfl, hn, hx⟩
  go_wp2
  go_ret
  exact ⟨a, b, c, d, f, g, h, i, W, rfl, rfl, hn, hx⟩
end Go.Proofs.YtkcffdanhklphaaGreatDoor
