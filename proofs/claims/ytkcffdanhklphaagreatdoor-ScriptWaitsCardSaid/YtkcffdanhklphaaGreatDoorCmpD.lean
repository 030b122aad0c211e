/-
  cmp.Compare at ints.
-/
import Derived.Test.YtkcffdanhklphaaGreatDoorProg
import Derived.WalkKit
set_option linter.unusedVariables false
set_option linter.unusedSimpArgs false
namespace Go.Proofs.YtkcffdanhklphaaGreatDoor
open Go.RowKit
def cmpZ (x y : Int) : Int := if x < y then -1 else if y < x then 1 else 0
set_option maxHeartbeats 1000000 in
theorem cmp_any (x y : Int) (w : World) : Calls Tryz.prog 190 #[.int .i64 x, .int .i64 y] w fun e w' => e = .returned (.int .i64 (cmpZ x y)) ∧ w' = w := by
  by_cases h1 : x < y
  · go_enter Tryz.func190, Tryz.ntmps190
    go_wp2
    go_ret
    exact ⟨by unfold cmpZ; rw [if_pos h1]; rfl, rfl⟩
  · by_cases h2 : y < x
    · have h1' : decide (x < y) = false := decide_eq_false h1
      go_enter Tryz.func190, Tryz.ntmps190
      go_wp2
      go_ret
      exact ⟨by unfold cmpZ; rw [if_neg (by omega), if_pos h2]; rfl, rfl⟩
    · go_enter Tryz.func190, Tryz.ntmps190
      go_wp2
      go_ret
      exact ⟨by unfold cmpZ; rw [if_neg (by omega), if_neg (by omega)]; rfl, rfl⟩
end Go.Proofs.YtkcffdanhklphaaGreatDoor
