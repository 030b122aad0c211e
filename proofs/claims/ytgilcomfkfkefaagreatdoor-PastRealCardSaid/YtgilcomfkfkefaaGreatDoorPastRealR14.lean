/-
  PastReal: runs of the evaluator, part 14.
-/
import Derived.Test.YtgilcomfkfkefaaGreatDoorPastRealRn
set_option maxRecDepth 100000
namespace Go.Ev
theorem q_0_14 : allB (rn 0 14 15 2) 2 = true := by decide +kernel
theorem q_2_4 : allB (rn 2 4 35 4) 4 = true := by decide +kernel
theorem q_2_34 : allB (rn 2 34 35 4) 4 = true := by decide +kernel
theorem q_3_29 : allB (rn 3 29 45 5) 5 = true := by decide +kernel
theorem q_4_14 : allB (rn 4 14 55 6) 6 = true := by decide +kernel
theorem q_4_44 : allB (rn 4 44 55 6) 6 = true := by decide +kernel
theorem q_5_19 : allB (rn 5 19 65 7) 7 = true := by decide +kernel
theorem q_5_49 : allB (rn 5 49 65 7) 7 = true := by decide +kernel
end Go.Ev
