/-
  PastReal: runs of the evaluator, part 29.
-/
import Derived.Test.YtgilcomfkfkefaaGreatDoorPastRealRn
set_option maxRecDepth 100000
namespace Go.Ev
theorem q_1_14 : allB (rn 1 14 25 3) 3 = true := by decide +kernel
theorem q_2_19 : allB (rn 2 19 35 4) 4 = true := by decide +kernel
theorem q_3_14 : allB (rn 3 14 45 5) 5 = true := by decide +kernel
theorem q_3_44 : allB (rn 3 44 45 5) 5 = true := by decide +kernel
theorem q_4_29 : allB (rn 4 29 55 6) 6 = true := by decide +kernel
theorem q_5_4 : allB (rn 5 4 65 7) 7 = true := by decide +kernel
theorem q_5_34 : allB (rn 5 34 65 7) 7 = true := by decide +kernel
theorem q_5_64 : allB (rn 5 64 65 7) 7 = true := by decide +kernel
end Go.Ev
