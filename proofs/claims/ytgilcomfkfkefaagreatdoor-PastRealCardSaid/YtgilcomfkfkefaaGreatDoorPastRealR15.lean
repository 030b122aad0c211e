/-
  PastReal: runs of the evaluator, part 15.
-/
import Derived.Test.YtgilcomfkfkefaaGreatDoorPastRealRn
set_option maxRecDepth 100000
namespace Go.Ev
theorem q_1_0 : allB (rn 1 0 25 3) 3 = true := by decide +kernel
theorem q_2_5 : allB (rn 2 5 35 4) 4 = true := by decide +kernel
theorem q_3_0 : allB (rn 3 0 45 5) 5 = true := by decide +kernel
theorem q_3_30 : allB (rn 3 30 45 5) 5 = true := by decide +kernel
theorem q_4_15 : allB (rn 4 15 55 6) 6 = true := by decide +kernel
theorem q_4_45 : allB (rn 4 45 55 6) 6 = true := by decide +kernel
theorem q_5_20 : allB (rn 5 20 65 7) 7 = true := by decide +kernel
theorem q_5_50 : allB (rn 5 50 65 7) 7 = true := by decide +kernel
end Go.Ev
