/-
  PastReal: runs of the evaluator, part 20.
-/
import Derived.Test.YtgilcomfkfkefaaGreatDoorPastRealRn
set_option maxRecDepth 100000
namespace Go.Ev
theorem q_1_5 : allB (rn 1 5 25 3) 3 = true := by decide +kernel
theorem q_2_10 : allB (rn 2 10 35 4) 4 = true := by decide +kernel
theorem q_3_5 : allB (rn 3 5 45 5) 5 = true := by decide +kernel
theorem q_3_35 : allB (rn 3 35 45 5) 5 = true := by decide +kernel
theorem q_4_20 : allB (rn 4 20 55 6) 6 = true := by decide +kernel
theorem q_4_50 : allB (rn 4 50 55 6) 6 = true := by decide +kernel
theorem q_5_25 : allB (rn 5 25 65 7) 7 = true := by decide +kernel
theorem q_5_55 : allB (rn 5 55 65 7) 7 = true := by decide +kernel
end Go.Ev
