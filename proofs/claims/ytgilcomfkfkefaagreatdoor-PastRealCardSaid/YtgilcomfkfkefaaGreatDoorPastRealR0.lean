/-
  PastReal: runs of the evaluator, part 0.
-/
import Derived.Test.YtgilcomfkfkefaaGreatDoorPastRealRn
set_option maxRecDepth 100000
namespace Go.Ev
theorem q_0_0 : allB (rn 0 0 15 2) 2 = true := by decide +kernel
theorem q_1_15 : allB (rn 1 15 25 3) 3 = true := by decide +kernel
theorem q_2_20 : allB (rn 2 20 35 4) 4 = true := by decide +kernel
theorem q_3_15 : allB (rn 3 15 45 5) 5 = true := by decide +kernel
theorem q_4_0 : allB (rn 4 0 55 6) 6 = true := by decide +kernel
theorem q_4_30 : allB (rn 4 30 55 6) 6 = true := by decide +kernel
theorem q_5_5 : allB (rn 5 5 65 7) 7 = true := by decide +kernel
theorem q_5_35 : allB (rn 5 35 65 7) 7 = true := by decide +kernel
end Go.Ev
