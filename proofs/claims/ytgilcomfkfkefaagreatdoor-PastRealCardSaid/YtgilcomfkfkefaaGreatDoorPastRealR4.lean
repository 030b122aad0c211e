/-
  PastReal: runs of the evaluator, part 4.
-/
import Derived.Test.YtgilcomfkfkefaaGreatDoorPastRealRn
set_option maxRecDepth 100000
namespace Go.Ev
theorem q_0_4 : allB (rn 0 4 15 2) 2 = true := by decide +kernel
theorem q_1_19 : allB (rn 1 19 25 3) 3 = true := by decide +kernel
theorem q_2_24 : allB (rn 2 24 35 4) 4 = true := by decide +kernel
theorem q_3_19 : allB (rn 3 19 45 5) 5 = true := by decide +kernel
theorem q_4_4 : allB (rn 4 4 55 6) 6 = true := by decide +kernel
theorem q_4_34 : allB (rn 4 34 55 6) 6 = true := by decide +kernel
theorem q_5_9 : allB (rn 5 9 65 7) 7 = true := by decide +kernel
theorem q_5_39 : allB (rn 5 39 65 7) 7 = true := by decide +kernel
end Go.Ev
