/-
  PastReal: runs of the evaluator, part 19.
-/
import Derived.Test.YtgilcomfkfkefaaGreatDoorPastRealRn
set_option maxRecDepth 100000
namespace Go.Ev
theorem q_1_4 : allB (rn 1 4 25 3) 3 = true := by decide +kernel
theorem q_2_9 : allB (rn 2 9 35 4) 4 = true := by decide +kernel
theorem q_3_4 : allB (rn 3 4 45 5) 5 = true := by decide +kernel
theorem q_3_34 : allB (rn 3 34 45 5) 5 = true := by decide +kernel
theorem q_4_19 : allB (rn 4 19 55 6) 6 = true := by decide +kernel
theorem q_4_49 : allB (rn 4 49 55 6) 6 = true := by decide +kernel
theorem q_5_24 : allB (rn 5 24 65 7) 7 = true := by decide +kernel
theorem q_5_54 : allB (rn 5 54 65 7) 7 = true := by decide +kernel
end Go.Ev
