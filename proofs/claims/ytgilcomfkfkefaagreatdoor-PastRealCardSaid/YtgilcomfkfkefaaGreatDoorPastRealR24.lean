/-
  PastReal: runs of the evaluator, part 24.
-/
import Derived.Test.YtgilcomfkfkefaaGreatDoorPastRealRn
set_option maxRecDepth 100000
namespace Go.Ev
theorem q_1_9 : allB (rn 1 9 25 3) 3 = true := by decide +kernel
theorem q_2_14 : allB (rn 2 14 35 4) 4 = true := by decide +kernel
theorem q_3_9 : allB (rn 3 9 45 5) 5 = true := by decide +kernel
theorem q_3_39 : allB (rn 3 39 45 5) 5 = true := by decide +kernel
theorem q_4_24 : allB (rn 4 24 55 6) 6 = true := by decide +kernel
theorem q_4_54 : allB (rn 4 54 55 6) 6 = true := by decide +kernel
theorem q_5_29 : allB (rn 5 29 65 7) 7 = true := by decide +kernel
theorem q_5_59 : allB (rn 5 59 65 7) 7 = true := by decide +kernel
end Go.Ev
