/-
  PastReal: runs of the evaluator, part 23.
-/
import Derived.Test.YtgilcomfkfkefaaGreatDoorPastRealRn
set_option maxRecDepth 100000
namespace Go.Ev
theorem q_1_8 : allB (rn 1 8 25 3) 3 = true := by decide +kernel
theorem q_2_13 : allB (rn 2 13 35 4) 4 = true := by decide +kernel
theorem q_3_8 : allB (rn 3 8 45 5) 5 = true := by decide +kernel
theorem q_3_38 : allB (rn 3 38 45 5) 5 = true := by decide +kernel
theorem q_4_23 : allB (rn 4 23 55 6) 6 = true := by decide +kernel
theorem q_4_53 : allB (rn 4 53 55 6) 6 = true := by decide +kernel
theorem q_5_28 : allB (rn 5 28 65 7) 7 = true := by decide +kernel
theorem q_5_58 : allB (rn 5 58 65 7) 7 = true := by decide +kernel
end Go.Ev
