/-
  PastReal: runs of the evaluator, part 8.
-/
import Derived.Test.YtgilcomfkfkefaaGreatDoorPastRealRn
set_option maxRecDepth 100000
namespace Go.Ev
theorem q_0_8 : allB (rn 0 8 15 2) 2 = true := by decide +kernel
theorem q_1_23 : allB (rn 1 23 25 3) 3 = true := by decide +kernel
theorem q_2_28 : allB (rn 2 28 35 4) 4 = true := by decide +kernel
theorem q_3_23 : allB (rn 3 23 45 5) 5 = true := by decide +kernel
theorem q_4_8 : allB (rn 4 8 55 6) 6 = true := by decide +kernel
theorem q_4_38 : allB (rn 4 38 55 6) 6 = true := by decide +kernel
theorem q_5_13 : allB (rn 5 13 65 7) 7 = true := by decide +kernel
theorem q_5_43 : allB (rn 5 43 65 7) 7 = true := by decide +kernel
end Go.Ev
