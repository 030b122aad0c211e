/-
  PastReal: runs of the evaluator, part 3.
-/
import Derived.Test.YtgilcomfkfkefaaGreatDoorPastRealRn
set_option maxRecDepth 100000
namespace Go.Ev
theorem q_0_3 : allB (rn 0 3 15 2) 2 = true := by decide +kernel
theorem q_1_18 : allB (rn 1 18 25 3) 3 = true := by decide +kernel
theorem q_2_23 : allB (rn 2 23 35 4) 4 = true := by decide +kernel
theorem q_3_18 : allB (rn 3 18 45 5) 5 = true := by decide +kernel
theorem q_4_3 : allB (rn 4 3 55 6) 6 = true := by decide +kernel
theorem q_4_33 : allB (rn 4 33 55 6) 6 = true := by decide +kernel
theorem q_5_8 : allB (rn 5 8 65 7) 7 = true := by decide +kernel
theorem q_5_38 : allB (rn 5 38 65 7) 7 = true := by decide +kernel
end Go.Ev
