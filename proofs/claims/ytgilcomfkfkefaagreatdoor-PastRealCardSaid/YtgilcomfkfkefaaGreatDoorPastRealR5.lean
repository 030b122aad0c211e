/-
  PastReal: runs of the evaluator, part 5.
-/
import Derived.Test.YtgilcomfkfkefaaGreatDoorPastRealRn
set_option maxRecDepth 100000
namespace Go.Ev
theorem q_0_5 : allB (rn 0 5 15 2) 2 = true := by decide +kernel
theorem q_1_20 : allB (rn 1 20 25 3) 3 = true := by decide +kernel
theorem q_2_25 : allB (rn 2 25 35 4) 4 = true := by decide +kernel
theorem q_3_20 : allB (rn 3 20 45 5) 5 = true := by decide +kernel
theorem q_4_5 : allB (rn 4 5 55 6) 6 = true := by decide +kernel
theorem q_4_35 : allB (rn 4 35 55 6) 6 = true := by decide +kernel
theorem q_5_10 : allB (rn 5 10 65 7) 7 = true := by decide +kernel
theorem q_5_40 : allB (rn 5 40 65 7) 7 = true := by decide +kernel
end Go.Ev
