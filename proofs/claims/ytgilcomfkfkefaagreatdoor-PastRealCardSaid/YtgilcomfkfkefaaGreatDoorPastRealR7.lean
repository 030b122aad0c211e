/-
  PastReal: runs of the evaluator, part 7.
-/
import Derived.Test.YtgilcomfkfkefaaGreatDoorPastRealRn
set_option maxRecDepth 100000
namespace Go.Ev
theorem q_0_7 : allB (rn 0 7 15 2) 2 = true := by decide +kernel
theorem q_1_22 : allB (rn 1 22 25 3) 3 = true := by decide +kernel
theorem q_2_27 : allB (rn 2 27 35 4) 4 = true := by decide +kernel
theorem q_3_22 : allB (rn 3 22 45 5) 5 = true := by decide +kernel
theorem q_4_7 : allB (rn 4 7 55 6) 6 = true := by decide +kernel
theorem q_4_37 : allB (rn 4 37 55 6) 6 = true := by decide +kernel
theorem q_5_12 : allB (rn 5 12 65 7) 7 = true := by decide +kernel
theorem q_5_42 : allB (rn 5 42 65 7) 7 = true := by decide +kernel
end Go.Ev
