/-
  PastReal: runs of the evaluator, part 6.
-/
import Derived.Test.YtgilcomfkfkefaaGreatDoorPastRealRn
set_option maxRecDepth 100000
namespace Go.Ev
theorem q_0_6 : allB (rn 0 6 15 2) 2 = true := by decide +kernel
theorem q_1_21 : allB (rn 1 21 25 3) 3 = true := by decide +kernel
theorem q_2_26 : allB (rn 2 26 35 4) 4 = true := by decide +kernel
theorem q_3_21 : allB (rn 3 21 45 5) 5 = true := by decide +kernel
theorem q_4_6 : allB (rn 4 6 55 6) 6 = true := by decide +kernel
theorem q_4_36 : allB (rn 4 36 55 6) 6 = true := by decide +kernel
theorem q_5_11 : allB (rn 5 11 65 7) 7 = true := by decide +kernel
theorem q_5_41 : allB (rn 5 41 65 7) 7 = true := by decide +kernel
end Go.Ev
