/-
  PastReal: runs of the evaluator, part 21.
-/
import Derived.Test.YtgilcomfkfkefaaGreatDoorPastRealRn
set_option maxRecDepth 100000
namespace Go.Ev
theorem q_1_6 : allB (rn 1 6 25 3) 3 = true := by decide +kernel
theorem q_2_11 : allB (rn 2 11 35 4) 4 = true := by decide +kernel
theorem q_3_6 : allB (rn 3 6 45 5) 5 = true := by decide +kernel
theorem q_3_36 : allB (rn 3 36 45 5) 5 = true := by decide +kernel
theorem q_4_21 : allB (rn 4 21 55 6) 6 = true := by decide +kernel
theorem q_4_51 : allB (rn 4 51 55 6) 6 = true := by decide +kernel
theorem q_5_26 : allB (rn 5 26 65 7) 7 = true := by decide +kernel
theorem q_5_56 : allB (rn 5 56 65 7) 7 = true := by decide +kernel
end Go.Ev
