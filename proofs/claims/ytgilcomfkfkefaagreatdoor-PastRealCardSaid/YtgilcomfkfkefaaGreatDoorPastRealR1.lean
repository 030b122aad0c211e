/-
  PastReal: runs of the evaluator, part 1.
-/
import Derived.Test.YtgilcomfkfkefaaGreatDoorPastRealRn
set_option maxRecDepth 100000
namespace Go.Ev
theorem q_0_1 : allB (rn 0 1 15 2) 2 = true := by decide +kernel
theorem q_1_16 : allB (rn 1 16 25 3) 3 = true := by decide +kernel
theorem q_2_21 : allB (rn 2 21 35 4) 4 = true := by decide +kernel
theorem q_3_16 : allB (rn 3 16 45 5) 5 = true := by decide +kernel
theorem q_4_1 : allB (rn 4 1 55 6) 6 = true := by decide +kernel
theorem q_4_31 : allB (rn 4 31 55 6) 6 = true := by decide +kernel
theorem q_5_6 : allB (rn 5 6 65 7) 7 = true := by decide +kernel
theorem q_5_36 : allB (rn 5 36 65 7) 7 = true := by decide +kernel
end Go.Ev
