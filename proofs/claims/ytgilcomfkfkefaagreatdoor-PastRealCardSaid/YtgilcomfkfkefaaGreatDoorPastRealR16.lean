/-
  PastReal: runs of the evaluator, part 16.
-/
import Derived.Test.YtgilcomfkfkefaaGreatDoorPastRealRn
set_option maxRecDepth 100000
namespace Go.Ev
theorem q_1_1 : allB (rn 1 1 25 3) 3 = true := by decide +kernel
theorem q_2_6 : allB (rn 2 6 35 4) 4 = true := by decide +kernel
theorem q_3_1 : allB (rn 3 1 45 5) 5 = true := by decide +kernel
theorem q_3_31 : allB (rn 3 31 45 5) 5 = true := by decide +kernel
theorem q_4_16 : allB (rn 4 16 55 6) 6 = true := by decide +kernel
theorem q_4_46 : allB (rn 4 46 55 6) 6 = true := by decide +kernel
theorem q_5_21 : allB (rn 5 21 65 7) 7 = true := by decide +kernel
theorem q_5_51 : allB (rn 5 51 65 7) 7 = true := by decide +kernel
end Go.Ev
