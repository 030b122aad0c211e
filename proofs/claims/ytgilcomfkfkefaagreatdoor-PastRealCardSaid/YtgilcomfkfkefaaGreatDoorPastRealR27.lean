/-
  PastReal: runs of the evaluator, part 27.
-/
import Derived.Test.YtgilcomfkfkefaaGreatDoorPastRealRn
set_option maxRecDepth 100000
namespace Go.Ev
theorem q_1_12 : allB (rn 1 12 25 3) 3 = true := by decide +kernel
theorem q_2_17 : allB (rn 2 17 35 4) 4 = true := by decide +kernel
theorem q_3_12 : allB (rn 3 12 45 5) 5 = true := by decide +kernel
theorem q_3_42 : allB (rn 3 42 45 5) 5 = true := by decide +kernel
theorem q_4_27 : allB (rn 4 27 55 6) 6 = true := by decide +kernel
theorem q_5_2 : allB (rn 5 2 65 7) 7 = true := by decide +kernel
theorem q_5_32 : allB (rn 5 32 65 7) 7 = true := by decide +kernel
theorem q_5_62 : allB (rn 5 62 65 7) 7 = true := by decide +kernel
end Go.Ev
