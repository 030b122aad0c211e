/-
  PastReal: runs of the evaluator, part 26.
-/
import Derived.Test.YtgilcomfkfkefaaGreatDoorPastRealRn
set_option maxRecDepth 100000
namespace Go.Ev
theorem q_1_11 : allB (rn 1 11 25 3) 3 = true := by decide +kernel
theorem q_2_16 : allB (rn 2 16 35 4) 4 = true := by decide +kernel
theorem q_3_11 : allB (rn 3 11 45 5) 5 = true := by decide +kernel
theorem q_3_41 : allB (rn 3 41 45 5) 5 = true := by decide +kernel
theorem q_4_26 : allB (rn 4 26 55 6) 6 = true := by decide +kernel
theorem q_5_1 : allB (rn 5 1 65 7) 7 = true := by decide +kernel
theorem q_5_31 : allB (rn 5 31 65 7) 7 = true := by decide +kernel
theorem q_5_61 : allB (rn 5 61 65 7) 7 = true := by decide +kernel
end Go.Ev
