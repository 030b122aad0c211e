/-
  PastReal: runs of the evaluator, part 11.
-/
import Derived.Test.YtgilcomfkfkefaaGreatDoorPastRealRn
set_option maxRecDepth 100000
namespace Go.Ev
theorem q_0_11 : allB (rn 0 11 15 2) 2 = true := by decide +kernel
theorem q_2_1 : allB (rn 2 1 35 4) 4 = true := by decide +kernel
theorem q_2_31 : allB (rn 2 31 35 4) 4 = true := by decide +kernel
theorem q_3_26 : allB (rn 3 26 45 5) 5 = true := by decide +kernel
theorem q_4_11 : allB (rn 4 11 55 6) 6 = true := by decide +kernel
theorem q_4_41 : allB (rn 4 41 55 6) 6 = true := by decide +kernel
theorem q_5_16 : allB (rn 5 16 65 7) 7 = true := by decide +kernel
theorem q_5_46 : allB (rn 5 46 65 7) 7 = true := by decide +kernel
end Go.Ev
