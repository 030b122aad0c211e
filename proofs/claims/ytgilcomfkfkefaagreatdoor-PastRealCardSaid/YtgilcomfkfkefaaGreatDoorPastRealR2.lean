/-
  PastReal: runs of the evaluator, part 2.
-/
import Derived.Test.YtgilcomfkfkefaaGreatDoorPastRealRn
set_option maxRecDepth 100000
namespace Go.Ev
theorem q_0_2 : allB (rn 0 2 15 2) 2 = true := by decide +kernel
theorem q_1_17 : allB (rn 1 17 25 3) 3 = true := by decide +kernel
theorem q_2_22 : allB (rn 2 22 35 4) 4 = true := by decide +kernel
theorem q_3_17 : allB (rn 3 17 45 5) 5 = true := by decide +kernel
theorem q_4_2 : allB (rn 4 2 55 6) 6 = true := by decide +kernel
theorem q_4_32 : allB (rn 4 32 55 6) 6 = true := by decide +kernel
theorem q_5_7 : allB (rn 5 7 65 7) 7 = true := by decide +kernel
theorem q_5_37 : allB (rn 5 37 65 7) 7 = true := by decide +kernel
end Go.Ev
