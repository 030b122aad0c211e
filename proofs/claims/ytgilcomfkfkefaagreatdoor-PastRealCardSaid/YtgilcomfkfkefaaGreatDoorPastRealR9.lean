/-
  PastReal: runs of the evaluator, part 9.
-/
import Derived.Test.YtgilcomfkfkefaaGreatDoorPastRealRn
set_option maxRecDepth 100000
namespace Go.Ev
theorem q_0_9 : allB (rn 0 9 15 2) 2 = true := by decide +kernel
theorem q_1_24 : allB (rn 1 24 25 3) 3 = true := by decide +kernel
theorem q_2_29 : allB (rn 2 29 35 4) 4 = true := by decide +kernel
theorem q_3_24 : allB (rn 3 24 45 5) 5 = true := by decide +kernel
theorem q_4_9 : allB (rn 4 9 55 6) 6 = true := by decide +kernel
theorem q_4_39 : allB (rn 4 39 55 6) 6 = true := by decide +kernel
theorem q_5_14 : allB (rn 5 14 65 7) 7 = true := by decide +kernel
theorem q_5_44 : allB (rn 5 44 65 7) 7 = true := by decide +kernel
end Go.Ev
