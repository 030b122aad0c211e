/-
  PastReal: runs of the evaluator, part 17.
-/
import Derived.Test.YtgilcomfkfkefaaGreatDoorPastRealRn
set_option maxRecDepth 100000
namespace Go.Ev
theorem q_1_2 : allB (rn 1 2 25 3) 3 = true := by decide +kernel
theorem q_2_7 : allB (rn 2 7 35 4) 4 = true := by decide +kernel
theorem q_3_2 : allB (rn 3 2 45 5) 5 = true := by decide +kernel
theorem q_3_32 : allB (rn 3 32 45 5) 5 = true := by decide +kernel
theorem q_4_17 : allB (rn 4 17 55 6) 6 = true := by decide +kernel
theorem q_4_47 : allB (rn 4 47 55 6) 6 = true := by decide +kernel
theorem q_5_22 : allB (rn 5 22 65 7) 7 = true := by decide +kernel
theorem q_5_52 : allB (rn 5 52 65 7) 7 = true := by decide +kernel
end Go.Ev
