/-
  PastReal: runs of the evaluator, part 18.
-/
import Derived.Test.YtgilcomfkfkefaaGreatDoorPastRealRn
set_option maxRecDepth 100000
namespace Go.Ev
theorem q_1_3 : allB (rn 1 3 25 3) 3 = true := by decide +kernel
theorem q_2_8 : allB (rn 2 8 35 4) 4 = true := by decide +kernel
theorem q_3_3 : allB (rn 3 3 45 5) 5 = true := by decide +kernel
theorem q_3_33 : allB (rn 3 33 45 5) 5 = true := by decide +kernel
theorem q_4_18 : allB (rn 4 18 55 6) 6 = true := by decide +kernel
theorem q_4_48 : allB (rn 4 48 55 6) 6 = true := by decide +kernel
theorem q_5_23 : allB (rn 5 23 65 7) 7 = true := by decide +kernel
theorem q_5_53 : allB (rn 5 53 65 7) 7 = true := by decide +kernel
end Go.Ev
