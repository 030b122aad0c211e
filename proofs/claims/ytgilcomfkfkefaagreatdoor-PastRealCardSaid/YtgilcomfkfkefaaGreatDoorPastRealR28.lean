/-
  PastReal: runs of the evaluator, part 28.
-/
import Derived.Test.YtgilcomfkfkefaaGreatDoorPastRealRn
set_option maxRecDepth 100000
namespace Go.Ev
theorem q_1_13 : allB (rn 1 13 25 3) 3 = true := by decide +kernel
theorem q_2_18 : allB (rn 2 18 35 4) 4 = true := by decide +kernel
theorem q_3_13 : allB (rn 3 13 45 5) 5 = true := by decide +kernel
theorem q_3_43 : allB (rn 3 43 45 5) 5 = true := by decide +kernel
theorem q_4_28 : allB (rn 4 28 55 6) 6 = true := by decide +kernel
theorem q_5_3 : allB (rn 5 3 65 7) 7 = true := by decide +kernel
theorem q_5_33 : allB (rn 5 33 65 7) 7 = true := by decide +kernel
theorem q_5_63 : allB (rn 5 63 65 7) 7 = true := by decide +kernel
end Go.Ev
