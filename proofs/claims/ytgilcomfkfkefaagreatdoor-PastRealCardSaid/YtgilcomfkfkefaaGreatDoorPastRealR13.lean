/-
  PastReal: runs of the evaluator, part 13.
-/
import Derived.Test.YtgilcomfkfkefaaGreatDoorPastRealRn
set_option maxRecDepth 100000
namespace Go.Ev
theorem q_0_13 : allB (rn 0 13 15 2) 2 = true := by decide +kernel
theorem q_2_3 : allB (rn 2 3 35 4) 4 = true := by decide +kernel
theorem q_2_33 : allB (rn 2 33 35 4) 4 = true := by decide +kernel
theorem q_3_28 : allB (rn 3 28 45 5) 5 = true := by decide +kernel
theorem q_4_13 : allB (rn 4 13 55 6) 6 = true := by decide +kernel
theorem q_4_43 : allB (rn 4 43 55 6) 6 = true := by decide +kernel
theorem q_5_18 : allB (rn 5 18 65 7) 7 = true := by decide +kernel
theorem q_5_48 : allB (rn 5 48 65 7) 7 = true := by decide +kernel
end Go.Ev
