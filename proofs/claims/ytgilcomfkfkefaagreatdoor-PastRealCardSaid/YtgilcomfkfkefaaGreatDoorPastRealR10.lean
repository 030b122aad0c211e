/-
  PastReal: runs of the evaluator, part 10.
-/
import Derived.Test.YtgilcomfkfkefaaGreatDoorPastRealRn
set_option maxRecDepth 100000
namespace Go.Ev
theorem q_0_10 : allB (rn 0 10 15 2) 2 = true := by decide +kernel
theorem q_2_0 : allB (rn 2 0 35 4) 4 = true := by decide +kernel
theorem q_2_30 : allB (rn 2 30 35 4) 4 = true := by decide +kernel
theorem q_3_25 : allB (rn 3 25 45 5) 5 = true := by decide +kernel
theorem q_4_10 : allB (rn 4 10 55 6) 6 = true := by decide +kernel
theorem q_4_40 : allB (rn 4 40 55 6) 6 = true := by decide +kernel
theorem q_5_15 : allB (rn 5 15 65 7) 7 = true := by decide +kernel
theorem q_5_45 : allB (rn 5 45 65 7) 7 = true := by decide +kernel
end Go.Ev
