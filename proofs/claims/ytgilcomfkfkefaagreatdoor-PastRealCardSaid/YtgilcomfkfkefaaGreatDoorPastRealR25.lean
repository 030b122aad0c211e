/-
  PastReal: runs of the evaluator, part 25.
-/
import Derived.Test.YtgilcomfkfkefaaGreatDoorPastRealRn
set_option maxRecDepth 100000
namespace Go.Ev
theorem q_1_10 : allB (rn 1 10 25 3) 3 = true := by decide +kernel
theorem q_2_15 : allB (rn 2 15 35 4) 4 = true := by decide +kernel
theorem q_3_10 : allB (rn 3 10 45 5) 5 = true := by decide +kernel
theorem q_3_40 : allB (rn 3 40 45 5) 5 = true := by decide +kernel
theorem q_4_25 : allB (rn 4 25 55 6) 6 = true := by decide +kernel
theorem q_5_0 : allB (rn 5 0 65 7) 7 = true := by decide +kernel
theorem q_5_30 : allB (rn 5 30 65 7) 7 = true := by decide +kernel
theorem q_5_60 : allB (rn 5 60 65 7) 7 = true := by decide +kernel
end Go.Ev
