/-
  PastReal: runs of the evaluator, part 12.
-/
import Derived.Test.YtgilcomfkfkefaaGreatDoorPastRealRn
set_option maxRecDepth 100000
namespace Go.Ev
theorem q_0_12 : allB (rn 0 12 15 2) 2 = true := by decide +kernel
theorem q_2_2 : allB (rn 2 2 35 4) 4 = true := by decide +kernel
theorem q_2_32 : allB (rn 2 32 35 4) 4 = true := by decide +kernel
theorem q_3_27 : allB (rn 3 27 45 5) 5 = true := by decide +kernel
theorem q_4_12 : allB (rn 4 12 55 6) 6 = true := by decide +kernel
theorem q_4_42 : allB (rn 4 42 55 6) 6 = true := by decide +kernel
theorem q_5_17 : allB (rn 5 17 65 7) 7 = true := by decide +kernel
theorem q_5_47 : allB (rn 5 47 65 7) 7 = true := by decide +kernel
end Go.Ev
