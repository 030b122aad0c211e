/-
  PastReal: runs of the evaluator, part 22.
-/
import Derived.Test.YtgilcomfkfkefaaGreatDoorPastRealRn
set_option maxRecDepth 100000
namespace Go.Ev
theorem q_1_7 : allB (rn 1 7 25 3) 3 = true := by decide +kernel
theorem q_2_12 : allB (rn 2 12 35 4) 4 = true := by decide +kernel
theorem q_3_7 : allB (rn 3 7 45 5) 5 = true := by decide +kernel
theorem q_3_37 : allB (rn 3 37 45 5) 5 = true := by decide +kernel
theorem q_4_22 : allB (rn 4 22 55 6) 6 = true := by decide +kernel
theorem q_4_52 : allB (rn 4 52 55 6) 6 = true := by decide +kernel
theorem q_5_27 : allB (rn 5 27 65 7) 7 = true := by decide +kernel
theorem q_5_57 : allB (rn 5 57 65 7) 7 = true := by decide +kernel
end Go.Ev
