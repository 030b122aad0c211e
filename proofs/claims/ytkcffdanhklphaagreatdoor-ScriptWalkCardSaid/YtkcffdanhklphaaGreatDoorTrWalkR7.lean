/-
  ScriptWalk: runs.
-/
import Derived.Test.YtkcffdanhklphaaGreatDoorTrWalkS
set_option linter.unusedVariables false
set_option linter.unusedSimpArgs false
set_option maxRecDepth 100000
namespace Go.Proofs.YtkcffdanhklphaaGreatDoor

noncomputable section
theorem run_e6 : Ev.isTr (goT 1109194275199700726309615304716 L_n6 2837 (wE 6 20 0 tx5)) = true := by decide +kernel
theorem run_g11 : Ev.isTr (goT 1109194275199700726309615304716 L_e11_12 9909 wG) = true := by decide +kernel
theorem run_b15 : Ev.isTr (goT 1109194275199700726309615304716 L_e15_15 13752 (wC 15)) = true := by decide +kernel
theorem run_e18 : Ev.isTr (goT 1109194275199700726309615304716 L_n18 10094 (wE 18 20 0 tx5)) = true := by decide +kernel
end
end Go.Proofs.YtkcffdanhklphaaGreatDoor
