/-
  ScriptWalk: runs.
-/
import Derived.Test.YtkcffdanhklphaaGreatDoorTrWalkS
set_option linter.unusedVariables false
set_option linter.unusedSimpArgs false
set_option maxRecDepth 100000
namespace Go.Proofs.YtkcffdanhklphaaGreatDoor

noncomputable section
theorem run_e3 : Ev.isTr (goT 1109194275199700726309615304716 L_n3 1487 (wE 3 20 0 tx5)) = true := by decide +kernel
theorem run_e10 : Ev.isTr (goT 1109194275199700726309615304716 L_n10 5053 (wE 10 20 0 tx5)) = true := by decide +kernel
theorem run_e14 : Ev.isTr (goT 1109194275199700726309615304716 L_n14 7339 (wE 14 20 0 tx5)) = true := by decide +kernel
theorem run_e17 : Ev.isTr (goT 1109194275199700726309615304716 L_n17 9407 (wE 17 20 0 tx5)) = true := by decide +kernel
theorem run_g19 : Ev.isTr (goT 1109194275199700726309615304716 L_e19_20 20184 wG) = true := by decide +kernel
end
end Go.Proofs.YtkcffdanhklphaaGreatDoor
