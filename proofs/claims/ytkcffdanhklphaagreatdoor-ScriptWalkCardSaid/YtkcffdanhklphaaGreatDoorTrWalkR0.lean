/-
  ScriptWalk: runs.
-/
import Derived.Test.YtkcffdanhklphaaGreatDoorTrWalkS
set_option linter.unusedVariables false
set_option linter.unusedSimpArgs false
set_option maxRecDepth 100000
namespace Go.Proofs.YtkcffdanhklphaaGreatDoor

noncomputable section
theorem run_0 : Ev.isTr (runT false wT) = true := by decide +kernel
theorem run_p7 : Ev.isTr (goT 1109194275199700726309615304716 L_n7 3352 (wP 7 7)) = true := by decide +kernel
theorem run_p14 : Ev.isTr (goT 1109194275199700726309615304716 L_n14 7339 (wP 5 14)) = true := by decide +kernel
end
end Go.Proofs.YtkcffdanhklphaaGreatDoor
