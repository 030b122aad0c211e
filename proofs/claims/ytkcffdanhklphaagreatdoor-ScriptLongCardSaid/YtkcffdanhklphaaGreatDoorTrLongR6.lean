/-
  ScriptLong: runs.
-/
import Derived.Test.YtkcffdanhklphaaGreatDoorTrLongS
set_option linter.unusedVariables false
set_option linter.unusedSimpArgs false
set_option maxRecDepth 100000
namespace Go.Proofs.YtkcffdanhklphaaGreatDoor
noncomputable section
theorem run_6 : Ev.isTr (goT 1109194275199700726309615304716 L_n6 12158 (rP6 6)) = true := by decide +kernel
theorem run_14e : Ev.isTr (goT 1109194275199700726309615304716 L_n14 33546 rE) = true := by decide +kernel
theorem run_20e : Ev.isTr (goT 1109194275199700726309615304716 L_n20 51705 rE) = true := by decide +kernel
theorem run_26e : Ev.isTr (goT 1109194275199700726309615304716 L_n26 71317 rE) = true := by decide +kernel
end
end Go.Proofs.YtkcffdanhklphaaGreatDoor
