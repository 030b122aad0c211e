/-
  ScriptLong: runs.
-/
import Derived.Test.YtkcffdanhklphaaGreatDoorTrLongS
set_option linter.unusedVariables false
set_option linter.unusedSimpArgs false
set_option maxRecDepth 100000
namespace Go.Proofs.YtkcffdanhklphaaGreatDoor
noncomputable section
theorem run_8 : Ev.isTr (goT 1109194275199700726309615304716 L_n8 17118 (rP8 8)) = true := by decide +kernel
theorem run_15e : Ev.isTr (goT 1109194275199700726309615304716 L_n15 36514 rE) = true := by decide +kernel
theorem run_21e : Ev.isTr (goT 1109194275199700726309615304716 L_n21 54776 rE) = true := by decide +kernel
end
end Go.Proofs.YtkcffdanhklphaaGreatDoor
