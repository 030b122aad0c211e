/-
  ScriptLong: runs.
-/
import Derived.Test.YtkcffdanhklphaaGreatDoorTrLongS
set_option linter.unusedVariables false
set_option linter.unusedSimpArgs false
set_option maxRecDepth 100000
namespace Go.Proofs.YtkcffdanhklphaaGreatDoor
noncomputable section
theorem run_4 : Ev.isTr (goT 1109194275199700726309615304716 L_n4 7457 (rP4 4)) = true := by decide +kernel
theorem run_13e : Ev.isTr (goT 1109194275199700726309615304716 L_n13 30622 rE) = true := by decide +kernel
theorem run_19e : Ev.isTr (goT 1109194275199700726309615304716 L_n19 48513 rE) = true := by decide +kernel
theorem run_25e : Ev.isTr (goT 1109194275199700726309615304716 L_n25 68022 rE) = true := by decide +kernel
end
end Go.Proofs.YtkcffdanhklphaaGreatDoor
