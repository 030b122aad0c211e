/-
  ScriptLong: runs.
-/
import Derived.Test.YtkcffdanhklphaaGreatDoorTrLongS
set_option linter.unusedVariables false
set_option linter.unusedSimpArgs false
set_option maxRecDepth 100000
namespace Go.Proofs.YtkcffdanhklphaaGreatDoor
noncomputable section
theorem run_11e : Ev.isTr (goT 1109194275199700726309615304716 L_n11 25068 rE) = true := by decide +kernel
theorem run_17e : Ev.isTr (goT 1109194275199700726309615304716 L_n17 42335 rE) = true := by decide +kernel
theorem run_23e : Ev.isTr (goT 1109194275199700726309615304716 L_n23 61230 rE) = true := by decide +kernel
end
end Go.Proofs.YtkcffdanhklphaaGreatDoor
