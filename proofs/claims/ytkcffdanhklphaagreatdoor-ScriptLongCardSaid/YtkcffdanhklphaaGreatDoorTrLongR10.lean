/-
  ScriptLong: runs.
-/
import Derived.Test.YtkcffdanhklphaaGreatDoorTrLongS
set_option linter.unusedVariables false
set_option linter.unusedSimpArgs false
set_option maxRecDepth 100000
namespace Go.Proofs.YtkcffdanhklphaaGreatDoor
noncomputable section
theorem run_10e : Ev.isTr (goT 1109194275199700726309615304716 L_n10 22447 rE) = true := by decide +kernel
theorem run_16e : Ev.isTr (goT 1109194275199700726309615304716 L_n16 39359 rE) = true := by decide +kernel
theorem run_22e : Ev.isTr (goT 1109194275199700726309615304716 L_n22 57976 rE) = true := by decide +kernel
end
end Go.Proofs.YtkcffdanhklphaaGreatDoor
