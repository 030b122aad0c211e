/-
  ScriptLong: runs.
-/
import Derived.Test.YtkcffdanhklphaaGreatDoorTrLongS
set_option linter.unusedVariables false
set_option linter.unusedSimpArgs false
set_option maxRecDepth 100000
namespace Go.Proofs.YtkcffdanhklphaaGreatDoor
noncomputable section
theorem run_27e : Ev.isTr (goT 1109194275199700726309615304716 L_n27 74743 rE) = true := by decide +kernel
end
end Go.Proofs.YtkcffdanhklphaaGreatDoor
