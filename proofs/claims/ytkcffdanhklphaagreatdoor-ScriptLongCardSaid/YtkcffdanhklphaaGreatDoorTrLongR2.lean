/-
  ScriptLong: runs.
-/
import Derived.Test.YtkcffdanhklphaaGreatDoorTrLongS
set_option linter.unusedVariables false
set_option linter.unusedSimpArgs false
set_option maxRecDepth 100000
namespace Go.Proofs.YtkcffdanhklphaaGreatDoor
noncomputable section
theorem run_2 : Ev.isTr (goT 1109194275199700726309615304716 L_n2 3105 (rP2 2)) = true := by decide +kernel
theorem run_12e : Ev.isTr (goT 1109194275199700726309615304716 L_n12 27818 rE) = true := by decide +kernel
theorem run_18e : Ev.isTr (goT 1109194275199700726309615304716 L_n18 45363 rE) = true := by decide +kernel
theorem run_24e : Ev.isTr (goT 1109194275199700726309615304716 L_n24 64604 rE) = true := by decide +kernel
end
end Go.Proofs.YtkcffdanhklphaaGreatDoor
