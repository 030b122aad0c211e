/-
  ScriptPower: runs.
-/
import Derived.Test.YtkcffdanhklphaaGreatDoorTrPowerS
set_option linter.unusedVariables false
set_option linter.unusedSimpArgs false
set_option maxRecDepth 100000
namespace Go.Proofs.YtkcffdanhklphaaGreatDoor
open Go.RowKit
noncomputable section
theorem run_a : Ev.isTr (goT 1109194275199700726309615304716 L_b0_0_0 2122 pE) = true := by decide +kernel
theorem run_b : Ev.isTr (goT 1109194275199700726309615304716 L_b1_0_0 2479 pE) = true := by decide +kernel
theorem run_c : Ev.isTr (goT 1109194275199700726309615304716 L_b1_1_0 2479 pE) = true := by decide +kernel
end
end Go.Proofs.YtkcffdanhklphaaGreatDoor
