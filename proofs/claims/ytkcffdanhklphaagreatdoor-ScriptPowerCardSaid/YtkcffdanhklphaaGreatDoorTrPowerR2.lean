/-
  ScriptPower: runs.
-/
import Derived.Test.YtkcffdanhklphaaGreatDoorTrPowerS
set_option linter.unusedVariables false
set_option linter.unusedSimpArgs false
set_option maxRecDepth 100000
namespace Go.Proofs.YtkcffdanhklphaaGreatDoor
open Go.RowKit
noncomputable section
theorem run_n00 : Ev.isTr (goT 1109194275199700726309615304716 L_n0 2080 (pW pTa 7 [48])) = true := by decide +kernel
theorem run_n01 : Ev.isTr (goT 1109194275199700726309615304716 L_n0 2080 (pW pTa 7 [49])) = true := by decide +kernel
end
end Go.Proofs.YtkcffdanhklphaaGreatDoor
