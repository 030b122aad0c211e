/-
  ScriptPower: runs.
-/
import Derived.Test.YtkcffdanhklphaaGreatDoorTrPowerS
set_option linter.unusedVariables false
set_option linter.unusedSimpArgs false
set_option maxRecDepth 100000
namespace Go.Proofs.YtkcffdanhklphaaGreatDoor
open Go.RowKit
noncomputable section
theorem run_n10 : Ev.isTr (goT 1109194275199700726309615304716 L_n1 2434 (pW pTb 7 [48])) = true := by decide +kernel
theorem run_n11 : Ev.isTr (goT 1109194275199700726309615304716 L_n1 2434 (pW pTc 7 [49])) = true := by decide +kernel
end
end Go.Proofs.YtkcffdanhklphaaGreatDoor
