/-
  ScriptDeath: a run.
-/
import Derived.Test.YtkcffdanhklphaaGreatDoorTrDeathS
set_option linter.unusedVariables false
set_option linter.unusedSimpArgs false
set_option maxRecDepth 100000
namespace Go.Proofs.YtkcffdanhklphaaGreatDoor
open Go.RowKit
noncomputable section
theorem run_1 : Ev.isTr (goT 1109194275199700726309615304716 L_n3 1352 (dS 3)) = true := by decide +kernel
end
end Go.Proofs.YtkcffdanhklphaaGreatDoor
