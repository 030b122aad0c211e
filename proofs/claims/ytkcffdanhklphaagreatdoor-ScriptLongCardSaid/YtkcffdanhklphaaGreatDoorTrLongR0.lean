/-
  ScriptLong: a run.
-/
import Derived.Test.YtkcffdanhklphaaGreatDoorTrLongS
set_option linter.unusedVariables false
set_option linter.unusedSimpArgs false
set_option maxRecDepth 100000
namespace Go.Proofs.YtkcffdanhklphaaGreatDoor
noncomputable section
theorem run_0 : Ev.isTr (runT true rT) = true := by decide +kernel
end
end Go.Proofs.YtkcffdanhklphaaGreatDoor
