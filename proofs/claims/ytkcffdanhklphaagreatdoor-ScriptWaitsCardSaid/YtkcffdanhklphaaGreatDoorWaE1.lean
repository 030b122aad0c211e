/-
  ScriptWaits: a run.
-/
import Derived.Test.YtkcffdanhklphaaGreatDoorWaT
set_option linter.unusedVariables false
set_option linter.unusedSimpArgs false
set_option maxRecDepth 100000
namespace Go.Proofs.YtkcffdanhklphaaGreatDoor
open Go.RowKit
theorem run_e1 : Ev.isTr (goT cS (Lk 1000) 22000 wE1) = true := by decide +kernel
end Go.Proofs.YtkcffdanhklphaaGreatDoor
