/-
  ScriptSlots: runs.
-/
import Derived.Test.YtkcffdanhklphaaGreatDoorTrSlotsS
set_option linter.unusedVariables false
set_option linter.unusedSimpArgs false
set_option maxRecDepth 100000
namespace Go.Proofs.YtkcffdanhklphaaGreatDoor
open Go.RowKit
noncomputable section
theorem run_1 : Ev.isTr (goT 1109194275199700726309615304716 L_n 7512 (sK 1)) = true := by decide +kernel
theorem run_2 : Ev.isTr (goT 1109194275199700726309615304716 L_n 7512 (sK 2)) = true := by decide +kernel
theorem run_3 : Ev.isTr (goT 1109194275199700726309615304716 L_n 7512 (sK 3)) = true := by decide +kernel
theorem run_4 : Ev.isTr (goT 1109194275199700726309615304716 L_n 7512 (sK 4)) = true := by decide +kernel
end
end Go.Proofs.YtkcffdanhklphaaGreatDoor
