/-
  ScriptSlots: runs.
-/
import Derived.Test.YtkcffdanhklphaaGreatDoorTrSlotsS
set_option linter.unusedVariables false
set_option linter.unusedSimpArgs false
set_option maxRecDepth 100000
namespace Go.Proofs.YtkcffdanhklphaaGreatDoor
open Go.RowKit
noncomputable section
theorem run_5 : Ev.isTr (goT 1109194275199700726309615304716 L_n 7512 (sK 5)) = true := by decide +kernel
theorem run_6 : Ev.isTr (goT 1109194275199700726309615304716 L_n 7512 (sK 6)) = true := by decide +kernel
theorem run_7 : Ev.isTr (goT 1109194275199700726309615304716 L_n 7512 (sK 7)) = true := by decide +kernel
theorem run_8 : Ev.isTr (goT 1109194275199700726309615304716 L_n 7512 (sK 8)) = true := by decide +kernel
end
end Go.Proofs.YtkcffdanhklphaaGreatDoor
