/-
  ScriptReaders: runs.
-/
import Derived.Test.YtkcffdanhklphaaGreatDoorTrReadersS
set_option linter.unusedVariables false
set_option linter.unusedSimpArgs false
set_option maxRecDepth 100000
namespace Go.Proofs.YtkcffdanhklphaaGreatDoor
open Go.RowKit
noncomputable section
theorem run_3e : Ev.isTr (goT 1109194275199700726309615304716 L_n3 18398 (rE 3)) = true := by decide +kernel
theorem run_5e : Ev.isTr (goT 1109194275199700726309615304716 L_n5 33299 (rE 5)) = true := by decide +kernel
theorem run_7 : Ev.isTr (goT 1109194275199700726309615304716 L_n7 51370 (rE 7)) = true := by decide +kernel
end
end Go.Proofs.YtkcffdanhklphaaGreatDoor
