/-
  ScriptReaders: runs.
-/
import Derived.Test.YtkcffdanhklphaaGreatDoorTrReadersS
set_option linter.unusedVariables false
set_option linter.unusedSimpArgs false
set_option maxRecDepth 100000
namespace Go.Proofs.YtkcffdanhklphaaGreatDoor
open Go.RowKit
noncomputable section
theorem run_1 : Ev.isTr (goT 1109194275199700726309615304716 L_n1 6659 (rP1 1)) = true := by decide +kernel
theorem run_4e : Ev.isTr (goT 1109194275199700726309615304716 L_n4 25448 (rE 4)) = true := by decide +kernel
theorem run_6e : Ev.isTr (goT 1109194275199700726309615304716 L_n6 41921 (rE 6)) = true := by decide +kernel
end
end Go.Proofs.YtkcffdanhklphaaGreatDoor
