/-
  ScriptReaders: runs.
-/
import Derived.Test.YtkcffdanhklphaaGreatDoorTrReadersS
set_option linter.unusedVariables false
set_option linter.unusedSimpArgs false
set_option maxRecDepth 100000
namespace Go.Proofs.YtkcffdanhklphaaGreatDoor
open Go.RowKit
noncomputable section
theorem run_2 : Ev.isTr (goT 1109194275199700726309615304716 L_n2 12167 (rP2 2)) = true := by decide +kernel
theorem run_4r : Ev.isTr (goT 1109194275199700726309615304716 L_n4 25448 (.says tx10 tx0 (.says ((tx4 ++ numB 5) ++ tx5) tx0 (.says tx8 tx0 (.says tx11 tx15 (.says tx12 tx13 (rB4))))))) = true := by decide +kernel
theorem run_6r : Ev.isTr (goT 1109194275199700726309615304716 L_n6 41921 (.says tx10 tx0 (.says ((tx4 ++ numB 7) ++ tx5) tx0 (.says tx8 tx0 (.says tx11 tx15 (.says tx12 tx13 (rB6))))))) = true := by decide +kernel
end
end Go.Proofs.YtkcffdanhklphaaGreatDoor
