/-
  ScriptReaders: runs.
-/
import Derived.Test.YtkcffdanhklphaaGreatDoorTrReadersS
set_option linter.unusedVariables false
set_option linter.unusedSimpArgs false
set_option maxRecDepth 100000
namespace Go.Proofs.YtkcffdanhklphaaGreatDoor
open Go.RowKit
noncomputable section
theorem run_z : Ev.isTr (goT 1109194275199700726309615304716 L_n0 1910 (rP0 0)) = true := by decide +kernel
theorem run_3r : Ev.isTr (goT 1109194275199700726309615304716 L_n3 18398 (.says tx10 tx0 (.says ((tx4 ++ numB 4) ++ tx5) tx0 (.says tx8 tx0 (.says tx11 tx15 (.says tx12 tx13 (rB3))))))) = true := by decide +kernel
theorem run_5r : Ev.isTr (goT 1109194275199700726309615304716 L_n5 33299 (.says tx10 tx0 (.says ((tx4 ++ numB 6) ++ tx5) tx0 (.says tx8 tx0 (.says tx11 tx15 (.says tx12 tx13 (rB5))))))) = true := by decide +kernel
end
end Go.Proofs.YtkcffdanhklphaaGreatDoor
