/-
  ScriptLong: runs.
-/
import Derived.Test.YtkcffdanhklphaaGreatDoorTrLongS
set_option linter.unusedVariables false
set_option linter.unusedSimpArgs false
set_option maxRecDepth 100000
namespace Go.Proofs.YtkcffdanhklphaaGreatDoor
noncomputable section
theorem run_3 : Ev.isTr (goT 1109194275199700726309615304716 L_n3 5141 (rP3 3)) = true := by decide +kernel
theorem run_12r : Ev.isTr (goT 1109194275199700726309615304716 L_n12 27818 (.says tx5 tx0 (.says ((tx1 ++ numB (200 + 12 % 5 * 50)) ++ tx2) tx0 (.says tx6 tx0 (rB12))))) = true := by decide +kernel
theorem run_18r : Ev.isTr (goT 1109194275199700726309615304716 L_n18 45363 (.says tx5 tx0 (.says ((tx1 ++ numB (200 + 18 % 5 * 50)) ++ tx2) tx0 (.says tx6 tx0 (rB18))))) = true := by decide +kernel
theorem run_24r : Ev.isTr (goT 1109194275199700726309615304716 L_n24 64604 (.says tx5 tx0 (.says ((tx1 ++ numB (200 + 24 % 5 * 50)) ++ tx2) tx0 (.says tx6 tx0 (rB24))))) = true := by decide +kernel
end
end Go.Proofs.YtkcffdanhklphaaGreatDoor
