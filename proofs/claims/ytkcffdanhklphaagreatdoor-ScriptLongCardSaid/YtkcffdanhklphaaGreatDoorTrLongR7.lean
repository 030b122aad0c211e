/-
  ScriptLong: runs.
-/
import Derived.Test.YtkcffdanhklphaaGreatDoorTrLongS
set_option linter.unusedVariables false
set_option linter.unusedSimpArgs false
set_option maxRecDepth 100000
namespace Go.Proofs.YtkcffdanhklphaaGreatDoor
noncomputable section
theorem run_7 : Ev.isTr (goT 1109194275199700726309615304716 L_n7 14612 (rP7 7)) = true := by decide +kernel
theorem run_14r : Ev.isTr (goT 1109194275199700726309615304716 L_n14 33546 (.says tx5 tx0 (.says ((tx1 ++ numB (200 + 14 % 5 * 50)) ++ tx2) tx0 (.says tx6 tx0 (rB14))))) = true := by decide +kernel
theorem run_20r : Ev.isTr (goT 1109194275199700726309615304716 L_n20 51705 (.says tx5 tx0 (.says ((tx1 ++ numB (200 + 20 % 5 * 50)) ++ tx2) tx0 (.says tx6 tx0 (rB20))))) = true := by decide +kernel
theorem run_26r : Ev.isTr (goT 1109194275199700726309615304716 L_n26 71317 (.says tx5 tx0 (.says ((tx1 ++ numB (200 + 26 % 5 * 50)) ++ tx2) tx0 (.says tx6 tx0 (rB26))))) = true := by decide +kernel
end
end Go.Proofs.YtkcffdanhklphaaGreatDoor
