/-
  ScriptLong: runs.
-/
import Derived.Test.YtkcffdanhklphaaGreatDoorTrLongS
set_option linter.unusedVariables false
set_option linter.unusedSimpArgs false
set_option maxRecDepth 100000
namespace Go.Proofs.YtkcffdanhklphaaGreatDoor
noncomputable section
theorem run_1 : Ev.isTr (goT 1109194275199700726309615304716 L_n1 1306 (rP1 1)) = true := by decide +kernel
theorem run_11r : Ev.isTr (goT 1109194275199700726309615304716 L_n11 25068 (.says tx5 tx0 (.says ((tx1 ++ numB (200 + 11 % 5 * 50)) ++ tx2) tx0 (.says tx6 tx0 (rB11))))) = true := by decide +kernel
theorem run_17r : Ev.isTr (goT 1109194275199700726309615304716 L_n17 42335 (.says tx5 tx0 (.says ((tx1 ++ numB (200 + 17 % 5 * 50)) ++ tx2) tx0 (.says tx6 tx0 (rB17))))) = true := by decide +kernel
theorem run_23r : Ev.isTr (goT 1109194275199700726309615304716 L_n23 61230 (.says tx5 tx0 (.says ((tx1 ++ numB (200 + 23 % 5 * 50)) ++ tx2) tx0 (.says tx6 tx0 (rB23))))) = true := by decide +kernel
end
end Go.Proofs.YtkcffdanhklphaaGreatDoor
