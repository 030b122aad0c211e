/-
  ScriptLong: runs.
-/
import Derived.Test.YtkcffdanhklphaaGreatDoorTrLongS
set_option linter.unusedVariables false
set_option linter.unusedSimpArgs false
set_option maxRecDepth 100000
namespace Go.Proofs.YtkcffdanhklphaaGreatDoor
noncomputable section
theorem run_9 : Ev.isTr (goT 1109194275199700726309615304716 L_n9 19746 (rP9 9)) = true := by decide +kernel
theorem run_15r : Ev.isTr (goT 1109194275199700726309615304716 L_n15 36514 (.says tx5 tx0 (.says ((tx1 ++ numB (200 + 15 % 5 * 50)) ++ tx2) tx0 (.says tx6 tx0 (rB15))))) = true := by decide +kernel
theorem run_21r : Ev.isTr (goT 1109194275199700726309615304716 L_n21 54776 (.says tx5 tx0 (.says ((tx1 ++ numB (200 + 21 % 5 * 50)) ++ tx2) tx0 (.says tx6 tx0 (rB21))))) = true := by decide +kernel
theorem run_27r : Ev.isTr (goT 1109194275199700726309615304716 L_n27 74743 (.says tx5 tx0 (.says ((tx1 ++ numB (200 + 27 % 5 * 50)) ++ tx2) tx0 (.says tx6 tx0 (rB27))))) = true := by decide +kernel
end
end Go.Proofs.YtkcffdanhklphaaGreatDoor
