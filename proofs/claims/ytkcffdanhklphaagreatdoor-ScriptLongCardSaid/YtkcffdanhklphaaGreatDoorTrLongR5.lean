/-
  ScriptLong: runs.
-/
import Derived.Test.YtkcffdanhklphaaGreatDoorTrLongS
set_option linter.unusedVariables false
set_option linter.unusedSimpArgs false
set_option maxRecDepth 100000
namespace Go.Proofs.YtkcffdanhklphaaGreatDoor
noncomputable section
theorem run_5 : Ev.isTr (goT 1109194275199700726309615304716 L_n5 9880 (rP5 5)) = true := by decide +kernel
theorem run_13r : Ev.isTr (goT 1109194275199700726309615304716 L_n13 30622 (.says tx5 tx0 (.says ((tx1 ++ numB (200 + 13 % 5 * 50)) ++ tx2) tx0 (.says tx6 tx0 (rB13))))) = true := by decide +kernel
theorem run_19r : Ev.isTr (goT 1109194275199700726309615304716 L_n19 48513 (.says tx5 tx0 (.says ((tx1 ++ numB (200 + 19 % 5 * 50)) ++ tx2) tx0 (.says tx6 tx0 (rB19))))) = true := by decide +kernel
theorem run_25r : Ev.isTr (goT 1109194275199700726309615304716 L_n25 68022 (.says tx5 tx0 (.says ((tx1 ++ numB (200 + 25 % 5 * 50)) ++ tx2) tx0 (.says tx6 tx0 (rB25))))) = true := by decide +kernel
end
end Go.Proofs.YtkcffdanhklphaaGreatDoor
