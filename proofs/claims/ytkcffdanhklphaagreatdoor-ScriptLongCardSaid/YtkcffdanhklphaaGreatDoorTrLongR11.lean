/-
  ScriptLong: runs.
-/
import Derived.Test.YtkcffdanhklphaaGreatDoorTrLongS
set_option linter.unusedVariables false
set_option linter.unusedSimpArgs false
set_option maxRecDepth 100000
namespace Go.Proofs.YtkcffdanhklphaaGreatDoor
noncomputable section
theorem run_10r : Ev.isTr (goT 1109194275199700726309615304716 L_n10 22447 (.says tx5 tx0 (.says ((tx1 ++ numB (200 + 10 % 5 * 50)) ++ tx2) tx0 (.says tx6 tx0 (rB10))))) = true := by decide +kernel
theorem run_16r : Ev.isTr (goT 1109194275199700726309615304716 L_n16 39359 (.says tx5 tx0 (.says ((tx1 ++ numB (200 + 16 % 5 * 50)) ++ tx2) tx0 (.says tx6 tx0 (rB16))))) = true := by decide +kernel
theorem run_22r : Ev.isTr (goT 1109194275199700726309615304716 L_n22 57976 (.says tx5 tx0 (.says ((tx1 ++ numB (200 + 22 % 5 * 50)) ++ tx2) tx0 (.says tx6 tx0 (rB22))))) = true := by decide +kernel
theorem run_28r : Ev.isTr (goT 1109194275199700726309615304716 L_n28 78221 (.says tx5 tx0 (.says ((tx1 ++ numB (200 + 28 % 5 * 50)) ++ tx2) tx0 (.says tx6 tx0 (rB28))))) = true := by decide +kernel
end
end Go.Proofs.YtkcffdanhklphaaGreatDoor
