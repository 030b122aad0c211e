/-
  ScriptWalk: runs.
-/
import Derived.Test.YtkcffdanhklphaaGreatDoorTrWalkS
set_option linter.unusedVariables false
set_option linter.unusedSimpArgs false
set_option maxRecDepth 100000
namespace Go.Proofs.YtkcffdanhklphaaGreatDoor

noncomputable section
theorem run_e4 : Ev.isTr (goT 1109194275199700726309615304716 L_n4 1866 (wE 4 20 0 tx5)) = true := by decide +kernel
theorem run_g10 : Ev.isTr (goT 1109194275199700726309615304716 L_e10_11 8980 wG) = true := by decide +kernel
theorem run_g14 : Ev.isTr (goT 1109194275199700726309615304716 L_e14_15 13724 wG) = true := by decide +kernel
theorem run_b17 : Ev.isTr (goT 1109194275199700726309615304716 L_e17_17 16032 (wC 17)) = true := by decide +kernel
end
end Go.Proofs.YtkcffdanhklphaaGreatDoor
