/-
  ScriptWalk: runs.
-/
import Derived.Test.YtkcffdanhklphaaGreatDoorTrWalkS
set_option linter.unusedVariables false
set_option linter.unusedSimpArgs false
set_option maxRecDepth 100000
namespace Go.Proofs.YtkcffdanhklphaaGreatDoor

noncomputable section
theorem run_e2 : Ev.isTr (goT 1109194275199700726309615304716 L_n2 1129 (wE 2 20 0 tx5)) = true := by decide +kernel
theorem run_g9 : Ev.isTr (goT 1109194275199700726309615304716 L_e9_10 7903 wG) = true := by decide +kernel
theorem run_g13 : Ev.isTr (goT 1109194275199700726309615304716 L_e13_14 11797 wG) = true := by decide +kernel
theorem run_g16 : Ev.isTr (goT 1109194275199700726309615304716 L_e16_17 16243 wG) = true := by decide +kernel
theorem run_b19 : Ev.isTr (goT 1109194275199700726309615304716 L_e19_19 18596 (wC 19)) = true := by decide +kernel
end
end Go.Proofs.YtkcffdanhklphaaGreatDoor
