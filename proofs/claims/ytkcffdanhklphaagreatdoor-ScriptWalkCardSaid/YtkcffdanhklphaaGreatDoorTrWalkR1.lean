/-
  ScriptWalk: runs.
-/
import Derived.Test.YtkcffdanhklphaaGreatDoorTrWalkS
set_option linter.unusedVariables false
set_option linter.unusedSimpArgs false
set_option maxRecDepth 100000
namespace Go.Proofs.YtkcffdanhklphaaGreatDoor

noncomputable section
theorem run_e0 : Ev.isTr (goT 1109194275199700726309615304716 L_n0 556 (wE 0 20 0 tx5)) = true := by decide +kernel
theorem run_e8 : Ev.isTr (goT 1109194275199700726309615304716 L_n8 3868 (wE 8 20 0 tx5)) = true := by decide +kernel
theorem run_g12 : Ev.isTr (goT 1109194275199700726309615304716 L_e12_13 10850 wG) = true := by decide +kernel
theorem run_e16 : Ev.isTr (goT 1109194275199700726309615304716 L_n16 8745 (wE 16 20 0 tx5)) = true := by decide +kernel
theorem run_g18 : Ev.isTr (goT 1109194275199700726309615304716 L_e18_19 18631 wG) = true := by decide +kernel
end
end Go.Proofs.YtkcffdanhklphaaGreatDoor
