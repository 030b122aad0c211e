/-
  ScriptWalk: runs.
-/
import Derived.Test.YtkcffdanhklphaaGreatDoorTrWalkS
set_option linter.unusedVariables false
set_option linter.unusedSimpArgs false
set_option maxRecDepth 100000
namespace Go.Proofs.YtkcffdanhklphaaGreatDoor

noncomputable section
theorem run_e1 : Ev.isTr (goT 1109194275199700726309615304716 L_n1 796 (wE 1 20 0 tx5)) = true := by decide +kernel
theorem run_e9 : Ev.isTr (goT 1109194275199700726309615304716 L_n9 4458 (wE 9 20 0 tx5)) = true := by decide +kernel
theorem run_e13 : Ev.isTr (goT 1109194275199700726309615304716 L_n13 6645 (wE 13 20 0 tx5)) = true := by decide +kernel
theorem run_b16 : Ev.isTr (goT 1109194275199700726309615304716 L_e16_16 14893 (wC 16)) = true := by decide +kernel
theorem run_e19 : Ev.isTr (goT 1109194275199700726309615304716 L_n19 10902 (wE 19 20 0 tx5)) = true := by decide +kernel
end
end Go.Proofs.YtkcffdanhklphaaGreatDoor
