/-
  ScriptWalk: runs.
-/
import Derived.Test.YtkcffdanhklphaaGreatDoorTrWalkS
set_option linter.unusedVariables false
set_option linter.unusedSimpArgs false
set_option maxRecDepth 100000
namespace Go.Proofs.YtkcffdanhklphaaGreatDoor

noncomputable section
theorem run_e7 : Ev.isTr (goT 1109194275199700726309615304716 L_n7 3352 (wE 7 20 0 tx5)) = true := by decide +kernel
theorem run_e12 : Ev.isTr (goT 1109194275199700726309615304716 L_n12 6120 (wE 12 20 0 tx5)) = true := by decide +kernel
theorem run_g15 : Ev.isTr (goT 1109194275199700726309615304716 L_e15_16 15068 wG) = true := by decide +kernel
theorem run_b18 : Ev.isTr (goT 1109194275199700726309615304716 L_e18_18 17213 (wC 18)) = true := by decide +kernel
end
end Go.Proofs.YtkcffdanhklphaaGreatDoor
