/-
  ScriptWalk: runs.
-/
import Derived.Test.YtkcffdanhklphaaGreatDoorTrWalkS
set_option linter.unusedVariables false
set_option linter.unusedSimpArgs false
set_option maxRecDepth 100000
namespace Go.Proofs.YtkcffdanhklphaaGreatDoor

noncomputable section
theorem run_e5 : Ev.isTr (goT 1109194275199700726309615304716 L_n5 2347 (wE 5 20 0 tx5)) = true := by decide +kernel
theorem run_e11 : Ev.isTr (goT 1109194275199700726309615304716 L_n11 5588 (wE 11 20 0 tx5)) = true := by decide +kernel
theorem run_e15 : Ev.isTr (goT 1109194275199700726309615304716 L_n15 8068 (wE 15 20 0 tx5)) = true := by decide +kernel
theorem run_g17 : Ev.isTr (goT 1109194275199700726309615304716 L_e17_18 17416 wG) = true := by decide +kernel
end
end Go.Proofs.YtkcffdanhklphaaGreatDoor
