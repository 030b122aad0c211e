/-
  ScriptStates: runs of the evaluator, part 2.
-/
import Derived.Test.YtpgpmhkafkeafaaGreatDoorMvT
set_option maxRecDepth 100000
namespace Go.Ev
theorem scriptStates_2 : isTr (runTop XA (.tup 71 38654967840) 5000 3 Proofs.Tryz.f3 647038720011615355083700375187798924246762821729630752918597642747904) = true := by decide +kernel
theorem scriptStates_6 : isTr (runTop XA (.tup 71 38654967840) 5000 3 Proofs.Tryz.f3 647038720011615355083700375189160053714446575583484251348324715593728) = true := by decide +kernel
end Go.Ev
