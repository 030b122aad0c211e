/-
  ScriptStates: runs of the evaluator, part 1.
-/
import Derived.Test.YtpgpmhkafkeafaaGreatDoorMvT
set_option maxRecDepth 100000
namespace Go.Ev
theorem scriptStates_1 : isTr (runTop XA (.tup 71 38654967840) 5000 3 Proofs.Tryz.f3 647038720011615355083700375187458641879841883266167378311165874536448) = true := by decide +kernel
theorem scriptStates_5 : isTr (runTop XA (.tup 71 38654967840) 5000 3 Proofs.Tryz.f3 647038720011615355083700375188819771347525637120020876740892947382272) = true := by decide +kernel
end Go.Ev
