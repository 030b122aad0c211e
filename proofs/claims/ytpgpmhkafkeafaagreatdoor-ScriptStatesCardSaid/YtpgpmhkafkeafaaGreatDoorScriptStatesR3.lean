/-
  ScriptStates: runs of the evaluator, part 3.
-/
import Derived.Test.YtpgpmhkafkeafaaGreatDoorMvT
set_option maxRecDepth 100000
namespace Go.Ev
theorem scriptStates_3 : isTr (runTop XA (.tup 71 38654967840) 5000 3 Proofs.Tryz.f3 647038720011615355083700375188139206613683760193094127526029410959360) = true := by decide +kernel
theorem scriptStates_7 : isTr (runTop XA (.tup 71 38654967840) 5000 3 Proofs.Tryz.f3 647038720011615355083700375189500336081367514046947625955756483805184) = true := by decide +kernel
end Go.Ev
