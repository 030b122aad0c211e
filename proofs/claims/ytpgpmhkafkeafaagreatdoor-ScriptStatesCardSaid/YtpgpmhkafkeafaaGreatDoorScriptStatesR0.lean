/-
  ScriptStates: runs of the evaluator, part 0.
-/
import Derived.Test.YtpgpmhkafkeafaaGreatDoorMvT
set_option maxRecDepth 100000
namespace Go.Ev
theorem scriptStates_0 : isTr (runTop XA (.tup 71 38654967840) 5000 3 Proofs.Tryz.f3 647038720011615355083700375187118359512920944802704003703734106324992) = true := by decide +kernel
theorem scriptStates_4 : isTr (runTop XA (.tup 71 38654967840) 5000 3 Proofs.Tryz.f3 647038720011615355083700375188479488980604698656557502133461179170816) = true := by decide +kernel
end Go.Ev
