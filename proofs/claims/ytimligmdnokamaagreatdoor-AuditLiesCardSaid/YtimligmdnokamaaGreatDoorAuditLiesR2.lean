/-
  AuditLies: runs of the evaluator, part 2.
-/
import Derived.Test.YtimligmdnokamaaGreatDoorKvT
set_option maxRecDepth 100000
namespace Go.Ev
theorem auditLies_2 : isTr (runTop XA (.tup 274 4294967322) 5000 3 Proofs.Tryz.f3 647038720011615355110007404659755176774429148718523847272404428521472) = true := by decide +kernel
theorem auditLies_15 : isTr (runTop XA (.tup 274 4294967322) 5000 3 Proofs.Tryz.f3 647038720011615355110007404664178847544401348743547717169017415270400) = true := by decide +kernel
end Go.Ev
