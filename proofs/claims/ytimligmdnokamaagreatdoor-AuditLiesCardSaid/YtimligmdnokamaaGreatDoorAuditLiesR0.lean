/-
  AuditLies: runs of the evaluator, part 0.
-/
import Derived.Test.YtimligmdnokamaaGreatDoorKvT
set_option maxRecDepth 100000
namespace Go.Ev
theorem auditLies_0 : isTr (runTop XA (.tup 274 4294967322) 5000 3 Proofs.Tryz.f3 647038720011615355110007404659074612040587271791597098057540892098560) = true := by decide +kernel
theorem auditLies_13 : isTr (runTop XA (.tup 274 4294967322) 5000 3 Proofs.Tryz.f3 647038720011615355110007404663498282810559471816620967954153878847488) = true := by decide +kernel
end Go.Ev
