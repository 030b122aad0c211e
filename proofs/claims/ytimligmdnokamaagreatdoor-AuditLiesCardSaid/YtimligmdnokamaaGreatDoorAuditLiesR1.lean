/-
  AuditLies: runs of the evaluator, part 1.
-/
import Derived.Test.YtimligmdnokamaaGreatDoorKvT
set_option maxRecDepth 100000
namespace Go.Ev
theorem auditLies_1 : isTr (runTop XA (.tup 274 4294967322) 5000 3 Proofs.Tryz.f3 647038720011615355110007404659414894407508210255060472664972660310016) = true := by decide +kernel
theorem auditLies_14 : isTr (runTop XA (.tup 274 4294967322) 5000 3 Proofs.Tryz.f3 647038720011615355110007404663838565177480410280084342561585647058944) = true := by decide +kernel
end Go.Ev
