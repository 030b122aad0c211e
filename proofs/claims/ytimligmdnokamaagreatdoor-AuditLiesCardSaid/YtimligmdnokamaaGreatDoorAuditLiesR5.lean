/-
  AuditLies: runs of the evaluator, part 5.
-/
import Derived.Test.YtimligmdnokamaaGreatDoorKvT
set_option maxRecDepth 100000
namespace Go.Ev
theorem auditLies_5 : isTr (runTop XA (.tup 274 4294967322) 5000 3 Proofs.Tryz.f3 647038720011615355110007404660776023875191964108913971094699733155840) = true := by decide +kernel
theorem auditLies_18 : isTr (runTop XA (.tup 274 4294967322) 5000 3 Proofs.Tryz.f3 647038720011615355110007404665199694645164164133937840991312719904768) = true := by decide +kernel
end Go.Ev
