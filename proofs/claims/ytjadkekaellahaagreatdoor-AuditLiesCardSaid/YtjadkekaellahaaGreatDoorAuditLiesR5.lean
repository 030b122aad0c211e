/-
  AuditLies: runs of the evaluator, part 5.
-/
import Derived.Test.YtjadkekaellahaaGreatDoorJvT
set_option maxRecDepth 100000
namespace Go.Ev
theorem auditLies_5 : isTr (runTop XA0 (.tup 178 38654705696) 5000 6 Proofs.Tryz.f6 647038720011615355110007404660776023875191964108913971094699733155840) = true := by decide +kernel
theorem auditLies_18 : isTr (runTop XA0 (.tup 178 38654705696) 5000 6 Proofs.Tryz.f6 647038720011615355110007404665199694645164164133937840991312719904768) = true := by decide +kernel
end Go.Ev
