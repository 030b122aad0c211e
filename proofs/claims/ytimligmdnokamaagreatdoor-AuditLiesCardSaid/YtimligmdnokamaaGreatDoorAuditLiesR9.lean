/-
  AuditLies: runs of the evaluator, part 9.
-/
import Derived.Test.YtimligmdnokamaaGreatDoorKvT
set_option maxRecDepth 100000
namespace Go.Ev
theorem auditLies_9 : isTr (runTop XA (.tup 274 4294967322) 5000 3 Proofs.Tryz.f3 647038720011615355110007404662137153342875717962767469524426806001664) = true := by decide +kernel
theorem auditLies_22 : isTr (runTop XA (.tup 274 4294967322) 5000 3 Proofs.Tryz.f3 647038720011615355110007404666560824112847917987791339421039792750592) = true := by decide +kernel
end Go.Ev
