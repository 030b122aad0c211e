/-
  AuditLies: runs of the evaluator, part 12.
-/
import Derived.Test.YtimligmdnokamaaGreatDoorKvT
set_option maxRecDepth 100000
namespace Go.Ev
theorem auditLies_12 : isTr (runTop XA (.tup 274 4294967322) 5000 3 Proofs.Tryz.f3 647038720011615355110007404663158000443638533353157593346722110636032) = true := by decide +kernel
theorem auditLies_25 : isTr (runTop XA (.tup 274 4294967322) 5000 3 Proofs.Tryz.f3 647038720011615355110007404667581671213610733378181463243335097384960) = true := by decide +kernel
end Go.Ev
