/-
  AuditLies: runs of the evaluator, part 10.
-/
import Derived.Test.YtimligmdnokamaaGreatDoorKvT
set_option maxRecDepth 100000
namespace Go.Ev
theorem auditLies_10 : isTr (runTop XA (.tup 274 4294967322) 5000 3 Proofs.Tryz.f3 647038720011615355110007404662477435709796656426230844131858574213120) = true := by decide +kernel
theorem auditLies_23 : isTr (runTop XA (.tup 274 4294967322) 5000 3 Proofs.Tryz.f3 647038720011615355110007404666901106479768856451254714028471560962048) = true := by decide +kernel
end Go.Ev
