/-
  AuditLies: runs of the evaluator, part 3.
-/
import Derived.Test.YtimligmdnokamaaGreatDoorKvT
set_option maxRecDepth 100000
namespace Go.Ev
theorem auditLies_3 : isTr (runTop XA (.tup 274 4294967322) 5000 3 Proofs.Tryz.f3 647038720011615355110007404660095459141350087181987221879836196732928) = true := by decide +kernel
theorem auditLies_16 : isTr (runTop XA (.tup 274 4294967322) 5000 3 Proofs.Tryz.f3 647038720011615355110007404664519129911322287207011091776449183481856) = true := by decide +kernel
end Go.Ev
