/-
  AuditLies: runs of the evaluator, part 4.
-/
import Derived.Test.YtimligmdnokamaaGreatDoorKvT
set_option maxRecDepth 100000
namespace Go.Ev
theorem auditLies_4 : isTr (runTop XA (.tup 274 4294967322) 5000 3 Proofs.Tryz.f3 647038720011615355110007404660435741508271025645450596487267964944384) = true := by decide +kernel
theorem auditLies_17 : isTr (runTop XA (.tup 274 4294967322) 5000 3 Proofs.Tryz.f3 647038720011615355110007404664859412278243225670474466383880951693312) = true := by decide +kernel
end Go.Ev
