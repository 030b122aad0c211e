/-
  AuditLies: runs of the evaluator, part 8.
-/
import Derived.Test.YtimligmdnokamaaGreatDoorKvT
set_option maxRecDepth 100000
namespace Go.Ev
theorem auditLies_8 : isTr (runTop XA (.tup 274 4294967322) 5000 3 Proofs.Tryz.f3 647038720011615355110007404661796870975954779499304094916995037790208) = true := by decide +kernel
theorem auditLies_21 : isTr (runTop XA (.tup 274 4294967322) 5000 3 Proofs.Tryz.f3 647038720011615355110007404666220541745926979524327964813608024539136) = true := by decide +kernel
end Go.Ev
