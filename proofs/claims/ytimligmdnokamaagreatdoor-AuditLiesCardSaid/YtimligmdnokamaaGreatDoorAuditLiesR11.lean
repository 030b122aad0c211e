/-
  AuditLies: runs of the evaluator, part 11.
-/
import Derived.Test.YtimligmdnokamaaGreatDoorKvT
set_option maxRecDepth 100000
namespace Go.Ev
theorem auditLies_11 : isTr (runTop XA (.tup 274 4294967322) 5000 3 Proofs.Tryz.f3 647038720011615355110007404662817718076717594889694218739290342424576) = true := by decide +kernel
theorem auditLies_24 : isTr (runTop XA (.tup 274 4294967322) 5000 3 Proofs.Tryz.f3 647038720011615355110007404667241388846689794914718088635903329173504) = true := by decide +kernel
end Go.Ev
