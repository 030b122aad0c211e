/-
  AuditLies: runs of the evaluator, part 7.
-/
import Derived.Test.YtimligmdnokamaaGreatDoorKvT
set_option maxRecDepth 100000
namespace Go.Ev
theorem auditLies_7 : isTr (runTop XA (.tup 274 4294967322) 5000 3 Proofs.Tryz.f3 647038720011615355110007404661456588609033841035840720309563269578752) = true := by decide +kernel
theorem auditLies_20 : isTr (runTop XA (.tup 274 4294967322) 5000 3 Proofs.Tryz.f3 647038720011615355110007404665880259379006041060864590206176256327680) = true := by decide +kernel
end Go.Ev
