/-
  AuditLies: runs of the evaluator, part 6.
-/
import Derived.Test.YtimligmdnokamaaGreatDoorKvT
set_option maxRecDepth 100000
namespace Go.Ev
theorem auditLies_6 : isTr (runTop XA (.tup 274 4294967322) 5000 3 Proofs.Tryz.f3 647038720011615355110007404661116306242112902572377345702131501367296) = true := by decide +kernel
theorem auditLies_19 : isTr (runTop XA (.tup 274 4294967322) 5000 3 Proofs.Tryz.f3 647038720011615355110007404665539977012085102597401215598744488116224) = true := by decide +kernel
end Go.Ev
