/-
  AbortLeaves: runs of the evaluator, part 4.
-/
import Derived.Test.YtmgppcpmfmaghaaGreatDoorEvT
set_option maxRecDepth 100000
namespace Go.Ev
theorem abortLeaves_4 : isTr (runTop XA (.str 0 0) 2000 8 Proofs.Tryz.f8 647038720011615355101238394836450323999048916649152898369332369686528) = true := by decide +kernel
theorem abortLeaves_9 : isTr (runTop XA (.str 0 0) 2000 8 Proofs.Tryz.f8 647038720011615355101238394838151735833653608966469771406491210743808) = true := by decide +kernel
theorem abortLeaves_14 : isTr (runTop XA (.str 0 0) 2000 8 Proofs.Tryz.f8 647038720011615355101238394839853147668258301283786644443650051801088) = true := by decide +kernel
theorem abortLeaves_19 : isTr (runTop XA (.str 0 0) 2000 8 Proofs.Tryz.f8 647038720011615355101238394841554559502862993601103517480808892858368) = true := by decide +kernel
end Go.Ev
