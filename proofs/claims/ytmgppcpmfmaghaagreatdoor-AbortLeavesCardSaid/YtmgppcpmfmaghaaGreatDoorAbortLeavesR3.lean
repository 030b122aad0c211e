/-
  AbortLeaves: runs of the evaluator, part 3.
-/
import Derived.Test.YtmgppcpmfmaghaaGreatDoorEvT
set_option maxRecDepth 100000
namespace Go.Ev
theorem abortLeaves_3 : isTr (runTop XA (.str 0 0) 2000 8 Proofs.Tryz.f8 647038720011615355101238394836110041632127978185689523761900601475072) = true := by decide +kernel
theorem abortLeaves_8 : isTr (runTop XA (.str 0 0) 2000 8 Proofs.Tryz.f8 647038720011615355101238394837811453466732670503006396799059442532352) = true := by decide +kernel
theorem abortLeaves_13 : isTr (runTop XA (.str 0 0) 2000 8 Proofs.Tryz.f8 647038720011615355101238394839512865301337362820323269836218283589632) = true := by decide +kernel
theorem abortLeaves_18 : isTr (runTop XA (.str 0 0) 2000 8 Proofs.Tryz.f8 647038720011615355101238394841214277135942055137640142873377124646912) = true := by decide +kernel
end Go.Ev
