/-
  AbortLeaves: runs of the evaluator, part 0.
-/
import Derived.Test.YtmgppcpmfmaghaaGreatDoorEvT
set_option maxRecDepth 100000
namespace Go.Ev
theorem abortLeaves_0 : isTr (runTop XA (.str 0 0) 2000 8 Proofs.Tryz.f8 647038720011615355101238394835089194531365162795299399939605296840704) = true := by decide +kernel
theorem abortLeaves_5 : isTr (runTop XA (.str 0 0) 2000 8 Proofs.Tryz.f8 647038720011615355101238394836790606365969855112616272976764137897984) = true := by decide +kernel
theorem abortLeaves_10 : isTr (runTop XA (.str 0 0) 2000 8 Proofs.Tryz.f8 647038720011615355101238394838492018200574547429933146013922978955264) = true := by decide +kernel
theorem abortLeaves_15 : isTr (runTop XA (.str 0 0) 2000 8 Proofs.Tryz.f8 647038720011615355101238394840193430035179239747250019051081820012544) = true := by decide +kernel
end Go.Ev
