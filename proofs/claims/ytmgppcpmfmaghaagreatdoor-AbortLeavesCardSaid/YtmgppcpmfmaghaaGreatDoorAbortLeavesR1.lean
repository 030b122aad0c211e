/-
  AbortLeaves: runs of the evaluator, part 1.
-/
import Derived.Test.YtmgppcpmfmaghaaGreatDoorEvT
set_option maxRecDepth 100000
namespace Go.Ev
theorem abortLeaves_1 : isTr (runTop XA (.str 0 0) 2000 8 Proofs.Tryz.f8 647038720011615355101238394835429476898286101258762774547037065052160) = true := by decide +kernel
theorem abortLeaves_6 : isTr (runTop XA (.str 0 0) 2000 8 Proofs.Tryz.f8 647038720011615355101238394837130888732890793576079647584195906109440) = true := by decide +kernel
theorem abortLeaves_11 : isTr (runTop XA (.str 0 0) 2000 8 Proofs.Tryz.f8 647038720011615355101238394838832300567495485893396520621354747166720) = true := by decide +kernel
theorem abortLeaves_16 : isTr (runTop XA (.str 0 0) 2000 8 Proofs.Tryz.f8 647038720011615355101238394840533712402100178210713393658513588224000) = true := by decide +kernel
end Go.Ev
