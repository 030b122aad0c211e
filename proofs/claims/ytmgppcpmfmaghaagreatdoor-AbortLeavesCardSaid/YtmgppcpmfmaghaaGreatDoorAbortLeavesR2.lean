/-
  AbortLeaves: runs of the evaluator, part 2.
-/
import Derived.Test.YtmgppcpmfmaghaaGreatDoorEvT
set_option maxRecDepth 100000
namespace Go.Ev
theorem abortLeaves_2 : isTr (runTop XA (.str 0 0) 2000 8 Proofs.Tryz.f8 647038720011615355101238394835769759265207039722226149154468833263616) = true := by decide +kernel
theorem abortLeaves_7 : isTr (runTop XA (.str 0 0) 2000 8 Proofs.Tryz.f8 647038720011615355101238394837471171099811732039543022191627674320896) = true := by decide +kernel
theorem abortLeaves_12 : isTr (runTop XA (.str 0 0) 2000 8 Proofs.Tryz.f8 647038720011615355101238394839172582934416424356859895228786515378176) = true := by decide +kernel
theorem abortLeaves_17 : isTr (runTop XA (.str 0 0) 2000 8 Proofs.Tryz.f8 647038720011615355101238394840873994769021116674176768265945356435456) = true := by decide +kernel
end Go.Ev
