/-
  Metas read by the document: runs. Metas read by the document: runs. Metas read by the document: runs.
-/
import Derived.Test.YtgjnadligocdkaaGreatDoorMetD
set_option maxRecDepth 100000
namespace Go.Proofs.YtgjnadligocdkaaGreatDoor
open Go.RowKit
theorem rq_0 : rdA 72 Tryz.f72 (iC 0) 0 21 := by decide +kernel
end Go.Proofs.YtgjnadligocdkaaGreatDoor
set_option maxRecDepth 100000
namespace Go.Proofs.YtgjnadligocdkaaGreatDoor
open Go.RowKit
theorem rq_21 : rdA 72 Tryz.f72 (iC 0) 21 21 := by decide +kernel
end Go.Proofs.YtgjnadligocdkaaGreatDoor
set_option maxRecDepth 100000
namespace Go.Proofs.YtgjnadligocdkaaGreatDoor
open Go.RowKit
theorem rq_42 : rdA 72 Tryz.f72 (iC 0) 42 20 := by decide +kernel
end Go.Proofs.YtgjnadligocdkaaGreatDoor
