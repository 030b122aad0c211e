/-
  Metas told as texts: runs. Metas read: runs.
-/
import Derived.Test.YtgjnadligocdkaaGreatDoorMetD
set_option maxRecDepth 100000
namespace Go.Proofs.YtgjnadligocdkaaGreatDoor
open Go.RowKit
theorem mb_0 : mbA 0 31 := by decide +kernel
theorem mb_31 : mbA 31 31 := by decide +kernel
end Go.Proofs.YtgjnadligocdkaaGreatDoor
set_option maxRecDepth 100000
namespace Go.Proofs.YtgjnadligocdkaaGreatDoor
open Go.RowKit
theorem rp_0 : rdA 118 Tryz.f118 nE 0 31 := by decide +kernel
theorem rp_31 : rdA 118 Tryz.f118 nE 31 31 := by decide +kernel
end Go.Proofs.YtgjnadligocdkaaGreatDoor
