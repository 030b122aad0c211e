/-
  What the cards say of the program's text.
-/
import Derived.Test.YtkcffdanhklphaaGreatDoorLaid
import Derived.SevenTiedAt
namespace Go.Proofs.YtkcffdanhklphaaGreatDoor
theorem shMain : Tryz.pinned.checked.prog.mainIs = some (true, "f959e9c62bb4732890d43b2abb2ef1f37abf397415d51f7dfa011202b37fe4f5".toList) := by kernel_rfl
theorem shLooks : true = Tryz.pinned.checked.prog.looks [] := by kernel_rfl
theorem shW5 : Tryz.pinned.checked.prog.wantsStandIn 5 = false := by kernel_rfl
theorem shW4 : Tryz.pinned.checked.prog.wantsStandIn 4 = false := by kernel_rfl
end Go.Proofs.YtkcffdanhklphaaGreatDoor
