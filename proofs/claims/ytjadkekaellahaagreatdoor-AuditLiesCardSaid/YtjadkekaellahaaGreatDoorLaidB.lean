/-
  What the cards say of the program's text.
-/
import Derived.Test.YtjadkekaellahaaGreatDoorLaid
import Derived.SevenTiedAt
namespace Go.Proofs.YtjadkekaellahaaGreatDoor
theorem shMain : Tryz.pinned.checked.prog.mainIs = some (true, "89e3ace46a38aa5b27c2a9bf5e303de201c3e51aacf3cc61275a480f429fc711".toList) := by kernel_rfl
theorem shLooks : true = Tryz.pinned.checked.prog.looks [] := by kernel_rfl
theorem shW5 : Tryz.pinned.checked.prog.wantsStandIn 5 = false := by kernel_rfl
theorem shW4 : Tryz.pinned.checked.prog.wantsStandIn 4 = false := by kernel_rfl
end Go.Proofs.YtjadkekaellahaaGreatDoor
