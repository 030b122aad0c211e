/-
  What the cards say of the program's text.
-/
import Derived.Test.YtgilcomfkfkefaaGreatDoorLaid
import Derived.SevenTiedAt
namespace Go.Proofs.YtgilcomfkfkefaaGreatDoor
theorem shMain : Tryz.pinned.checked.prog.mainIs = some (true, "dd02136aa56d72b4ed9e372863dfb1f1c7391d8394638ee7427da759d85aae58".toList) := by kernel_rfl
theorem shLooks : true = Tryz.pinned.checked.prog.looks [] := by kernel_rfl
theorem shW5 : Tryz.pinned.checked.prog.wantsStandIn 5 = false := by kernel_rfl
theorem shW4 : Tryz.pinned.checked.prog.wantsStandIn 4 = false := by kernel_rfl
end Go.Proofs.YtgilcomfkfkefaaGreatDoor
