/-
  What the cards say of the program's text.
-/
import Derived.Test.YtmgppcpmfmaghaaGreatDoorLaid
import Derived.SevenTiedAt
namespace Go.Proofs.YtmgppcpmfmaghaaGreatDoor
theorem shMain : Tryz.pinned.checked.prog.mainIs = some (true, "1e6ce98f84b5395230a13ba54d306d10c5f587fd047defce14bfd4dcfd346dbe".toList) := by kernel_rfl
theorem shLooks : true = Tryz.pinned.checked.prog.looks [] := by kernel_rfl
theorem shW5 : Tryz.pinned.checked.prog.wantsStandIn 5 = false := by kernel_rfl
theorem shW4 : Tryz.pinned.checked.prog.wantsStandIn 4 = false := by kernel_rfl
end Go.Proofs.YtmgppcpmfmaghaaGreatDoor
