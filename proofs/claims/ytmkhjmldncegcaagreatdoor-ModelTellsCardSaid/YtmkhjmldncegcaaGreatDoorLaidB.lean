/-
  What the cards say of the program's text.
-/
import Derived.Test.YtmkhjmldncegcaaGreatDoorLaid
import Derived.SevenTiedAt
namespace Go.Proofs.YtmkhjmldncegcaaGreatDoor
theorem shMain : Tryz.pinned.checked.prog.mainIs = some (true, "b151471b0342d00081e149574d29fa3373edb97d26bce1c21920318f84ec8f49".toList) := by kernel_rfl
theorem shLooks : true = Tryz.pinned.checked.prog.looks [] := by kernel_rfl
theorem shW5 : Tryz.pinned.checked.prog.wantsStandIn 5 = false := by kernel_rfl
theorem shW3 : Tryz.pinned.checked.prog.wantsStandIn 3 = false := by kernel_rfl
theorem shW45 : Tryz.pinned.checked.prog.wantsStandIn 45 = false := by kernel_rfl
theorem shW22 : Tryz.pinned.checked.prog.wantsStandIn 22 = false := by kernel_rfl
theorem shW4 : Tryz.pinned.checked.prog.wantsStandIn 4 = false := by kernel_rfl
end Go.Proofs.YtmkhjmldncegcaaGreatDoor
