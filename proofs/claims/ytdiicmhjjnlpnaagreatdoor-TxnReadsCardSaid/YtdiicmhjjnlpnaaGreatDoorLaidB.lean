/-
  What the cards say of the program's text.
-/
import Derived.Test.YtdiicmhjjnlpnaaGreatDoorLaid
import Derived.SevenTiedAt
namespace Go.Proofs.YtdiicmhjjnlpnaaGreatDoor
theorem shMain : Tryz.pinned.checked.prog.mainIs = some (true, "9ccf5d7882272edde0675bae02e756be21c1c08e5f667999effe49a6ea32f940".toList) := by kernel_rfl
theorem shLooks : true = Tryz.pinned.checked.prog.looks [] := by kernel_rfl
theorem shW5 : Tryz.pinned.checked.prog.wantsStandIn 5 = false := by kernel_rfl
theorem shW22 : Tryz.pinned.checked.prog.wantsStandIn 22 = false := by kernel_rfl
theorem shW3 : Tryz.pinned.checked.prog.wantsStandIn 3 = false := by kernel_rfl
theorem shW4 : Tryz.pinned.checked.prog.wantsStandIn 4 = false := by kernel_rfl
end Go.Proofs.YtdiicmhjjnlpnaaGreatDoor
