/-
  What the cards say of the program's text.
-/
import Derived.Test.YthnkbbceiipcdaaGreatDoorLaid
import Derived.SevenTiedAt
namespace Go.Proofs.YthnkbbceiipcdaaGreatDoor
theorem shMain : Tryz.pinned.checked.prog.mainIs = some (true, "89d7fbc8fce874ba4788c64fa73d0d8ea9e038812cb9c8ad8135a6fbdb2f15fc".toList) := by kernel_rfl
theorem shLooks : true = Tryz.pinned.checked.prog.looks [] := by kernel_rfl
theorem shW5 : Tryz.pinned.checked.prog.wantsStandIn 5 = false := by kernel_rfl
theorem shW3 : Tryz.pinned.checked.prog.wantsStandIn 3 = false := by kernel_rfl
theorem shW4 : Tryz.pinned.checked.prog.wantsStandIn 4 = false := by kernel_rfl
end Go.Proofs.YthnkbbceiipcdaaGreatDoor
