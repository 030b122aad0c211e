/-
  What the cards say of the program's text.
-/
import Derived.Test.YtgjnadligocdkaaGreatDoorLaid
import Derived.SevenTiedAt
namespace Go.Proofs.YtgjnadligocdkaaGreatDoor
theorem shMain : Tryz.pinned.checked.prog.mainIs = some (true, "b41ea7b5e04e8981c556437d513c68c48e3af488bf5336356d5bee6fbd5d84c5".toList) := by kernel_rfl
theorem shLooks : true = Tryz.pinned.checked.prog.looks [] := by kernel_rfl
theorem shW5 : Tryz.pinned.checked.prog.wantsStandIn 5 = false := by kernel_rfl
theorem shW22 : Tryz.pinned.checked.prog.wantsStandIn 22 = false := by kernel_rfl
theorem shW3 : Tryz.pinned.checked.prog.wantsStandIn 3 = false := by kernel_rfl
theorem shW4 : Tryz.pinned.checked.prog.wantsStandIn 4 = false := by kernel_rfl
end Go.Proofs.YtgjnadligocdkaaGreatDoor
