/-
  What the cards say of the program's text.
-/
import Derived.Test.YtimligmdnokamaaGreatDoorLaid
import Derived.SevenTiedAt
namespace Go.Proofs.YtimligmdnokamaaGreatDoor
theorem shMain : Tryz.pinned.checked.prog.mainIs = some (true, "9362e5b35014dba8726f02dc66b3b36d064c7c1652174e5afaaaf92761e0c921".toList) := by kernel_rfl
theorem shLooks : true = Tryz.pinned.checked.prog.looks [] := by kernel_rfl
theorem shW5 : Tryz.pinned.checked.prog.wantsStandIn 5 = false := by kernel_rfl
theorem shW4 : Tryz.pinned.checked.prog.wantsStandIn 4 = false := by kernel_rfl
end Go.Proofs.YtimligmdnokamaaGreatDoor
