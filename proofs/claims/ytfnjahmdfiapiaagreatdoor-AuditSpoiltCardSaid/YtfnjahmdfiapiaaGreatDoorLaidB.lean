/-
  What the cards say of the program's text.
-/
import Derived.Test.YtfnjahmdfiapiaaGreatDoorLaid
import Derived.SevenTiedAt
namespace Go.Proofs.YtfnjahmdfiapiaaGreatDoor
theorem shMain : Tryz.pinned.checked.prog.mainIs = some (true, "97792dcc3427a8ddf499adb917183d67b974cbae78075729e81287a6d679477f".toList) := by kernel_rfl
theorem shLooks : true = Tryz.pinned.checked.prog.looks [] := by kernel_rfl
theorem shW5 : Tryz.pinned.checked.prog.wantsStandIn 5 = false := by kernel_rfl
theorem shW4 : Tryz.pinned.checked.prog.wantsStandIn 4 = false := by kernel_rfl
end Go.Proofs.YtfnjahmdfiapiaaGreatDoor
