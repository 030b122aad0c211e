/-
  What the cards say of the program's text.
-/
import Derived.Test.YtpgpmhkafkeafaaGreatDoorLaid
import Derived.SevenTiedAt
namespace Go.Proofs.YtpgpmhkafkeafaaGreatDoor
theorem shMain : Tryz.pinned.checked.prog.mainIs = some (true, "cce803422091bc5cc5e3af1800d922acaf42bb3559c8932be83c452a0e488ee3".toList) := by kernel_rfl
theorem shLooks : true = Tryz.pinned.checked.prog.looks [] := by kernel_rfl
theorem shW5 : Tryz.pinned.checked.prog.wantsStandIn 5 = false := by kernel_rfl
theorem shW4 : Tryz.pinned.checked.prog.wantsStandIn 4 = false := by kernel_rfl
end Go.Proofs.YtpgpmhkafkeafaaGreatDoor
