/-
  A world in which the variable that the rows list holds what they say.
-/
import Derived.Test.YtkcffdanhklphaaGreatDoorRows
import Derived.Test.YtkcffdanhklphaaGreatDoorProg
import Derived.ChangeSame
import Derived.ChangeVars
import Derived.JoinedOf
import Derived.RowKit
import Derived.RowKitTokens
import Derived.LaidLaws
import Derived.LaidHandle
import Derived.Stop.Joined
import Derived.ProofKit
namespace Go.Proofs.YtkcffdanhklphaaGreatDoor
open Go.ChangeShapes Go.WideShapes Go.RowKit
theorem ownKnobs : ownKnob Tryz.prog.godebug = none := by kernel_rfl
abbrev laidList : List (String × DataW Unit) := [("errors.errorType", Rows.laid_errors_errorType)]
/-- A world that meets the condition: the settled one, the variable's cell laid. -/
noncomputable def laidWorld (os : Os) : World :=
  let w0 := World.holding Tryz.prog os ⟨#[], #[], []⟩
  { w0 with heap := w0.heap.modify 0 fun
      | .cells _ t frozen => .cells #[.iface 76 (.agg #[.pointer (some ⟨9, 37, none⟩)])] t frozen
      | o => o }
theorem laidWorld_met (os : Os) (args : Array Value) : laidMetH Tryz.prog laidList ((laidWorld os).forCall (fun _ _ => 0) ⟨#[], args, []⟩).memory :=
  laidMetH_of_parts (laidMet_nil _ _) (by kernel_rfl)
theorem and2 {a b : Bool} (h : a = true) (k : b = true) : (a && b) = true := by rw [h, k]; rfl
theorem sh2 : laidOutB Tryz.prog = true := by kernel_rfl
theorem sh3 : mapsRowed Tryz.prog = true := by kernel_rfl
theorem sh7 : (Tryz.prog.stops == []) = true := by kernel_rfl
theorem sh9 : (Tryz.prog.stopKnobs == []) = true := by kernel_rfl
theorem sh25 : Tryz.prog.stopsHeard = true := by kernel_rfl
theorem sh26 : Tryz.prog.mayEnter = true := by kernel_rfl
end Go.Proofs.YtkcffdanhklphaaGreatDoor
