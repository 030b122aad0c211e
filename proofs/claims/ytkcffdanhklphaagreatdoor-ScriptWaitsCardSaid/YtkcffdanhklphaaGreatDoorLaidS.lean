/-
  A world in which the variables that the scripts' rows list hold what they say.
-/
import Derived.Test.YtkcffdanhklphaaGreatDoorLaid
import Derived.LaidLaws
import GoSem.PinnedTables
namespace Go.Proofs.YtkcffdanhklphaaGreatDoor
open Go.ChangeShapes Go.WideShapes Go.RowKit
abbrev laidListS : List (String × DataW Unit) := [("unicode/utf8.first", Rows.laid_unicode_utf8_first), ("unicode/utf8.acceptRanges", Rows.laid_unicode_utf8_acceptRanges), ("strconv.ErrSyntax", Rows.laid_strconv_ErrSyntax), ("strconv.ErrRange", Rows.laid_strconv_ErrRange), ("internal/strconv.uint64pow10", Rows.laid_internal_strconv_uint64pow10), ("math/bits.deBruijn32tab", Rows.laid_math_bits_deBruijn32tab), ("math/bits.deBruijn64tab", Rows.laid_math_bits_deBruijn64tab), ("errors.errorType", Rows.laid_errors_errorType)]
/-- a plain datum's cells -/
def cellsD : Nat → DataW Unit → List Value
  | _, .lit (.int k n) => [.int k n]
  | f + 1, .agg ds => ds.flatMap (cellsD f)
  | _, _ => []
def heldAs (cs : List Value) : Obj → Obj
  | .cells _ t fz => .cells cs.toArray t fz
  | o => o
/-- A world that meets the condition: the settled one, the variables laid, the errors' texts behind. -/
noncomputable def laidWorldS (os : Os) : World :=
  let w0 := World.holding Tryz.prog os ⟨#[], #[], []⟩
  let n := w0.heap.size
  { w0 with heap := ((((((((((w0.heap.modify 0 (heldAs [.iface 76 (.agg #[.pointer (some ⟨9, 37, none⟩)])])).modify 2 (heldAs (cellsD 4 Rows.laid_unicode_utf8_first))).modify 3 (heldAs (cellsD 4 Rows.laid_unicode_utf8_acceptRanges))).modify 4 (heldAs (cellsD 4 Rows.laid_internal_strconv_uint64pow10))).modify 5 (heldAs [.iface 451 (.pointer (some ⟨n, 0, none⟩))])).modify 6 (heldAs [.iface 451 (.pointer (some ⟨n + 1, 0, none⟩))])).modify 7 (heldAs (cellsD 4 Rows.laid_math_bits_deBruijn32tab))).modify 8 (heldAs (cellsD 4 Rows.laid_math_bits_deBruijn64tab))).push (.cells #[.string ⟨#[105, 110, 118, 97, 108, 105, 100, 32, 115, 121, 110, 116, 97, 120]⟩] 453 (0, 0))).push (.cells #[.string ⟨#[118, 97, 108, 117, 101, 32, 111, 117, 116, 32, 111, 102, 32, 114, 97, 110, 103, 101]⟩] 453 (0, 0))) }
set_option maxRecDepth 100000 in
theorem laidWorldS_met (os : Os) (args : Array Value) : laidMetH Tryz.prog laidListS ((laidWorldS os).forCall (fun _ _ => 0) ⟨#[], args, []⟩).memory :=
  laidMetH_of_parts (laidMet_of_run' 16 (by kernel_rfl) (by kernel_rfl)) (by kernel_rfl)
end Go.Proofs.YtkcffdanhklphaaGreatDoor
