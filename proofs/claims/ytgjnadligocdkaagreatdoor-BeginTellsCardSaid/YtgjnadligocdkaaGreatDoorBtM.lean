/-
  Metas compared.
-/
import Derived.Test.YtgjnadligocdkaaGreatDoorBx
import Derived.Laws.StructEq
set_option linter.unusedVariables false
set_option linter.unusedSimpArgs false
set_option maxRecDepth 100000
namespace Go.Proofs.YtgjnadligocdkaaGreatDoor
open Go.RowKit Go.Sort
open Go.Op
theorem meta_fields : Tryz.prog.underlying 69 = some (.struct (Tryz.prog.fieldsOf 69)) := by kernel_rfl
theorem meta_held : Tryz.prog.stoodInHeld 69 = false := by kernel_rfl
theorem root_fields : Tryz.prog.underlying 67 = some (.struct (Tryz.prog.fieldsOf 67)) := by kernel_rfl
theorem root_held : Tryz.prog.stoodInHeld 67 = false := by kernel_rfl
theorem run_eql_meta (a L : Int) (w : World) : (binOp .eql 69 (.agg #[.int .u64 a, .int .i64 0, .int .i64 0, .int .i64 0, .int .i64 0, .int .i64 L]) (.agg #[.int .u64 a, .int .i64 0, .int .i64 0, .int .i64 0, .int .i64 0, .int .i64 L])).run Tryz.prog w = .ok (.bool true) w := by
  rw [run_eql_struct, run_equalIn_agg w 9999 _ _ _ meta_fields meta_held]
  have h2 := Tryz.underlying3
  have h3 := Tryz.underlying33
  have h4 := Tryz.underlying67
  have hr := fun d => run_equalIn_agg (P := Tryz.prog) w d 67 #[.int .i64 0, .int .i64 0, .int .i64 0] #[.int .i64 0, .int .i64 0, .int .i64 0] root_fields root_held
  simp [Program.fieldsOf, Tryz.underlying69, Op.eqFields, go_sem, hr, h4]
end Go.Proofs.YtgjnadligocdkaaGreatDoor
