/-
  errors.Is of two errors of one type.
-/
import Derived.Test.YtkcffdanhklphaaGreatDoorChecked
import Derived.WalkKit
import Derived.WalkSmall
import Derived.WalkSpells
import Derived.WalkLawsBesides
import Derived.Below
import Derived.Deep.LoopGhost
import Derived.Lib.Hide
import Derived.RegionTactic
import Derived.OwnWalk
import Derived.LaidEql
import Derived.Stop.Asserts
import Derived.RowKitTokens
import Derived.WideLaws
set_option linter.unusedVariables false
set_option linter.unusedSimpArgs false
namespace Go.Proofs.YtkcffdanhklphaaGreatDoor
open Go.RowKit Go.Extern.Stop Go.Stop Go.Extern
theorem is_typeOfE (v : Value) (w : World) : (ReflectliteType.typeOf #[.iface 41 v]).run Tryz.prog w = .ok (.iface 76 (.agg #[.pointer (some ⟨9, 41, none⟩)])) w := by kernel_rfl
theorem is_comparableE (w : World) : (ReflectliteType.method (fun t => do Rtype.noPackHeld "Comparable" t; (fun a => Value.bool a.comparable) <$> typeInfo t) #[.agg #[.pointer (some ⟨9, 41, none⟩)]]).run Tryz.prog w = .ok (.bool true) w := by kernel_rfl
theorem errno_comp : (Tryz.prog.info? 41).map (·.comparable) = some true := by kernel_rfl

theorem run_equalIn_errno (d : Nat) (a b : Int) (w : World) : (Op.equalIn (d + 2) 37 (.iface 41 (.int .i64 a)) (.iface 41 (.int .i64 b))).run Tryz.prog w = .ok (a == b) w := by
  have hu := run_underlying (w := w) Tryz.underlying41
  have hi := run_underlying (w := w) Tryz.underlying37
  cases hc : Tryz.prog.info? 41 with
  | none => have := errno_comp; rw [hc] at this; cases this
  | some info =>
    have h1 : info.comparable = true := by have := errno_comp; rw [hc] at this; simpa using this
    have h2 : (Op.equalIn (d + 1) 41 (.int .i64 a) (.int .i64 b)).run Tryz.prog w = .ok (a == b) w := by simp [Op.equalIn, hu]
    rw [Op.equalIn]
    simp [hi, typeInfo, hc, h1, h2]
theorem run_equal_errno (a b : Int) (w : World) : (Op.equal 37 (.iface 41 (.int .i64 a)) (.iface 41 (.int .i64 b))).run Tryz.prog w = .ok (a == b) w := run_equalIn_errno 9998 a b w
theorem run_eql_errno (a b : Int) (w : World) : (binOp .eql 37 (.iface 41 (.int .i64 a)) (.iface 41 (.int .i64 b))).run Tryz.prog w = .ok (.bool (a == b)) w := by
  simp only [binOp]
  simp [run_equal_errno]
theorem run_equalIn_nil_errno (d : Nat) (b : Int) (w : World) : (Op.equalIn (d + 1) 37 .nilIface (.iface 41 (.int .i64 b))).run Tryz.prog w = .ok false w := by
  have hi := run_underlying (w := w) Tryz.underlying37
  rw [Op.equalIn]
  simp [hi]
theorem run_eql_nil_errno (b : Int) (w : World) : (binOp .eql 37 .nilIface (.iface 41 (.int .i64 b))).run Tryz.prog w = .ok (.bool false) w := by
  have h : (Op.equal 37 .nilIface (.iface 41 (.int .i64 b))).run Tryz.prog w = .ok false w := run_equalIn_nil_errno 9999 b w
  simp only [binOp]
  simp [h]
theorem ta1 (v : Value) (xT : TypeId) (w : World) : (Instr.typeAssert (.iface 41 v) xT 78 true).run Tryz.prog w = .ok (.tuple #[.nilIface, .bool false]) w := run_typeAssert_lacksB Tryz.underlying78 (by kernel_rfl) (by kernel_rfl) v xT w
theorem ta2 (v : Value) (xT : TypeId) (w : World) : (Instr.typeAssert (.iface 41 v) xT 81 true).run Tryz.prog w = .ok (.tuple #[.nilIface, .bool false]) w := run_typeAssert_lacksB Tryz.underlying81 (by kernel_rfl) (by kernel_rfl) v xT w
theorem ta3 (v : Value) (xT : TypeId) (w : World) : (Instr.typeAssert (.iface 41 v) xT 83 true).run Tryz.prog w = .ok (.tuple #[.nilIface, .bool false]) w := run_typeAssert_lacksB Tryz.underlying83 (by kernel_rfl) (by kernel_rfl) v xT w
theorem is_methodComparable (h : Value) (w : World) : (Go.method 707 76 (.agg #[h]) "Comparable").run Tryz.prog w = .ok (528, .agg #[h]) w := by kernel_rfl
set_option maxHeartbeats 4000000 in
set_option maxRecDepth 100000 in
theorem is_one (n m : Int) (w : World) :
    Calls Tryz.prog 17 #[.iface 41 (.int .i64 n), .iface 41 (.int .i64 m)] w fun e w' => e = .returned (.bool (n == m)) ∧ w' = w := by
  have h10 := @run_callFunc_extern Tryz.prog 20 _ ReflectliteType.typeOf Tryz.func20 (by kernel_rfl) (by kernel_rfl) (by kernel_rfl) (by kernel_rfl)
  have tO := is_typeOfE
  have t1 := ta1
  have t2 := ta2
  have t3 := ta3
  have E1 := run_eql_errno
  have cE := is_comparableE
  have mC := is_methodComparable
  have h403 := @run_callFunc_extern Tryz.prog 528 _ (ReflectliteType.method fun t => do Rtype.noPackHeld "Comparable" t; pure (.bool (← typeInfo t).comparable)) Tryz.func528 (by kernel_rfl) (by kernel_rfl) (by kernel_rfl) (by kernel_rfl)
  go_enter Tryz.func17, Tryz.ntmps17
  cases hnm : n == m with
  | true =>
    go_wp2
    refine wp_loop_rounds 1 ?_
    rw [rounds_succ]
    go_wp2
    go_ret
    exact ⟨rfl, rfl⟩
  | false =>
    go_wp2
    refine wp_loop_rounds 1 ?_
    rw [rounds_succ]
    go_wp2
    go_ret
    exact ⟨rfl, rfl⟩
set_option maxHeartbeats 4000000 in
set_option maxRecDepth 100000 in
theorem is_nil1 (m : Int) (w : World) : Calls Tryz.prog 17 #[.nilIface, .iface 41 (.int .i64 m)] w fun e w' => e = .returned (.bool false) ∧ w' = w := by
  have E1 := run_eql_nil_errno
  go_enter Tryz.func17, Tryz.ntmps17
  go_wp2
  go_ret
  exact ⟨rfl, rfl⟩
end Go.Proofs.YtkcffdanhklphaaGreatDoor
