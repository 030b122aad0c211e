/-
  Writers, locks and processes made.
-/
import Derived.Test.YtgjnadligocdkaaGreatDoorLckV
set_option linter.unusedVariables false
set_option linter.unusedSimpArgs false
set_option maxRecDepth 100000
namespace Go.Proofs.YtgjnadligocdkaaGreatDoor
open Go.RowKit
theorem lock_new (w : World) : Calls Tryz.prog 8 #[] w fun e w' => e = .returned (.pointer (some ⟨w.heap.size, 0, none⟩)) ∧ LkAt w' w.heap.size 0 0 (fun _ => 0) ∧ Ext w w' := by
  go_enter Tryz.func8, Tryz.ntmps8
  go_wp2_with fail
  go_ret
  refine ⟨rfl, ?_, (Ext.rfl' w).alloc _⟩
  exact Blk.new w _ _
theorem procs_new (w : World) : Calls Tryz.prog 9 #[] w fun e w' => e = .returned (.pointer (some ⟨w.heap.size, 0, none⟩)) ∧ Blk w' w.heap.size #[.slice none 0 0, .int .i64 0] ∧ Ext w w' := by
  go_enter Tryz.func9, Tryz.ntmps9
  go_wp2_with fail
  go_ret
  refine ⟨rfl, ?_, (Ext.rfl' w).alloc _⟩
  exact Blk.new w _ _
def wrV (most : Int) (ph : Nat) (mt : List Value) (old t on er : Value) : List Value := [.int .i64 1, .int .i64 most, .int .i64 (ph : Int)] ++ mt ++ [old, t, on, .chan none, .int .u64 0, .int .i64 0, .int .i64 0, .int .i64 0, .int .i64 0, .int .i64 0, .bool false, er]
def zM : List Value := [.int .u64 0, .int .i64 0, .int .i64 0, .int .i64 0, .int .i64 0, .int .i64 0]
def wqV (most : Int) (ph er : Nat) (mt : List Value) (old pg t : Value) : List Value := [.int .i64 1, .int .i64 most, .int .i64 (ph : Int), .int .i64 (er : Int)] ++ mt ++ [old, pg, t, .slice none 0 0, .int .u64 0, .int .i64 0, .int .i64 0, .int .i64 0, .int .i64 0, .int .i64 0, .int .u64 0, .bool false]
theorem writer_new (w : World) (most : Int) : Calls Tryz.prog 12 #[.int .i64 1, .int .i64 most] w fun e w' => e = .returned (.pointer (some ⟨w.heap.size, 0, none⟩)) ∧ Blk w' w.heap.size (wrV most 1 zM (.int .u64 0) (.pointer none) (.slice none 0 0) .nilIface).toArray ∧ Turned [] w w' := by
  go_enter Tryz.func12, Tryz.ntmps12
  go_wp2_with fail
  go_ret
  exact ⟨rfl, Blk.new w _ _, (Turned.rfl' [] w).alloc _⟩
theorem writer_newq (w : World) (most : Int) : Calls Tryz.prog 13 #[.int .i64 1, .int .i64 most] w fun e w' => e = .returned (.pointer (some ⟨w.heap.size, 0, none⟩)) ∧ Blk w' w.heap.size (wqV most 1 0 zM (.int .u64 0) (.slice none 0 0) (.pointer none)).toArray ∧ Turned [] w w' := by
  go_enter Tryz.func13, Tryz.ntmps13
  go_wp2_with fail
  go_ret
  exact ⟨rfl, Blk.new w _ _, (Turned.rfl' [] w).alloc _⟩
end Go.Proofs.YtgjnadligocdkaaGreatDoor
