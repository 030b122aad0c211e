/-
  pack.Num, copyholdref1.Num: a number as eight bytes, the least first.
-/
import Derived.Test.YtkcffdanhklphaaGreatDoorChecked
import Derived.WalkKit
import Derived.WalkSmall
import Derived.WalkSpells
import Derived.WalkLawsBesides
import Derived.Below
import Derived.Deep.LoopGhost
import Derived.Lib.Hide
import Derived.RegionTactic
import Derived.OwnWalk
import Derived.Laws.BytesString
import Derived.Laws.Cells
set_option linter.unusedVariables false
set_option linter.unusedSimpArgs false
namespace Go.Proofs.YtkcffdanhklphaaGreatDoor
open Go.RowKit
theorem mk8 (w : World) : (Instr.makeSlice 32 (Value.int IntKind.i64 8) (Value.int IntKind.i64 8)).run Tryz.prog w = .ok (.slice (some ⟨w.heap.size, 0, none⟩) 8 8) (w.alloc (.cells #[.int .u8 0, .int .u8 0, .int .u8 0, .int .u8 0, .int .u8 0, .int .u8 0, .int .u8 0, .int .u8 0] 5)) := by kernel_rfl
/-- bytes as a text -/
def txt (ns : List Int) : ByteArray := ns.foldl (fun r n => r.push (UInt8.ofNat n.toNat)) ByteArray.empty
theorem txt_list (ns : List Int) : (txt ns).data.toList = ns.map fun n => UInt8.ofNat n.toNat := by
  have : ∀ (ns : List Int) (r : ByteArray), (ns.foldl (fun r n => r.push (UInt8.ofNat n.toNat)) r).data.toList = r.data.toList ++ ns.map fun n => UInt8.ofNat n.toNat := by
    intro ns
    induction ns with
    | nil => intro r; simp
    | cons n ns ih => intro r; rw [List.foldl_cons, ih]; simp
  have h := this ns ByteArray.empty
  unfold txt; rw [h]; simp
theorem cv8 (w : World) (a b c d e f g h : Int) : (convert 32 9 (.slice (some ⟨w.heap.size, 0, none⟩) 8 8)).run Tryz.prog (w.alloc (.cells #[.int .u8 a, .int .u8 b, .int .u8 c, .int .u8 d, .int .u8 e, .int .u8 f, .int .u8 g, .int .u8 h] 5)) =
    .ok (.string (txt [a, b, c, d, e, f, g, h])) (w.alloc (.cells #[.int .u8 a, .int .u8 b, .int .u8 c, .int .u8 d, .int .u8 e, .int .u8 f, .int .u8 g, .int .u8 h] 5)) := by
  rw [run_convert_bytes_string _ 32 9 5 _ 8 8 Tryz.underlying32 Tryz.underlying5 Tryz.underlying9]
  refine run_bytesToString _ _ 8 8 [a, b, c, d, e, f, g, h] ?_
  refine run_loadCells_list _ _ ([Value.int .u8 a, Value.int .u8 b, Value.int .u8 c, Value.int .u8 d, Value.int .u8 e, Value.int .u8 f, Value.int .u8 g, Value.int .u8 h] : List Value) fun j v hj => ?_
  rcases j with _ | _ | _ | _ | _ | _ | _ | _ | j <;> simp at hj <;> subst hj <;> simp [Addr.add]
set_option maxHeartbeats 4000000 in
set_option maxRecDepth 100000 in
theorem num_a (n : Nat) (hn : n < 18446744073709551616) (w : World) :
    Calls Tryz.prog 308 #[.int .u64 n] w fun e w' => ∃ (a b c d f g h i : Int) (W : Obj), e = .returned (.string (txt [a, b, c, d, f, g, h, i])) ∧ w' = w.alloc W ∧ n = a + 256 * b + 65536 * c + 16777216 * d + 4294967296 * f + 1099511627776 * g + 281474976710656 * h + 72057594037927936 * i ∧ ∀ x ∈ [a, b, c, d, f, g, h, i], 0 ≤ x ∧ x < 256 := by
  have mk := mk8
  have cv := cv8 w
  go_enter Tryz.func308, Tryz.ntmps308
  go_wp2
  refine wp_loop_rounds 9 ?_
  iterate 9 (rw [rounds_succ]; go_wp2)
  go_ret
  refine ⟨_, _, _, _, _, _, _, _, _, rfl, rfl, ?_, ?_⟩
  · omega
  · intro x hx
    simp only [List.mem_cons, List.not_mem_nil, or_false] at hx
    omega
end Go.Proofs.YtkcffdanhklphaaGreatDoor
