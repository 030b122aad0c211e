/-
  The two pages at the start.
-/
import Derived.Test.YtgjnadligocdkaaGreatDoorFilR
set_option linter.unusedVariables false
set_option linter.unusedSimpArgs false
set_option maxRecDepth 100000
namespace Go.Proofs.YtgjnadligocdkaaGreatDoor
open Go.RowKit
theorem fresh_0 (w : World) : Calls Tryz.prog 45 #[.int .i64 0] w fun e w' => e = .returned (.agg (metaV 0 2).toArray) ∧ Turned [] w w' := by
  go_enter Tryz.func45, Tryz.ntmps45
  go_wp2_with fail
  (try simp only [Exit.inBlock, Exit.then])
  refine bodyPost_ret (results_cell_row rfl _ _ w.heap.size _ _ _ _ rfl (heap_alloc_new w _) (Tryz.underlying69) rfl (by kernel_rfl)) rfl ⟨rfl, (Turned.rfl' [] w).alloc _⟩
theorem fresh_1 (w : World) : Calls Tryz.prog 45 #[.int .i64 1] w fun e w' => e = .returned (.agg (metaV 1 2).toArray) ∧ Turned [] w w' := by
  go_enter Tryz.func45, Tryz.ntmps45
  go_wp2_with fail
  (try simp only [Exit.inBlock, Exit.then])
  refine bodyPost_ret (results_cell_row rfl _ _ w.heap.size _ _ _ _ rfl (heap_alloc_new w _) (Tryz.underlying69) rfl (by kernel_rfl)) rfl ⟨rfl, (Turned.rfl' [] w).alloc _⟩
theorem empty_any (w : World) : Calls Tryz.prog 6 #[] w fun e w' => ∃ P c, e = .returned (.slice (some ⟨P, 0, none⟩) 2 c) ∧ 2 ≤ c ∧ w.heap.size ≤ P ∧ BlkR w' P 0 #[.string (metaB 0 2), .string (metaB 1 2)] c ∧ Turned [] w w' := by
  have F0 := Lib.hid fresh_0
  have F1 := Lib.hid fresh_1
  have M0 := Lib.hid (fun w => mb_any (t := 0) (d := 0) (by decide) (by decide) w)
  have M1 := Lib.hid (fun w => mb_any (t := 1) (d := 0) (by decide) (by decide) w)
  have e0 : (0 : Nat) + 2 = 2 := rfl
  rw [e0] at M0 M1
  generalize (metaV 0 2).toArray = V0 at *
  generalize (metaV 1 2).toArray = V1 at *
  generalize metaB 0 2 = A at *
  generalize metaB 1 2 = B at *
  go_enter Tryz.func6, Tryz.ntmps6
  go_wp2_with (first | (go_at_call 45; refine (F0.out _).mono ?_; rintro e w1 ⟨rfl, h1⟩) | (go_at_call 22; refine (M0.out _).mono ?_; rintro e w2 ⟨rfl, h2⟩) | (go_at_call 45; refine (F1.out _).mono ?_; rintro e w3 ⟨rfl, h3⟩) | (go_at_call 22; refine (M1.out _).mono ?_; rintro e w4 ⟨rfl, h4⟩))
  go_ret
  have hx : Turned [] w w4 := ((h1.trans h2).trans h3).trans h4
  exact ⟨_, _, rfl, Nat.le_refl _, hx.size, Blk.new w4 _ _, hx.alloc _⟩
end Go.Proofs.YtgjnadligocdkaaGreatDoor
