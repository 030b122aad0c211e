/-
  The document's choice of two metas.
-/
import Derived.Test.YtgjnadligocdkaaGreatDoorMc
set_option linter.unusedVariables false
set_option linter.unusedSimpArgs false
set_option maxRecDepth 100000
namespace Go.Proofs.YtgjnadligocdkaaGreatDoor
open Go.RowKit
theorem place_q {w : World} {a : Nat} (ha : a < 1000) : Calls Tryz.prog 24 #[.int .u64 (a : Int)] w fun e w' => e = .returned (.int .i64 ((a % 2 : Nat) : Int)) ∧ w' = w := by
  go_enter Tryz.func24, Tryz.ntmps24
  go_wp2_with fail
  go_ret
  exact ⟨rfl, rfl⟩
theorem place_at {g a k : Nat} (h : ∀ {w : World} {a : Nat}, a < 1000 → Calls Tryz.prog g #[.int .u64 (a : Int)] w fun e w' => e = .returned (.int .i64 ((a % 2 : Nat) : Int)) ∧ w' = w) (ha : a < 62) (e : a % 2 = k) (w : World) : Calls Tryz.prog g #[.int .u64 (a : Int)] w fun e w' => e = .returned (.int .i64 (k : Int)) ∧ w' = w := by
  subst e; exact h (by omega)
def z6 : Array Value := #[.int .u64 0, .int .i64 0, .int .i64 0, .int .i64 0, .int .i64 0, .int .i64 0]
def ChoAt (w W : World) (A B : ByteArray) (v : Array Value) : Prop := Turned [] w W ∧ BlkR W (w.heap.size) 0 z6 6 ∧ BlkR W (w.heap.size + 1) 0 v 6 ∧ BlkR W (w.heap.size + 1 + 1) 0 #[.string A, .string B] 2
section
variable {w W W' : World} {A B : ByteArray} {v : Array Value}
theorem cho_start (t1 t2 t3 : TypeId) : ChoAt w (((w.alloc (.cells z6 t1)).alloc (.cells z6 t2)).alloc (.cells #[.string A, .string B] t3)) A B z6 := by
  have e1 : (w.alloc (.cells z6 t1)).heap.size = w.heap.size + 1 := by simp
  have e2 : ((w.alloc (.cells z6 t1)).alloc (.cells z6 t2)).heap.size = w.heap.size + 1 + 1 := by simp
  refine ⟨(((Turned.rfl' [] w).alloc _).alloc _).alloc _, ((Blk.new w z6 t1).alloc _).alloc _, ?_, ?_⟩
  · have := (Blk.new (w.alloc (.cells z6 t1)) z6 t2).alloc (.cells #[.string A, .string B] t3)
    rwa [e1] at this
  · have := Blk.new ((w.alloc (.cells z6 t1)).alloc (.cells z6 t2)) #[.string A, .string B] t3
    rwa [e2] at this
theorem ChoAt.turned (h : ChoAt w W A B v) (t : Turned [] W W') : ChoAt w W' A B v := ⟨h.1.trans t, h.2.1.turned t (by simp), h.2.2.1.turned t (by simp), h.2.2.2.turned t (by simp)⟩
theorem ChoAt.alloc (h : ChoAt w W A B v) (o : Obj) : ChoAt w (W.alloc o) A B v := h.turned ((Turned.rfl' [] W).alloc o)
theorem ChoAt.set (h : ChoAt w W A B v) (i : Nat) (a : Value) : ChoAt w (W.setCell ⟨w.heap.size + 1, i, none⟩ a) A B (v.setIfInBounds i a) := by
  have n1 : w.heap.size ≠ w.heap.size + 1 := by omega
  have n2 : w.heap.size + 1 + 1 ≠ w.heap.size + 1 := by omega
  have n3 : w.heap.size ≤ w.heap.size + 1 := by omega
  exact ⟨Turned.setNew h.1 n3, BlkR.off h.2.1 n1, BlkR.set h.2.2.1 i a, BlkR.off h.2.2.2 n2⟩
theorem set6 (v0 v1 v2 v3 v4 v5 a0 a1 a2 a3 a4 a5 : Value) : ((((((List.toArray [v0, v1, v2, v3, v4, v5]).setIfInBounds 0 a0).setIfInBounds 1 a1).setIfInBounds 2 a2).setIfInBounds 3 a3).setIfInBounds 4 a4).setIfInBounds 5 a5 = #[a0, a1, a2, a3, a4, a5] := by
  apply Array.toList_inj.1
  simp only [Array.toList_setIfInBounds, List.set]
theorem ChoAt.sets (h : ChoAt w W A B v) (hv : v.size = 6) (a0 a1 a2 a3 a4 a5 : Value) : ChoAt w ((((((W.setCell ⟨w.heap.size + 1, 0, none⟩ a0).setCell ⟨w.heap.size + 1, 1, none⟩ a1).setCell ⟨w.heap.size + 1, 2, none⟩ a2).setCell ⟨w.heap.size + 1, 3, none⟩ a3).setCell ⟨w.heap.size + 1, 4, none⟩ a4).setCell ⟨w.heap.size + 1, 5, none⟩ a5) A B #[a0, a1, a2, a3, a4, a5] := by
  obtain ⟨l⟩ := v
  match l, hv with
  | [v0, v1, v2, v3, v4, v5], _ => exact set6 v0 v1 v2 v3 v4 v5 a0 a1 a2 a3 a4 a5 ▸ (((((h.set 0 a0).set 1 a1).set 2 a2).set 3 a3).set 4 a4).set 5 a5
theorem ChoAt.lt (h : ChoAt w W A B v) : ¬ w.heap.size = W.heap.size ∧ ¬ w.heap.size + 1 = W.heap.size ∧ ¬ w.heap.size + 1 + 1 = W.heap.size := by
  have := h.2.2.2.lt
  omega
theorem ChoAt.facts {v0 v1 v2 v3 v4 v5 : Value} (h : ChoAt w W A B #[v0, v1, v2, v3, v4, v5]) : W.cell? ⟨w.heap.size, 0, none⟩ = some (.int .u64 0) ∧ W.frozen? ⟨w.heap.size, 0, none⟩ = false ∧ W.cell? ⟨w.heap.size + 1, 0, none⟩ = some v0 ∧ (∀ o, (W.alloc o).cell? ⟨w.heap.size + 1, 0, none⟩ = some v0) ∧ (∀ o, (W.alloc o).frozen? ⟨w.heap.size + 1, 0, none⟩ = false) ∧ W.cell? ⟨w.heap.size, 1, none⟩ = some (.int .i64 0) ∧ W.frozen? ⟨w.heap.size, 1, none⟩ = false ∧ W.cell? ⟨w.heap.size + 1, 1, none⟩ = some v1 ∧ (∀ o, (W.alloc o).cell? ⟨w.heap.size + 1, 1, none⟩ = some v1) ∧ (∀ o, (W.alloc o).frozen? ⟨w.heap.size + 1, 1, none⟩ = false) ∧ W.cell? ⟨w.heap.size, 2, none⟩ = some (.int .i64 0) ∧ W.frozen? ⟨w.heap.size, 2, none⟩ = false ∧ W.cell? ⟨w.heap.size + 1, 2, none⟩ = some v2 ∧ (∀ o, (W.alloc o).cell? ⟨w.heap.size + 1, 2, none⟩ = some v2) ∧ (∀ o, (W.alloc o).frozen? ⟨w.heap.size + 1, 2, none⟩ = false) ∧ W.cell? ⟨w.heap.size, 3, none⟩ = some (.int .i64 0) ∧ W.frozen? ⟨w.heap.size, 3, none⟩ = false ∧ W.cell? ⟨w.heap.size + 1, 3, none⟩ = some v3 ∧ (∀ o, (W.alloc o).cell? ⟨w.heap.size + 1, 3, none⟩ = some v3) ∧ (∀ o, (W.alloc o).frozen? ⟨w.heap.size + 1, 3, none⟩ = false) ∧ W.cell? ⟨w.heap.size, 4, none⟩ = some (.int .i64 0) ∧ W.frozen? ⟨w.heap.size, 4, none⟩ = false ∧ W.cell? ⟨w.heap.size + 1, 4, none⟩ = some v4 ∧ (∀ o, (W.alloc o).cell? ⟨w.heap.size + 1, 4, none⟩ = some v4) ∧ (∀ o, (W.alloc o).frozen? ⟨w.heap.size + 1, 4, none⟩ = false) ∧ W.cell? ⟨w.heap.size, 5, none⟩ = some (.int .i64 0) ∧ W.frozen? ⟨w.heap.size, 5, none⟩ = false ∧ W.cell? ⟨w.heap.size + 1, 5, none⟩ = some v5 ∧ (∀ o, (W.alloc o).cell? ⟨w.heap.size + 1, 5, none⟩ = some v5) ∧ (∀ o, (W.alloc o).frozen? ⟨w.heap.size + 1, 5, none⟩ = false) ∧ W.cell? ⟨w.heap.size + 1 + 1, 0, none⟩ = some (.string A) ∧ W.cell? ⟨w.heap.size + 1 + 1, 1, none⟩ = some (.string B) :=
  ⟨h.2.1.cell rfl, h.2.1.fro0 (by decide), h.2.2.1.cell rfl, fun o => (h.2.2.1.alloc o).cell rfl, fun o => (h.2.2.1.alloc o).fro0 (by decide), h.2.1.cell rfl, h.2.1.fro0 (by decide), h.2.2.1.cell rfl, fun o => (h.2.2.1.alloc o).cell rfl, fun o => (h.2.2.1.alloc o).fro0 (by decide), h.2.1.cell rfl, h.2.1.fro0 (by decide), h.2.2.1.cell rfl, fun o => (h.2.2.1.alloc o).cell rfl, fun o => (h.2.2.1.alloc o).fro0 (by decide), h.2.1.cell rfl, h.2.1.fro0 (by decide), h.2.2.1.cell rfl, fun o => (h.2.2.1.alloc o).cell rfl, fun o => (h.2.2.1.alloc o).fro0 (by decide), h.2.1.cell rfl, h.2.1.fro0 (by decide), h.2.2.1.cell rfl, fun o => (h.2.2.1.alloc o).cell rfl, fun o => (h.2.2.1.alloc o).fro0 (by decide), h.2.1.cell rfl, h.2.1.fro0 (by decide), h.2.2.1.cell rfl, fun o => (h.2.2.1.alloc o).cell rfl, fun o => (h.2.2.1.alloc o).fro0 (by decide), h.2.2.2.cell rfl, h.2.2.2.cell rfl⟩
end
theorem gen_world {P : Act → World → Prop} {a : Act} {W : World} (C : World → Prop) (hC : C W) (h : ∀ W, C W → P a W) : P a W := h W hC
set_option maxHeartbeats 4000000 in
theorem choose_q {w : World} {a b x y : Nat} (ha : a < 62) (hb : b < 62) (hx : x < 5) (hy : y < 5) (ea : a % 2 = 0) (eb : b % 2 = 1) : Calls Tryz.prog 40 #[.string (metaB a (x + 2)), .string (metaB b (y + 2))] w fun e w' => e = .returned (.tuple #[.agg (if a < b then metaV b (y + 2) else metaV a (x + 2)).toArray, .int .i64 0]) ∧ Turned [] w w' := by
  have R1 := Lib.hid (fun w => read_rany (t := a) (d := x) ha hx w)
  have R2 := Lib.hid (fun w => read_rany (t := b) (d := y) hb hy w)
  have P1 := Lib.hid (place_at (k := 0) place_q ha ea)
  have P2 := Lib.hid (place_at (k := 1) place_q hb eb)
  generalize metaB a (x + 2) = A at *
  generalize metaB b (y + 2) = B at *
  simp only [pageV, metaV] at R1 R2
  clear hx hy
  go_enter Tryz.func40, Tryz.ntmps40
  go_wp2_with fail
  refine wp_loop_rounds 3 ?_
  refine gen_world (P := Code.rounds _ _ _ 3) (fun W => ChoAt w W A B z6) (cho_start _ _ _) ?_
  intro W hW
  have HW := Lib.hid hW
  rw [rounds_succ]
  obtain ⟨f0, f1, f2, f3, f4, f5, f6, f7, f8, f9, f10, f11, f12, f13, f14, f15, f16, f17, f18, f19, f20, f21, f22, f23, f24, f25, f26, f27, f28, f29, f30, f31⟩ := hW.facts
  clear hW
  go_wp2_with (first | (go_at_call 72; refine (R1.out _).mono ?_; rintro e w1 ⟨rfl, h1⟩; have h2 := HW.out.turned h1; have H2 := Lib.hid h2; obtain ⟨z1, z2, z3⟩ := h2.lt; clear f0 f1 f2 f3 f4 f5 f6 f7 f8 f9 f10 f11 f12 f13 f14 f15 f16 f17 f18 f19 f20 f21 f22 f23 f24 f25 f26 f27 f28 f29 f30 f31; obtain ⟨f0, f1, f2, f3, f4, f5, f6, f7, f8, f9, f10, f11, f12, f13, f14, f15, f16, f17, f18, f19, f20, f21, f22, f23, f24, f25, f26, f27, f28, f29, f30, f31⟩ := h2.facts; clear h1 h2) | (go_at_call 24; refine (P1.out _).mono ?_; rintro e w2 ⟨rfl, rfl⟩))
  refine gen_world (P := Code.rounds _ _ _ 2) (fun W => ChoAt w W A B #[.int .u64 (a : Int), .int .i64 0, .int .i64 0, .int .i64 0, .int .i64 0, .int .i64 ((x : Int) + 2)]) ((H2.out.alloc _).sets rfl _ _ _ _ _ _) ?_
  clear HW H2 z1 z2 z3 f0 f1 f2 f3 f4 f5 f6 f7 f8 f9 f10 f11 f12 f13 f14 f15 f16 f17 f18 f19 f20 f21 f22 f23 f24 f25 f26 f27 f28 f29 f30 f31
  intro W hW
  have HW := Lib.hid hW
  rw [rounds_succ]
  obtain ⟨f0, f1, f2, f3, f4, f5, f6, f7, f8, f9, f10, f11, f12, f13, f14, f15, f16, f17, f18, f19, f20, f21, f22, f23, f24, f25, f26, f27, f28, f29, f30, f31⟩ := hW.facts
  clear hW
  rcases Nat.lt_or_ge a b with hab | hab
  · have hab' : (a : Int) < (b : Int) := by omega
    have HAB := Lib.hid hab
    clear hab
    go_wp2_with (first | (go_at_call 72; refine (R2.out _).mono ?_; rintro e w1 ⟨rfl, h1⟩; have h2 := HW.out.turned h1; have H2 := Lib.hid h2; obtain ⟨z1, z2, z3⟩ := h2.lt; clear f0 f1 f2 f3 f4 f5 f6 f7 f8 f9 f10 f11 f12 f13 f14 f15 f16 f17 f18 f19 f20 f21 f22 f23 f24 f25 f26 f27 f28 f29 f30 f31; obtain ⟨f0, f1, f2, f3, f4, f5, f6, f7, f8, f9, f10, f11, f12, f13, f14, f15, f16, f17, f18, f19, f20, f21, f22, f23, f24, f25, f26, f27, f28, f29, f30, f31⟩ := h2.facts; clear h1 h2) | (go_at_call 24; refine (P2.out _).mono ?_; rintro e w2 ⟨rfl, rfl⟩))
    refine gen_world (P := Code.rounds _ _ _ 1) (fun W => ChoAt w W A B #[.int .u64 (b : Int), .int .i64 0, .int .i64 0, .int .i64 0, .int .i64 0, .int .i64 ((y : Int) + 2)]) ((H2.out.alloc _).sets rfl _ _ _ _ _ _) ?_
    clear HW H2 z1 z2 z3 f0 f1 f2 f3 f4 f5 f6 f7 f8 f9 f10 f11 f12 f13 f14 f15 f16 f17 f18 f19 f20 f21 f22 f23 f24 f25 f26 f27 f28 f29 f30 f31
    intro W hW
    have HW := Lib.hid hW
    rw [rounds_succ]
    obtain ⟨f0, f1, f2, f3, f4, f5, f6, f7, f8, f9, f10, f11, f12, f13, f14, f15, f16, f17, f18, f19, f20, f21, f22, f23, f24, f25, f26, f27, f28, f29, f30, f31⟩ := hW.facts
    clear hW
    go_wp2_with fail
    (try simp only [Exit.inBlock, Exit.then])
    refine bodyPost_ret (v := .tuple #[.agg #[.int .u64 (b : Int), .int .i64 0, .int .i64 0, .int .i64 0, .int .i64 0, .int .i64 ((y : Int) + 2)], .int .i64 0]) ?_ rfl ⟨?_, ?_⟩
    · rw [results_cell_tmp rfl]; go_simp
    · rfl
    · exact Turned.setNew (Turned.setNew (Turned.setNew (Turned.setNew (Turned.setNew (Turned.setNew (HW.out.1) (Nat.le_refl _)) (Nat.le_refl _)) (Nat.le_refl _)) (Nat.le_refl _)) (Nat.le_refl _)) (Nat.le_refl _)
  · have hab' : ¬ (a : Int) < (b : Int) := by omega
    have hab2 : ¬ a < b := by omega
    have HAB := Lib.hid hab2
    clear hab hab2
    go_wp2_with (first | (go_at_call 72; refine (R2.out _).mono ?_; rintro e w1 ⟨rfl, h1⟩; have h2 := HW.out.turned h1; have H2 := Lib.hid h2; obtain ⟨z1, z2, z3⟩ := h2.lt; clear f0 f1 f2 f3 f4 f5 f6 f7 f8 f9 f10 f11 f12 f13 f14 f15 f16 f17 f18 f19 f20 f21 f22 f23 f24 f25 f26 f27 f28 f29 f30 f31; obtain ⟨f0, f1, f2, f3, f4, f5, f6, f7, f8, f9, f10, f11, f12, f13, f14, f15, f16, f17, f18, f19, f20, f21, f22, f23, f24, f25, f26, f27, f28, f29, f30, f31⟩ := h2.facts; clear h1 h2) | (go_at_call 24; refine (P2.out _).mono ?_; rintro e w2 ⟨rfl, rfl⟩))
    refine gen_world (P := Code.rounds _ _ _ 1) (fun W => ChoAt w W A B #[.int .u64 (a : Int), .int .i64 0, .int .i64 0, .int .i64 0, .int .i64 0, .int .i64 ((x : Int) + 2)]) (H2.out.alloc _) ?_
    clear HW H2 z1 z2 z3 f0 f1 f2 f3 f4 f5 f6 f7 f8 f9 f10 f11 f12 f13 f14 f15 f16 f17 f18 f19 f20 f21 f22 f23 f24 f25 f26 f27 f28 f29 f30 f31
    intro W hW
    have HW := Lib.hid hW
    rw [rounds_succ]
    obtain ⟨f0, f1, f2, f3, f4, f5, f6, f7, f8, f9, f10, f11, f12, f13, f14, f15, f16, f17, f18, f19, f20, f21, f22, f23, f24, f25, f26, f27, f28, f29, f30, f31⟩ := hW.facts
    clear hW
    go_wp2_with fail
    (try simp only [Exit.inBlock, Exit.then])
    refine bodyPost_ret (v := .tuple #[.agg #[.int .u64 (a : Int), .int .i64 0, .int .i64 0, .int .i64 0, .int .i64 0, .int .i64 ((x : Int) + 2)], .int .i64 0]) ?_ rfl ⟨?_, ?_⟩
    · rw [results_cell_tmp rfl]; go_simp
    · rfl
    · exact Turned.setNew (Turned.setNew (Turned.setNew (Turned.setNew (Turned.setNew (Turned.setNew (HW.out.1) (Nat.le_refl _)) (Nat.le_refl _)) (Nat.le_refl _)) (Nat.le_refl _)) (Nat.le_refl _)) (Nat.le_refl _)
end Go.Proofs.YtgjnadligocdkaaGreatDoor
