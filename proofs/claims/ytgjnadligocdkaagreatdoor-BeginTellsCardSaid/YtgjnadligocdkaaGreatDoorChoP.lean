/-
  The program's choice of two metas.
-/
import Derived.Test.YtgjnadligocdkaaGreatDoorChoQ
import Derived.Conc.SmallLaws
set_option linter.unusedVariables false
set_option linter.unusedSimpArgs false
set_option maxRecDepth 100000
namespace Go.Proofs.YtgjnadligocdkaaGreatDoor
open Go.RowKit
theorem place_p {w : World} {a : Nat} (ha : a < 1000) : Calls Tryz.prog 107 #[.int .u64 (a : Int)] w fun e w' => e = .returned (.int .i64 ((a % 2 : Nat) : Int)) ∧ w' = w := by
  go_enter Tryz.func107, Tryz.ntmps107
  go_wp2_with fail
  go_ret
  exact ⟨rfl, rfl⟩
theorem mkch (w : World) : (Instr.makeChan 214 (.int .i64 2)).run Tryz.prog w = .ok (.chan (some w.heap.size)) (w.alloc (.chan 2 #[] false 0 0 false)) := by
  obtain ⟨i, hi, hb⟩ : ∃ i, Tryz.prog.info? 69 = some i ∧ i.bytes = 48 := ⟨_, rfl, rfl⟩
  simpa using Conc.run_makeChan (P := Tryz.prog) (w := w) (Tryz.underlying214) hi .i64 2 (by omega) (by rw [hb]; omega)
def mV (t L : Nat) : Value := .agg #[.int .u64 (t : Int), .int .i64 0, .int .i64 0, .int .i64 0, .int .i64 0, .int .i64 (L : Int)]
def ChpAt (w W : World) (buf : List Value) (m r : Nat) : Prop := Turned [] w W ∧ BlkR W (w.heap.size) 0 z6 6 ∧ W.heap[w.heap.size + 1]? = some (.chan 2 buf.toArray false m r false)
section
variable {w W W' : World} {buf : List Value} {m r : Nat}
theorem chp_start (t1 : TypeId) : ChpAt w ((w.alloc (.cells z6 t1)).alloc (.chan 2 #[] false 0 0 false)) [] 0 0 := by
  have e1 : (w.alloc (.cells z6 t1)).heap.size = w.heap.size + 1 := by simp
  refine ⟨((Turned.rfl' [] w).alloc _).alloc _, (Blk.new w z6 t1).alloc _, ?_⟩
  rw [← e1]; exact heap_alloc_new _ _
theorem ChpAt.lt (h : ChpAt w W buf m r) : w.heap.size + 1 < W.heap.size := (Array.getElem?_eq_some_iff.1 h.2.2).1
theorem ChpAt.turned (h : ChpAt w W buf m r) (t : Turned [] W W') : ChpAt w W' buf m r := ⟨h.1.trans t, h.2.1.turned t (by simp), (t.same _ h.lt (by simp)).trans h.2.2⟩
theorem ChpAt.alloc (h : ChpAt w W buf m r) (o : Obj) : ChpAt w (W.alloc o) buf m r := h.turned ((Turned.rfl' [] W).alloc o)
theorem ChpAt.chan (h : ChpAt w W buf m r) (b' : List Value) (m' r' : Nat) : ChpAt w (W.setChan (w.heap.size + 1) 2 b'.toArray false m' r' false) b' m' r' := by
  have hl := h.lt
  have n1 : w.heap.size ≤ w.heap.size + 1 := by omega
  have n2 : w.heap.size + 1 ≠ w.heap.size := by omega
  refine ⟨Turned.chan h.1 n1, BlkR.chan h.2.1 n2, ?_⟩
  simp only [World.setChan]
  rw [Array.getElem?_setIfInBounds_self_of_lt hl]
theorem ChpAt.set (h : ChpAt w W buf m r) {B i : Nat} {a : Value} (hB : w.heap.size + 1 < B) : ChpAt w (W.setCell ⟨B, i, none⟩ a) buf m r := by
  have n0 : w.heap.size ≤ B := by omega
  have n1 : w.heap.size ≠ B := by omega
  have n2 : w.heap.size + 1 ≠ B := by omega
  exact ⟨Turned.setNew h.1 n0, BlkR.off h.2.1 n1, (heap_setCell_other W ⟨B, i, none⟩ _ a n2).trans h.2.2⟩
end
def ChqAt (w W : World) (Z : Nat) (v : Array Value) (buf : List Value) (m r : Nat) : Prop := ChpAt w W buf m r ∧ w.heap.size + 1 < Z ∧ BlkR W Z 0 v 6
section
variable {w W W' : World} {buf : List Value} {m r Z : Nat} {v : Array Value}
theorem ChqAt.alloc (h : ChqAt w W Z v buf m r) (o : Obj) : ChqAt w (W.alloc o) Z v buf m r := ⟨h.1.alloc o, h.2.1, h.2.2.alloc o⟩
theorem ChqAt.chan (h : ChqAt w W Z v buf m r) (b' : List Value) (m' r' : Nat) : ChqAt w (W.setChan (w.heap.size + 1) 2 b'.toArray false m' r' false) Z v b' m' r' := ⟨h.1.chan b' m' r', h.2.1, BlkR.chan h.2.2 (Nat.ne_of_lt h.2.1)⟩
theorem ChqAt.set (h : ChqAt w W Z v buf m r) (i : Nat) (a : Value) : ChqAt w (W.setCell ⟨Z, i, none⟩ a) Z (v.setIfInBounds i a) buf m r := ⟨h.1.set h.2.1, h.2.1, BlkR.set h.2.2 i a⟩
theorem ChqAt.sets (h : ChqAt w W Z v buf m r) (hv : v.size = 6) (a0 a1 a2 a3 a4 a5 : Value) : ChqAt w ((((((W.setCell ⟨Z, 0, none⟩ a0).setCell ⟨Z, 1, none⟩ a1).setCell ⟨Z, 2, none⟩ a2).setCell ⟨Z, 3, none⟩ a3).setCell ⟨Z, 4, none⟩ a4).setCell ⟨Z, 5, none⟩ a5) Z #[a0, a1, a2, a3, a4, a5] buf m r := by
  obtain ⟨l⟩ := v
  match l, hv with
  | [v0, v1, v2, v3, v4, v5], _ => exact set6 v0 v1 v2 v3 v4 v5 a0 a1 a2 a3 a4 a5 ▸ (((((h.set 0 a0).set 1 a1).set 2 a2).set 3 a3).set 4 a4).set 5 a5
theorem ChqAt.facts {v0 v1 v2 v3 v4 v5 : Value} (h : ChqAt w W Z #[v0, v1, v2, v3, v4, v5] buf m r) : W.cell? ⟨w.heap.size, 0, none⟩ = some (.int .u64 0) ∧ W.frozen? ⟨w.heap.size, 0, none⟩ = false ∧ W.cell? ⟨Z, 0, none⟩ = some v0 ∧ W.frozen? ⟨Z, 0, none⟩ = false ∧ (∀ o, (W.alloc o).cell? ⟨Z, 0, none⟩ = some v0) ∧ (∀ o, (W.alloc o).frozen? ⟨Z, 0, none⟩ = false) ∧ W.cell? ⟨w.heap.size, 1, none⟩ = some (.int .i64 0) ∧ W.frozen? ⟨w.heap.size, 1, none⟩ = false ∧ W.cell? ⟨Z, 1, none⟩ = some v1 ∧ W.frozen? ⟨Z, 1, none⟩ = false ∧ (∀ o, (W.alloc o).cell? ⟨Z, 1, none⟩ = some v1) ∧ (∀ o, (W.alloc o).frozen? ⟨Z, 1, none⟩ = false) ∧ W.cell? ⟨w.heap.size, 2, none⟩ = some (.int .i64 0) ∧ W.frozen? ⟨w.heap.size, 2, none⟩ = false ∧ W.cell? ⟨Z, 2, none⟩ = some v2 ∧ W.frozen? ⟨Z, 2, none⟩ = false ∧ (∀ o, (W.alloc o).cell? ⟨Z, 2, none⟩ = some v2) ∧ (∀ o, (W.alloc o).frozen? ⟨Z, 2, none⟩ = false) ∧ W.cell? ⟨w.heap.size, 3, none⟩ = some (.int .i64 0) ∧ W.frozen? ⟨w.heap.size, 3, none⟩ = false ∧ W.cell? ⟨Z, 3, none⟩ = some v3 ∧ W.frozen? ⟨Z, 3, none⟩ = false ∧ (∀ o, (W.alloc o).cell? ⟨Z, 3, none⟩ = some v3) ∧ (∀ o, (W.alloc o).frozen? ⟨Z, 3, none⟩ = false) ∧ W.cell? ⟨w.heap.size, 4, none⟩ = some (.int .i64 0) ∧ W.frozen? ⟨w.heap.size, 4, none⟩ = false ∧ W.cell? ⟨Z, 4, none⟩ = some v4 ∧ W.frozen? ⟨Z, 4, none⟩ = false ∧ (∀ o, (W.alloc o).cell? ⟨Z, 4, none⟩ = some v4) ∧ (∀ o, (W.alloc o).frozen? ⟨Z, 4, none⟩ = false) ∧ W.cell? ⟨w.heap.size, 5, none⟩ = some (.int .i64 0) ∧ W.frozen? ⟨w.heap.size, 5, none⟩ = false ∧ W.cell? ⟨Z, 5, none⟩ = some v5 ∧ W.frozen? ⟨Z, 5, none⟩ = false ∧ (∀ o, (W.alloc o).cell? ⟨Z, 5, none⟩ = some v5) ∧ (∀ o, (W.alloc o).frozen? ⟨Z, 5, none⟩ = false) ∧ ¬ Z = W.heap.size :=
  ⟨h.1.2.1.cell rfl, h.1.2.1.fro0 (by decide), h.2.2.cell rfl, h.2.2.fro0 (by decide), fun o => (h.2.2.alloc o).cell rfl, fun o => (h.2.2.alloc o).fro0 (by decide), h.1.2.1.cell rfl, h.1.2.1.fro0 (by decide), h.2.2.cell rfl, h.2.2.fro0 (by decide), fun o => (h.2.2.alloc o).cell rfl, fun o => (h.2.2.alloc o).fro0 (by decide), h.1.2.1.cell rfl, h.1.2.1.fro0 (by decide), h.2.2.cell rfl, h.2.2.fro0 (by decide), fun o => (h.2.2.alloc o).cell rfl, fun o => (h.2.2.alloc o).fro0 (by decide), h.1.2.1.cell rfl, h.1.2.1.fro0 (by decide), h.2.2.cell rfl, h.2.2.fro0 (by decide), fun o => (h.2.2.alloc o).cell rfl, fun o => (h.2.2.alloc o).fro0 (by decide), h.1.2.1.cell rfl, h.1.2.1.fro0 (by decide), h.2.2.cell rfl, h.2.2.fro0 (by decide), fun o => (h.2.2.alloc o).cell rfl, fun o => (h.2.2.alloc o).fro0 (by decide), h.1.2.1.cell rfl, h.1.2.1.fro0 (by decide), h.2.2.cell rfl, h.2.2.fro0 (by decide), fun o => (h.2.2.alloc o).cell rfl, fun o => (h.2.2.alloc o).fro0 (by decide), Nat.ne_of_lt h.2.2.lt⟩
theorem chq_start (h : ChpAt w W buf m r) (t : TypeId) : ChqAt w (W.alloc (.cells z6 t)) W.heap.size z6 buf m r := ⟨h.alloc _, h.lt, Blk.new W z6 t⟩
end
theorem ChRun.nilG {P : Program} {ops : Array Oper} {K : Act → World → Prop} {a : Act} {w : World} (C : World → Prop) (hC : C w) (h : ∀ W, C W → K a W) : ChRun P ops [] K a w := ChRun.nil (h w hC)
theorem zmeta (w : World) : (zeroValue 69).run Tryz.prog w = .ok (.agg z6) w := by kernel_rfl
set_option maxHeartbeats 4000000 in
theorem choose_p {w : World} {a b x y : Nat} (ha : a < 62) (hb : b < 62) (hx : x < 5) (hy : y < 5) (ea : a % 2 = 0) (eb : b % 2 = 1) : Calls Tryz.prog 83 #[.string (metaB a (x + 2)), .string (metaB b (y + 2))] w fun e w' => e = .returned (.tuple #[.agg (if a < b then metaV b (y + 2) else metaV a (x + 2)).toArray, .nilIface]) ∧ Turned [] w w' := by
  have R1 := Lib.hid (fun w => read_any (t := a) (d := x) ha hx w)
  have R2 := Lib.hid (fun w => read_any (t := b) (d := y) hb hy w)
  have P1 := Lib.hid (place_at (k := 0) place_p ha ea)
  have P2 := Lib.hid (place_at (k := 1) place_p hb eb)
  generalize metaB a (x + 2) = A at *
  generalize metaB b (y + 2) = B at *
  simp only [pageV, metaV] at R1 R2
  clear hx hy
  go_enter Tryz.func83, Tryz.ntmps83
  have MK := mkch
  have i0 : ∀ w : World, (Instr.index 158 (.agg #[.string A, .string B]) (.int .i64 0)).run Tryz.prog w = .ok (.string A) w := fun _ => by kernel_rfl
  have i1 : ∀ w : World, (Instr.index 158 (.agg #[.string A, .string B]) (.int .i64 1)).run Tryz.prog w = .ok (.string B) w := fun _ => by kernel_rfl
  generalize h7 : Code.region 7 _ false = C7
  generalize h12 : Code.region 12 _ false = C12
  go_wp2_with fail
  refine wp_loop_rounds 3 ?_
  refine gen_world (P := Code.rounds _ _ _ 3) (fun W => ChpAt w W [] 0 0) (chp_start _) ?_
  intro W hW
  have HW := Lib.hid hW
  rw [rounds_succ]
  clear hW
  go_wp2_with (first | (go_at_call 118; refine (R1.out _).mono ?_; rintro e w1 ⟨rfl, h1⟩; have h2 := HW.out.turned h1; have H2 := Lib.hid h2; clear h1 h2) | (go_at_call 107; refine (P1.out _).mono ?_; rintro e w2 ⟨rfl, rfl⟩))
  all_goals try rw [← h7]
  refine ChRun.wp ?_
  refine ChRun.cons rfl rfl (ChDo.value (by go_simp; exact ⟨rfl, rfl⟩) ?_)
  refine ChRun.cons rfl rfl (ChDo.value (by go_simp; exact ⟨rfl, rfl⟩) ?_)
  refine ChRun.cons rfl rfl (ChDo.value (by go_simp; exact ⟨rfl, rfl⟩) ?_)
  refine ChRun.cons rfl rfl (ChDo.send (B := w.heap.size + 1) (cap := 2) (s := 0) (r := 0) (buf := #[]) (v := mV a (x + 2)) rfl (by go_simp) rfl ((H2.out.alloc _).2.2) (by decide) ?_)
  refine ChRun.nil ?_
  go_wp2_with fail
  refine gen_world (P := Code.rounds _ _ _ 2) (fun W => ChpAt w W [mV a (x + 2)] 1 0) ((H2.out.alloc _).chan [mV a (x + 2)] 1 0) ?_
  clear HW H2
  intro W hW
  have HW := Lib.hid hW
  rw [rounds_succ]
  clear hW
  go_wp2_with (first | (go_at_call 118; refine (R2.out _).mono ?_; rintro e w1 ⟨rfl, h1⟩; have h2 := HW.out.turned h1; have H2 := Lib.hid h2; clear h1 h2) | (go_at_call 107; refine (P2.out _).mono ?_; rintro e w2 ⟨rfl, rfl⟩))
  rw [← h7]
  refine ChRun.wp ?_
  refine ChRun.cons rfl rfl (ChDo.value (by go_simp; exact ⟨rfl, rfl⟩) ?_)
  refine ChRun.cons rfl rfl (ChDo.value (by go_simp; exact ⟨rfl, rfl⟩) ?_)
  refine ChRun.cons rfl rfl (ChDo.value (by go_simp; exact ⟨rfl, rfl⟩) ?_)
  refine ChRun.cons rfl rfl (ChDo.send (B := w.heap.size + 1) (cap := 2) (s := 1) (r := 0) (buf := #[mV a (x + 2)]) (v := mV b (y + 2)) rfl (by go_simp) rfl ((H2.out.alloc _).2.2) (by show 1 < 2; decide) ?_)
  refine ChRun.nil ?_
  go_wp2_with fail
  refine gen_world (P := Code.rounds _ _ _ 1) (fun W => ChpAt w W [mV a (x + 2), mV b (y + 2)] 2 0) ((H2.out.alloc _).chan [mV a (x + 2), mV b (y + 2)] 2 0) ?_
  clear HW H2
  intro W hW
  have HW := Lib.hid hW
  rw [rounds_succ]
  clear hW
  go_wp2_with fail
  refine wp_loop_rounds 3 ?_
  refine gen_world (P := Code.rounds _ _ _ 3) (fun W' => ChqAt w W' W.heap.size z6 [mV a (x + 2), mV b (y + 2)] 2 0) (chq_start HW.out _) ?_
  generalize W.heap.size = Z
  clear HW
  intro W hW
  have HW := Lib.hid hW
  rw [rounds_succ]
  clear hW
  go_wp2_with fail
  rw [← h12]
  refine ChRun.wp ?_
  refine ChRun.cons rfl rfl (ChDo.selOne (s := { chan := .tmp 46, send := none, elem := 69 }) (z := .agg z6) (B := w.heap.size + 1) (cap := 2) (m := 2) (r := 0) (v := .agg #[.int .u64 (a : Int), .int .i64 0, .int .i64 0, .int .i64 0, .int .i64 0, .int .i64 (((x + 2 : Nat)) : Int)]) (buf := [mV b (y + 2)]) rfl zmeta rfl (by go_simp) HW.out.1.2.2 ?_)
  refine ChRun.cons rfl rfl (ChDo.value (by go_simp; exact ⟨rfl, rfl⟩) ?_)
  refine ChRun.cons rfl rfl (ChDo.value (by go_simp; exact ⟨rfl, rfl⟩) ?_)
  refine ChRun.nilG (fun W' => ChqAt w W' Z z6 [mV b (y + 2)] 2 1) (HW.out.chan [mV b (y + 2)] 2 1) ?_
  clear HW
  intro W hW
  have HW := Lib.hid hW
  obtain ⟨f0, f1, f2, f3, f4, f5, f6, f7, f8, f9, f10, f11, f12, f13, f14, f15, f16, f17, f18, f19, f20, f21, f22, f23, f24, f25, f26, f27, f28, f29, f30, f31, f32, f33, f34, f35, f36⟩ := hW.facts
  clear hW
  go_wp2_with fail
  refine gen_world (P := Code.rounds _ _ _ 2) (fun W' => ChqAt w W' Z #[.int .u64 (a : Int), .int .i64 0, .int .i64 0, .int .i64 0, .int .i64 0, .int .i64 ((x : Int) + 2)] [mV b (y + 2)] 2 1) ((HW.out.alloc _).sets rfl _ _ _ _ _ _) ?_
  clear HW f0 f1 f2 f3 f4 f5 f6 f7 f8 f9 f10 f11 f12 f13 f14 f15 f16 f17 f18 f19 f20 f21 f22 f23 f24 f25 f26 f27 f28 f29 f30 f31 f32 f33 f34 f35 f36
  intro W hW
  have HW := Lib.hid hW
  rw [rounds_succ]
  clear hW
  go_wp2_with fail
  rw [← h12]
  refine ChRun.wp ?_
  refine ChRun.cons rfl rfl (ChDo.selOne (s := { chan := .tmp 46, send := none, elem := 69 }) (z := .agg z6) (B := w.heap.size + 1) (cap := 2) (m := 2) (r := 1) (v := .agg #[.int .u64 (b : Int), .int .i64 0, .int .i64 0, .int .i64 0, .int .i64 0, .int .i64 (((y + 2 : Nat)) : Int)]) (buf := []) rfl zmeta rfl (by go_simp) HW.out.1.2.2 ?_)
  refine ChRun.cons rfl rfl (ChDo.value (by go_simp; exact ⟨rfl, rfl⟩) ?_)
  refine ChRun.cons rfl rfl (ChDo.value (by go_simp; exact ⟨rfl, rfl⟩) ?_)
  refine ChRun.nilG (fun W' => ChqAt w W' Z #[.int .u64 (a : Int), .int .i64 0, .int .i64 0, .int .i64 0, .int .i64 0, .int .i64 ((x : Int) + 2)] [] 2 2) (HW.out.chan [] 2 2) ?_
  clear HW
  intro W hW
  have HW := Lib.hid hW
  obtain ⟨f0, f1, f2, f3, f4, f5, f6, f7, f8, f9, f10, f11, f12, f13, f14, f15, f16, f17, f18, f19, f20, f21, f22, f23, f24, f25, f26, f27, f28, f29, f30, f31, f32, f33, f34, f35, f36⟩ := hW.facts
  clear hW
  rcases Nat.lt_or_ge a b with hab | hab
  · have hab' : (a : Int) < (b : Int) := by omega
    clear hab
    go_wp2_with fail
    refine gen_world (P := Code.rounds _ _ _ 1) (fun W' => ChqAt w W' Z #[.int .u64 (b : Int), .int .i64 0, .int .i64 0, .int .i64 0, .int .i64 0, .int .i64 ((y : Int) + 2)] [] 2 2) ((HW.out.alloc _).sets rfl _ _ _ _ _ _) ?_
    clear HW f0 f1 f2 f3 f4 f5 f6 f7 f8 f9 f10 f11 f12 f13 f14 f15 f16 f17 f18 f19 f20 f21 f22 f23 f24 f25 f26 f27 f28 f29 f30 f31 f32 f33 f34 f35 f36
    intro W hW
    have HW := Lib.hid hW
    rw [rounds_succ]
    clear hW
    go_wp2_with fail
    rw [← h12]
    refine ChRun.wp ?_
    refine ChRun.cons rfl rfl (ChDo.selNone (s := { chan := .tmp 46, send := none, elem := 69 }) (z := .agg z6) (B := w.heap.size + 1) (cap := 2) (m := 2) (r := 2) rfl zmeta rfl (by go_simp) HW.out.1.2.2 ?_)
    refine ChRun.cons rfl rfl (ChDo.value (by go_simp; exact ⟨rfl, rfl⟩) ?_)
    refine ChRun.cons rfl rfl (ChDo.value (by go_simp; exact ⟨rfl, rfl⟩) ?_)
    refine ChRun.nilG (fun W' => ChqAt w W' Z #[.int .u64 (b : Int), .int .i64 0, .int .i64 0, .int .i64 0, .int .i64 0, .int .i64 ((y : Int) + 2)] [] 2 2) HW.out ?_
    clear HW
    intro W hW
    have HW := Lib.hid hW
    obtain ⟨f0, f1, f2, f3, f4, f5, f6, f7, f8, f9, f10, f11, f12, f13, f14, f15, f16, f17, f18, f19, f20, f21, f22, f23, f24, f25, f26, f27, f28, f29, f30, f31, f32, f33, f34, f35, f36⟩ := hW.facts
    clear hW
    go_wp2_with fail
    (try simp only [Exit.inBlock, Exit.then])
    refine bodyPost_ret (v := .tuple #[.agg #[.int .u64 (b : Int), .int .i64 0, .int .i64 0, .int .i64 0, .int .i64 0, .int .i64 ((y : Int) + 2)], .nilIface]) ?_ rfl ⟨?_, ?_⟩
    · rw [results_cell_tmp rfl]; go_simp
    · rfl
    · exact Turned.setNew (Turned.setNew (Turned.setNew (Turned.setNew (Turned.setNew (Turned.setNew (HW.out.1.1) (Nat.le_refl _)) (Nat.le_refl _)) (Nat.le_refl _)) (Nat.le_refl _)) (Nat.le_refl _)) (Nat.le_refl _)
  · have hab' : ¬ (a : Int) < (b : Int) := by omega
    have hab2 : ¬ a < b := by omega
    clear hab
    go_wp2_with fail
    refine gen_world (P := Code.rounds _ _ _ 1) (fun W' => ChqAt w W' Z #[.int .u64 (a : Int), .int .i64 0, .int .i64 0, .int .i64 0, .int .i64 0, .int .i64 ((x : Int) + 2)] [] 2 2) (HW.out.alloc _) ?_
    clear HW f0 f1 f2 f3 f4 f5 f6 f7 f8 f9 f10 f11 f12 f13 f14 f15 f16 f17 f18 f19 f20 f21 f22 f23 f24 f25 f26 f27 f28 f29 f30 f31 f32 f33 f34 f35 f36
    intro W hW
    have HW := Lib.hid hW
    rw [rounds_succ]
    clear hW
    go_wp2_with fail
    rw [← h12]
    refine ChRun.wp ?_
    refine ChRun.cons rfl rfl (ChDo.selNone (s := { chan := .tmp 46, send := none, elem := 69 }) (z := .agg z6) (B := w.heap.size + 1) (cap := 2) (m := 2) (r := 2) rfl zmeta rfl (by go_simp) HW.out.1.2.2 ?_)
    refine ChRun.cons rfl rfl (ChDo.value (by go_simp; exact ⟨rfl, rfl⟩) ?_)
    refine ChRun.cons rfl rfl (ChDo.value (by go_simp; exact ⟨rfl, rfl⟩) ?_)
    refine ChRun.nilG (fun W' => ChqAt w W' Z #[.int .u64 (a : Int), .int .i64 0, .int .i64 0, .int .i64 0, .int .i64 0, .int .i64 ((x : Int) + 2)] [] 2 2) HW.out ?_
    clear HW
    intro W hW
    have HW := Lib.hid hW
    obtain ⟨f0, f1, f2, f3, f4, f5, f6, f7, f8, f9, f10, f11, f12, f13, f14, f15, f16, f17, f18, f19, f20, f21, f22, f23, f24, f25, f26, f27, f28, f29, f30, f31, f32, f33, f34, f35, f36⟩ := hW.facts
    clear hW
    go_wp2_with fail
    (try simp only [Exit.inBlock, Exit.then])
    refine bodyPost_ret (v := .tuple #[.agg #[.int .u64 (a : Int), .int .i64 0, .int .i64 0, .int .i64 0, .int .i64 0, .int .i64 ((x : Int) + 2)], .nilIface]) ?_ rfl ⟨?_, ?_⟩
    · rw [results_cell_tmp rfl]; go_simp
    · rfl
    · exact Turned.setNew (Turned.setNew (Turned.setNew (Turned.setNew (Turned.setNew (Turned.setNew (HW.out.1.1) (Nat.le_refl _)) (Nat.le_refl _)) (Nat.le_refl _)) (Nat.le_refl _)) (Nat.le_refl _)) (Nat.le_refl _)
end Go.Proofs.YtgjnadligocdkaaGreatDoor
