/-
  The document's Begin: the meta chosen.
-/
import Derived.Test.YtgjnadligocdkaaGreatDoorBgnC
set_option linter.unusedVariables false
set_option linter.unusedSimpArgs false
set_option maxRecDepth 100000
namespace Go.Proofs.YtgjnadligocdkaaGreatDoor
open Go.RowKit Go.Sort
set_option maxHeartbeats 1000000 in
theorem chooses_q {w : World} {F R β c a b x y : Nat} {most : Int} {X Y : Value} (h1 : Blk w F #[.slice (some ⟨R, β, none⟩) 2 c, X, Y]) (h2 : BlkR w R β #[.string (metaB a (x + 2)), .string (metaB b (y + 2))] c) (ha : a < 62) (hb : b < 62) (hx : x < 5) (hy : y < 5) (ea : a % 2 = 0) (eb : b % 2 = 1) :
    Calls Tryz.prog 56 #[.pointer (some ⟨F, 0, none⟩), .int .i64 most] w fun e w' => e = .returned (.tuple #[.agg (mxV a b x y).toArray, .int .i64 (if (mxL a b x y : Int) ≤ most then 0 else 19)]) ∧ Turned [] w w' := by
  have CH := Lib.hid (fun w => choose_q (w := w) ha hb hx hy ea eb)
  have PG : ∀ W : World, Turned [] w W → ∀ i : Int, i = 0 ∨ i = 1 → Calls Tryz.prog 89 #[.pointer (some ⟨F, 0, none⟩), .int .i64 i] W fun e w' => e = .returned (.string (if i = 0 then metaB a (x + 2) else metaB b (y + 2))) ∧ w' = W := by
    rintro W hW i (rfl | rfl)
    · exact page_q0 (BlkR.turned h1 hW (by simp)) (h2.turned hW (by simp))
    · exact page_q1 (BlkR.turned h1 hW (by simp)) (h2.turned hW (by simp))
  have PH := Lib.hid PG
  clear PG h1 h2
  obtain ⟨ma, mb, hm⟩ : ∃ ma mb : Nat, (if a < b then metaV b (y + 2) else metaV a (x + 2)) = metaV ma mb ∧ mxV a b x y = metaV ma mb ∧ mxL a b x y = mb := by
    unfold mxV mxL
    split
    · exact ⟨b, y + 2, rfl, rfl, rfl⟩
    · exact ⟨a, x + 2, rfl, rfl, rfl⟩
  rw [hm.2.2, hm.2.1]
  rw [hm.1] at CH
  generalize metaB a (x + 2) = Pa at *
  generalize metaB b (y + 2) = Pb at *
  clear hm ha hb hx hy ea eb
  simp only [metaV] at CH
  have T0 := Lib.hid (Turned.rfl' [] w)
  by_cases hr : (mb : Int) ≤ most
  · rw [if_pos hr]
    have hr' : ¬ most < (mb : Int) := by omega
    go_enter Tryz.func56, Tryz.ntmps56
    go_wp2_with (first | (go_at_call 89; refine (PH.out _ (T0.out.alloc _) _ (by decide)).mono ?_; rintro e w1 ⟨rfl, rfl⟩) | (go_at_call 40; refine (CH.out _).mono ?_; rintro e w2 ⟨rfl, t1⟩; have hB : BlkR w2 w.heap.size 0 z6 6 := BlkR.turned (Blk.new w z6 69) t1 (by simp); have hl : ¬ w.heap.size = w2.heap.size := (by have := hB.lt; omega); have q0 : ∀ o, (w2.alloc o).cell? ⟨w.heap.size, 0, none⟩ = some (.int .u64 0) := fun o => (hB.alloc o).cell rfl; have f0 : ∀ o, (w2.alloc o).frozen? ⟨w.heap.size, 0, none⟩ = false := fun o => (hB.alloc o).fro0 (by decide); have q1 : ∀ o, (w2.alloc o).cell? ⟨w.heap.size, 1, none⟩ = some (.int .i64 0) := fun o => (hB.alloc o).cell rfl; have f1 : ∀ o, (w2.alloc o).frozen? ⟨w.heap.size, 1, none⟩ = false := fun o => (hB.alloc o).fro0 (by decide); have q2 : ∀ o, (w2.alloc o).cell? ⟨w.heap.size, 2, none⟩ = some (.int .i64 0) := fun o => (hB.alloc o).cell rfl; have f2 : ∀ o, (w2.alloc o).frozen? ⟨w.heap.size, 2, none⟩ = false := fun o => (hB.alloc o).fro0 (by decide); have q3 : ∀ o, (w2.alloc o).cell? ⟨w.heap.size, 3, none⟩ = some (.int .i64 0) := fun o => (hB.alloc o).cell rfl; have f3 : ∀ o, (w2.alloc o).frozen? ⟨w.heap.size, 3, none⟩ = false := fun o => (hB.alloc o).fro0 (by decide); have q4 : ∀ o, (w2.alloc o).cell? ⟨w.heap.size, 4, none⟩ = some (.int .i64 0) := fun o => (hB.alloc o).cell rfl; have f4 : ∀ o, (w2.alloc o).frozen? ⟨w.heap.size, 4, none⟩ = false := fun o => (hB.alloc o).fro0 (by decide); have q5 : ∀ o, (w2.alloc o).cell? ⟨w.heap.size, 5, none⟩ = some (.int .i64 0) := fun o => (hB.alloc o).cell rfl; have f5 : ∀ o, (w2.alloc o).frozen? ⟨w.heap.size, 5, none⟩ = false := fun o => (hB.alloc o).fro0 (by decide); have HB := Lib.hid hB; clear hB; have HT := Lib.hid t1; clear t1))
    (try simp only [Exit.inBlock, Exit.then])
    refine bodyPost_ret (v := .tuple #[.agg #[.int .u64 (ma : Int), .int .i64 0, .int .i64 0, .int .i64 0, .int .i64 0, .int .i64 (mb : Int)], .int .i64 0]) ?_ rfl ⟨?_, ?_⟩
    · rw [results_cell_tmp rfl]; go_simp
    · rfl
    · have h0 : Turned [] w (w2.alloc (.cells #[.int .u64 (ma : Int), .int .i64 0, .int .i64 0, .int .i64 0, .int .i64 0, .int .i64 (mb : Int)] 69)) := ((T0.out.alloc _).trans HT.out).alloc _
      iterate 6 refine Turned.setNew ?_ (Nat.le_refl _)
      exact h0
  · rw [if_neg hr]
    have hr' : most < (mb : Int) := by omega
    clear hr
    go_enter Tryz.func56, Tryz.ntmps56
    go_wp2_with (first | (go_at_call 89; refine (PH.out _ (T0.out.alloc _) _ (by decide)).mono ?_; rintro e w1 ⟨rfl, rfl⟩) | (go_at_call 40; refine (CH.out _).mono ?_; rintro e w2 ⟨rfl, t1⟩; have hB : BlkR w2 w.heap.size 0 z6 6 := BlkR.turned (Blk.new w z6 69) t1 (by simp); have hl : ¬ w.heap.size = w2.heap.size := (by have := hB.lt; omega); have q0 : ∀ o, (w2.alloc o).cell? ⟨w.heap.size, 0, none⟩ = some (.int .u64 0) := fun o => (hB.alloc o).cell rfl; have f0 : ∀ o, (w2.alloc o).frozen? ⟨w.heap.size, 0, none⟩ = false := fun o => (hB.alloc o).fro0 (by decide); have q1 : ∀ o, (w2.alloc o).cell? ⟨w.heap.size, 1, none⟩ = some (.int .i64 0) := fun o => (hB.alloc o).cell rfl; have f1 : ∀ o, (w2.alloc o).frozen? ⟨w.heap.size, 1, none⟩ = false := fun o => (hB.alloc o).fro0 (by decide); have q2 : ∀ o, (w2.alloc o).cell? ⟨w.heap.size, 2, none⟩ = some (.int .i64 0) := fun o => (hB.alloc o).cell rfl; have f2 : ∀ o, (w2.alloc o).frozen? ⟨w.heap.size, 2, none⟩ = false := fun o => (hB.alloc o).fro0 (by decide); have q3 : ∀ o, (w2.alloc o).cell? ⟨w.heap.size, 3, none⟩ = some (.int .i64 0) := fun o => (hB.alloc o).cell rfl; have f3 : ∀ o, (w2.alloc o).frozen? ⟨w.heap.size, 3, none⟩ = false := fun o => (hB.alloc o).fro0 (by decide); have q4 : ∀ o, (w2.alloc o).cell? ⟨w.heap.size, 4, none⟩ = some (.int .i64 0) := fun o => (hB.alloc o).cell rfl; have f4 : ∀ o, (w2.alloc o).frozen? ⟨w.heap.size, 4, none⟩ = false := fun o => (hB.alloc o).fro0 (by decide); have q5 : ∀ o, (w2.alloc o).cell? ⟨w.heap.size, 5, none⟩ = some (.int .i64 0) := fun o => (hB.alloc o).cell rfl; have f5 : ∀ o, (w2.alloc o).frozen? ⟨w.heap.size, 5, none⟩ = false := fun o => (hB.alloc o).fro0 (by decide); have HB := Lib.hid hB; clear hB; have HT := Lib.hid t1; clear t1))
    (try simp only [Exit.inBlock, Exit.then])
    refine bodyPost_ret (v := .tuple #[.agg #[.int .u64 (ma : Int), .int .i64 0, .int .i64 0, .int .i64 0, .int .i64 0, .int .i64 (mb : Int)], .int .i64 19]) ?_ rfl ⟨?_, ?_⟩
    · rw [results_cell_tmp rfl]; go_simp
    · rfl
    · have h0 : Turned [] w (w2.alloc (.cells #[.int .u64 (ma : Int), .int .i64 0, .int .i64 0, .int .i64 0, .int .i64 0, .int .i64 (mb : Int)] 69)) := ((T0.out.alloc _).trans HT.out).alloc _
      iterate 6 refine Turned.setNew ?_ (Nat.le_refl _)
      exact h0
theorem fails_0 {w : World} {A : Value} : Calls Tryz.prog 57 #[A, .int .i64 0] w fun e w' => e = .returned (.tuple #[]) ∧ w' = w := by
  go_enter Tryz.func57, Tryz.ntmps57
  go_wp2_with fail
  go_end0
  exact ⟨rfl, rfl⟩
theorem fails_19 {w : World} {A : Nat} {a b : Value} {c d : Int} {l : List Value} (hA : Blk w A (a :: b :: .int .i64 c :: .int .i64 d :: l).toArray) : Calls Tryz.prog 57 #[.pointer (some ⟨A, 0, none⟩), .int .i64 19] w fun e w' => e = .returned (.tuple #[]) ∧ Turned [A] w w' ∧ Blk w' A (a :: b :: .int .i64 5 :: .int .i64 19 :: l).toArray := by
  have c2 : w.cell? ⟨A, 2, none⟩ = some (.int .i64 c) := hA.cell rfl
  have c3 : w.cell? ⟨A, 3, none⟩ = some (.int .i64 d) := hA.cell rfl
  have z2 : w.frozen? ⟨A, 2, none⟩ = false := hA.fro0 (by show 2 < (l.length + 1 + 1 + 1 + 1); omega)
  have z3 : w.frozen? ⟨A, 3, none⟩ = false := hA.fro0 (by show 3 < (l.length + 1 + 1 + 1 + 1); omega)
  have HA := Lib.hid hA
  clear hA
  go_enter Tryz.func57, Tryz.ntmps57
  go_wp2_with fail
  go_end0
  have h := Blk.setL (Blk.setL HA.out 3 (.int .i64 19)) 2 (.int .i64 5)
  simp only [List.set_cons_zero, List.set_cons_succ] at h
  exact ⟨rfl, ((Turned.rfl' [A] w).set (List.mem_cons_self ..)).set (List.mem_cons_self ..), h⟩
theorem wq_sets {W : World} {A : Nat} {most : Int} {old pg t : Value} (X : Blk W A (wqV most 2 0 zM old pg t).toArray) (v4 v5 v6 v7 v8 v9 ph : Value) :
    Blk (((((((W.setCell ⟨A, 4, none⟩ v4).setCell ⟨A, 5, none⟩ v5).setCell ⟨A, 6, none⟩ v6).setCell ⟨A, 7, none⟩ v7).setCell ⟨A, 8, none⟩ v8).setCell ⟨A, 9, none⟩ v9).setCell ⟨A, 2, none⟩ ph) A [.int .i64 1, .int .i64 most, ph, .int .i64 ((0 : Nat) : Int), v4, v5, v6, v7, v8, v9, old, pg, t, .slice none 0 0, .int .u64 0, .int .i64 0, .int .i64 0, .int .i64 0, .int .i64 0, .int .i64 0, .int .u64 0, .bool false].toArray := by
  have h := Blk.setL (Blk.setL (Blk.setL (Blk.setL (Blk.setL (Blk.setL (Blk.setL X 4 v4) 5 v5) 6 v6) 7 v7) 8 v8) 9 v9) 2 ph
  simp only [wqV, zM, List.cons_append, List.nil_append, List.set_cons_zero, List.set_cons_succ] at h
  exact h
set_option maxHeartbeats 1000000 in
theorem begin_q2 {w : World} {A F R β c st L l lk : Nat} {a b x y : Nat} {most : Int} {old pg t k p S : Value} (hA : Blk w A (wqV most 2 0 zM old pg t).toArray) (hF : FiqAt w F R β c st L l lk (metaB a (x + 2)) (metaB b (y + 2)) S) (ha : a < 62) (hb : b < 62) (hx : x < 5) (hy : y < 5) (ea : a % 2 = 0) (eb : b % 2 = 1) :
    Calls Tryz.prog 27 #[.pointer (some ⟨A, 0, none⟩), .pointer (some ⟨F, 0, none⟩), k, p] w fun e w' => e = .returned (.tuple #[.bool false, .int .i64 0]) ∧ Turned [A] w w' ∧ Blk w' A (wqV most (if (mxL a b x y : Int) ≤ most then 3 else 5) (if (mxL a b x y : Int) ≤ most then 0 else 19) (metaV (mxC a b) (mxL a b x y)) old pg t).toArray := by
  have c1 : w.cell? ⟨A, 1, none⟩ = some (.int .i64 most) := hA.cell rfl
  have c2 : w.cell? ⟨A, 2, none⟩ = some (.int .i64 2) := hA.cell rfl
  have h1 : Blk w F #[.slice (some ⟨R, β, none⟩) 2 c, S, losV st L l lk] := hF.1
  have h2 := hF.2.1
  have HA := Lib.hid hA
  clear hA hF
  by_cases hr : (mxL a b x y : Int) ≤ most
  · rw [if_pos hr, if_pos hr]
    have HC := Lib.hid (chooses_q (most := most) h1 h2 ha hb hx hy ea eb)
    rw [mx_eq, if_pos hr] at HC
    generalize mxC a b = ma at *
    generalize mxL a b x y = mb at *
    clear h1 h2 ha hb hx hy ea eb hr
    simp only [metaV] at HC
    go_enter Tryz.func27, Tryz.ntmps27
    go_wp2_with (first | (go_at_call 56; refine HC.out.mono ?_; rintro e w2 ⟨rfl, t1⟩; have X2 := HA.out.turned t1 (by simp); have y2 : ∀ o, (w2.alloc o).cell? ⟨A, 2, none⟩ = some (.int .i64 2) := fun o => (BlkR.alloc X2 o).cell rfl; have z2 : ∀ o, (w2.alloc o).frozen? ⟨A, 2, none⟩ = false := fun o => (BlkR.alloc X2 o).fro0 (by show 2 < 22; decide); have y4 : ∀ o, (w2.alloc o).cell? ⟨A, 4, none⟩ = some (.int .u64 0) := fun o => (BlkR.alloc X2 o).cell rfl; have z4 : ∀ o, (w2.alloc o).frozen? ⟨A, 4, none⟩ = false := fun o => (BlkR.alloc X2 o).fro0 (by show 4 < 22; decide); have y5 : ∀ o, (w2.alloc o).cell? ⟨A, 5, none⟩ = some (.int .i64 0) := fun o => (BlkR.alloc X2 o).cell rfl; have z5 : ∀ o, (w2.alloc o).frozen? ⟨A, 5, none⟩ = false := fun o => (BlkR.alloc X2 o).fro0 (by show 5 < 22; decide); have y6 : ∀ o, (w2.alloc o).cell? ⟨A, 6, none⟩ = some (.int .i64 0) := fun o => (BlkR.alloc X2 o).cell rfl; have z6 : ∀ o, (w2.alloc o).frozen? ⟨A, 6, none⟩ = false := fun o => (BlkR.alloc X2 o).fro0 (by show 6 < 22; decide); have y7 : ∀ o, (w2.alloc o).cell? ⟨A, 7, none⟩ = some (.int .i64 0) := fun o => (BlkR.alloc X2 o).cell rfl; have z7 : ∀ o, (w2.alloc o).frozen? ⟨A, 7, none⟩ = false := fun o => (BlkR.alloc X2 o).fro0 (by show 7 < 22; decide); have y8 : ∀ o, (w2.alloc o).cell? ⟨A, 8, none⟩ = some (.int .i64 0) := fun o => (BlkR.alloc X2 o).cell rfl; have z8 : ∀ o, (w2.alloc o).frozen? ⟨A, 8, none⟩ = false := fun o => (BlkR.alloc X2 o).fro0 (by show 8 < 22; decide); have y9 : ∀ o, (w2.alloc o).cell? ⟨A, 9, none⟩ = some (.int .i64 0) := fun o => (BlkR.alloc X2 o).cell rfl; have z9 : ∀ o, (w2.alloc o).frozen? ⟨A, 9, none⟩ = false := fun o => (BlkR.alloc X2 o).fro0 (by show 9 < 22; decide)) | (go_at_call 57; refine fails_0.mono ?_; rintro e w3 ⟨rfl, e3⟩))
    subst e3
    have hX := wq_sets (BlkR.alloc (HA.out.turned t1 (by simp)) (.cells #[.int .u64 (ma : Int), .int .i64 0, .int .i64 0, .int .i64 0, .int .i64 0, .int .i64 (mb : Int)] 69)) (.int .u64 (ma : Int)) (.int .i64 0) (.int .i64 0) (.int .i64 0) (.int .i64 0) (.int .i64 (mb : Int)) (.int .i64 3)
    have hT : Turned [A] w (((((((((w2.alloc (.cells #[.int .u64 (ma : Int), .int .i64 0, .int .i64 0, .int .i64 0, .int .i64 0, .int .i64 (mb : Int)] 69)).setCell ⟨A, 4, none⟩ (.int .u64 (ma : Int))).setCell ⟨A, 5, none⟩ (.int .i64 0)).setCell ⟨A, 6, none⟩ (.int .i64 0)).setCell ⟨A, 7, none⟩ (.int .i64 0)).setCell ⟨A, 8, none⟩ (.int .i64 0)).setCell ⟨A, 9, none⟩ (.int .i64 (mb : Int)))).setCell ⟨A, 2, none⟩ (.int .i64 3)) := by
      skip
      iterate 7 refine Turned.set ?_ (List.mem_cons_self ..)
      exact (t1.alloc _).mono (by simp)
    clear X2 y2 z2 y4 z4 y5 z5 y6 z6 y7 z7 y8 z8 y9 z9 
    generalize (((((((w2.alloc (.cells #[.int .u64 (ma : Int), .int .i64 0, .int .i64 0, .int .i64 0, .int .i64 0, .int .i64 (mb : Int)] 69)).setCell ⟨A, 4, none⟩ (.int .u64 (ma : Int))).setCell ⟨A, 5, none⟩ (.int .i64 0)).setCell ⟨A, 6, none⟩ (.int .i64 0)).setCell ⟨A, 7, none⟩ (.int .i64 0)).setCell ⟨A, 8, none⟩ (.int .i64 0)).setCell ⟨A, 9, none⟩ (.int .i64 (mb : Int))).setCell ⟨A, 2, none⟩ (.int .i64 3) = W2 at *
    have x2 : W2.cell? ⟨A, 2, none⟩ = some (.int .i64 3) := BlkR.cell hX rfl
    have g2 : ∀ n os, (grow (W2.drewN n) os).cell? ⟨A, 2, none⟩ = some (.int .i64 3) := fun n os => Ext.cell (grow_ext (w := W2) (n := n) (os := os)) x2
    have HD := Lib.hid (done_g (ph := 3) x2 (by decide))
    have HX := Lib.hid hX
    have HT := Lib.hid hT
    clear hX hT x2 t1 HC HA
    have mixed : Tryz.prog.follows .mixedOrders = true := by kernel_rfl
    refine wp_region_quiet_grown (by assumption) (by kernel_rfl) ?_
    repeat (first | go_big_quiet_step (first | (go_at_call 63; refine Calls.grown_of (HD.out _ _))) | quiet_step (first | (go_at_call 63; refine Calls.grown_of (HD.out _ _))))
    refine wpQuiet_nil ?_
    intro _ hw'
    obtain ⟨pp, hw''⟩ := hw'
    subst hw''
    have hx0 : Ext W2 (grow (W2.drewN pp.n) pp.os) := grow_ext
    generalize grow (W2.drewN pp.n) pp.os = W0 at hx0 ⊢
    clear HD g2
    go_wp2_with fail
    go_ret2
    have hx := Turned.ext (Bs := []) hx0
    exact ⟨rfl, HT.out.trans (hx.mono (by simp)), BlkR.turned HX.out hx (by simp)⟩
  · rw [if_neg hr, if_neg hr]
    have HC := Lib.hid (chooses_q (most := most) h1 h2 ha hb hx hy ea eb)
    rw [mx_eq, if_neg hr] at HC
    generalize mxC a b = ma at *
    generalize mxL a b x y = mb at *
    clear h1 h2 ha hb hx hy ea eb hr
    simp only [metaV] at HC
    go_enter Tryz.func27, Tryz.ntmps27
    go_wp2_with (first | (go_at_call 56; refine HC.out.mono ?_; rintro e w2 ⟨rfl, t1⟩; have X2 := HA.out.turned t1 (by simp); have y2 : ∀ o, (w2.alloc o).cell? ⟨A, 2, none⟩ = some (.int .i64 2) := fun o => (BlkR.alloc X2 o).cell rfl; have z2 : ∀ o, (w2.alloc o).frozen? ⟨A, 2, none⟩ = false := fun o => (BlkR.alloc X2 o).fro0 (by show 2 < 22; decide); have y4 : ∀ o, (w2.alloc o).cell? ⟨A, 4, none⟩ = some (.int .u64 0) := fun o => (BlkR.alloc X2 o).cell rfl; have z4 : ∀ o, (w2.alloc o).frozen? ⟨A, 4, none⟩ = false := fun o => (BlkR.alloc X2 o).fro0 (by show 4 < 22; decide); have y5 : ∀ o, (w2.alloc o).cell? ⟨A, 5, none⟩ = some (.int .i64 0) := fun o => (BlkR.alloc X2 o).cell rfl; have z5 : ∀ o, (w2.alloc o).frozen? ⟨A, 5, none⟩ = false := fun o => (BlkR.alloc X2 o).fro0 (by show 5 < 22; decide); have y6 : ∀ o, (w2.alloc o).cell? ⟨A, 6, none⟩ = some (.int .i64 0) := fun o => (BlkR.alloc X2 o).cell rfl; have z6 : ∀ o, (w2.alloc o).frozen? ⟨A, 6, none⟩ = false := fun o => (BlkR.alloc X2 o).fro0 (by show 6 < 22; decide); have y7 : ∀ o, (w2.alloc o).cell? ⟨A, 7, none⟩ = some (.int .i64 0) := fun o => (BlkR.alloc X2 o).cell rfl; have z7 : ∀ o, (w2.alloc o).frozen? ⟨A, 7, none⟩ = false := fun o => (BlkR.alloc X2 o).fro0 (by show 7 < 22; decide); have y8 : ∀ o, (w2.alloc o).cell? ⟨A, 8, none⟩ = some (.int .i64 0) := fun o => (BlkR.alloc X2 o).cell rfl; have z8 : ∀ o, (w2.alloc o).frozen? ⟨A, 8, none⟩ = false := fun o => (BlkR.alloc X2 o).fro0 (by show 8 < 22; decide); have y9 : ∀ o, (w2.alloc o).cell? ⟨A, 9, none⟩ = some (.int .i64 0) := fun o => (BlkR.alloc X2 o).cell rfl; have z9 : ∀ o, (w2.alloc o).frozen? ⟨A, 9, none⟩ = false := fun o => (BlkR.alloc X2 o).fro0 (by show 9 < 22; decide)) | (go_at_call 57; refine (fails_19 (wq_sets (X2.alloc _) _ _ _ _ _ _ _)).mono ?_; rintro e w3 ⟨rfl, t3, X3⟩))
    have hX := X3
    have hT : Turned [A] w w3 := by
      refine Turned.trans ?_ t3
      iterate 7 refine Turned.set ?_ (List.mem_cons_self ..)
      exact (t1.alloc _).mono (by simp)
    clear X2 y2 z2 y4 z4 y5 z5 y6 z6 y7 z7 y8 z8 y9 z9 X3 t3 
    generalize w3 = W2 at *
    have x2 : W2.cell? ⟨A, 2, none⟩ = some (.int .i64 5) := BlkR.cell hX rfl
    have g2 : ∀ n os, (grow (W2.drewN n) os).cell? ⟨A, 2, none⟩ = some (.int .i64 5) := fun n os => Ext.cell (grow_ext (w := W2) (n := n) (os := os)) x2
    have HD := Lib.hid (done_g (ph := 5) x2 (by decide))
    have HX := Lib.hid hX
    have HT := Lib.hid hT
    clear hX hT x2 t1 HC HA
    have mixed : Tryz.prog.follows .mixedOrders = true := by kernel_rfl
    refine wp_region_quiet_grown (by assumption) (by kernel_rfl) ?_
    repeat (first | go_big_quiet_step (first | (go_at_call 63; refine Calls.grown_of (HD.out _ _))) | quiet_step (first | (go_at_call 63; refine Calls.grown_of (HD.out _ _))))
    refine wpQuiet_nil ?_
    intro _ hw'
    obtain ⟨pp, hw''⟩ := hw'
    subst hw''
    have hx0 : Ext W2 (grow (W2.drewN pp.n) pp.os) := grow_ext
    generalize grow (W2.drewN pp.n) pp.os = W0 at hx0 ⊢
    clear HD g2
    go_wp2_with fail
    go_ret2
    have hx := Turned.ext (Bs := []) hx0
    exact ⟨rfl, HT.out.trans (hx.mono (by simp)), BlkR.turned HX.out hx (by simp)⟩
end Go.Proofs.YtgjnadligocdkaaGreatDoor
