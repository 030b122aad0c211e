/-
  Begin of the program: the meta chosen.
-/
import Derived.Test.YtgjnadligocdkaaGreatDoorBg
set_option linter.unusedVariables false
set_option linter.unusedSimpArgs false
set_option maxRecDepth 100000
namespace Go.Proofs.YtgjnadligocdkaaGreatDoor
open Go.RowKit Go.Sort
def mxV (a b x y : Nat) : List Value := if a < b then metaV b (y + 2) else metaV a (x + 2)
def mxC (a b : Nat) : Nat := if a < b then b else a
def mxL (a b x y : Nat) : Nat := if a < b then y + 2 else x + 2
theorem mx_eq (a b x y : Nat) : mxV a b x y = metaV (mxC a b) (mxL a b x y) := by
  unfold mxV mxC mxL; split <;> rfl
theorem ext_cells {W : World} {B i : Nat} {v : Value} (h : W.cell? ⟨B, i, none⟩ = some v) : ∀ n os, (grow (W.drewN n) os).cell? ⟨B, i, none⟩ = some v := fun n os => Ext.cell (grow_ext (w := W) (n := n) (os := os)) h
theorem wr_sets {W : World} {A : Nat} {most : Int} {old t on er : Value} (X : Blk W A (wrV most 2 zM old t on er).toArray) (v3 v4 v5 v6 v7 v8 e ph : Value) :
    Blk ((((((((W.setCell ⟨A, 3, none⟩ v3).setCell ⟨A, 4, none⟩ v4).setCell ⟨A, 5, none⟩ v5).setCell ⟨A, 6, none⟩ v6).setCell ⟨A, 7, none⟩ v7).setCell ⟨A, 8, none⟩ v8).setCell ⟨A, 20, none⟩ e).setCell ⟨A, 2, none⟩ ph) A [.int .i64 1, .int .i64 most, ph, v3, v4, v5, v6, v7, v8, old, t, on, .chan none, .int .u64 0, .int .i64 0, .int .i64 0, .int .i64 0, .int .i64 0, .int .i64 0, .bool false, e].toArray := by
  have h := Blk.setL (Blk.setL (Blk.setL (Blk.setL (Blk.setL (Blk.setL (Blk.setL (Blk.setL X 3 v3) 4 v4) 5 v5) 6 v6) 7 v7) 8 v8) 20 e) 2 ph
  simp only [wrV, zM, List.cons_append, List.nil_append, List.set_cons_zero, List.set_cons_succ] at h
  exact h
theorem wr_ph {W : World} {A : Nat} {a b c ph : Value} {l : List Value} (X : Blk W A (a :: b :: c :: l).toArray) : Blk (W.setCell ⟨A, 2, none⟩ ph) A (a :: b :: ph :: l).toArray := by
  have h := Blk.setL X 2 ph
  simp only [List.set_cons_zero, List.set_cons_succ] at h
  exact h
set_option maxHeartbeats 1000000 in
theorem begins_2 {w : World} {A F R β M st c : Nat} {a b x y : Nat} {most : Int} {old t on k p S : Value} (hA : Blk w A (wrV most 2 zM old t on .nilIface).toArray) (hF : FilAt w F R β M st c (metaB a (x + 2)) (metaB b (y + 2)) S) (ha : a < 62) (hb : b < 62) (hx : x < 5) (hy : y < 5) (ea : a % 2 = 0) (eb : b % 2 = 1) (hr : (mxL a b x y : Int) ≤ most) :
    Calls Tryz.prog 55 #[.pointer (some ⟨A, 0, none⟩), .pointer (some ⟨F, 0, none⟩), k, p] w fun e w' => e = .returned (.tuple #[]) ∧ Turned [A] w w' ∧ Blk w' A (wrV most 3 (mxV a b x y) old t on .nilIface).toArray := by
  have c1 : w.cell? ⟨A, 1, none⟩ = some (.int .i64 most) := hA.cell rfl
  have c2 : w.cell? ⟨A, 2, none⟩ = some (.int .i64 2) := hA.cell rfl
  have CH := Lib.hid (fun w => choose_p (w := w) ha hb hx hy ea eb)
  have HA := Lib.hid hA
  have P0 := page_p0 hF.1 hF.2.1
  have P1 := page_p1 hF.1 hF.2.1
  have PG : ∀ i : Int, i = 0 ∨ i = 1 → Calls Tryz.prog 41 #[.pointer (some ⟨F, 0, none⟩), .int .i64 i] w fun e w' => e = .returned (.string (if i = 0 then metaB a (x + 2) else metaB b (y + 2))) ∧ w' = w := by
    rintro i (rfl | rfl)
    · exact P0
    · exact P1
  have PH := Lib.hid PG
  clear P0 P1 PG
  clear hA hF
  obtain ⟨ma, mb, hm⟩ : ∃ ma mb : Nat, (if a < b then metaV b (y + 2) else metaV a (x + 2)) = metaV ma mb ∧ mxV a b x y = metaV ma mb ∧ mxL a b x y = mb := by
    unfold mxV mxL
    split
    · exact ⟨b, y + 2, rfl, rfl, rfl⟩
    · exact ⟨a, x + 2, rfl, rfl, rfl⟩
  rw [hm.2.2] at hr
  rw [hm.2.1]
  rw [hm.1] at CH
  generalize metaB a (x + 2) = Pa at *
  generalize metaB b (y + 2) = Pb at *
  clear hm ha hb hx hy ea eb
  simp only [metaV] at CH
  go_enter Tryz.func55, Tryz.ntmps55
  go_wp2_with (first | (go_at_call 41; refine (PH.out _ (by decide)).mono ?_; rintro e w1 ⟨rfl, rfl⟩) | (go_at_call 83; refine (CH.out _).mono ?_; rintro e w2 ⟨rfl, t1⟩))
  have hZ := Blk.new w2 #[.int .u64 (ma : Int), .int .i64 0, .int .i64 0, .int .i64 0, .int .i64 0, .int .i64 (mb : Int)] 69
  have hX := BlkR.alloc (HA.out.turned t1 (by simp)) (.cells #[.int .u64 (ma : Int), .int .i64 0, .int .i64 0, .int .i64 0, .int .i64 0, .int .i64 (mb : Int)] 69)
  have hT := t1.alloc (.cells #[.int .u64 (ma : Int), .int .i64 0, .int .i64 0, .int .i64 0, .int .i64 0, .int .i64 (mb : Int)] 69)
  clear c2
  generalize w2.alloc (.cells #[.int .u64 (ma : Int), .int .i64 0, .int .i64 0, .int .i64 0, .int .i64 0, .int .i64 (mb : Int)] 69) = W2 at hZ hX hT ⊢
  generalize w2.heap.size = Z at hZ ⊢
  clear t1 CH PH HA
  have c1 : W2.cell? ⟨A, 1, none⟩ = some (.int .i64 most) := BlkR.cell hX rfl
  have g1 := ext_cells c1
  have gZ := ext_cells (BlkR.cell hZ (i := 5) rfl)
  have HX := Lib.hid hX
  have HZ := Lib.hid hZ
  have HT := Lib.hid hT
  clear hX hZ hT c1
  have mixed : Tryz.prog.follows .mixedOrders = true := by kernel_rfl
  refine wp_region_quiet_grown (by assumption) (by kernel_rfl) ?_
  repeat (first | go_big_quiet_step (fail) | quiet_step (fail))
  refine wpQuiet_nil ?_
  intro _ hw'
  obtain ⟨pp, hw''⟩ := hw'
  subst hw''
  have hx0 : Ext W2 (grow (W2.drewN pp.n) pp.os) := grow_ext
  generalize grow (W2.drewN pp.n) pp.os = W0 at hx0 ⊢
  clear g1 gZ
  have hx := Turned.ext (Bs := []) hx0
  have X := BlkR.turned HX.out hx (by simp)
  have Y := BlkR.turned HZ.out hx (by simp)
  have m0 : W0.cell? ⟨Z, 0, none⟩ = some (.int .u64 (ma : Int)) := BlkR.cell Y rfl
  have m1 : W0.cell? ⟨Z, 1, none⟩ = some (.int .i64 0) := BlkR.cell Y rfl
  have m2 : W0.cell? ⟨Z, 2, none⟩ = some (.int .i64 0) := BlkR.cell Y rfl
  have m3 : W0.cell? ⟨Z, 3, none⟩ = some (.int .i64 0) := BlkR.cell Y rfl
  have m4 : W0.cell? ⟨Z, 4, none⟩ = some (.int .i64 0) := BlkR.cell Y rfl
  have m5 : W0.cell? ⟨Z, 5, none⟩ = some (.int .i64 (mb : Int)) := BlkR.cell Y rfl
  have y2 : W0.cell? ⟨A, 2, none⟩ = some (.int .i64 2) := BlkR.cell X rfl
  have z2 : W0.frozen? ⟨A, 2, none⟩ = false := BlkR.fro0 X (by show 2 < 21; decide)
  have y3 : W0.cell? ⟨A, 3, none⟩ = some (.int .u64 0) := BlkR.cell X rfl
  have z3 : W0.frozen? ⟨A, 3, none⟩ = false := BlkR.fro0 X (by show 3 < 21; decide)
  have y4 : W0.cell? ⟨A, 4, none⟩ = some (.int .i64 0) := BlkR.cell X rfl
  have z4 : W0.frozen? ⟨A, 4, none⟩ = false := BlkR.fro0 X (by show 4 < 21; decide)
  have y5 : W0.cell? ⟨A, 5, none⟩ = some (.int .i64 0) := BlkR.cell X rfl
  have z5 : W0.frozen? ⟨A, 5, none⟩ = false := BlkR.fro0 X (by show 5 < 21; decide)
  have y6 : W0.cell? ⟨A, 6, none⟩ = some (.int .i64 0) := BlkR.cell X rfl
  have z6 : W0.frozen? ⟨A, 6, none⟩ = false := BlkR.fro0 X (by show 6 < 21; decide)
  have y7 : W0.cell? ⟨A, 7, none⟩ = some (.int .i64 0) := BlkR.cell X rfl
  have z7 : W0.frozen? ⟨A, 7, none⟩ = false := BlkR.fro0 X (by show 7 < 21; decide)
  have y8 : W0.cell? ⟨A, 8, none⟩ = some (.int .i64 0) := BlkR.cell X rfl
  have z8 : W0.frozen? ⟨A, 8, none⟩ = false := BlkR.fro0 X (by show 8 < 21; decide)
  have y20 : W0.cell? ⟨A, 20, none⟩ = some (.nilIface) := BlkR.cell X rfl
  have z20 : W0.frozen? ⟨A, 20, none⟩ = false := BlkR.fro0 X (by show 20 < 21; decide)
  clear X Y
  go_wp2_with fail
  go_end0
  have X1 := BlkR.turned HX.out hx (by simp)
  refine ⟨rfl, ?_, ?_⟩
  · have t := (HT.out.trans hx).mono (Cs := [A]) (by simp)
    iterate 8 refine Turned.set ?_ (List.mem_cons_self ..)
    exact t
  · exact (wr_sets X1 _ _ _ _ _ _ _ _)
set_option maxHeartbeats 1000000 in
theorem begins_25 {w : World} {A F R β M st c : Nat} {a b x y : Nat} {most : Int} {old t on k p S : Value} (hA : Blk w A (wrV most 2 zM old t on .nilIface).toArray) (hF : FilAt w F R β M st c (metaB a (x + 2)) (metaB b (y + 2)) S) (ha : a < 62) (hb : b < 62) (hx : x < 5) (hy : y < 5) (ea : a % 2 = 0) (eb : b % 2 = 1) (hr : most < (mxL a b x y : Int)) :
    Calls Tryz.prog 55 #[.pointer (some ⟨A, 0, none⟩), .pointer (some ⟨F, 0, none⟩), k, p] w fun e w' => e = .returned (.tuple #[]) ∧ Turned [A] w w' ∧ Blk w' A (wrV most 5 (mxV a b x y) old t on (.iface 125 (.int .i64 19))).toArray := by
  have c1 : w.cell? ⟨A, 1, none⟩ = some (.int .i64 most) := hA.cell rfl
  have c2 : w.cell? ⟨A, 2, none⟩ = some (.int .i64 2) := hA.cell rfl
  have CH := Lib.hid (fun w => choose_p (w := w) ha hb hx hy ea eb)
  have HA := Lib.hid hA
  have P0 := page_p0 hF.1 hF.2.1
  have P1 := page_p1 hF.1 hF.2.1
  have PG : ∀ i : Int, i = 0 ∨ i = 1 → Calls Tryz.prog 41 #[.pointer (some ⟨F, 0, none⟩), .int .i64 i] w fun e w' => e = .returned (.string (if i = 0 then metaB a (x + 2) else metaB b (y + 2))) ∧ w' = w := by
    rintro i (rfl | rfl)
    · exact P0
    · exact P1
  have PH := Lib.hid PG
  clear P0 P1 PG
  clear hA hF
  obtain ⟨ma, mb, hm⟩ : ∃ ma mb : Nat, (if a < b then metaV b (y + 2) else metaV a (x + 2)) = metaV ma mb ∧ mxV a b x y = metaV ma mb ∧ mxL a b x y = mb := by
    unfold mxV mxL
    split
    · exact ⟨b, y + 2, rfl, rfl, rfl⟩
    · exact ⟨a, x + 2, rfl, rfl, rfl⟩
  rw [hm.2.2] at hr
  rw [hm.2.1]
  rw [hm.1] at CH
  generalize metaB a (x + 2) = Pa at *
  generalize metaB b (y + 2) = Pb at *
  clear hm ha hb hx hy ea eb
  simp only [metaV] at CH
  go_enter Tryz.func55, Tryz.ntmps55
  go_wp2_with (first | (go_at_call 41; refine (PH.out _ (by decide)).mono ?_; rintro e w1 ⟨rfl, rfl⟩) | (go_at_call 83; refine (CH.out _).mono ?_; rintro e w2 ⟨rfl, t1⟩))
  have hZ := Blk.new w2 #[.int .u64 (ma : Int), .int .i64 0, .int .i64 0, .int .i64 0, .int .i64 0, .int .i64 (mb : Int)] 69
  have hX := BlkR.alloc (HA.out.turned t1 (by simp)) (.cells #[.int .u64 (ma : Int), .int .i64 0, .int .i64 0, .int .i64 0, .int .i64 0, .int .i64 (mb : Int)] 69)
  have hT := t1.alloc (.cells #[.int .u64 (ma : Int), .int .i64 0, .int .i64 0, .int .i64 0, .int .i64 0, .int .i64 (mb : Int)] 69)
  clear c2
  generalize w2.alloc (.cells #[.int .u64 (ma : Int), .int .i64 0, .int .i64 0, .int .i64 0, .int .i64 0, .int .i64 (mb : Int)] 69) = W2 at hZ hX hT ⊢
  generalize w2.heap.size = Z at hZ ⊢
  clear t1 CH PH HA
  have c1 : W2.cell? ⟨A, 1, none⟩ = some (.int .i64 most) := BlkR.cell hX rfl
  have g1 := ext_cells c1
  have gZ := ext_cells (BlkR.cell hZ (i := 5) rfl)
  have HX := Lib.hid hX
  have HZ := Lib.hid hZ
  have HT := Lib.hid hT
  clear hX hZ hT c1
  have mixed : Tryz.prog.follows .mixedOrders = true := by kernel_rfl
  refine wp_region_quiet_grown (by assumption) (by kernel_rfl) ?_
  repeat (first | go_big_quiet_step (fail) | quiet_step (fail))
  refine wpQuiet_nil ?_
  intro _ hw'
  obtain ⟨pp, hw''⟩ := hw'
  subst hw''
  have hx0 : Ext W2 (grow (W2.drewN pp.n) pp.os) := grow_ext
  generalize grow (W2.drewN pp.n) pp.os = W0 at hx0 ⊢
  clear g1 gZ
  have hx := Turned.ext (Bs := []) hx0
  have X := BlkR.turned HX.out hx (by simp)
  have Y := BlkR.turned HZ.out hx (by simp)
  have m0 : W0.cell? ⟨Z, 0, none⟩ = some (.int .u64 (ma : Int)) := BlkR.cell Y rfl
  have m1 : W0.cell? ⟨Z, 1, none⟩ = some (.int .i64 0) := BlkR.cell Y rfl
  have m2 : W0.cell? ⟨Z, 2, none⟩ = some (.int .i64 0) := BlkR.cell Y rfl
  have m3 : W0.cell? ⟨Z, 3, none⟩ = some (.int .i64 0) := BlkR.cell Y rfl
  have m4 : W0.cell? ⟨Z, 4, none⟩ = some (.int .i64 0) := BlkR.cell Y rfl
  have m5 : W0.cell? ⟨Z, 5, none⟩ = some (.int .i64 (mb : Int)) := BlkR.cell Y rfl
  have y2 : W0.cell? ⟨A, 2, none⟩ = some (.int .i64 2) := BlkR.cell X rfl
  have z2 : W0.frozen? ⟨A, 2, none⟩ = false := BlkR.fro0 X (by show 2 < 21; decide)
  have y3 : W0.cell? ⟨A, 3, none⟩ = some (.int .u64 0) := BlkR.cell X rfl
  have z3 : W0.frozen? ⟨A, 3, none⟩ = false := BlkR.fro0 X (by show 3 < 21; decide)
  have y4 : W0.cell? ⟨A, 4, none⟩ = some (.int .i64 0) := BlkR.cell X rfl
  have z4 : W0.frozen? ⟨A, 4, none⟩ = false := BlkR.fro0 X (by show 4 < 21; decide)
  have y5 : W0.cell? ⟨A, 5, none⟩ = some (.int .i64 0) := BlkR.cell X rfl
  have z5 : W0.frozen? ⟨A, 5, none⟩ = false := BlkR.fro0 X (by show 5 < 21; decide)
  have y6 : W0.cell? ⟨A, 6, none⟩ = some (.int .i64 0) := BlkR.cell X rfl
  have z6 : W0.frozen? ⟨A, 6, none⟩ = false := BlkR.fro0 X (by show 6 < 21; decide)
  have y7 : W0.cell? ⟨A, 7, none⟩ = some (.int .i64 0) := BlkR.cell X rfl
  have z7 : W0.frozen? ⟨A, 7, none⟩ = false := BlkR.fro0 X (by show 7 < 21; decide)
  have y8 : W0.cell? ⟨A, 8, none⟩ = some (.int .i64 0) := BlkR.cell X rfl
  have z8 : W0.frozen? ⟨A, 8, none⟩ = false := BlkR.fro0 X (by show 8 < 21; decide)
  have y20 : W0.cell? ⟨A, 20, none⟩ = some (.nilIface) := BlkR.cell X rfl
  have z20 : W0.frozen? ⟨A, 20, none⟩ = false := BlkR.fro0 X (by show 20 < 21; decide)
  clear X Y
  go_wp2_with fail
  go_end0
  have X1 := BlkR.turned HX.out hx (by simp)
  refine ⟨rfl, ?_, ?_⟩
  · have t := (HT.out.trans hx).mono (Cs := [A]) (by simp)
    iterate 9 refine Turned.set ?_ (List.mem_cons_self ..)
    exact t
  · exact (wr_ph (wr_sets X1 _ _ _ _ _ _ _ _))
theorem begin_2 {w : World} {A F R β M st c : Nat} {a b x y : Nat} {most : Int} {old t on k p S : Value} (hA : Blk w A (wrV most 2 zM old t on .nilIface).toArray) (hF : FilAt w F R β M st c (metaB a (x + 2)) (metaB b (y + 2)) S) (ha : a < 62) (hb : b < 62) (hx : x < 5) (hy : y < 5) (ea : a % 2 = 0) (eb : b % 2 = 1) :
    Calls Tryz.prog 26 #[.pointer (some ⟨A, 0, none⟩), .pointer (some ⟨F, 0, none⟩), k, p] w fun e w' => e = .returned (.tuple #[.bool false, .nilIface]) ∧ Turned [A] w w' ∧ Blk w' A (wrV most (if (mxL a b x y : Int) ≤ most then 3 else 5) (metaV (mxC a b) (mxL a b x y)) old t on (if (mxL a b x y : Int) ≤ most then .nilIface else .iface 125 (.int .i64 19))).toArray := by
  have c2 : w.cell? ⟨A, 2, none⟩ = some (.int .i64 2) := hA.cell rfl
  rw [← mx_eq]
  by_cases hr : (mxL a b x y : Int) ≤ most
  · rw [if_pos hr, if_pos hr]
    have BG := Lib.hid (begins_2 (k := k) (p := p) hA hF ha hb hx hy ea eb hr)
    clear hA hF hr
    go_enter Tryz.func26, Tryz.ntmps26
    go_wp2_with (go_at_call 55; refine BG.out.mono ?_; rintro e w1 ⟨rfl, t1, k1⟩; have d2 : w1.cell? ⟨A, 2, none⟩ = some (.int .i64 3) := BlkR.cell k1 rfl)
    go_ret2
    exact ⟨rfl, t1, k1⟩
  · rw [if_neg hr, if_neg hr]
    have BG := Lib.hid (begins_25 (k := k) (p := p) hA hF ha hb hx hy ea eb (by omega))
    clear hA hF hr
    go_enter Tryz.func26, Tryz.ntmps26
    go_wp2_with (go_at_call 55; refine BG.out.mono ?_; rintro e w1 ⟨rfl, t1, k1⟩; have d2 : w1.cell? ⟨A, 2, none⟩ = some (.int .i64 5) := BlkR.cell k1 rfl)
    go_ret2
    exact ⟨rfl, t1, k1⟩
end Go.Proofs.YtgjnadligocdkaaGreatDoor
