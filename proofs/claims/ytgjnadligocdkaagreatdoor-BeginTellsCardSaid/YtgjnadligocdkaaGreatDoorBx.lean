/-
  Begin of both sides, from the states on. What the statement looks at behind each step: contracts in every grown world. Errors as numbers. Both sides together, step by step; and how they begin. How both sides begin.
-/
import Derived.Test.YtgjnadligocdkaaGreatDoorBs
import Derived.Test.YtgjnadligocdkaaGreatDoorBgnR
import Derived.Test.YtgjnadligocdkaaGreatDoorBgnD
set_option linter.unusedVariables false
set_option linter.unusedSimpArgs false
set_option maxRecDepth 100000
namespace Go.Proofs.YtgjnadligocdkaaGreatDoor
open Go.RowKit
theorem Ps.mt_len (s : Ps) : s.mt.length = 6 := by
  unfold Ps.mt; split <;> rfl
theorem b1_mt {s : Ps} (hp : s.ph = 1) : s.b1.mt = s.mt ∧ s.b1.ep = s.ep ∧ s.b1.eq = s.eq := by
  unfold Ps.mt Ps.ep Ps.eq
  have : s.b1.ph = if takeB s.W 1 s.alive then 2 else 1 := rfl
  rw [this, hp]
  split <;> exact ⟨rfl, rfl, rfl⟩
section
variable {w : World} {p : Pb} {q : Qb} {s : Ps} {most : Int}
theorem p_begin1 (h : PSt w p s most) (ok : s.Ok most) (hp : s.ph = 1) : Calls Tryz.prog 26 #[.pointer (some ⟨p.A, 0, none⟩), .pointer (some ⟨p.F, 0, none⟩), .pointer (some ⟨p.K, 0, none⟩), .pointer (some ⟨p.P, 0, none⟩)] w fun e w' => e = .returned (.tuple #[.bool false, .nilIface]) ∧ PTo w p s.b1 most w' := by
  have hw := h.wr
  rw [hp] at hw
  refine (begin_1 (w := w) hw s.mt_len h.lk h.pr (nd h.nd (i := 4) (j := 3) rfl rfl (by decide)) (nd h.nd (i := 5) (j := 3) rfl rfl (by decide)) (nd h.nd (i := 5) (j := 4) rfl rfl (by decide)) (takeQ_in ok.W (.inl rfl)) ok.n (nd h.nd (i := 6) (j := 3) rfl rfl (by decide)) (nd h.nd (i := 6) (j := 4) rfl rfl (by decide)) (nd h.nd (i := 6) (j := 5) rfl rfl (by decide))).mono ?_
  rintro e w' ⟨rfl, t, x, k, d', pr⟩
  have o := fun {i a} (hi : p.foot[i]? = some a) (n : i ≠ 6 ∧ i ≠ 3 ∧ i ≠ 4 ∧ i ≠ 5) => out4 h.nd hi (j := 6) (k := 3) (m := 4) (o := 5) rfl rfl rfl rfl n
  refine ⟨rfl, { p with d := d' }, ⟨h.fil.turned t (o (i := 0) rfl (by decide)) (o (i := 1) rfl (by decide)) (o (i := 2) rfl (by decide)), k, pr, ?_, h.nd, h.o⟩, t.mono (sub4 (j := 6) (k := 3) (m := 4) (o := 5) rfl rfl rfl rfl), rfl, rfl, rfl, rfl, fun x hx => .inl hx⟩
  rw [(b1_mt hp).1, (b1_mt hp).2.1]
  exact x
theorem q_begin1 (h : QSt w q s most) (ok : s.Ok most) (hp : s.ph = 1) : Calls Tryz.prog 27 #[.pointer (some ⟨q.A, 0, none⟩), .pointer (some ⟨q.F, 0, none⟩), .pointer (some ⟨q.K, 0, none⟩), .pointer (some ⟨q.P, 0, none⟩)] w fun e w' => e = .returned (.tuple #[.bool false, .int .i64 0]) ∧ QTo w q s.b1 most w' := by
  have hw := h.wr
  rw [hp] at hw
  refine (begin_q1 (w := w) hw s.mt_len h.lk h.pr (nd h.nd (i := 4) (j := 3) rfl rfl (by decide)) (nd h.nd (i := 5) (j := 3) rfl rfl (by decide)) (nd h.nd (i := 5) (j := 4) rfl rfl (by decide)) (takeQ_in ok.W (.inl rfl)) ok.n (nd h.nd (i := 6) (j := 3) rfl rfl (by decide)) (nd h.nd (i := 6) (j := 4) rfl rfl (by decide)) (nd h.nd (i := 6) (j := 5) rfl rfl (by decide))).mono ?_
  rintro e w' ⟨rfl, t, x, k, d', pr⟩
  have o := fun {i a} (hi : q.foot[i]? = some a) (n : i ≠ 6 ∧ i ≠ 3 ∧ i ≠ 4 ∧ i ≠ 5) => out4 h.nd hi (j := 6) (k := 3) (m := 4) (o := 5) rfl rfl rfl rfl n
  refine ⟨rfl, { q with d := d' }, ⟨h.fil.turned t (o (i := 0) rfl (by decide)) (o (i := 1) rfl (by decide)) (o (i := 2) rfl (by decide)), k, pr, ?_, h.nd, h.o, Nat.lt_of_lt_of_le h.L t.size⟩, t.mono (sub4 (j := 6) (k := 3) (m := 4) (o := 5) rfl rfl rfl rfl), rfl, rfl, rfl, rfl, fun x hx => .inl hx⟩
  rw [(b1_mt hp).1, (b1_mt hp).2.2]
  exact x
theorem p_begin3 (h : PSt w p s most) (ok : s.Ok most) (hp : s.ph = 3) : Calls Tryz.prog 26 #[.pointer (some ⟨p.A, 0, none⟩), .pointer (some ⟨p.F, 0, none⟩), .pointer (some ⟨p.K, 0, none⟩), .pointer (some ⟨p.P, 0, none⟩)] w fun e w' => e = .returned (.tuple #[.bool false, .nilIface]) ∧ PTo w p s.b3 most w' := by
  have hw := h.wr
  have e1 : s.mt = metaV s.ma s.mb := by unfold Ps.mt; rw [if_neg (by omega)]
  have e2 : s.b3.mt = metaV s.ma s.mb := rfl
  have e3 : s.b3.ep = s.ep := by unfold Ps.ep; rw [hp]; rfl
  rw [hp, e1] at hw
  refine (begin_3 (w := w) hw (ok.chosen (by omega)).1 h.lk h.pr (nd h.nd (i := 4) (j := 3) rfl rfl (by decide)) (nd h.nd (i := 5) (j := 3) rfl rfl (by decide)) (nd h.nd (i := 5) (j := 4) rfl rfl (by decide)) ok.W ok.n (swT_lt ok.T) (nd h.nd (i := 6) (j := 3) rfl rfl (by decide)) (nd h.nd (i := 6) (j := 4) rfl rfl (by decide)) (nd h.nd (i := 6) (j := 5) rfl rfl (by decide))).mono ?_
  rintro e w' ⟨rfl, t, ⟨m, hm, x⟩, k, d', pr⟩
  have o := fun {i a} (hi : p.foot[i]? = some a) (n : i ≠ 6 ∧ i ≠ 3 ∧ i ≠ 4 ∧ i ≠ 5) => out4 h.nd hi (j := 6) (k := 3) (m := 4) (o := 5) rfl rfl rfl rfl n
  refine ⟨rfl, { p with d := d', o := m }, ⟨h.fil.turned t (o (i := 0) rfl (by decide)) (o (i := 1) rfl (by decide)) (o (i := 2) rfl (by decide)), k, pr, ?_, h.nd, hm⟩, t.mono (sub4 (j := 6) (k := 3) (m := 4) (o := 5) rfl rfl rfl rfl), rfl, rfl, rfl, rfl, fun x hx => .inl hx⟩
  rw [e2, e3]
  exact x
theorem q_begin3 (h : QSt w q s most) (ok : s.Ok most) (hp : s.ph = 3) : Calls Tryz.prog 27 #[.pointer (some ⟨q.A, 0, none⟩), .pointer (some ⟨q.F, 0, none⟩), .pointer (some ⟨q.K, 0, none⟩), .pointer (some ⟨q.P, 0, none⟩)] w fun e w' => e = .returned (.tuple #[.bool false, .int .i64 0]) ∧ QTo w q s.b3 most w' := by
  have hw := h.wr
  have e1 : s.mt = metaV s.ma s.mb := by unfold Ps.mt; rw [if_neg (by omega)]
  have e2 : s.b3.mt = metaV s.ma s.mb := rfl
  have e3 : s.b3.eq = s.eq := by unfold Ps.eq; rw [hp]; rfl
  rw [hp, e1] at hw
  refine (begin_q3 (w := w) hw (ok.chosen (by omega)).1 h.lk h.pr (nd h.nd (i := 4) (j := 3) rfl rfl (by decide)) (nd h.nd (i := 5) (j := 3) rfl rfl (by decide)) (nd h.nd (i := 5) (j := 4) rfl rfl (by decide)) ok.W ok.n (swT_lt ok.T) (nd h.nd (i := 6) (j := 3) rfl rfl (by decide)) (nd h.nd (i := 6) (j := 4) rfl rfl (by decide)) (nd h.nd (i := 6) (j := 5) rfl rfl (by decide))).mono ?_
  rintro e w' ⟨rfl, t, ⟨m, hm, x⟩, k, d', pr⟩
  have o := fun {i a} (hi : q.foot[i]? = some a) (n : i ≠ 6 ∧ i ≠ 3 ∧ i ≠ 4 ∧ i ≠ 5) => out4 h.nd hi (j := 6) (k := 3) (m := 4) (o := 5) rfl rfl rfl rfl n
  refine ⟨rfl, { q with d := d', o := m }, ⟨h.fil.turned t (o (i := 0) rfl (by decide)) (o (i := 1) rfl (by decide)) (o (i := 2) rfl (by decide)), k, pr, ?_, h.nd, hm, Nat.lt_of_lt_of_le h.L t.size⟩, t.mono (sub4 (j := 6) (k := 3) (m := 4) (o := 5) rfl rfl rfl rfl), rfl, rfl, rfl, rfl, fun x hx => .inl hx⟩
  rw [e2, e3]
  exact x
theorem p_begin2 (h : PSt w p s most) (ok : s.Ok most) (hp : s.ph = 2) : Calls Tryz.prog 26 #[.pointer (some ⟨p.A, 0, none⟩), .pointer (some ⟨p.F, 0, none⟩), .pointer (some ⟨p.K, 0, none⟩), .pointer (some ⟨p.P, 0, none⟩)] w fun e w' => e = .returned (.tuple #[.bool false, .nilIface]) ∧ PTo w p (s.b2 most) most w' := by
  have hw := h.wr
  have e1 : s.mt = zM := by unfold Ps.mt; rw [hp]; rfl
  have e3 : s.ep = .nilIface := by unfold Ps.ep; rw [hp]; rfl
  rw [hp, e1, e3] at hw
  refine (begin_2 (w := w) hw h.fil ok.a ok.b ok.x ok.y ok.ea ok.eb).mono ?_
  rintro e w' ⟨rfl, t, x⟩
  have o := fun {i a} (hi : p.foot[i]? = some a) (n : i ≠ 6) => out1 h.nd hi (j := 6) rfl n
  refine ⟨rfl, p, ⟨h.fil.turned t (o (i := 0) rfl (by decide)) (o (i := 1) rfl (by decide)) (o (i := 2) rfl (by decide)), BlkR.turned h.lk t (o (i := 3) rfl (by decide)), h.pr.turned t (o (i := 4) rfl (by decide)) (o (i := 5) rfl (by decide)), ?_, h.nd, h.o⟩, t.mono (sub1 (j := 6) rfl), rfl, rfl, rfl, rfl, fun x hx => .inl hx⟩
  have f1 : (s.b2 most).mt = metaV s.cm s.cl := by
    unfold Ps.mt Ps.b2
    show (if (if (s.cl : Int) ≤ most then 3 else 5) < 3 then zM else _) = _
    rw [if_neg]
    split <;> omega
  have f2 : (s.b2 most).ep = if (s.cl : Int) ≤ most then .nilIface else .iface 125 (.int .i64 19) := by
    unfold Ps.ep Ps.b2
    show (if (if (s.cl : Int) ≤ most then 3 else 5) = 5 then _ else _) = _
    by_cases q : (s.cl : Int) ≤ most
    · rw [if_pos q, if_pos q]; rfl
    · rw [if_neg q, if_neg q]; rfl
  rw [f1, f2]
  exact x
theorem q_begin2 (h : QSt w q s most) (ok : s.Ok most) (hp : s.ph = 2) : Calls Tryz.prog 27 #[.pointer (some ⟨q.A, 0, none⟩), .pointer (some ⟨q.F, 0, none⟩), .pointer (some ⟨q.K, 0, none⟩), .pointer (some ⟨q.P, 0, none⟩)] w fun e w' => e = .returned (.tuple #[.bool false, .int .i64 0]) ∧ QTo w q (s.b2 most) most w' := by
  have hw := h.wr
  have e1 : s.mt = zM := by unfold Ps.mt; rw [hp]; rfl
  have e3 : s.eq = 0 := by unfold Ps.eq; rw [hp]; rfl
  rw [hp, e1, e3] at hw
  refine (begin_q2 (w := w) hw h.fil ok.a ok.b ok.x ok.y ok.ea ok.eb).mono ?_
  rintro e w' ⟨rfl, t, x⟩
  have o := fun {i a} (hi : q.foot[i]? = some a) (n : i ≠ 6) => out1 h.nd hi (j := 6) rfl n
  refine ⟨rfl, q, ⟨h.fil.turned t (o (i := 0) rfl (by decide)) (o (i := 1) rfl (by decide)) (o (i := 2) rfl (by decide)), BlkR.turned h.lk t (o (i := 3) rfl (by decide)), h.pr.turned t (o (i := 4) rfl (by decide)) (o (i := 5) rfl (by decide)), ?_, h.nd, h.o, Nat.lt_of_lt_of_le h.L t.size⟩, t.mono (sub1 (j := 6) rfl), rfl, rfl, rfl, rfl, fun x hx => .inl hx⟩
  have f1 : (s.b2 most).mt = metaV s.cm s.cl := by
    unfold Ps.mt Ps.b2
    show (if (if (s.cl : Int) ≤ most then 3 else 5) < 3 then zM else _) = _
    rw [if_neg]
    split <;> omega
  have f2 : (s.b2 most).eq = if (s.cl : Int) ≤ most then 0 else 19 := by
    unfold Ps.eq Ps.b2
    show (if (if (s.cl : Int) ≤ most then 3 else 5) = 5 then _ else _) = _
    by_cases q : (s.cl : Int) ≤ most
    · rw [if_pos q, if_pos q]; rfl
    · rw [if_neg q, if_neg q]; rfl
  rw [f1, f2]
  exact x
structure PEnd (w' : World) (p : Pb) (W n : Nat) (T : Nat → Nat) (tv : Value) : Prop where
  lk : LkAt w' p.K W n T
  t : w'.cell? ⟨p.A, 10, none⟩ = some tv
structure QEnd (w' : World) (q : Qb) (W n : Nat) (T : Nat → Nat) (tv : Value) : Prop where
  lk : LkAt w' q.K W n T
  t : w'.cell? ⟨q.A, 12, none⟩ = some tv
theorem p_begin5 (h : PSt w p s most) (ok : s.Ok most) (hp : s.ph = 5) : Calls Tryz.prog 26 #[.pointer (some ⟨p.A, 0, none⟩), .pointer (some ⟨p.F, 0, none⟩), .pointer (some ⟨p.K, 0, none⟩), .pointer (some ⟨p.P, 0, none⟩)] w fun e w' => e = .returned (.tuple #[.bool true, .iface 125 (.int .i64 19)]) ∧ Turned p.foot w w' ∧ PEnd w' p 0 s.n s.T (.pointer none) := by
  have hw := h.wr
  have e3 : s.ep = .iface 125 (.int .i64 19) := by unfold Ps.ep; rw [if_pos hp]
  have hl := h.lk
  rw [ok.own (by omega)] at hl
  rw [hp, e3] at hw
  refine (begin_5 (w := w) hw s.mt_len hl ok.n (nd h.nd (i := 6) (j := 3) rfl rfl (by decide))).mono ?_
  rintro e w' ⟨rfl, t, x, k⟩
  obtain ⟨m0, m1, m2, m3, m4, m5, hm⟩ := len6 s.mt_len
  rw [hm] at x
  exact ⟨rfl, t.mono (sub2 (j := 6) (k := 3) rfl rfl), k, BlkR.cell x rfl⟩
theorem q_begin5 (h : QSt w q s most) (ok : s.Ok most) (hp : s.ph = 5) : Calls Tryz.prog 27 #[.pointer (some ⟨q.A, 0, none⟩), .pointer (some ⟨q.F, 0, none⟩), .pointer (some ⟨q.K, 0, none⟩), .pointer (some ⟨q.P, 0, none⟩)] w fun e w' => e = .returned (.tuple #[.bool true, .int .i64 19]) ∧ Turned q.foot w w' ∧ QEnd w' q 0 s.n s.T (.pointer none) := by
  have hw := h.wr
  have e3 : s.eq = 19 := by unfold Ps.eq; rw [if_pos hp]
  have hl := h.lk
  rw [ok.own (by omega)] at hl
  rw [hp, e3] at hw
  refine (begin_q5 (w := w) hw s.mt_len hl ok.n (nd h.nd (i := 6) (j := 3) rfl rfl (by decide))).mono ?_
  rintro e w' ⟨rfl, t, x, k⟩
  obtain ⟨m0, m1, m2, m3, m4, m5, hm⟩ := len6 s.mt_len
  rw [hm] at x
  exact ⟨rfl, t.mono (sub2 (j := 6) (k := 3) rfl rfl), k, BlkR.cell x rfl⟩
theorem p_begin4 (h : PSt w p s most) (ok : s.Ok most) (hp : s.ph = 4) (hM : most ≤ IntKind.i64.max) : Calls Tryz.prog 26 #[.pointer (some ⟨p.A, 0, none⟩), .pointer (some ⟨p.F, 0, none⟩), .pointer (some ⟨p.K, 0, none⟩), .pointer (some ⟨p.P, 0, none⟩)] w fun e w' => e = .returned (.tuple #[.bool true, .nilIface]) ∧ Turned p.foot w w' ∧ ∃ TB τ SB θ, w.heap.size ≤ TB ∧ w.heap.size ≤ SB ∧ PEnd w' p s.W s.n s.T (.pointer (some ⟨TB, τ, none⟩)) ∧ TxAt w' TB τ 7 SB θ 3 s.ma s.mb := by
  have hw := h.wr
  have e1 : s.mt = metaV s.ma s.mb := by unfold Ps.mt; rw [if_neg (by omega)]
  have e3 : s.ep = .nilIface := by unfold Ps.ep; rw [if_neg (by omega)]
  rw [hp, e1, e3] at hw
  refine (begin_4 (w := w) (one_ptr _) one_nilsl (one_ptr _) (one_ptr _) (one_ptr _) hw (ok.chosen (by omega)).2 (ok.room (by omega) (by omega)) hM).mono ?_
  rintro e w' ⟨rfl, t, TB, τ, SB, θ, z1, z2, x, y⟩
  exact ⟨rfl, t.mono (sub1 (j := 6) rfl), TB, τ, SB, θ, z1, z2, ⟨BlkR.turned h.lk t (out1 h.nd (i := 3) (j := 6) rfl rfl (by decide)), x⟩, y⟩
theorem q_begin4 (h : QSt w q s most) (ok : s.Ok most) (hp : s.ph = 4) (hM : most ≤ IntKind.i64.max) : Calls Tryz.prog 27 #[.pointer (some ⟨q.A, 0, none⟩), .pointer (some ⟨q.F, 0, none⟩), .pointer (some ⟨q.K, 0, none⟩), .pointer (some ⟨q.P, 0, none⟩)] w fun e w' => e = .returned (.tuple #[.bool true, .int .i64 0]) ∧ Turned q.foot w w' ∧ ∃ TB τ SB θ, w.heap.size ≤ TB ∧ w.heap.size ≤ SB ∧ QEnd w' q s.W s.n s.T (.pointer (some ⟨TB, τ, none⟩)) ∧ TxAt w' TB τ 9 SB θ 3 s.ma s.mb := by
  have hw := h.wr
  have e1 : s.mt = metaV s.ma s.mb := by unfold Ps.mt; rw [if_neg (by omega)]
  have e3 : s.eq = 0 := by unfold Ps.eq; rw [if_neg (by omega)]
  rw [hp, e1, e3] at hw
  refine (begin_q4 (w := w) one_nilsl (one_ptr _) (one_ptr _) (one_ptr _) (one_ptr _) hw (ok.chosen (by omega)).2 (ok.room (by omega) (by omega)) hM).mono ?_
  rintro e w' ⟨rfl, t, TB, τ, SB, θ, z1, z2, x, y⟩
  exact ⟨rfl, t.mono (sub1 (j := 6) rfl), TB, τ, SB, θ, z1, z2, ⟨BlkR.turned h.lk t (out1 h.nd (i := 3) (j := 6) rfl rfl (by decide)), x⟩, y⟩
end
end Go.Proofs.YtgjnadligocdkaaGreatDoor
set_option linter.unusedVariables false
set_option linter.unusedSimpArgs false
set_option maxRecDepth 100000
namespace Go.Proofs.YtgjnadligocdkaaGreatDoor
open Go.RowKit Go.Sort
theorem Gr.setNew {a b : World} (h : Gr a b) {B i : Nat} {v : Value} (hB : a.heap.size ≤ B) : Gr a (b.setCell ⟨B, i, none⟩ v) := by
  obtain ⟨q, os, rfl⟩ := h
  exact ⟨q, _, congrArg (fun h => ({ (a.drewN q) with heap := h } : World)) (modify_append_right a.heap os B _ hB)⟩
def GC (g : Nat) (args : Array Value) (v : Value) (W : World) : Prop := ∀ nq os, Calls Tryz.prog g args (grow (W.drewN nq) os) fun e w' => e = .returned v ∧ ∃ q os', w' = grow ((grow (W.drewN nq) os).drewN q) os'
theorem gc_of {g : Nat} {args : Array Value} {v : Value} {W : World} {P : World → Prop} (hP : P W) (hk : ∀ w w', P w → Ext w w' → P w') (h : ∀ w, P w → Calls Tryz.prog g args w fun e w' => e = .returned v ∧ Gr w w') : GC g args v W := fun nq os => (h _ (hk _ _ hP grow_ext)).mono fun e w' q => ⟨q.1, q.2⟩
theorem gc_same {g : Nat} {args : Array Value} {v : Value} {W : World} {P : World → Prop} (hP : P W) (hk : ∀ w w', P w → Ext w w' → P w') (h : ∀ w, P w → Calls Tryz.prog g args w fun e w' => e = .returned v ∧ w' = w) : GC g args v W :=
  gc_of hP hk fun w hw => (h w hw).mono fun e w' q => ⟨q.1, by rw [q.2]; exact Gr.rfl' w⟩
theorem txn_p {w : World} {A : Nat} {tv : Value} (c : w.cell? ⟨A, 10, none⟩ = some tv) : Calls Tryz.prog 29 #[.pointer (some ⟨A, 0, none⟩)] w fun e w' => e = .returned tv ∧ w' = w := by
  go_enter Tryz.func29, Tryz.ntmps29
  go_wp2_with fail
  go_ret
  exact ⟨rfl, rfl⟩
theorem phase_p {w : World} {A : Nat} {tv : Value} (c : w.cell? ⟨A, 2, none⟩ = some tv) : Calls Tryz.prog 36 #[.pointer (some ⟨A, 0, none⟩)] w fun e w' => e = .returned tv ∧ w' = w := by
  go_enter Tryz.func36, Tryz.ntmps36
  go_wp2_with fail
  go_ret
  exact ⟨rfl, rfl⟩
theorem store_p {w : World} {T τ : Nat} {tv : Value} (c : w.cell? ⟨T, τ + 7, none⟩ = some tv) : Calls Tryz.prog 32 #[.pointer (some ⟨T, τ, none⟩)] w fun e w' => e = .returned tv ∧ w' = w := by
  go_enter Tryz.func32, Tryz.ntmps32
  go_wp2_with fail
  go_ret
  exact ⟨rfl, rfl⟩
theorem clone_0 (w : World) : Calls Tryz.prog 65 #[.slice none 0 0] w fun e w' => e = .returned (.slice none 0 0) ∧ w' = w := by
  have heq := run_eql_nil_slice (P := Tryz.prog) w 42 3 none 0 0 0 0 Tryz.underlying42
  go_enter Tryz.func65, Tryz.ntmps65
  go_wp2_with fail
  go_ret
  exact ⟨rfl, rfl⟩
theorem avail_p {w : World} {S θ : Nat} (c : w.cell? ⟨S, θ + 3, none⟩ = some (.slice none 0 0)) : Calls Tryz.prog 33 #[.pointer (some ⟨S, θ, none⟩)] w fun e w' => e = .returned (.slice none 0 0) ∧ w' = w := by
  go_enter Tryz.func33, Tryz.ntmps33
  go_wp2_with (refine (clone_0 _).mono ?_; rintro e w1 ⟨rfl, rfl⟩)
  go_ret
  exact ⟨rfl, rfl⟩
theorem ints_0 (w : World) : Calls Tryz.prog 31 #[.slice none 0 0, .slice none 0 0] w fun e w' => e = .returned (.bool true) ∧ w' = w := by
  go_enter Tryz.func31, Tryz.ntmps31
  go_wp2_with fail
  refine wp_loop_rounds 1 ?_
  rw [rounds_succ]
  go_wp2_with fail
  go_ret
  exact ⟨rfl, rfl⟩
theorem meta_p {w : World} {T τ a L : Nat} (c : ∀ (k : Nat) (v : Value), (metaV a L)[k]? = some v → w.cell? ⟨T, τ + k, none⟩ = some v) : Calls Tryz.prog 30 #[.pointer (some ⟨T, τ, none⟩)] w fun e w' => e = .returned (.agg (metaV a L).toArray) ∧ Gr w w' := by
  have c0 : w.cell? ⟨T, τ, none⟩ = some (.int .u64 (a : Int)) := c 0 _ rfl
  have c1 : w.cell? ⟨T, τ + 1, none⟩ = some (.int .i64 0) := c 1 _ rfl
  have c2 : w.cell? ⟨T, τ + 2, none⟩ = some (.int .i64 0) := c 2 _ rfl
  have c3 : w.cell? ⟨T, τ + 3, none⟩ = some (.int .i64 0) := c 3 _ rfl
  have c4 : w.cell? ⟨T, τ + 4, none⟩ = some (.int .i64 0) := c 4 _ rfl
  have c5 : w.cell? ⟨T, τ + 5, none⟩ = some (.int .i64 (L : Int)) := c 5 _ rfl
  have e : ∀ (o : Obj) k v, w.cell? ⟨T, τ + k, none⟩ = some v → (w.alloc o).cell? ⟨T, τ + k, none⟩ = some v := fun o k v h => Ext.cell ((Ext.rfl' w).alloc o) h
  have d0 : ∀ o, (w.alloc o).cell? ⟨T, τ, none⟩ = some (.int .u64 (a : Int)) := fun o => e o 0 _ c0
  have d1 := fun o => e o 1 _ c1
  have d2 := fun o => e o 2 _ c2
  have d3 := fun o => e o 3 _ c3
  have d4 := fun o => e o 4 _ c4
  have d5 := fun o => e o 5 _ c5
  clear e c
  go_enter Tryz.func30, Tryz.ntmps30
  go_wp2_with fail
  (try simp only [Exit.inBlock, Exit.then])
  refine bodyPost_ret (results_cell_row rfl _ _ w.heap.size _ _ _ _ rfl (heap_alloc_new w _) (Tryz.underlying69) rfl (by kernel_rfl)) rfl ⟨rfl, (Gr.rfl' w).alloc _⟩
end Go.Proofs.YtgjnadligocdkaaGreatDoor
set_option linter.unusedVariables false
set_option linter.unusedSimpArgs false
set_option maxRecDepth 100000
namespace Go.Proofs.YtgjnadligocdkaaGreatDoor
open Go.RowKit
open Go.Ev (LB CellOk ArgOk LBs lofB csB Got packL mkPtr mkSl nameQ rowIs tupIs liveB)
noncomputable def ckV (r : Nat) (c : Nat) (_H : Ev.HT) (_nx : Nat) : Bool := Nat.beq c r
theorem cd_0 : runA 28 Tryz.f28 [nE] [] (ckV (iC 0)) = true := by decide +kernel
theorem code_of {c : Nat} {v : Value} {r : Nat} (hv : CellOk [] c v) (hr : r < 1000) (h : runA 28 Tryz.f28 [c] [] (ckV (iC r)) = true) (w : World) : Calls Tryz.prog 28 #[v] w fun e w' => e = .returned (.int .i64 (r : Int)) ∧ Turned [] w w' := by
  refine (lc (w := w) Tryz.func28 (by decide +kernel) [] (by simp) (by decide) [] (by decide) List.nodup_nil trivial [(c, v)] (all1 (.inl hv)) h).mono ?_
  rintro e w' ⟨u, c', H, nx, I, σ, cs, rfl, g⟩
  have hc := g.chk
  unfold ckV at hc
  have hval := g.post.val
  rw [Nat.eq_of_beq_eq_true hc] at hval
  exact ⟨congrArg Ending.returned (g.det (iC_ok (n := r) (by omega)) (.inl (by unfold iC; rw [Ev.hi_def]; omega)) hval), turned g⟩
theorem code_0 (w : World) : Calls Tryz.prog 28 #[.nilIface] w fun e w' => e = .returned (.int .i64 0) ∧ Turned [] w w' := code_of (nE_ok (ns := [])) (r := 0) (by decide) cd_0 w
def gE : Value := .iface 220 (.agg #[.pointer (some ⟨1, 46, none⟩)])
theorem code_19 {w : World} (hg : w.cell? ⟨0, 0, none⟩ = some gE) : Calls Tryz.prog 28 #[.iface 125 (.int .i64 19)] w fun e w' => e = .returned (.int .i64 19) ∧ Turned [] w w' := by
  have X := Blk.new w #[.int .i64 0] 125
  have hG : (w.alloc (.cells #[.int .i64 0] 125)).cell? ⟨0, 0, none⟩ = some gE := Ext.cell ((Ext.rfl' w).alloc _) hg
  have AS := Lib.hid (as_hit0 19 ⟨w.heap.size, 0, none⟩ (.int .i64 0) (w.alloc (.cells #[.int .i64 0] 125)) (by unfold gE at hG; exact hG) (X.cell rfl) (X.fro0 (by decide)))
  have T1 := Lib.hid ((Turned.rfl' [] w).alloc (.cells #[.int .i64 0] 125))
  have HX := Lib.hid X
  clear X hG hg
  go_enter Tryz.func28, Tryz.ntmps28
  go_wp2_with (go_at_call 64; refine AS.out.mono ?_; rintro e w1 ⟨rfl, hw1⟩; have X5 : BlkR w1 w.heap.size 0 #[.int .i64 19] 1 := (by rw [hw1]; exact BlkR.set ((((HX.out.alloc _).alloc _).alloc _).alloc _) 0 (.int .i64 19)); have t5 : Turned [] w w1 := (by rw [hw1]; exact Turned.setNew (((((T1.out.alloc _).alloc _).alloc _).alloc _)) (Nat.le_refl _)); have d : w1.cell? ⟨w.heap.size, 0, none⟩ = some (.int .i64 19) := BlkR.cell X5 rfl; clear hw1 X5)
  go_ret
  exact ⟨rfl, t5⟩
end Go.Proofs.YtgjnadligocdkaaGreatDoor
set_option linter.unusedVariables false
set_option linter.unusedSimpArgs false
set_option maxRecDepth 100000
namespace Go.Proofs.YtgjnadligocdkaaGreatDoor
open Go.RowKit Go.Sort
structure Abv (N : Nat) (w w' : World) : Prop where
  size : w.heap.size ≤ w'.heap.size
  os : w'.os = w.os
  out : w'.output = w.output
  same : ∀ k, k < N → w'.heap[k]? = w.heap[k]?
theorem Abv.trans {N : Nat} {a b c : World} (h : Abv N a b) (k : Abv N b c) : Abv N a c := ⟨Nat.le_trans h.size k.size, k.os.trans h.os, k.out.trans h.out, fun i hi => (k.same i hi).trans (h.same i hi)⟩
theorem Abv.mono {N M : Nat} {a b : World} (h : Abv N a b) (hm : M ≤ N) : Abv M a b := ⟨h.size, h.os, h.out, fun i hi => h.same i (by omega)⟩
theorem Turned.abv {Bs : List Nat} {a b : World} (h : Turned Bs a b) {N : Nat} (hN : N ≤ a.heap.size) (hB : ∀ x ∈ Bs, N ≤ x) : Abv N a b := ⟨h.size, h.os, h.out, fun k hk => h.same k (by omega) fun q => by have := hB k q; omega⟩
theorem Abv.turned {N : Nat} {a b : World} (h : Abv N a b) (hN : a.heap.size ≤ N) : Turned [] a b := ⟨h.size, h.os, h.out, fun k hk _ => h.same k (by omega)⟩
structure Cst where
  pF : Nat
  pK : Nat
  pP : Nat
  pA : Nat
  qF : Nat
  qK : Nat
  qP : Nat
  qA : Nat
def Bq (w0 : World) (c : Cst) (X : Nat) (vs : Array Value) (w : World) (s s' : Ps) (most : Int) : Prop := ∃ p q, PSt w p s most ∧ QSt w q s' most ∧ (∀ x ∈ p.foot, x ∉ q.foot) ∧ (∀ x ∈ p.foot, w0.heap.size ≤ x) ∧ (∀ x ∈ q.foot, w0.heap.size ≤ x) ∧ Turned [] w0 w ∧ c = ⟨p.F, p.K, p.P, p.A, q.F, q.K, q.P, q.A⟩ ∧ ∀ (i : Nat) (v : Value), vs[i]? = some v → X ∉ p.foot ∧ X ∉ q.foot ∧ w.cell? ⟨X, i, none⟩ = some v
theorem cell_lt {a : World} {x : Addr} {v : Value} (hc : a.cell? x = some v) : x.block < a.heap.size := by
  rcases Nat.lt_or_ge x.block a.heap.size with q | q
  · exact q
  · simp [World.cell?, Array.getElem?_eq_none q] at hc
theorem Turned.cell {Bs : List Nat} {a b : World} (h : Turned Bs a b) {x : Addr} {v : Value} (hc : a.cell? x = some v) (hx : x.block ∉ Bs) : b.cell? x = some v := by
  have hlt : x.block < a.heap.size := by
    rcases Nat.lt_or_ge x.block a.heap.size with q | q
    · exact q
    · simp [World.cell?, Array.getElem?_eq_none q] at hc
  rw [World.cell?_of_block (h.same _ hlt hx)]
  exact hc
theorem Abv.turned_of {N : Nat} {w0 a b : World} (h : Abv w0.heap.size a b) (hN : w0.heap.size ≤ a.heap.size) (k : Turned [] w0 a) : Turned [] w0 b := ⟨Nat.le_trans k.size h.size, h.os.trans k.os, h.out.trans k.out, fun i hi q => (h.same i hi).trans (k.same i hi q)⟩
theorem Turned.old {Bs : List Nat} {w0 a b : World} (h : Turned [] w0 a) (k : Turned Bs a b) (hB : ∀ x ∈ Bs, w0.heap.size ≤ x) : Turned [] w0 b := (k.abv h.size hB).turned_of (N := 0) h.size h
section
variable {w0 w : World} {c : Cst} {X : Nat} {vs : Array Value} {s s' t : Ps} {most : Int} {g : Nat} {args : Array Value} {Q : Ending → Prop}
theorem Bq.p (h : Bq w0 c X vs w s s' most) (hc : ∀ p, PSt w p s most → p.F = c.pF ∧ p.K = c.pK ∧ p.P = c.pP ∧ p.A = c.pA → Calls Tryz.prog g args w fun e w' => Q e ∧ PTo w p t most w') : Calls Tryz.prog g args w fun e w' => Q e ∧ Bq w0 c X vs w' t s' most := by
  obtain ⟨p, q, h1, h2, h3, h4, h5, h6, rfl, h8⟩ := h
  refine (hc p h1 ⟨rfl, rfl, rfl, rfl⟩).mono ?_
  rintro e w' ⟨hq, p', k1, k2, e1, e2, e3, e4, k3⟩
  refine ⟨hq, p', q, k1, h2.keep k2 (fun x hx hx' => h3 x hx' hx), fun x hx hx' => ?_, fun x hx => ?_, h5, h6.old k2 h4, by rw [e1, e2, e3, e4], fun i v hv => ?_⟩
  · rcases k3 x hx with r | r
    · exact h3 x r hx'
    · have := h2.lt x hx'; omega
  · rcases k3 x hx with r | r
    · exact h4 x r
    · exact Nat.le_trans h6.size r
  · obtain ⟨y1, y2, y3⟩ := h8 i v hv
    refine ⟨fun q' => ?_, y2, k2.cell y3 y1⟩
    rcases k3 X q' with r | r
    · exact y1 r
    · have y4 : X < w.heap.size := cell_lt y3; omega
theorem Bq.q (h : Bq w0 c X vs w s s' most) (hc : ∀ q, QSt w q s' most → q.F = c.qF ∧ q.K = c.qK ∧ q.P = c.qP ∧ q.A = c.qA → Calls Tryz.prog g args w fun e w' => Q e ∧ QTo w q t most w') : Calls Tryz.prog g args w fun e w' => Q e ∧ Bq w0 c X vs w' s t most := by
  obtain ⟨p, q, h1, h2, h3, h4, h5, h6, rfl, h8⟩ := h
  refine (hc q h2 ⟨rfl, rfl, rfl, rfl⟩).mono ?_
  rintro e w' ⟨hq, q', k1, k2, e1, e2, e3, e4, k3⟩
  refine ⟨hq, p, q', h1.keep k2 (fun x hx hx' => h3 x hx hx'), k1, fun x hx hx' => ?_, h4, fun x hx => ?_, h6.old k2 h5, by rw [e1, e2, e3, e4], fun i v hv => ?_⟩
  · rcases k3 x hx' with r | r
    · exact h3 x hx r
    · have := h1.lt x hx; omega
  · rcases k3 x hx with r | r
    · exact h5 x r
    · exact Nat.le_trans h6.size r
  · obtain ⟨y1, y2, y3⟩ := h8 i v hv
    refine ⟨y1, fun q' => ?_, k2.cell y3 y2⟩
    rcases k3 X q' with r | r
    · exact y2 r
    · have y4 : X < w.heap.size := cell_lt y3; omega
theorem Bq.stay (h : Bq w0 c X vs w s s' most) {w' : World} (k : Turned [] w w') : Bq w0 c X vs w' s s' most := by
  obtain ⟨p, q, h1, h2, h3, h4, h5, h6, rfl, h8⟩ := h
  exact ⟨p, q, h1.keep k (by simp), h2.keep k (by simp), h3, h4, h5, h6.trans k, rfl, fun i v hv => ⟨(h8 i v hv).1, (h8 i v hv).2.1, k.cell (h8 i v hv).2.2 (by simp)⟩⟩
theorem Bq.at_ (h : Bq w0 c X vs w s s' most) {i : Nat} {v : Value} (hv : vs[i]? = some v) : w.cell? ⟨X, i, none⟩ = some v := by
  obtain ⟨p, q, h1, h2, h3, h4, h5, h6, rfl, h8⟩ := h
  exact (h8 i v hv).2.2
theorem Bq.make (h : Bq w0 c X vs w s s' most) (us : Array Value) (ty : TypeId) : Bq w0 c w.heap.size us (w.alloc (.cells us ty)) s s' most := by
  have k := (Turned.rfl' [] w).alloc (.cells us ty)
  obtain ⟨p, q, h1, h2, h3, h4, h5, h6, rfl, h8⟩ := h
  exact ⟨p, q, h1.keep k (by simp), h2.keep k (by simp), h3, h4, h5, h6.trans k, rfl, fun i v hv => ⟨fun q' => Nat.lt_irrefl _ (h1.lt _ q'), fun q' => Nat.lt_irrefl _ (h2.lt _ q'), (Blk.new w us ty).cell hv⟩⟩
theorem Bq.old (h : Bq w0 c X vs w s s' most) : Turned [] w0 w := by
  obtain ⟨p, q, h1, h2, h3, h4, h5, h6, rfl, h8⟩ := h
  exact h6
abbrev P4 (a b c d : Nat) : Array Value := #[.pointer (some ⟨a, 0, none⟩), .pointer (some ⟨b, 0, none⟩), .pointer (some ⟨c, 0, none⟩), .pointer (some ⟨d, 0, none⟩)]
theorem b_take_p (h : Bq w0 c X vs w s s' most) (ok : s.Ok most) : Calls Tryz.prog 14 #[.pointer (some ⟨c.pK, 0, none⟩), .int .i64 2, .pointer (some ⟨c.pP, 0, none⟩)] w fun e w' => (∃ v, e = .returned v) ∧ Bq w0 c X vs w' s.take2 s' most :=
  h.p fun p hp e => by rw [← e.2.1, ← e.2.2.1]; exact p_take2 hp ok
theorem b_take_q (h : Bq w0 c X vs w s s' most) (ok : s'.Ok most) : Calls Tryz.prog 15 #[.pointer (some ⟨c.qK, 0, none⟩), .int .i64 2, .pointer (some ⟨c.qP, 0, none⟩)] w fun e w' => (∃ v, e = .returned v) ∧ Bq w0 c X vs w' s s'.take2 most :=
  h.q fun q hq e => by rw [← e.2.1, ← e.2.2.1]; exact q_take2 hq ok
theorem b_kill_p (h : Bq w0 c X vs w s s' most) : Calls Tryz.prog 16 #[.pointer (some ⟨c.pP, 0, none⟩), .int .i64 2] w fun e w' => (∃ v, e = .returned v) ∧ Bq w0 c X vs w' s.kill s' most :=
  h.p fun p hp e => by rw [← e.2.2.1]; exact p_kill hp
theorem b_kill_q (h : Bq w0 c X vs w s s' most) : Calls Tryz.prog 17 #[.pointer (some ⟨c.qP, 0, none⟩), .int .i64 2] w fun e w' => (∃ v, e = .returned v) ∧ Bq w0 c X vs w' s s'.kill most :=
  h.q fun q hq e => by rw [← e.2.2.1]; exact q_kill hq
theorem b_claim_p (h : Bq w0 c X vs w s s' most) (ok : s.Ok most) : Calls Tryz.prog 18 #[.pointer (some ⟨c.pK, 0, none⟩), .int .i64 2] w fun e w' => (∃ u, e = .returned (.tuple #[.int .i64 (slotZ s.n), u])) ∧ Bq w0 c X vs w' s.claim s' most :=
  h.p fun p hp e => by rw [← e.2.1]; exact p_claim hp ok
theorem b_claim_q (h : Bq w0 c X vs w s s' most) (ok : s'.Ok most) : Calls Tryz.prog 19 #[.pointer (some ⟨c.qK, 0, none⟩), .int .i64 2] w fun e w' => (∃ u, e = .returned (.tuple #[.int .i64 (slotZ s'.n), u])) ∧ Bq w0 c X vs w' s s'.claim most :=
  h.q fun q hq e => by rw [← e.2.1]; exact q_claim hq ok
theorem b_pub_p (h : Bq w0 c X vs w s s' most) (ok : s.Ok most) {m x : Nat} (hm : m < 8 → m < s.n) : Calls Tryz.prog 20 #[.pointer (some ⟨c.pK, 0, none⟩), .int .i64 (slotZ m), .int .i64 2, .int .u64 (x : Int)] w fun e w' => (∃ v, e = .returned v) ∧ Bq w0 c X vs w' (s.pub m x) s' most :=
  h.p fun p hp e => by rw [← e.2.1]; exact p_pub hp ok hm
theorem b_pub_q (h : Bq w0 c X vs w s s' most) (ok : s'.Ok most) {m x : Nat} (hm : m < 8 → m < s'.n) : Calls Tryz.prog 21 #[.pointer (some ⟨c.qK, 0, none⟩), .int .i64 (slotZ m), .int .i64 2, .int .u64 (x : Int)] w fun e w' => (∃ v, e = .returned v) ∧ Bq w0 c X vs w' s (s'.pub m x) most :=
  h.q fun q hq e => by rw [← e.2.1]; exact q_pub hq ok hm
theorem b_write_p (h : Bq w0 c X vs w s s' most) (ok : s.Ok most) {z : Nat} : Calls Tryz.prog 23 #[.pointer (some ⟨c.pF, 0, none⟩), .int .i64 (((s.v + 1) % 2 : Nat) : Int), .string (metaB (s.v + 1) (z + 2))] w fun e w' => (∃ v, e = .returned v) ∧ Bq w0 c X vs w' (s.mput z) s' most :=
  h.p fun p hp e => by rw [← e.1]; exact p_write hp ok
theorem b_write_q (h : Bq w0 c X vs w s s' most) (ok : s'.Ok most) {z : Nat} : Calls Tryz.prog 25 #[.pointer (some ⟨c.qF, 0, none⟩), .int .i64 (((s'.v + 1) % 2 : Nat) : Int), .string (metaB (s'.v + 1) (z + 2))] w fun e w' => (∃ v, e = .returned v) ∧ Bq w0 c X vs w' s (s'.mput z) most :=
  h.q fun q hq e => by rw [← e.1]; exact q_write hq ok
noncomputable def Ps.bg (s : Ps) (most : Int) : Ps := if s.ph = 1 then s.b1 else if s.ph = 2 then s.b2 most else s.b3
theorem Ps.Ok.bg (ok : s.Ok most) (hp : s.ph < 4) : (s.bg most).Ok most := by
  have := ok.ph
  unfold Ps.bg
  by_cases h1 : s.ph = 1
  · rw [if_pos h1]; exact ok.b1 h1
  · rw [if_neg h1]
    by_cases h2 : s.ph = 2
    · rw [if_pos h2]; exact ok.b2 h2
    · rw [if_neg h2]; exact ok.b3 (by omega)
theorem b_begin_p (h : Bq w0 c X vs w s s' most) (ok : s.Ok most) (hp : s.ph < 4) : Calls Tryz.prog 26 (P4 c.pA c.pF c.pK c.pP) w fun e w' => e = .returned (.tuple #[.bool false, .nilIface]) ∧ Bq w0 c X vs w' (s.bg most) s' most :=
  h.p fun p hp' e => by
    have := ok.ph
    rw [← e.1, ← e.2.1, ← e.2.2.1, ← e.2.2.2]
    unfold Ps.bg
    by_cases h1 : s.ph = 1
    · rw [if_pos h1]; exact p_begin1 hp' ok h1
    · rw [if_neg h1]
      by_cases h2 : s.ph = 2
      · rw [if_pos h2]; exact p_begin2 hp' ok h2
      · rw [if_neg h2]; exact p_begin3 hp' ok (by omega)
theorem b_begin_q (h : Bq w0 c X vs w s s' most) (ok : s'.Ok most) (hp : s'.ph < 4) : Calls Tryz.prog 27 (P4 c.qA c.qF c.qK c.qP) w fun e w' => e = .returned (.tuple #[.bool false, .int .i64 0]) ∧ Bq w0 c X vs w' s (s'.bg most) most :=
  h.q fun p hp' e => by
    have := ok.ph
    rw [← e.1, ← e.2.1, ← e.2.2.1, ← e.2.2.2]
    unfold Ps.bg
    by_cases h1 : s'.ph = 1
    · rw [if_pos h1]; exact q_begin1 hp' ok h1
    · rw [if_neg h1]
      by_cases h2 : s'.ph = 2
      · rw [if_pos h2]; exact q_begin2 hp' ok h2
      · rw [if_neg h2]; exact q_begin3 hp' ok (by omega)
theorem Bq.locks (h : Bq w0 c X vs w s s most) : LkAt w c.pK s.W s.n s.T ∧ LkAt w c.qK s.W s.n s.T ∧ w.cell? ⟨c.pA, 2, none⟩ = some (.int .i64 (s.ph : Int)) ∧ w.cell? ⟨c.qA, 2, none⟩ = some (.int .i64 (s.ph : Int)) := by
  obtain ⟨p, q, h1, h2, h3, h4, h5, h6, rfl, h8⟩ := h
  exact ⟨h1.lk, h2.lk, h1.wr.cell rfl, h2.wr.cell rfl⟩
theorem b_last5_p (h : Bq w0 c X vs w s s most) (ok : s.Ok most) (hp : s.ph = 5) : Calls Tryz.prog 26 (P4 c.pA c.pF c.pK c.pP) w fun e w' => e = .returned (.tuple #[.bool true, .iface 125 (.int .i64 19)]) ∧ Turned [] w0 w' ∧ LkAt w' c.pK 0 s.n s.T ∧ w'.cell? ⟨c.pA, 10, none⟩ = some (.pointer none) ∧ ∃ q, QSt w' q s most ∧ q.F = c.qF ∧ q.K = c.qK ∧ q.P = c.qP ∧ q.A = c.qA ∧ (∀ x ∈ q.foot, w0.heap.size ≤ x) ∧ c.pK ∉ q.foot ∧ c.pA ∉ q.foot := by
  obtain ⟨p, q, h1, h2, h3, h4, h5, h6, rfl, h8⟩ := h
  refine (p_begin5 h1 ok hp).mono ?_
  rintro e w' ⟨rfl, t, k, x⟩
  exact ⟨rfl, h6.old t h4, k, x, q, h2.keep t (fun x hx hx' => h3 x hx' hx), rfl, rfl, rfl, rfl, h5, h3 _ (in_of (l := p.foot) (i := 3) rfl), h3 _ (in_of (l := p.foot) (i := 6) rfl)⟩
theorem b_last5_q {q : Qb} {pK pA n : Nat} {T : Nat → Nat} (h : QSt w q s most) (h0 : Turned [] w0 w) (hq : ∀ x ∈ q.foot, w0.heap.size ≤ x) (ok : s.Ok most) (hp : s.ph = 5) (hK : LkAt w pK 0 n T) (hA : w.cell? ⟨pA, 10, none⟩ = some (.pointer none)) (n1 : pK ∉ q.foot) (n2 : pA ∉ q.foot) : Calls Tryz.prog 27 (P4 q.A q.F q.K q.P) w fun e w' => e = .returned (.tuple #[.bool true, .int .i64 19]) ∧ Turned [] w0 w' ∧ LkAt w' pK 0 n T ∧ w'.cell? ⟨pA, 10, none⟩ = some (.pointer none) ∧ LkAt w' q.K 0 s.n s.T ∧ w'.cell? ⟨q.A, 12, none⟩ = some (.pointer none) := by
  refine (q_begin5 h ok hp).mono ?_
  rintro e w' ⟨rfl, t, k⟩
  exact ⟨rfl, h0.old t hq, BlkR.turned hK t n1, t.cell hA n2, k.lk, k.t⟩
theorem TxAt.turned {w w' : World} {Bs : List Nat} {TB τ j SB θ i a L : Nat} (h : TxAt w TB τ j SB θ i a L) (t : Turned Bs w w') (h1 : TB ∉ Bs) (h2 : SB ∉ Bs) : TxAt w' TB τ j SB θ i a L :=
  ⟨fun k v hk => t.cell (h.1 k v hk) h1, t.cell h.2.1 h1, t.cell h.2.2 h2⟩
theorem b_last4_p (h : Bq w0 c X vs w s s most) (ok : s.Ok most) (hp : s.ph = 4) (hM : most ≤ IntKind.i64.max) : Calls Tryz.prog 26 (P4 c.pA c.pF c.pK c.pP) w fun e w' => e = .returned (.tuple #[.bool true, .nilIface]) ∧ Turned [] w0 w' ∧ LkAt w' c.pK s.W s.n s.T ∧ ∃ TB τ SB θ, w'.cell? ⟨c.pA, 10, none⟩ = some (.pointer (some ⟨TB, τ, none⟩)) ∧ TxAt w' TB τ 7 SB θ 3 s.ma s.mb ∧ ∃ q, QSt w' q s most ∧ q.F = c.qF ∧ q.K = c.qK ∧ q.P = c.qP ∧ q.A = c.qA ∧ (∀ x ∈ q.foot, w0.heap.size ≤ x) ∧ c.pK ∉ q.foot ∧ c.pA ∉ q.foot ∧ TB ∉ q.foot ∧ SB ∉ q.foot := by
  obtain ⟨p, q, h1, h2, h3, h4, h5, h6, rfl, h8⟩ := h
  refine (p_begin4 h1 ok hp hM).mono ?_
  rintro e w' ⟨rfl, t, TB, τ, SB, θ, z1, z2, k, x⟩
  exact ⟨rfl, h6.old t h4, k.lk, TB, τ, SB, θ, k.t, x, q, h2.keep t (fun x hx hx' => h3 x hx' hx), rfl, rfl, rfl, rfl, h5, h3 _ (in_of (l := p.foot) (i := 3) rfl), h3 _ (in_of (l := p.foot) (i := 6) rfl), fun q' => by have := h2.lt _ q'; omega, fun q' => by have := h2.lt _ q'; omega⟩
theorem b_last4_q {q : Qb} {pK pA TB τ SB θ a L W n : Nat} {T : Nat → Nat} (h : QSt w q s most) (h0 : Turned [] w0 w) (hq : ∀ x ∈ q.foot, w0.heap.size ≤ x) (ok : s.Ok most) (hp : s.ph = 4) (hM : most ≤ IntKind.i64.max) (hK : LkAt w pK W n T) (hA : w.cell? ⟨pA, 10, none⟩ = some (.pointer (some ⟨TB, τ, none⟩))) (hT : TxAt w TB τ 7 SB θ 3 a L) (n1 : pK ∉ q.foot) (n2 : pA ∉ q.foot) (n3 : TB ∉ q.foot) (n4 : SB ∉ q.foot) : Calls Tryz.prog 27 (P4 q.A q.F q.K q.P) w fun e w' => e = .returned (.tuple #[.bool true, .int .i64 0]) ∧ Turned [] w0 w' ∧ LkAt w' pK W n T ∧ w'.cell? ⟨pA, 10, none⟩ = some (.pointer (some ⟨TB, τ, none⟩)) ∧ TxAt w' TB τ 7 SB θ 3 a L ∧ LkAt w' q.K s.W s.n s.T ∧ ∃ TQ τ' SQ θ', w'.cell? ⟨q.A, 12, none⟩ = some (.pointer (some ⟨TQ, τ', none⟩)) ∧ TxAt w' TQ τ' 9 SQ θ' 3 s.ma s.mb := by
  refine (q_begin4 h ok hp hM).mono ?_
  rintro e w' ⟨rfl, t, TQ, τ', SQ, θ', z1, z2, k, x⟩
  exact ⟨rfl, h0.old t hq, BlkR.turned hK t n1, t.cell hA n2, hT.turned t n3 n4, k.lk, TQ, τ', SQ, θ', k.t, x⟩
end
end Go.Proofs.YtgjnadligocdkaaGreatDoor
set_option linter.unusedVariables false
set_option linter.unusedSimpArgs false
set_option maxRecDepth 100000
namespace Go.Proofs.YtgjnadligocdkaaGreatDoor
open Go.RowKit Go.Sort
def Ps.s0 : Ps := { a := 0, b := 1, x := 0, y := 0, st := 0, v := 1, W := 0, n := 0, T := fun _ => 0, alive := true, ph := 1, ma := 0, mb := 0 }
theorem Ps.s0_ok (most : Int) : Ps.s0.Ok most :=
  { a := by decide, b := by decide, x := by decide, y := by decide, ea := by decide, eb := by decide, st := by decide, v1 := by decide, v2 := by decide, v3 := by decide, W := by decide, n := by decide, T := fun i => by show 0 < _; decide, ph := by decide, own := fun h => absurd h (by decide), chosen := fun h => absurd h (by decide), room := fun h => absurd h (by decide) }
theorem FilAt.abv {N : Nat} {w w' : World} {F R β M st c : Nat} {A B : ByteArray} {S : Value} (h : FilAt w F R β M st c A B S) (k : Abv N w w') (h1 : F < N) (h2 : R < N) (h3 : M < N) : FilAt w' F R β M st c A B S :=
  ⟨BlkR.keep h.1 (k.same _ h1), h.2.1.keep (k.same _ h2), h.2.2.1.keep (k.same _ h3), h.2.2.2⟩
theorem FiqAt.abv {N : Nat} {w w' : World} {F R β c l lk L : Nat} {A B : ByteArray} {S : Value} (h : FiqAt w F R β c 0 L l lk A B S) (k : Abv N w w') (h1 : F < N) (h2 : R < N) (L' l' lk' : Nat) : FiqAt w' F R β c 0 L' l' lk' A B S :=
  ⟨BlkR.keep h.1 (k.same _ h1), h.2.1.keep (k.same _ h2), h.2.2.1, h.2.2.2.1, h.2.2.2.2.1, fun q => absurd rfl q⟩
theorem PrAt.abv {N : Nat} {w w' : World} {P R β cap last : Nat} {is : List Nat} (h : PrAt w P R β cap is last) (k : Abv N w w') (h1 : P < N) (h2 : R < N) : PrAt w' P R β cap is last :=
  ⟨BlkR.keep h.1 (k.same _ h1), h.2.1.keep (k.same _ h2), h.2.2⟩
theorem Ext.abv {a b : World} (h : Ext a b) : Abv a.heap.size a b := ⟨h.size, h.os, h.output, h.block⟩
theorem pr_same2 {w w' : World} {P R β cap : Nat} (h : PrAt w P R β cap [1] 1) {S : Nat} (t : Turned [S] w w') (h1 : P ≠ S) (h2 : R ≠ S) : PrAt w' P R β cap [1] 1 := h.turned t (by simp; exact h1) (by simp; exact h2)
set_option maxHeartbeats 4000000 in
theorem bq_start {w0 w1 w2 w3 w4 w5 w6 w7 w8 w9 w10 w11 w12 w13 w14 w15 : World} {most : Int} {P1 F R β M c P2 F2 R2 β2 c2 K Q P Z Rp Rs Rp' Rs' γ δ γ' δ' A B : Nat} {S S2 : Value}
    (t1 : Turned [] w0 w1) (t2 : Turned [] w1 w2) (hP1 : w1.heap.size ≤ P1)
    (f : FilAt w3 F R β M 0 c (metaB 0 2) (metaB 1 2) S) (f1 : w2.heap.size ≤ F) (f2 : w2.heap.size ≤ R) (f3 : w2.heap.size ≤ M) (t3 : Turned [P1] w2 w3)
    (hP2 : w3.heap.size ≤ P2) (hP2' : P2 < w4.heap.size) (t4 : Turned [] w3 w4)
    (g : FiqAt w5 F2 R2 β2 c2 0 0 0 0 (metaB 0 2) (metaB 1 2) S2) (g1 : w4.heap.size ≤ F2) (g2 : w4.heap.size ≤ R2) (t5 : Turned [P2] w4 w5)
    (hK : LkAt w6 K 0 0 (fun _ => 0)) (eK : K = w5.heap.size) (t6 : Ext w5 w6)
    (hQ : LkAt w7 Q 0 0 (fun _ => 0)) (eQ : Q = w6.heap.size) (t7 : Ext w6 w7)
    (eP : P = w7.heap.size) (t8 : Ext w7 w8) (hPlt : P < w8.heap.size) (eZ : Z = w8.heap.size) (t9 : Ext w8 w9) (hZlt : Z < w9.heap.size)
    (t10 : Turned [P] w9 w10) (r10 : w9.heap.size ≤ Rp)
    (t11 : Turned [Z] w10 w11) (r11 : w10.heap.size ≤ Rs) (hRs : Rs < w11.heap.size)
    (t12 : Turned [P, Rp] w11 w12) (r12 : Rp' = Rp ∨ w11.heap.size ≤ Rp') (n12 : Rp' ≠ P) (p12 : PrAt w12 P Rp' γ δ [1, 2] 2)
    (t13 : Turned [Z, Rs] w12 w13) (r13 : Rs' = Rs ∨ w12.heap.size ≤ Rs') (n13 : Rs' ≠ Z) (p13 : PrAt w13 Z Rs' γ' δ' [1, 2] 2) (hRp : Rp < w10.heap.size)
    (hA : Blk w14 A (wrV most 1 zM (.int .u64 0) (.pointer none) (.slice none 0 0) .nilIface).toArray) (eA : A = w13.heap.size) (t14 : Turned [] w13 w14)
    (hB : Blk w15 B (wqV most 1 0 zM (.int .u64 0) (.slice none 0 0) (.pointer none)).toArray) (eB : B = w14.heap.size) (t15 : Turned [] w14 w15) :
    Bq w0 ⟨F, K, P, A, F2, Q, Z, B⟩ 0 #[] w15 Ps.s0 Ps.s0 most := by
  have s1 := t1.size; have s2 := t2.size; have s3 := t3.size; have s4 := t4.size; have s5 := t5.size; have s6 := t6.size; have s7 := t7.size; have s8 := t8.size; have s9 := t9.size; have s10 := t10.size; have s11 := t11.size; have s12 := t12.size; have s13 := t13.size; have s14 := t14.size; have s15 := t15.size
  have lF := BlkR.lt f.1; have lR := BlkR.lt f.2.1; have lM := f.2.2.1.lt
  have lG := BlkR.lt g.1; have lR2 := BlkR.lt g.2.1
  have lK := BlkR.lt hK; have lQ := BlkR.lt hQ; have lA := BlkR.lt hA; have lB := BlkR.lt hB
  have lp := BlkR.lt p12.2.1; have lq := BlkR.lt p13.2.1
  have a15 : Abv w14.heap.size w14 w15 := t15.abv (Nat.le_refl _) (by simp)
  have a14 : Abv w13.heap.size w13 w15 := (t14.abv (Nat.le_refl _) (by simp)).trans (a15.mono s14)
  have a13 : Abv w13.heap.size w13 w15 := a14
  have h12 : ∀ N, N ≤ w12.heap.size → N ≤ Z → Abv N w12 w15 := fun N h1 h2 => (t13.abv h1 (fun x hx => by simp only [List.mem_cons, List.not_mem_nil, or_false] at hx; rcases hx with rfl | rfl <;> omega)).trans (a14.mono (by omega))
  have a9 : Abv P w9 w15 := by
    refine (t10.abv (by omega) (all1 (by omega))).trans ((t11.abv (by omega) (all1 (by omega))).trans ((t12.abv (by omega) (all2 (by omega) (by omega))).trans (h12 P (by omega) (by omega))))
  have a7 : Abv P w7 w15 := ((t8.abv).mono (by omega)).trans (((t9.abv).mono (by omega)).trans a9)
  have a6 : Abv w6.heap.size w6 w15 := t7.abv.trans (a7.mono (by omega))
  have a5 : Abv w5.heap.size w5 w15 := t6.abv.trans (a6.mono (by omega))
  have a3 : Abv w3.heap.size w3 w15 := (t4.abv (Nat.le_refl _) (by simp)).trans ((t5.abv (by omega) (all1 (by omega))).trans (a5.mono (by omega)))
  have a0 : Abv w0.heap.size w0 w15 := (t1.abv (Nat.le_refl _) (by simp)).trans ((t2.abv (by omega) (by simp)).trans ((t3.abv (by omega) (all1 (by omega))).trans (a3.mono (by omega))))
  have pP : PrAt w15 P Rp' γ δ [1, 2] 2 := by
    have k : PrAt w13 P Rp' γ δ [1, 2] 2 := p12.turned t13 (by simp; omega) (by simp; omega)
    exact k.abv a14 (by omega) (by omega)
  have pZ : PrAt w15 Z Rs' γ' δ' [1, 2] 2 := p13.abv a14 (by omega) (by omega)
  have lQP : Q < P := by rw [eP]; exact lQ
  have nf := f.2.2.2.1
  simp only [List.nodup_cons, List.mem_cons, List.not_mem_nil, or_false, not_or, not_false_iff, List.nodup_nil, and_true] at nf
  have ng := g.2.2.2.2.1
  refine ⟨⟨F, R, β, M, c, K, P, Rp', γ, δ, A, S, 0⟩, ⟨F2, R2, β2, c2, P2, 0, 0, Q, Z, Rs', γ', δ', B, S2, 0⟩, ⟨f.abv a3 lF lR lM, BlkR.keep hK (a6.same _ lK), pP, BlkR.keep hA (a15.same _ lA), ?_, by show 0 < _; decide⟩, ⟨g.abv a5 lG lR2 P2 0 0, BlkR.keep hQ (a7.same _ lQP), pZ, hB, ?_, by show 0 < _; decide, by show P2 < _; omega⟩, ?_, ?_, ?_, a0.turned (Nat.le_refl _), rfl, fun i v hv => by simp at hv⟩
  · simp only [Pb.foot, List.nodup_cons, List.mem_cons, List.not_mem_nil, or_false, not_or, not_false_iff, List.nodup_nil, and_true]
    and_intros <;> omega
  · simp only [Qb.foot, List.nodup_cons, List.mem_cons, List.not_mem_nil, or_false, not_or, not_false_iff, List.nodup_nil, and_true]
    and_intros <;> omega
  · intro x hx hx'
    simp only [Pb.foot, Qb.foot, List.mem_cons, List.not_mem_nil, or_false] at hx hx'
    clear a15 a14 a13 h12 a9 a7 a6 a5 a3 a0 pP pZ nf ng n12 n13
    rcases hx with h | h | h | h | h | h | h <;> rcases hx' with h' | h' | h' | h' | h' | h' | h' <;> omega
  · intro x hx
    simp only [Pb.foot, List.mem_cons, List.not_mem_nil, or_false] at hx
    rcases hx with h | h | h | h | h | h | h <;> omega
  · intro x hx
    simp only [Qb.foot, List.mem_cons, List.not_mem_nil, or_false] at hx
    rcases hx with h | h | h | h | h | h | h <;> omega
end Go.Proofs.YtgjnadligocdkaaGreatDoor
