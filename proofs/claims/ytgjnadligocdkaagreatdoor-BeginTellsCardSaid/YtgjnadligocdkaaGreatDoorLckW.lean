/-
  The lock, as the program has it and as the document has it: taken, released, claimed, published, swept.
-/
import Derived.Test.YtgjnadligocdkaaGreatDoorSpnW
set_option linter.unusedVariables false
set_option linter.unusedSimpArgs false
set_option maxRecDepth 100000
namespace Go.Proofs.YtgjnadligocdkaaGreatDoor
open Go.RowKit
open Go.Ev (LB CellOk ArgOk LBs lofB csB Got packL mkPtr mkSl nameQ rowIs tupIs liveB)
def pidv (n i : Nat) : Nat := if i < n then 2 else 0
def lkV (W n : Nat) (T : Nat → Nat) : List Value := [.int .i64 (W : Int), .int .i64 (pidv n 0 : Nat), .int .u64 (T 0), .int .i64 (pidv n 1 : Nat), .int .u64 (T 1), .int .i64 (pidv n 2 : Nat), .int .u64 (T 2), .int .i64 (pidv n 3 : Nat), .int .u64 (T 3), .int .i64 (pidv n 4 : Nat), .int .u64 (T 4), .int .i64 (pidv n 5 : Nat), .int .u64 (T 5), .int .i64 (pidv n 6 : Nat), .int .u64 (T 6), .int .i64 (pidv n 7 : Nat), .int .u64 (T 7)]
def lkC (W n : Nat) (t : Nat → Nat) : List Nat := [iC W, iC (pidv n 0), t 0, iC (pidv n 1), t 1, iC (pidv n 2), t 2, iC (pidv n 3), t 3, iC (pidv n 4), t 4, iC (pidv n 5), t 5, iC (pidv n 6), t 6, iC (pidv n 7), t 7]
def nmT (i : Nat) : Nat := nameQ (i + 1) 0
def nsT (T : Nat → Nat) : List Value := [.int .u64 (T 0), .int .u64 (T 1), .int .u64 (T 2), .int .u64 (T 3), .int .u64 (T 4), .int .u64 (T 5), .int .u64 (T 6), .int .u64 (T 7)]
def LkAt (w : World) (K W n : Nat) (T : Nat → Nat) : Prop := Blk w K (lkV W n T).toArray
def lkB (ty K W n : Nat) (T : Nat → Nat) : LB := ⟨K, lkC W n nmT, ty, (lkV W n T).toArray, 0, 17, 0⟩
theorem pidv_le (n i : Nat) : pidv n i < 1000 := by unfold pidv; split <;> decide
theorem lk_cs {W n : Nat} {T t : Nat → Nat} {ns : List Value} {cs : List (Nat × Value)} (hW : W < 1000) (ht : ∀ i, i < 8 → (CellOk ns (t i) (.int .u64 (T i : Int)) ∧ (Ev.hi (t i) ≤ 12 ∨ Ev.hi (t i) = 28 ∨ t i = 1188422437713965063903159255040)) ∨ ((3 ≤ Ev.hi (t i) ∧ Ev.hi (t i) ≠ 23) ∧ (t i, Value.int .u64 (T i : Int)) ∈ cs)) : CsOk ns cs (lkC W n t) (lkV W n T) := by
  have hp := fun i => Nat.lt_of_lt_of_le (pidv_le n i) (show 1000 ≤ 1000000000 by decide)
  exact ⟨iC_d (by omega), iC_d (hp 0), ht 0 (by decide), iC_d (hp 1), ht 1 (by decide), iC_d (hp 2), ht 2 (by decide), iC_d (hp 3), ht 3 (by decide), iC_d (hp 4), ht 4 (by decide), iC_d (hp 5), ht 5 (by decide), iC_d (hp 6), ht 6 (by decide), iC_d (hp 7), ht 7 (by decide), trivial⟩
theorem nsT_at {T : Nat → Nat} {l : List Value} {i : Nat} (h : i < 8) : (nsT T ++ l)[i]? = some (.int .u64 (T i : Int)) := by
  match i, h with
  | 0, _ => rfl
  | 1, _ => rfl
  | 2, _ => rfl
  | 3, _ => rfl
  | 4, _ => rfl
  | 5, _ => rfl
  | 6, _ => rfl
  | 7, _ => rfl
theorem nsT_one {T : Nat → Nat} : ∀ v ∈ nsT T, Ev.One v := fun v hv => by
  simp only [nsT, List.mem_cons, List.not_mem_nil, or_false] at hv
  rcases hv with rfl | rfl | rfl | rfl | rfl | rfl | rfl | rfl <;> exact ⟨fun _ e => Value.noConfusion e, fun _ e => Value.noConfusion e⟩
theorem nmT_lt (i : Nat) (h : i < 100) : nmT i < 2 ^ 128 := by
  unfold nmT nameQ; omega
theorem lkC_lt {W n : Nat} {t : Nat → Nat} (hW : W < 1000) (ht : ∀ i, i < 8 → t i < 2 ^ 128) : ∀ c ∈ lkC W n t, c < 2 ^ 128 := fun c hc => by
  have hp : ∀ i, iC (pidv n i) < 2 ^ 128 := fun i => by have := pidv_le n i; unfold iC; omega
  simp only [lkC, List.mem_cons, List.not_mem_nil, or_false] at hc
  rcases hc with rfl | rfl | rfl | rfl | rfl | rfl | rfl | rfl | rfl | rfl | rfl | rfl | rfl | rfl | rfl | rfl | rfl
  · unfold iC; omega
  all_goals first
    | exact hp _
    | exact ht _ (by decide)
theorem lkB_ok {w : World} {ty K W n : Nat} {T : Nat → Nat} {l : List Value} {cs : List (Nat × Value)} (h : LkAt w K W n T) (hW : W < 1000) : (lkB ty K W n T).okT (nsT T ++ l) w cs :=
  okT_of h ⟨by decide, by decide⟩ (lkC_lt hW fun i hi => nmT_lt i (by omega)) (lk_cs hW fun i hi => nm_d (nsT_at hi) (by omega))
theorem lk_got {ns : List Value} {bl : List LB} {chk : Nat → Ev.HT → Nat → Bool} {w0 w : World} {v : Value} {c : Nat} {H : Ev.HT} {nx : Nat} {I : Ev.Imm} {σ : Ev.Sig} {cs : List (Nat × Value)} (h : Got ns bl chk w0 v w c H nx I σ cs) (hk : bl.length < 1000) {q : Nat} {b : LB} (hb : bl[q]? = some b) (hβ : b.β = 0) {W n : Nat} {T t : Nat → Nat} (hW : W < 1000) (ht : ∀ i, i < 8 → t i < 2 ^ 128)
    (hr : rowIs H (bl.length - q) 17 (packL (0 :: lkC W n t)) = true) (hd : ∀ i, i < 8 → (CellOk ns (t i) (.int .u64 (T i : Int)) ∧ (Ev.hi (t i) ≤ 12 ∨ Ev.hi (t i) = 28 ∨ t i = 1188422437713965063903159255040)) ∨ ((3 ≤ Ev.hi (t i) ∧ Ev.hi (t i) ≠ 23) ∧ (t i, Value.int .u64 (T i : Int)) ∈ ([] : List (Nat × Value)))) : LkAt w b.B W n T := by
  obtain ⟨K, k⟩ := got_det h hk hb (lkC_lt hW ht) hr (lk_cs hW hd)
  rw [hβ] at k
  exact cut_of k
noncomputable def prSame (H : Ev.HT) (is : List Nat) (last : Nat) : Bool := rowIs H 2 2 (packL [0, mkSl 1 0 is.length 8388609, iC last]) && rowIs H 1 is.length (packL (0 :: is.map iC))
theorem pr_same {ns : List Value} {x : LB} {P R β cap last : Nat} {is : List Nat} {chk : Nat → Ev.HT → Nat → Bool} {w0 w : World} {v : Value} {c : Nat} {H : Ev.HT} {nx : Nat} {I : Ev.Imm} {σ : Ev.Sig} {cs : List (Nat × Value)} (h : Got ns (x :: prB P R β cap is last) chk w0 v w c H nx I σ cs) (hr : prSame H is last = true) (hl : is.length ≤ 100) (hi : ∀ i ∈ is, i < 1000) (hla : last < 1000) : ∃ cap', PrAt w P R β cap' is last := by
  unfold prSame at hr
  rw [Bool.and_eq_true] at hr
  have hk : (x :: prB P R β cap is last).length < 1000 := by show 3 < 1000; decide
  let bP : LB := ⟨P, [mkSl 1 0 is.length 8388609, iC last], 122, [Value.slice (some ⟨R, β, none⟩) is.length cap, .int .i64 (last : Int)].toArray, 0, 2, 0⟩
  let bR : LB := ⟨R, is.map iC, 3, (is.map fun (i : Nat) => Value.int .i64 (i : Int)).toArray, is.length, cap, β⟩
  obtain ⟨us, K, k1, k2, k3⟩ := h.row (k := 1) (b := bP) rfl hk hr.1
  have hd : ∀ y ∈ [mkSl 1 0 is.length 8388609, iC last], y < 2 ^ 128 := fun y hy => by
    simp only [List.mem_cons, List.not_mem_nil, or_false] at hy
    rcases hy with rfl | rfl
    · rw [Ev.mkSl_def]; omega
    · unfold iC; omega
  have h0 := k3 0 (by omega)
  have h1 := k3 1 (by omega)
  rw [Ev.dig_cl hd] at h0 h1
  obtain ⟨e, s1, s2, s3, s4, s5⟩ := got_sl h (b := 1) (m := is.length) ⟨by decide, hl⟩ hi hr.2 (u := us[0]) h0
  obtain ⟨e2, q1, q2, q3⟩ := h.sig (k := 2) (b := bR) rfl hk
  have he : e = e2 := Option.some.inj (s1.symm.trans q1)
  subst he
  have h1' := h.det (iC_ok (ns := ns) (n := last) (by omega)) (.inl (by unfold iC; rw [Ev.hi_def]; omega)) (u := us[1]) h1
  have e3 := array2 k2 s3 h1'
  rw [e3] at k1
  have qB : e.B = R := q2
  have qβ : e.β = β := q3
  rw [qB, qβ] at s5 k1
  exact ⟨e.K, cut_of k1, s5, s4⟩
noncomputable def chkT (W' n : Nat) (is : List Nat) (b : Bool) (c : Nat) (H : Ev.HT) (_nx : Nat) : Bool := Nat.beq c (Ev.boolC b) && rowIs H 3 17 (packL (0 :: lkC W' n nmT)) && prSame H is 2
def takeB (W pid : Nat) (alive : Bool) : Bool := !(Nat.beq W pid) && (Nat.beq W 0 || (Nat.beq W 2 && !alive))
def liv (alive : Bool) : List Nat := if alive then [1, 2] else [1]
def T0 : Nat → Nat := fun _ => 0
def takeQ : List (Nat × Nat × Bool) := [(0, 1, true), (1, 1, true), (2, 1, true), (0, 2, true), (1, 2, true), (2, 2, true), (0, 1, false), (1, 1, false), (2, 1, false), (0, 2, false), (1, 2, false), (2, 2, false)]
noncomputable def takeR (g : Nat) (fn : Func) (ty n : Nat) (x : Nat × Nat × Bool) : Bool := runA g fn [mkPtr 3 0, iC x.2.1, mkPtr 2 0] (lkB ty 0 x.1 n T0 :: prB 0 0 0 0 (liv x.2.2) 2) (chkT (if takeB x.1 x.2.1 x.2.2 then x.2.1 else x.1) n (liv x.2.2) (takeB x.1 x.2.1 x.2.2))
theorem take_p : ((List.range 9).all fun n => takeQ.all (takeR 14 Tryz.f14 120 n)) = true := by decide +kernel
theorem take_q : ((List.range 9).all fun n => takeQ.all (takeR 15 Tryz.f15 38 n)) = true := by decide +kernel
theorem bool_of {ns : List Value} {bl : List LB} {chk : Nat → Ev.HT → Nat → Bool} {w0 w : World} {v : Value} {c : Nat} {H : Ev.HT} {nx : Nat} {I : Ev.Imm} {σ : Ev.Sig} {cs : List (Nat × Value)} (h : Got ns bl chk w0 v w c H nx I σ cs) {b : Bool} (hc : Nat.beq c (Ev.boolC b) = true) : v = .bool b := by
  have hv := h.post.val
  rw [Nat.eq_of_beq_eq_true hc] at hv
  have h3 : Ev.hi (Ev.boolC b) = 3 := by cases b <;> decide +kernel
  have hp := hv.toP (by omega)
  unfold Ev.CRp at hp
  rw [h3] at hp
  obtain ⟨b', q1, q2⟩ := hp
  subst q2
  cases b <;> cases b' <;> first | rfl | (exact absurd q1 (by decide +kernel))
theorem nodup3 {K P R : Nat} (h1 : P ≠ K) (h2 : R ≠ K) (h3 : R ≠ P) : [K, P, R].Nodup := List.nodup_cons.2 ⟨by simp; omega, List.nodup_cons.2 ⟨by simp; omega, List.nodup_cons.2 ⟨by simp, List.nodup_nil⟩⟩⟩
theorem liv_le (alive : Bool) : (liv alive).length ≤ 100 ∧ ∀ i ∈ liv alive, i < 1000 := by cases alive <;> exact ⟨by decide, by decide⟩
theorem liv_cs {ns : List Value} {cs : List (Nat × Value)} (alive : Bool) : CsOk ns cs ((liv alive).map iC) ((liv alive).map fun (i : Nat) => Value.int .i64 (i : Int)) := by
  cases alive
  · exact ⟨iC_d (by decide), trivial⟩
  · exact ⟨iC_d (by decide), iC_d (by decide), trivial⟩
theorem liv_ok {w : World} {P R β cap : Nat} {alive : Bool} {ns : List Value} (h : PrAt w P R β cap (liv alive) 2) : LBs ns w (prB P R β cap (liv alive) 2) := prB_ok h (liv_le alive).1 (by cases alive <;> decide +kernel) (liv_cs alive) (by decide) (tl := [])
def bl3 (ty K W n : Nat) (T : Nat → Nat) (P R β cap : Nat) (is : List Nat) : List LB := lkB ty K W n T :: prB P R β cap is 2
theorem bl3_ok {w : World} {ty K W n P R β cap : Nat} {T : Nat → Nat} {alive : Bool} (h : LkAt w K W n T) (hp : PrAt w P R β cap (liv alive) 2) (hW : W < 1000) : LBs (nsT T) w (bl3 ty K W n T P R β cap (liv alive)) := by
  have := lkB_ok (ty := ty) (l := []) (cs := csB (prB P R β cap (liv alive) 2)) h hW
  rw [List.append_nil] at this
  exact ⟨this, liv_ok hp⟩
def TakeC (g : Nat) : Prop := ∀ (K P R β cap W n pid : Nat) (T : Nat → Nat) (alive : Bool) (w : World), LkAt w K W n T → PrAt w P R β cap (liv alive) 2 → P ≠ K → R ≠ K → R ≠ P → (W, pid, alive) ∈ takeQ → n ≤ 8 → Calls Tryz.prog g #[.pointer (some ⟨K, 0, none⟩), .int .i64 pid, .pointer (some ⟨P, 0, none⟩)] w fun e w' => e = .returned (.bool (takeB W pid alive)) ∧ Turned [K, P, R] w w' ∧ LkAt w' K (if takeB W pid alive then pid else W) n T ∧ ∃ cap', PrAt w' P R β cap' (liv alive) 2
theorem take_of {g : Nat} {fn : Func} {ty : Nat} (hg : Tryz.prog.funcs[g]? = some fn) (ho : Ev.orcAt Ev.orcA g = 0) (hr : ((List.range 9).all fun n => takeQ.all (takeR g fn ty n)) = true) : TakeC g := fun K P R β cap W n pid T alive w h hp h1 h2 h3 hq hn => by
  have hr' := List.all_eq_true.1 (List.all_eq_true.1 hr n (List.mem_range.2 (by omega))) _ hq
  have hW : W < 1000 := by
    simp only [takeQ, List.mem_cons, Prod.mk.injEq, List.not_mem_nil, or_false] at hq
    omega
  have hpid : pid < 1000 := by
    simp only [takeQ, List.mem_cons, Prod.mk.injEq, List.not_mem_nil, or_false] at hq
    omega
  have hk : (bl3 ty K W n T P R β cap (liv alive)).length < 1000 := by show 3 < 1000; decide
  refine (lc (w := w) hg ho (nsT T) nsT_one (by show 8 < 1000; decide) (bl3 ty K W n T P R β cap (liv alive)) hk (nodup3 h1 h2 h3) (bl3_ok h hp hW) [(mkPtr 3 0, .pointer (some ⟨K, 0, none⟩)), (iC pid, .int .i64 pid), (mkPtr 2 0, .pointer (some ⟨P, 0, none⟩))] (all3 (ptr_ok (bl := bl3 ty K W n T P R β cap (liv alive)) (q := 0) rfl rfl) (i_ok (by omega)) (ptr_ok (bl := bl3 ty K W n T P R β cap (liv alive)) (q := 1) rfl rfl)) hr').mono ?_
  rintro e w' ⟨v, c, H, nx, I, σ, cs, rfl, h⟩
  have hc := h.chk
  unfold chkT at hc
  rw [Bool.and_eq_true, Bool.and_eq_true] at hc
  have hb := bool_of h hc.1.1
  obtain ⟨cap', hP⟩ := pr_same h hc.2 (liv_le alive).1 (liv_le alive).2 (by decide)
  refine ⟨by rw [hb], turned h, ?_, cap', hP⟩
  refine lk_got h hk (q := 0) (b := lkB ty K W n T) rfl rfl (t := nmT) (by
    show (if takeB W pid alive = true then pid else W) < 1000
    split <;> assumption) (fun i hi => nmT_lt i (by omega)) hc.1.2 fun i hi => nm_d (by have := nsT_at (T := T) (l := []) hi; rwa [List.append_nil] at this) (by omega)
theorem take_any : TakeC 14 := take_of Tryz.func14 (by decide +kernel) take_p
theorem take_rany : TakeC 15 := take_of Tryz.func15 (by decide +kernel) take_q
end Go.Proofs.YtgjnadligocdkaaGreatDoor
