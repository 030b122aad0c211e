/-
  The lock: swept, claimed, published, released.
-/
import Derived.Test.YtgjnadligocdkaaGreatDoorLckW
set_option linter.unusedVariables false
set_option linter.unusedSimpArgs false
set_option maxRecDepth 100000
namespace Go.Proofs.YtgjnadligocdkaaGreatDoor
open Go.RowKit
open Go.Ev (LB CellOk ArgOk LBs lofB csB Got packL mkPtr mkSl nameQ rowIs tupIs liveB)
def swT (alive : Bool) (n : Nat) (T : Nat → Nat) (i : Nat) : Nat := if alive = false ∧ i < n then 0 else T i
def swt (alive : Bool) (n : Nat) (i : Nat) : Nat := if alive = false ∧ i < n then uC 0 else nmT i
def swN (alive : Bool) (n : Nat) : Nat := if alive then n else 0
noncomputable def chkSw (W n : Nat) (alive : Bool) (_c : Nat) (H : Ev.HT) (_nx : Nat) : Bool := rowIs H 3 17 (packL (0 :: lkC W (swN alive n) (swt alive n))) && prSame H (liv alive) 2
noncomputable def swR (g : Nat) (fn : Func) (ty n W : Nat) (alive : Bool) : Bool := runA g fn [mkPtr 3 0, mkPtr 2 0] (bl3 ty 0 W n T0 0 0 0 0 (liv alive)) (chkSw W n alive)
theorem sweep_p : ((List.range 9).all fun n => (List.range 3).all fun W => [true, false].all (swR 84 Tryz.f84 120 n W)) = true := by decide +kernel
theorem sweep_q : ((List.range 9).all fun n => (List.range 3).all fun W => [true, false].all (swR 58 Tryz.f58 38 n W)) = true := by decide +kernel
def SweepC (g : Nat) : Prop := ∀ (K P R β cap W n : Nat) (T : Nat → Nat) (alive : Bool) (w : World), LkAt w K W n T → PrAt w P R β cap (liv alive) 2 → P ≠ K → R ≠ K → R ≠ P → W < 3 → n ≤ 8 → Calls Tryz.prog g #[.pointer (some ⟨K, 0, none⟩), .pointer (some ⟨P, 0, none⟩)] w fun e w' => ∃ v, e = .returned v ∧ Turned [K, P, R] w w' ∧ LkAt w' K W (swN alive n) (swT alive n T) ∧ ∃ cap', PrAt w' P R β cap' (liv alive) 2
theorem nsT_get {T : Nat → Nat} {i : Nat} (h : i < 8) : (nsT T)[i]? = some (.int .u64 (T i : Int)) := by
  have := nsT_at (T := T) (l := []) h
  rwa [List.append_nil] at this
theorem sweep_of {g : Nat} {fn : Func} {ty : Nat} (hg : Tryz.prog.funcs[g]? = some fn) (ho : Ev.orcAt Ev.orcA g = 0) (hr : ((List.range 9).all fun n => (List.range 3).all fun W => [true, false].all (swR g fn ty n W)) = true) : SweepC g := fun K P R β cap W n T alive w h hp h1 h2 h3 hW hn => by
  have hr' := List.all_eq_true.1 (List.all_eq_true.1 (List.all_eq_true.1 hr n (List.mem_range.2 (by omega))) W (List.mem_range.2 hW)) alive (by cases alive <;> decide)
  have hk : (bl3 ty K W n T P R β cap (liv alive)).length < 1000 := by show 3 < 1000; decide
  refine (lc (w := w) hg ho (nsT T) nsT_one (by show 8 < 1000; decide) (bl3 ty K W n T P R β cap (liv alive)) hk (nodup3 h1 h2 h3) (bl3_ok h hp (by omega)) [(mkPtr 3 0, .pointer (some ⟨K, 0, none⟩)), (mkPtr 2 0, .pointer (some ⟨P, 0, none⟩))] (all2 (ptr_ok (bl := bl3 ty K W n T P R β cap (liv alive)) (q := 0) rfl rfl) (ptr_ok (bl := bl3 ty K W n T P R β cap (liv alive)) (q := 1) rfl rfl)) hr').mono ?_
  rintro e w' ⟨v, c, H, nx, I, σ, cs, rfl, h⟩
  have hc := h.chk
  unfold chkSw at hc
  rw [Bool.and_eq_true] at hc
  obtain ⟨cap', hP⟩ := pr_same h hc.2 (liv_le alive).1 (liv_le alive).2 (by decide)
  refine ⟨v, rfl, turned h, ?_, cap', hP⟩
  refine lk_got h hk (q := 0) (b := lkB ty K W n T) rfl rfl (t := swt alive n) (by omega) (fun i hi => ?_) hc.1 fun i hi => ?_
  · unfold swt; split
    · unfold uC; decide
    · exact nmT_lt i (by omega)
  · unfold swt swT; split
    · exact uC_d (by decide)
    · exact nm_d (nsT_get hi) (by omega)
theorem sweep_any : SweepC 84 := sweep_of Tryz.func84 (by decide +kernel) sweep_p
theorem sweep_rany : SweepC 58 := sweep_of Tryz.func58 (by decide +kernel) sweep_q
def upd (T : Nat → Nat) (s x i : Nat) : Nat := if i = s then x else T i
theorem lk1 {g : Nat} {fn : Func} {ty : Nat} (hg : Tryz.prog.funcs[g]? = some fn) (ho : Ev.orcAt Ev.orcA g = 0) {K W n W' n' : Nat} {T T' t : Nat → Nat} {l : List Value} {w : World} (hl : ∀ v ∈ nsT T ++ l, Ev.One v) (hll : l.length ≤ 10) (h : LkAt w K W n T) (hW : W < 1000) (hW' : W' < 1000) {xs : List (Nat × Value)} (hx : ∀ x ∈ xs, ArgOk (nsT T ++ l) [lkB ty K W n T] x) {ck : Nat → Ev.HT → Nat → Bool} (ht : ∀ i, i < 8 → t i < 2 ^ 128)
    (hd : ∀ i, i < 8 → (CellOk (nsT T ++ l) (t i) (.int .u64 (T' i : Int)) ∧ (Ev.hi (t i) ≤ 12 ∨ Ev.hi (t i) = 28 ∨ t i = 1188422437713965063903159255040)) ∨ ((3 ≤ Ev.hi (t i) ∧ Ev.hi (t i) ≠ 23) ∧ (t i, Value.int .u64 (T' i : Int)) ∈ ([] : List (Nat × Value))))
    (hr : runA g fn (xs.map (·.1)) [lkB ty K W n T] (fun c H nx => ck c H nx && rowIs H 1 17 (packL (0 :: lkC W' n' t))) = true) :
    Calls Tryz.prog g (xs.map (·.2)).toArray w fun e w' => Turned [K] w w' ∧ LkAt w' K W' n' T' ∧ ∃ v c H nx I σ cs, e = .returned v ∧ ck c H nx = true ∧ Got (nsT T ++ l) [lkB ty K W n T] (fun c H nx => ck c H nx && rowIs H 1 17 (packL (0 :: lkC W' n' t))) w v w' c H nx I σ cs := by
  have hk : [lkB ty K W n T].length < 1000 := by show 1 < 1000; decide
  refine (lc (w := w) hg ho (nsT T ++ l) hl (by have : (nsT T).length = 8 := rfl; rw [List.length_append]; omega) [lkB ty K W n T] hk (List.nodup_cons.2 ⟨by simp, List.nodup_nil⟩) ⟨lkB_ok h hW, trivial⟩ xs hx hr).mono ?_
  rintro e w' ⟨v, c, H, nx, I, σ, cs, rfl, h⟩
  have hc := h.chk
  rw [Bool.and_eq_true] at hc
  exact ⟨turned h, lk_got h hk (q := 0) (b := lkB ty K W n T) rfl rfl hW' ht hc.2 hd, v, c, H, nx, I, σ, cs, rfl, hc.1, h⟩
def ckY (_c : Nat) (_H : Ev.HT) (_nx : Nat) : Bool := true
theorem lkp {ty K W n : Nat} {T : Nat → Nat} {ns : List Value} : ArgOk ns [lkB ty K W n T] (mkPtr 1 0, .pointer (some ⟨K, 0, none⟩)) := ptr_ok (bl := [lkB ty K W n T]) (q := 0) rfl rfl
theorem nsT_one' {T : Nat → Nat} : ∀ v ∈ nsT T ++ [], Ev.One v := fun v hv => nsT_one v (by simpa using hv)
noncomputable def relR (g : Nat) (fn : Func) (ty n : Nat) : Bool := runA g fn [mkPtr 1 0, iC 1] [lkB ty 0 1 n T0] (fun c H nx => ckY c H nx && rowIs H 1 17 (packL (0 :: lkC 0 n nmT)))
theorem rel_p : (List.range 9).all (relR 88 Tryz.f88 120) = true := by decide +kernel
theorem rel_q : (List.range 9).all (relR 62 Tryz.f62 38) = true := by decide +kernel
def RelC (g : Nat) : Prop := ∀ (K n : Nat) (T : Nat → Nat) (w : World), LkAt w K 1 n T → n ≤ 8 → Calls Tryz.prog g #[.pointer (some ⟨K, 0, none⟩), .int .i64 1] w fun e w' => ∃ v, e = .returned v ∧ Turned [K] w w' ∧ LkAt w' K 0 n T
theorem rel_of {g : Nat} {fn : Func} {ty : Nat} (hg : Tryz.prog.funcs[g]? = some fn) (ho : Ev.orcAt Ev.orcA g = 0) (hr : (List.range 9).all (relR g fn ty) = true) : RelC g := fun K n T w h hn => by
  refine (lk1 hg ho (ty := ty) (T' := T) (t := nmT) (l := []) nsT_one' (by decide) h (by decide) (by decide) (xs := [(mkPtr 1 0, .pointer (some ⟨K, 0, none⟩)), (iC 1, .int .i64 1)]) (all2 lkp (i_ok (n := 1) (by decide))) (fun i hi => nmT_lt i (by omega)) (fun i hi => nm_d (nsT_at hi) (by omega)) (W' := 0) (n' := n) (ck := ckY) (List.all_eq_true.1 hr n (List.mem_range.2 (by omega)))).mono ?_
  rintro e w' ⟨a1, a2, v, c, H, nx, I, σ, cs, rfl, _⟩
  exact ⟨v, rfl, a1, a2⟩
theorem rel_any : RelC 88 := rel_of Tryz.func88 (by decide +kernel) rel_p
theorem rel_rany : RelC 62 := rel_of Tryz.func62 (by decide +kernel) rel_q
def slotC (n : Nat) : Nat := if n < 8 then iC n else 554597137618297107228517203967
def slotZ (n : Nat) : Int := if n < 8 then (n : Int) else -1
def clN (n : Nat) : Nat := if n < 8 then n + 1 else 8
def clT (n : Nat) (T : Nat → Nat) (i : Nat) : Nat := if i = n then 0 else T i
def clt (n : Nat) (i : Nat) : Nat := if i = n then uC 0 else nmT i
noncomputable def tupL (H : Ev.HT) (c : Nat) : Nat := @Ev.Obj.rec (fun _ => Nat) (fun _ _ _ _ => 0) (fun _ _ => 0) (fun _ _ => 0) (fun _ N => N) (fun _ _ _ _ _ => 0) (fun _ _ _ => 0) (fun _ _ _ => 0) 0 (Ev.get H (Ev.lo c))
noncomputable def ckC (n : Nat) (c : Nat) (H : Ev.HT) (_nx : Nat) : Bool := tupIs H c 2 (tupL H c) && Nat.beq (Ev.dig (tupL H c) 1) (slotC n)
theorem slot_ok {ns : List Value} {n : Nat} : CellOk ns (slotC n) (.int .i64 (slotZ n)) ∧ Ev.hi (slotC n) ≤ 12 := by
  unfold slotC slotZ
  split
  · exact ⟨iC_ok (by omega), by unfold iC; rw [Ev.hi_def]; omega⟩
  · exact ⟨⟨by decide +kernel, .inr fun σ I => Ev.i64_vr (by decide) (by decide) (by decide) σ I⟩, by decide +kernel⟩
noncomputable def claimR (g : Nat) (fn : Func) (ty n W : Nat) : Bool := runA g fn [mkPtr 1 0, iC 2] [lkB ty 0 W n T0] (fun c H nx => ckC n c H nx && rowIs H 1 17 (packL (0 :: lkC W (clN n) (clt n))))
theorem claim_p : ((List.range 9).all fun n => (List.range 3).all (claimR 18 Tryz.f18 120 n)) = true := by decide +kernel
theorem claim_q : ((List.range 9).all fun n => (List.range 3).all (claimR 19 Tryz.f19 38 n)) = true := by decide +kernel
def ClaimC (g : Nat) : Prop := ∀ (K W n : Nat) (T : Nat → Nat) (w : World), LkAt w K W n T → W < 3 → n ≤ 8 → Calls Tryz.prog g #[.pointer (some ⟨K, 0, none⟩), .int .i64 2] w fun e w' => ∃ u, e = .returned (.tuple #[.int .i64 (slotZ n), u]) ∧ Turned [K] w w' ∧ LkAt w' K W (clN n) (clT n T)
theorem claim_of {g : Nat} {fn : Func} {ty : Nat} (hg : Tryz.prog.funcs[g]? = some fn) (ho : Ev.orcAt Ev.orcA g = 0) (hr : ((List.range 9).all fun n => (List.range 3).all (claimR g fn ty n)) = true) : ClaimC g := fun K W n T w h hW hn => by
  refine (lk1 hg ho (ty := ty) (T' := clT n T) (t := clt n) (l := []) nsT_one' (by decide) h (by omega) (by omega) (xs := [(mkPtr 1 0, .pointer (some ⟨K, 0, none⟩)), (iC 2, .int .i64 2)]) (all2 lkp (i_ok (n := 2) (by decide))) (fun i hi => ?_) (fun i hi => ?_) (W' := W) (n' := clN n) (ck := ckC n) (List.all_eq_true.1 (List.all_eq_true.1 hr n (List.mem_range.2 (by omega))) W (List.mem_range.2 hW))).mono ?_
  · unfold clt; split
    · unfold uC; decide
    · exact nmT_lt i (by omega)
  · unfold clt clT; split
    · exact uC_d (by decide)
    · exact nm_d (nsT_at hi) (by omega)
  · rintro e w' ⟨a1, a2, v, c, H, nx, I, σ, cs, rfl, hc, h⟩
    unfold ckC at hc
    rw [Bool.and_eq_true] at hc
    obtain ⟨vs, rfl, b2, b3⟩ := h.post.tup hc.1
    have h0 := b3 0 (by omega)
    have hd : Ev.dig (tupL H c) 1 = slotC n := Nat.eq_of_beq_eq_true hc.2
    have h0' : Ev.VR σ I (slotC n) vs[0] := by
      rw [← hd]
      exact .inr (.inr (.inl h0))
    have hs := slot_ok (ns := nsT T ++ []) (n := n)
    have e0 := h.det hs.1 (.inl hs.2) h0'
    exact ⟨vs[1], congrArg (fun a => Ending.returned (.tuple a)) (array2 b2 e0 rfl), a1, a2⟩
theorem claim_any : ClaimC 18 := claim_of Tryz.func18 (by decide +kernel) claim_p
theorem claim_rany : ClaimC 19 := claim_of Tryz.func19 (by decide +kernel) claim_q
def pbt (s i : Nat) : Nat := if i = s then nameQ 9 0 else nmT i
noncomputable def pubR (g : Nat) (fn : Func) (ty n W s : Nat) : Bool := runA g fn [mkPtr 1 0, iC s, iC 2, nameQ 9 0] [lkB ty 0 W n T0] (fun c H nx => ckY c H nx && rowIs H 1 17 (packL (0 :: lkC W n (pbt s))))
theorem pub_p : ((List.range 9).all fun n => (List.range 3).all fun W => (List.range n).all (pubR 20 Tryz.f20 120 n W)) = true := by decide +kernel
theorem pub_q : ((List.range 9).all fun n => (List.range 3).all fun W => (List.range n).all (pubR 21 Tryz.f21 38 n W)) = true := by decide +kernel
noncomputable def pubN (g : Nat) (fn : Func) (ty n W : Nat) : Bool := runA g fn [mkPtr 1 0, slotC 8, iC 2, nameQ 9 0] [lkB ty 0 W n T0] (fun c H nx => ckY c H nx && rowIs H 1 17 (packL (0 :: lkC W n nmT)))
theorem pubn_p : ((List.range 9).all fun n => (List.range 3).all (pubN 20 Tryz.f20 120 n)) = true := by decide +kernel
theorem pubn_q : ((List.range 9).all fun n => (List.range 3).all (pubN 21 Tryz.f21 38 n)) = true := by decide +kernel
def PubC (g : Nat) : Prop := ∀ (K W n s x : Nat) (T : Nat → Nat) (w : World), LkAt w K W n T → W < 3 → n ≤ 8 → s < n → Calls Tryz.prog g #[.pointer (some ⟨K, 0, none⟩), .int .i64 s, .int .i64 2, .int .u64 x] w fun e w' => ∃ v, e = .returned v ∧ Turned [K] w w' ∧ LkAt w' K W n (upd T s x)
def PubNC (g : Nat) : Prop := ∀ (K W n x : Nat) (T : Nat → Nat) (w : World), LkAt w K W n T → W < 3 → n ≤ 8 → Calls Tryz.prog g #[.pointer (some ⟨K, 0, none⟩), .int .i64 (-1), .int .i64 2, .int .u64 x] w fun e w' => ∃ v, e = .returned v ∧ Turned [K] w w' ∧ LkAt w' K W n T
theorem ns9 {T : Nat → Nat} {x : Nat} : ∀ v ∈ nsT T ++ [Value.int .u64 (x : Int)], Ev.One v := fun v hv => by
  rcases List.mem_append.1 hv with hv | hv
  · exact nsT_one v hv
  · rw [List.mem_singleton.1 hv]; exact ⟨fun _ e => Value.noConfusion e, fun _ e => Value.noConfusion e⟩
theorem ns9_at {T : Nat → Nat} {x : Nat} : (nsT T ++ [Value.int .u64 (x : Int)])[8]? = some (.int .u64 (x : Int)) := rfl
theorem all4 {α : Type} {Q : α → Prop} {a b c d : α} (h : Q a) (k : Q b) (l : Q c) (m : Q d) : ∀ x ∈ [a, b, c, d], Q x := fun x hx => by
  rcases List.mem_cons.1 hx with rfl | hx
  · exact h
  · exact all3 k l m x hx
theorem pub_of {g : Nat} {fn : Func} {ty : Nat} (hg : Tryz.prog.funcs[g]? = some fn) (ho : Ev.orcAt Ev.orcA g = 0) (hr : ((List.range 9).all fun n => (List.range 3).all fun W => (List.range n).all (pubR g fn ty n W)) = true) : PubC g := fun K W n s x T w h hW hn hs => by
  refine (lk1 hg ho (ty := ty) (T' := upd T s x) (t := pbt s) (l := [.int .u64 (x : Int)]) ns9 (by show 1 ≤ 10; decide) h (by omega) (by omega) (xs := [(mkPtr 1 0, .pointer (some ⟨K, 0, none⟩)), (iC s, .int .i64 s), (iC 2, .int .i64 2), (nameQ 9 0, .int .u64 x)]) (all4 lkp (i_ok (by omega)) (i_ok (n := 2) (by decide)) (.inl (nm_ok (i := 8) ns9_at (by decide)))) (fun i hi => ?_) (fun i hi => ?_) (W' := W) (n' := n) (ck := ckY) (List.all_eq_true.1 (List.all_eq_true.1 (List.all_eq_true.1 hr n (List.mem_range.2 (by omega))) W (List.mem_range.2 hW)) s (List.mem_range.2 hs))).mono ?_
  · unfold pbt; split
    · exact nmT_lt 8 (by decide)
    · exact nmT_lt i (by omega)
  · unfold pbt upd; split
    · exact nm_d (i := 8) ns9_at (by decide)
    · exact nm_d (nsT_at hi) (by omega)
  · rintro e w' ⟨a1, a2, v, c, H, nx, I, σ, cs, rfl, _⟩
    exact ⟨v, rfl, a1, a2⟩
theorem pubn_of {g : Nat} {fn : Func} {ty : Nat} (hg : Tryz.prog.funcs[g]? = some fn) (ho : Ev.orcAt Ev.orcA g = 0) (hr : ((List.range 9).all fun n => (List.range 3).all (pubN g fn ty n)) = true) : PubNC g := fun K W n x T w h hW hn => by
  have hs := slot_ok (ns := nsT T ++ [Value.int .u64 (x : Int)]) (n := 8)
  refine (lk1 hg ho (ty := ty) (T' := T) (t := nmT) (l := [.int .u64 (x : Int)]) ns9 (by show 1 ≤ 10; decide) h (by omega) (by omega) (xs := [(mkPtr 1 0, .pointer (some ⟨K, 0, none⟩)), (slotC 8, .int .i64 (-1)), (iC 2, .int .i64 2), (nameQ 9 0, .int .u64 x)]) (all4 lkp (.inl hs.1) (i_ok (n := 2) (by decide)) (.inl (nm_ok (i := 8) ns9_at (by decide)))) (fun i hi => nmT_lt i (by omega)) (fun i hi => nm_d (nsT_at hi) (by omega)) (W' := W) (n' := n) (ck := ckY) (List.all_eq_true.1 (List.all_eq_true.1 hr n (List.mem_range.2 (by omega))) W (List.mem_range.2 hW))).mono ?_
  rintro e w' ⟨a1, a2, v, c, H, nx, I, σ, cs, rfl, _⟩
  exact ⟨v, rfl, a1, a2⟩
theorem pub_any : PubC 20 := pub_of Tryz.func20 (by decide +kernel) pub_p
theorem pub_rany : PubC 21 := pub_of Tryz.func21 (by decide +kernel) pub_q
theorem pubn_any : PubNC 20 := pubn_of Tryz.func20 (by decide +kernel) pubn_p
theorem pubn_rany : PubNC 21 := pubn_of Tryz.func21 (by decide +kernel) pubn_q
end Go.Proofs.YtgjnadligocdkaaGreatDoor
