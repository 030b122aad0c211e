/-
  What the evaluator answers is what the program does, whatever is drawn: part 4.
-/
import Derived.Test.YtkcffdanhklphaaGreatDoorTvPC
set_option linter.unusedVariables false
set_option linter.unusedSimpArgs false
namespace Go.Ev
variable {X : Env} {call : CallT}

/-! ### Heaps as they were -/
def SMem (H : HT) (m : Nat) (tl : SL) : SL → Prop | .nil => False | .cons H' m' l' => (H' = H ∧ m' = m ∧ l' = tl) ∨ SMem H m tl l'
theorem isRow_inv {x : Ev.Obj} (h : isRow x = true) : ∃ n N e op, x = .row n N e op := by
  cases x with
  | row n N e op => exact ⟨n, N, e, op, rfl⟩
  | _ => cases h
/-- what is told of all heaps -/
def SAll (b o n lo hi val : Nat) (s : SL) : Prop := ∀ H m tl, SMem H m tl s →
  (isRow (get H b) = true → lo ≤ m → (m ≤ hi ∨ headRow b tl = false) → ∃ n' N' e op, get H b = .row n' N' e op ∧ o + n ≤ n' ∧ digs N' (Nat.succ o) n = val) ∧ (isRow (get H b) = false → headRow b tl = true → hi < m)
noncomputable def sameSegA (b o n lo hi : Nat) (k : Out) (s : SL) : Nat → Out :=
  @SL.rec (fun _ => Nat → Out) (fun _ => k)
    (fun H m l ih r => br (br (ih r) (.bad 137) (and' (not' (isRow (get H b))) (and' (headRow b l) (Nat.ble m hi))))
       (rowK H b fun n' N _ _ => br (.bad 132)
          (frc (fun c => br (br (.bad 133) (ih r) (Nat.beq r c)) (ih c) (Nat.beq r 0)) (Nat.succ (digs N (Nat.succ o) n)))
          (Nat.ble (Nat.add o n) n'))
       (and' (isRow (get H b)) (and' (Nat.ble lo m) (or' (Nat.ble m hi) (not' (headRow b l)))))) s
theorem sameSeg_eq (b o n lo hi : Nat) (k : Out) (s : SL) : sameSeg b o n lo hi k s = sameSegA b o n lo hi k s 0 := rfl
theorem sameSeg_ok {b o n lo hi : Nat} {k : Out} : ∀ (s : SL) (r : Nat), isBad (sameSegA b o n lo hi k s r) ∨ (sameSegA b o n lo hi k s r = k ∧ ∃ val, (r ≠ 0 → r = val + 1) ∧ SAll b o n lo hi val s)
  | .nil, r => .inr ⟨rfl, r - 1, fun h => by omega, fun H m tl h => h.elim⟩
  | .cons H m l, r => by
    show isBad (br (br (sameSegA b o n lo hi k l r) (.bad 137) (and' (not' (isRow (get H b))) (and' (headRow b l) (Nat.ble m hi))))
       (rowK H b fun n' N _ _ => br (.bad 132)
          (frc (fun c => br (br (.bad 133) (sameSegA b o n lo hi k l r) (Nat.beq r c)) (sameSegA b o n lo hi k l c) (Nat.beq r 0)) (Nat.succ (digs N (Nat.succ o) n)))
          (Nat.ble (Nat.add o n) n'))
       (and' (isRow (get H b)) (and' (Nat.ble lo m) (or' (Nat.ble m hi) (not' (headRow b l)))))) ∨ (br (br (sameSegA b o n lo hi k l r) (.bad 137) (and' (not' (isRow (get H b))) (and' (headRow b l) (Nat.ble m hi))))
       (rowK H b fun n' N _ _ => br (.bad 132)
          (frc (fun c => br (br (.bad 133) (sameSegA b o n lo hi k l r) (Nat.beq r c)) (sameSegA b o n lo hi k l c) (Nat.beq r 0)) (Nat.succ (digs N (Nat.succ o) n)))
          (Nat.ble (Nat.add o n) n'))
       (and' (isRow (get H b)) (and' (Nat.ble lo m) (or' (Nat.ble m hi) (not' (headRow b l))))) = k ∧ _)
    cases hc : (and' (isRow (get H b)) (and' (Nat.ble lo m) (or' (Nat.ble m hi) (not' (headRow b l))))) with
    | false =>
      cases hk : (and' (not' (isRow (get H b))) (and' (headRow b l) (Nat.ble m hi))) with
      | true => exact .inl ⟨137, rfl⟩
      | false =>
        rcases sameSeg_ok (k := k) l r with hb | ⟨e, val, h1, h2⟩
        · exact .inl hb
        · refine .inr ⟨e, val, h1, fun H' m' tl hm => ?_⟩
          rcases hm with ⟨rfl, rfl, rfl⟩ | hm
          · simp only [and'_eq, or'_eq, not'_eq, Bool.and_eq_false_iff, Bool.or_eq_false_iff, ble_false, Bool.not_eq_false'] at hc hk
            refine ⟨fun q1 q2 q3 => ?_, fun q1 q2 => ?_⟩
            · rcases hc with hc | hc | hc
              · rw [q1] at hc; cases hc
              · omega
              · rcases q3 with q3 | q3
                · omega
                · rw [q3] at hc; exact absurd hc.2 (by simp)
            · rcases hk with hk | hk | hk
              · rw [q1] at hk; cases hk
              · rw [q2] at hk; cases hk
              · exact hk
          · exact h2 H' m' tl hm
    | true =>
      simp only [and'_eq, or'_eq, not'_eq, Bool.and_eq_true, Bool.or_eq_true, ble_iff, Bool.not_eq_true'] at hc
      obtain ⟨n', N', e', op', hg⟩ := isRow_inv hc.1
      show isBad (rowK H b _) ∨ (rowK H b _ = k ∧ _)
      have hrow : ∀ K : Nat → Nat → Nat → Bool → Out, rowK H b K = K n' N' e' op' := fun K => by show rowObj K (get H b) = _; rw [hg]; rfl
      rw [hrow]
      cases hle : Nat.ble (Nat.add o n) n' with
      | false => exact .inl ⟨132, rfl⟩
      | true =>
        show isBad (br (br (.bad 133) (sameSegA b o n lo hi k l r) (Nat.beq r (Nat.succ (digs N' (Nat.succ o) n)))) (sameSegA b o n lo hi k l (Nat.succ (digs N' (Nat.succ o) n))) (Nat.beq r 0)) ∨ (br (br (.bad 133) (sameSegA b o n lo hi k l r) (Nat.beq r (Nat.succ (digs N' (Nat.succ o) n)))) (sameSegA b o n lo hi k l (Nat.succ (digs N' (Nat.succ o) n))) (Nat.beq r 0) = k ∧ _)
        have fin : ∀ r', r' = Nat.succ (digs N' (Nat.succ o) n) → (r ≠ 0 → r = r') → isBad (sameSegA b o n lo hi k l r') ∨ (sameSegA b o n lo hi k l r' = k ∧ ∃ val, (r ≠ 0 → r = val + 1) ∧ SAll b o n lo hi val (.cons H m l)) := fun r' hr' hrr => by
          rcases sameSeg_ok (k := k) l r' with hb | ⟨e, val, h1, h2⟩
          · exact .inl hb
          · have hval := h1 (by omega)
            refine .inr ⟨e, val, fun h => (hrr h).trans hval, fun H' m' tl hm => ?_⟩
            rcases hm with ⟨rfl, rfl, rfl⟩ | hm
            · refine ⟨fun _ _ _ => ⟨n', N', e', op', hg, ble_iff.1 hle, by omega⟩, fun q1 => ?_⟩
              rw [hc.1] at q1; cases q1
            · exact h2 H' m' tl hm
        cases h0 : Nat.beq r 0 with
        | true => exact fin _ rfl fun h => absurd (beq_iff.1 h0) h
        | false =>
          cases h1 : Nat.beq r (Nat.succ (digs N' (Nat.succ o) n)) with
          | false => exact .inl ⟨133, rfl⟩
          | true => exact fin r (beq_iff.1 h1) fun _ => rfl
/-- what is told of a read that may stand between acts -/
def ChkF (X : Env) (L : List Oper) (f : FR) (s : SL) (x : Nat × Nat × Nat) : Prop :=
  (∃ t a, opAt L x.1 = .load t (.tmp a) ∧ (fget a f = 1822247737828079764651510857728 ∨ ∃ val, SAll (blk (fget a f)) (off (fget a f)) (szT X t) x.2.1 x.2.2 val s)) ∨
  (∃ s' d a, opAt L x.1 = .convert s' d (.tmp a) ∧ (fget a f = 1822247737828079764651510857728 ∨ fget a f = 1188422437713965063903159255040 ∨ ∃ val, SAll (blk (fget a f)) (off (fget a f)) (sln (fget a f)) x.2.1 x.2.2 val s))
theorem chkRead_ok {L : List Oper} {f : FR} {s : SL} {k : Out} {x : Nat × Nat × Nat} : isBad (chkRead X (opAt L x.1) x.2.1 x.2.2 f s k) ∨ (chkRead X (opAt L x.1) x.2.1 x.2.2 f s k = k ∧ ChkF X L f s x) := by
  unfold ChkF
  cases ho : opAt L x.1 with
  | load t y =>
    cases y with
    | tmp a =>
      show isBad (br (br (.bad 134) (sameSegA (blk (fget a f)) (off (fget a f)) (szT X t) x.2.1 x.2.2 k s 0) (isPtr (fget a f))) k (Nat.beq (fget a f) 1822247737828079764651510857728)) ∨ (br (br (.bad 134) (sameSegA (blk (fget a f)) (off (fget a f)) (szT X t) x.2.1 x.2.2 k s 0) (isPtr (fget a f))) k (Nat.beq (fget a f) 1822247737828079764651510857728) = k ∧ _)
      cases h1 : Nat.beq (fget a f) 1822247737828079764651510857728 with
      | true => exact .inr ⟨rfl, .inl ⟨t, a, rfl, .inl (beq_iff.1 h1)⟩⟩
      | false =>
        cases h2 : isPtr (fget a f) with
        | false => exact .inl ⟨134, rfl⟩
        | true =>
          rcases sameSeg_ok (b := blk (fget a f)) (o := off (fget a f)) (n := szT X t) (lo := x.2.1) (hi := x.2.2) (k := k) s 0 with hb | ⟨e, val, _, h⟩
          · exact .inl hb
          · exact .inr ⟨e, .inl ⟨t, a, rfl, .inr ⟨val, h⟩⟩⟩
    | _ => exact .inl ⟨134, rfl⟩
  | convert s' d y =>
    cases y with
    | tmp a =>
      show isBad (br (br (.bad 134) (sameSegA (blk (fget a f)) (off (fget a f)) (sln (fget a f)) x.2.1 x.2.2 k s 0) (isSl (fget a f))) k (or' (Nat.beq (fget a f) 1822247737828079764651510857728) (Nat.beq (fget a f) 1188422437713965063903159255040))) ∨ (br (br (.bad 134) (sameSegA (blk (fget a f)) (off (fget a f)) (sln (fget a f)) x.2.1 x.2.2 k s 0) (isSl (fget a f))) k (or' (Nat.beq (fget a f) 1822247737828079764651510857728) (Nat.beq (fget a f) 1188422437713965063903159255040)) = k ∧ _)
      cases h1 : or' (Nat.beq (fget a f) 1822247737828079764651510857728) (Nat.beq (fget a f) 1188422437713965063903159255040) with
      | true =>
        rw [or'_eq, Bool.or_eq_true, beq_iff, beq_iff] at h1
        refine .inr ⟨rfl, .inr ⟨s', d, a, rfl, ?_⟩⟩
        rcases h1 with h1 | h1
        · exact .inl h1
        · exact .inr (.inl h1)
      | false =>
        cases h2 : isSl (fget a f) with
        | false => exact .inl ⟨134, rfl⟩
        | true =>
          rcases sameSeg_ok (b := blk (fget a f)) (o := off (fget a f)) (n := sln (fget a f)) (lo := x.2.1) (hi := x.2.2) (k := k) s 0 with hb | ⟨e, val, _, h⟩
          · exact .inl hb
          · exact .inr ⟨e, .inr ⟨s', d, a, rfl, .inr (.inr ⟨val, h⟩)⟩⟩
    | _ => exact .inl ⟨134, rfl⟩
  | _ => exact .inl ⟨134, rfl⟩
theorem chkReads_ok {L : List Oper} {f : FR} {s : SL} {k : Out} : ∀ l : List (Nat × Nat × Nat), isBad (chkReads X L f s k l) ∨ (chkReads X L f s k l = k ∧ ∀ x ∈ l, ChkF X L f s x)
  | [] => .inr ⟨rfl, fun x h => absurd h (by simp)⟩
  | x :: l => by
    show isBad (chkRead X (opAt L x.1) x.2.1 x.2.2 f s (chkReads X L f s k l)) ∨ (chkRead X (opAt L x.1) x.2.1 x.2.2 f s (chkReads X L f s k l) = k ∧ _)
    rcases chkRead_ok (X := X) (L := L) (f := f) (s := s) (k := chkReads X L f s k l) (x := x) with hb | ⟨e, h1⟩
    · exact .inl hb
    · rcases chkReads_ok (L := L) (f := f) (s := s) (k := k) l with hb | ⟨e2, h2⟩
      · exact .inl (by rw [e]; exact hb)
      · refine .inr ⟨e.trans e2, fun y hy => ?_⟩
        rcases List.mem_cons.1 hy with rfl | hy
        · exact h1
        · exact h2 y hy

/-! ### How many acts -/
def actB (X : Env) (o : Oper) : Bool := cls X o.op == 3
theorem count_zip {P : Oper → Bool} : ∀ (L : List Oper) (k j : Nat), ((L.zipIdx k).filter fun x => P x.1 && decide (x.2 < k + j)).length = ((L.take j).filter P).length
  | [], k, j => by simp
  | o :: L, k, 0 => by
    have : ((o :: L).zipIdx k).filter (fun x => P x.1 && decide (x.2 < k + 0)) = [] := by
      refine List.filter_eq_nil_iff.2 fun x hx => ?_
      have := (List.mem_zipIdx hx).1
      simp; omega
    rw [this]; simp
  | o :: L, k, j + 1 => by
    have ih := count_zip (P := P) L (k + 1) j
    rw [show k + 1 + j = k + (j + 1) by omega] at ih
    rw [List.zipIdx_cons, List.filter_cons, List.take_succ_cons, List.filter_cons]
    have : decide (k < k + (j + 1)) = true := by simp
    simp only [this, Bool.and_true]
    by_cases hp : P o = true
    · rw [if_pos hp, if_pos hp, List.length_cons, List.length_cons, ih]
    · rw [if_neg hp, if_neg hp, ih]
def actN (X : Env) (L : List Oper) (j : Nat) : Nat := ((L.take j).filter (actB X)).length
theorem actN_zip (L : List Oper) (j : Nat) : actN X L j = (L.zipIdx.filter fun x => cls X x.1.op == 3 && decide (x.2 < j)).length := by
  have := count_zip (P := actB X) L 0 j
  rw [Nat.zero_add] at this
  exact this.symm
theorem actN_succ {L : List Oper} {j : Nat} {o : Oper} (h : L[j]? = some o) : actN X L (j + 1) = cnt (cls X o.op) (actN X L j) := by
  unfold actN
  rw [List.take_add_one, h, List.filter_append, List.length_append]
  have e : ((some o).toList.filter (actB X)).length = if cls X o.op = 3 then 1 else 0 := by
    unfold actB
    by_cases hc : cls X o.op = 3
    · simp [hc]
    · simp [hc]
  rw [e]
  by_cases hc : cls X o.op = 3
  · rw [if_pos hc, hc]; rfl
  · rw [if_neg hc]
    unfold cnt
    split
    · rename_i h; exact absurd h hc
    · rfl
theorem actN_mono {L : List Oper} {i j : Nat} (h : i ≤ j) : actN X L i ≤ actN X L j := by
  unfold actN
  have : L.take i = (L.take j).take i := by rw [List.take_take]; congr 1; omega
  rw [this]
  exact (List.Sublist.filter _ (List.take_sublist _ _)).length_le
theorem actN_lt {L : List Oper} {i q j : Nat} {o : Oper} (h1 : i ≤ q) (h2 : q < j) (ho : L[q]? = some o) (hc : cls X o.op = 3) : actN X L i < actN X L j := by
  have a := actN_mono (X := X) (L := L) h1
  have b := actN_mono (X := X) (L := L) (show q + 1 ≤ j from h2)
  rw [actN_succ ho, hc] at b
  have : cnt 3 (actN X L q) = actN X L q + 1 := rfl
  omega
theorem filter_le {α : Type} {l : List α} {P Q : α → Bool} (h : ∀ x ∈ l, P x = true → Q x = true) : (l.filter P).length ≤ (l.filter Q).length := by
  rw [← List.countP_eq_length_filter, ← List.countP_eq_length_filter]
  exact List.countP_mono_left h
end Go.Ev
set_option linter.unusedVariables false
set_option linter.unusedSimpArgs false
namespace Go.Ev
variable {X : Env} {ops : Array Oper} {F : Nat → FR} {HH : Nat → HT} {N C : Nat → Nat} {n : Nat} {I : Imm} {σ0 : Sig} {w0 : World} {a0 : Act} {call : CallT}

/-! ### Heaps as they were, by place -/
structure Snaps (X : Env) (L : List Oper) (HH : Nat → HT) (S : Nat → SL) : Prop where
  zero : S 0 = .cons (HH 0) 0 .nil
  step : ∀ (j : Nat) (o : Oper), L[j]? = some o → S (j + 1) = snap (cls X o.op) (HH (j + 1)) (actN X L j) (S j)
variable {S : Nat → SL}
theorem Snaps.head (s : Snaps X ops.toList HH S) : ∀ r, r ≤ ops.toList.length → ∃ r0 tl, r0 ≤ r ∧ S r = .cons (HH r0) (actN X ops.toList r0) tl ∧ (∀ (q : Nat) (o : Oper), r0 ≤ q → q < r → ops.toList[q]? = some o → cls X o.op ≠ 1 ∧ cls X o.op ≠ 3) ∧ actN X ops.toList r = actN X ops.toList r0
  | 0, _ => ⟨0, .nil, Nat.le_refl _, s.zero, fun q o h1 h2 => by omega, rfl⟩
  | r + 1, hr => by
    have hlt : r < ops.toList.length := by omega
    have ho : ops.toList[r]? = some ops.toList[r] := List.getElem?_eq_getElem hlt
    generalize ops.toList[r] = o at ho
    have hst := s.step r o ho
    by_cases h3 : cls X o.op = 3
    · rw [h3] at hst
      exact ⟨r + 1, S r, Nat.le_refl _, by rw [hst, actN_succ ho, h3]; rfl, fun q o h1 h2 => by omega, rfl⟩
    · have hN : actN X ops.toList (r + 1) = actN X ops.toList r := by
        rw [actN_succ ho]; unfold cnt; split
        · rename_i h; exact absurd h h3
        · rfl
      by_cases h1 : cls X o.op = 1
      · rw [h1] at hst
        exact ⟨r + 1, S r, Nat.le_refl _, by rw [hst, hN]; rfl, fun q o h1 h2 => by omega, rfl⟩
      · obtain ⟨r0, tl, a1, a2, a3, a4⟩ := s.head r (by omega)
        have hsn : S (r + 1) = S r := by
          rw [hst]; unfold snap; split
          · rename_i h; exact absurd h h3
          · rename_i h; exact absurd h h1
          · rfl
        refine ⟨r0, tl, by omega, by rw [hsn, a2], fun q o' q1 q2 hq => ?_, by rw [hN, a4]⟩
        by_cases e : q = r
        · subst e; rw [ho] at hq; obtain rfl := Option.some.inj hq; exact ⟨h1, h3⟩
        · exact a3 q o' q1 (by omega) hq
theorem Snaps.mem (s : Snaps X ops.toList HH S) {H : HT} {m : Nat} {tl : SL} {r : Nat} : ∀ {r' : Nat}, r ≤ r' → r' ≤ ops.toList.length → SMem H m tl (S r) → SMem H m tl (S r')
  | 0, h1, _, h => by
    have : r = 0 := by omega
    subst this; exact h
  | r' + 1, h1, h2, h => by
    by_cases e : r = r' + 1
    · subst e; exact h
    · have ih := s.mem (r := r) (r' := r') (by omega) (by omega) h
      have hlt : r' < ops.toList.length := by omega
      have ho : ops.toList[r']? = some ops.toList[r'] := List.getElem?_eq_getElem hlt
      rw [s.step r' _ ho]
      unfold snap
      split
      · exact .inr ih
      · exact .inr ih
      · exact ih
/-- where a number came from -/
def Src (X : Env) (L : List Oper) (N : Nat → Nat) (b : Nat) : Prop := b < N 0 ∨ ∃ (q : Nat) (o : Oper), L[q]? = some o ∧ (cls X o.op = 1 ∨ cls X o.op = 3) ∧ N q ≤ b ∧ b < N (q + 1)
theorem Ctx.below (c : Ctx X ops n F HH N C I σ0 w0 a0) {b r r0 : Nat} (hs : Src X ops.toList N b) (hr : r ≤ ops.toList.length) (hr0 : r0 ≤ r) (hno : ∀ (q : Nat) (o : Oper), r0 ≤ q → q < r → ops.toList[q]? = some o → cls X o.op ≠ 1 ∧ cls X o.op ≠ 3) (hb : b < N r) : b < N r0 := by
  rcases hs with hs | ⟨q, o, hq, hc, h1, h2⟩
  · exact Nat.lt_of_lt_of_le hs (c.nle (Nat.zero_le _) (by omega))
  · rcases Nat.lt_or_ge q r0 with hlt | hge
    · exact Nat.lt_of_lt_of_le h2 (c.nle (show q + 1 ≤ r0 from hlt) (by omega))
    · exfalso
      rcases Nat.lt_or_ge q r with hlt | hge2
      · have := hno q o hge hlt hq
        rcases hc with hc | hc
        · exact this.1 hc
        · exact this.2 hc
      · have := c.nle hge2 (Nat.le_of_lt (lt_len hq)); omega
section
variable {b oo nn lo hi val : Nat}
/-- content at a place of the text -/
theorem Ctx.at_ (c : Ctx X ops n F HH N C I σ0 w0 a0) (s : Snaps X ops.toList HH S) (hall : SAll b oo nn lo hi val (S ops.toList.length)) (hs : Src X ops.toList N b) {r : Nat} (hr : r ≤ ops.toList.length) (hb : b < N r) (hrow : isRow (get (HH r) b) = true) (h1 : lo ≤ actN X ops.toList r) (h2 : actN X ops.toList r ≤ hi) :
    ∃ n' N' e op, get (HH r) b = .row n' N' e op ∧ oo + nn ≤ n' ∧ digs N' (Nat.succ oo) nn = val := by
  obtain ⟨r0, tl, a1, a2, a3, a4⟩ := s.head r hr
  have hb0 := c.below hs hr a1 a3 hb
  have hsame := c.tr.same a1 hr (fun q o q1 q2 hq => (a3 q o q1 q2 hq).2) b hb0
  rw [hsame] at hrow ⊢
  have hm : SMem (HH r0) (actN X ops.toList r0) tl (S r) := by rw [a2]; exact .inl ⟨rfl, rfl, rfl⟩
  exact (hall _ _ _ (s.mem hr (Nat.le_refl _) hm)).1 hrow (by omega) (.inl (by omega))
/-- a row stays a row -/
theorem Ctx.stays (c : Ctx X ops n F HH N C I σ0 w0 a0) (s : Snaps X ops.toList HH S) (hall : SAll b oo nn lo hi val (S ops.toList.length)) (hs : Src X ops.toList N b) {i : Nat} (hb : b < N i) (hrow : isRow (get (HH i) b) = true) : ∀ {r : Nat}, i ≤ r → r ≤ ops.toList.length → actN X ops.toList r ≤ hi → isRow (get (HH r) b) = true
  | 0, h1, _, _ => by
    have : i = 0 := by omega
    subst this; exact hrow
  | r + 1, h1, h2, h3 => by
    by_cases e : i = r + 1
    · subst e; exact hrow
    · have hlt : r < ops.toList.length := by omega
      have ho : ops.toList[r]? = some ops.toList[r] := List.getElem?_eq_getElem hlt
      generalize ops.toList[r] = o at ho
      have hNr : b < N r := Nat.lt_of_lt_of_le hb (c.nle (by omega) (by omega))
      have hmono := actN_mono (X := X) (L := ops.toList) (show r ≤ r + 1 by omega)
      have ih := c.stays s hall hs hb hrow (r := r) (by omega) (by omega) (by omega)
      by_cases h : cls X o.op = 3
      · cases hq : isRow (get (HH (r + 1)) b) with
        | true => rfl
        | false =>
          exfalso
          obtain ⟨r0, tl, a1, a2, a3, a4⟩ := s.head r (by omega)
          have hb0 := c.below hs (by omega) a1 a3 hNr
          have hsame := c.tr.same a1 (by omega) (fun q o q1 q2 hq => (a3 q o q1 q2 hq).2) b hb0
          have hst := s.step r o ho
          rw [h] at hst
          have hm : SMem (HH (r + 1)) (actN X ops.toList r + 1) (S r) (S (r + 1)) := by rw [hst]; exact .inl ⟨rfl, rfl, rfl⟩
          have hhead : headRow b (S r) = true := by
            rw [a2]
            show isRow (get (HH r0) b) = true
            rw [← hsame]; exact ih
          have := (hall _ _ _ (s.mem h2 (Nat.le_refl _) hm)).2 hq hhead
          have e2 := actN_succ (X := X) ho
          rw [h] at e2
          have : cnt 3 (actN X ops.toList r) = actN X ops.toList r + 1 := rfl
          omega
      · rw [c.tr.same1 ho h b hNr]; exact ih
/-- content where the row was made -/
theorem Ctx.born (c : Ctx X ops n F HH N C I σ0 w0 a0) (s : Snaps X ops.toList HH S) (hall : SAll b oo nn lo hi val (S ops.toList.length)) {q : Nat} {o : Oper} (hq : ops.toList[q]? = some o) (hc : cls X o.op = 1) (h1 : N q ≤ b) (h2 : b < N (q + 1)) (hrow : isRow (get (HH (q + 1)) b) = true) (h3 : lo ≤ actN X ops.toList q) :
    ∃ n' N' e op, get (HH (q + 1)) b = .row n' N' e op ∧ oo + nn ≤ n' ∧ digs N' (Nat.succ oo) nn = val := by
  have hlt := lt_len hq
  have hst := s.step q o hq
  rw [hc] at hst
  have hm : SMem (HH (q + 1)) (actN X ops.toList q) (S q) (S (q + 1)) := by rw [hst]; exact .inl ⟨rfl, rfl, rfl⟩
  obtain ⟨r0, tl, a1, a2, a3, a4⟩ := s.head q (Nat.le_of_lt hlt)
  have hhead : headRow b (S q) = false := by
    rw [a2]
    show isRow (get (HH r0) b) = false
    have hN := c.nle a1 (Nat.le_of_lt hlt)
    have hf := c.tr.free r0 (by omega)
    have hf2 := c.tr.free (q + 1) hlt
    rw [hf.2 b (by omega) (by have := hf2.1; omega)]; rfl
  exact (hall _ _ _ (s.mem hlt (Nat.le_refl _) hm)).1 hrow h3 (.inr hhead)
end
theorem seg_of_row {σ : Sig} {w : World} {e : SE} {b oo nn n' N' Nr : Nat} {op : Bool} (hb : σ b = some e) (h : RowR σ I n' N' op e w) (hle : oo + nn ≤ n') (hd : digs N' (Nat.succ oo) nn = digs Nr (Nat.succ oo) nn) : ∀ j, j < nn → ∃ v, w.cell? ⟨e.B, e.β + (oo + j), none⟩ = some v ∧ CRs σ I (dig Nr (oo + j + 1)) v := by
  intro j hj
  obtain ⟨cells, el, fz, c1, c2, c3, c4, c5⟩ := h
  obtain ⟨v, h1, h2⟩ := c5 (oo + j) (by omega)
  refine ⟨v, by rw [cell_of c1]; exact h1, ?_⟩
  have e1 : dig N' (oo + j + 1) = dig (digs N' (Nat.succ oo) nn) j := by rw [dig_digs hj]; congr 1; omega
  have e2 : dig Nr (oo + j + 1) = dig (digs Nr (Nat.succ oo) nn) j := by rw [dig_digs hj]; congr 1; omega
  rw [e2, ← hd, ← e1]; exact h2
end Go.Ev
set_option linter.unusedVariables false
set_option linter.unusedSimpArgs false
namespace Go.Ev
variable {X : Env} {ops : Array Oper} {F : Nat → FR} {HH : Nat → HT} {N C : Nat → Nat} {n : Nat} {I : Imm} {σ0 : Sig} {w0 : World} {a0 : Act} {call : CallT}
variable {l : Array Bool} {a : Act} {w : World} {τ : Sig} {p : Nat} {S : Nat → SL}

/-! ### Reads -/
def loN (X : Env) (L : List Oper) (i : Nat) : Nat := (L.zipIdx.filter fun x => cls X x.1.op == 3 && Bt L x.2 i).length
def hiN (X : Env) (L : List Oper) (i : Nat) : Nat := (L.zipIdx.filter fun x => cls X x.1.op == 3 && !Bt L i x.2).length
theorem reads_mem {L : List Oper} {i : Nat} {o : Oper} (ho : L[i]? = some o) (hc : cls X o.op = 2) (hne : loN X L i ≠ hiN X L i) : (i, loN X L i, hiN X L i) ∈ drawReads X L := by
  unfold drawReads
  simp only
  refine List.mem_filterMap.2 ⟨(o, i), by rw [List.mem_zipIdx_iff_getElem?]; exact ho, ?_⟩
  have h2 : (cls X o.op == 2) = true := by rw [hc]; rfl
  simp only [h2, if_true]
  have h3 : ((loN X L i) == (hiN X L i)) = false := by simpa using hne
  show (if (loN X L i == hiN X L i) = true then none else some (i, loN X L i, hiN X L i)) = _
  rw [h3]; rfl
theorem Ctx.text_bounds (c : Ctx X ops n F HH N C I σ0 w0 a0) {i : Nat} {o : Oper} (ho : ops.toList[i]? = some o) : loN X ops.toList i ≤ actN X ops.toList i ∧ actN X ops.toList i ≤ hiN X ops.toList i := by
  rw [actN_zip]
  refine ⟨filter_le fun x hx h => ?_, filter_le fun x hx h => ?_⟩
  · have hx' := List.mem_zipIdx_iff_getElem?.1 hx
    simp only [Bool.and_eq_true, decide_eq_true_eq] at h ⊢
    exact ⟨h.1, c.good.less i x.2 o x.1 ho hx' h.2⟩
  · have hx' := List.mem_zipIdx_iff_getElem?.1 hx
    simp only [Bool.and_eq_true, decide_eq_true_eq, Bool.not_eq_true'] at h ⊢
    refine ⟨h.1, ?_⟩
    cases hb : Bt ops.toList i x.2 with
    | false => rfl
    | true => have := c.good.less x.2 i x.1 o hx' ho hb; omega
theorem DInv.bounds (c : Ctx X ops n F HH N C I σ0 w0 a0) (h : DInv X ops F HH N C I σ0 w0 a0 l a w τ p) {i : Nat} {o : Oper} (r : Rdy ops l i o) : loN X ops.toList i ≤ actN X ops.toList p ∧ actN X ops.toList p ≤ hiN X ops.toList i := by
  rw [actN_zip]
  refine ⟨filter_le fun x hx hh => ?_, filter_le fun x hx hh => ?_⟩
  · have hx' := List.mem_zipIdx_iff_getElem?.1 hx
    simp only [Bool.and_eq_true, decide_eq_true_eq, beq_iff_eq] at hh ⊢
    exact ⟨hh.1, (h.acts x.2 x.1 hx' hh.1).1 (h.ahead c r.at_ r.ed hh.2)⟩
  · have hx' := List.mem_zipIdx_iff_getElem?.1 hx
    simp only [Bool.and_eq_true, decide_eq_true_eq, Bool.not_eq_true', beq_iff_eq] at hh ⊢
    refine ⟨hh.1, ?_⟩
    cases hb : Bt ops.toList i x.2 with
    | false => rfl
    | true =>
      have := h.closed c x.2 i ((h.acts x.2 x.1 hx' hh.1).2 hh.2) hb
      rw [r.not] at this; cases this
theorem DInv.source (c : Ctx X ops n F HH N C I σ0 w0 a0) (h : DInv X ops F HH N C I σ0 w0 a0 l a w τ p) {b : Nat} {e : SE} (hb : τ b = some e) : Src X ops.toList N b := by
  rcases h.src b e hb with hs | ⟨q, o, h1, _, h2, h3⟩
  · exact .inl (c.rel.dom b e hs).1
  · exact .inr ⟨q, o, h1, h2, h3⟩
/-- the cells that a read looks at: as the evaluator read them -/
theorem DInv.seg (c : Ctx X ops n F HH N C I σ0 w0 a0) (h : DInv X ops F HH N C I σ0 w0 a0 l a w τ p) {i : Nat} {o : Oper} (r : Rdy ops l i o) {H1 : HT} {n1 b oo nn nr Nr et : Nat} {op : Bool} (hf1 : Free H1 n1) (hn1 : n1 ≤ N (i + 1)) (hsame : ∀ b, b < N i → get H1 b = get (HH i) b)
    (hg : get H1 b = .row nr Nr et op) (hle : oo + nn ≤ nr) (hreads : loN X ops.toList i ≠ hiN X ops.toList i → ∃ S : Nat → SL, Snaps X ops.toList HH S ∧ ∃ val, SAll b oo nn (loN X ops.toList i) (hiN X ops.toList i) val (S ops.toList.length)) : SegR τ I b oo nn Nr w := by
  intro e hb
  have hlt := lt_len r.at_
  have hsrc := h.source c hb
  have hbm := h.blt c hb
  have hbi : b < N i := by
    rcases h.src b e hb with hs | ⟨q, oq, hq, hD, hc, q1, q2⟩
    · exact Nat.lt_of_lt_of_le (c.rel.dom b e hs).1 (c.nle (Nat.zero_le _) (Nat.le_of_lt hlt))
    · rcases Nat.lt_trichotomy q i with h1 | h1 | h1
      · exact Nat.lt_of_lt_of_le q2 (c.nle (show q + 1 ≤ i from h1) (Nat.le_of_lt hlt))
      · subst h1; rw [r.not] at hD; cases hD
      · exfalso
        have h2 := c.nle (show i + 1 ≤ q from h1) (Nat.le_of_lt (lt_len hq))
        have h3 := hf1.2 b (by omega) (by have := (c.tr.free _ (Nat.le_refl _)).1; omega)
        rw [hg] at h3; cases h3
  rw [hsame b hbi] at hg
  have hrowi : isRow (get (HH i) b) = true := by rw [hg]; rfl
  obtain ⟨l1, l2⟩ := h.bounds c r
  obtain ⟨t1, t2⟩ := c.text_bounds r.at_
  by_cases hst : loN X ops.toList i = hiN X ops.toList i
  · -- no acts between
    have heq : actN X ops.toList p = actN X ops.toList i := by omega
    have hno : ∀ (q : Nat) (oq : Oper), (p ≤ q ∧ q < i) ∨ (i ≤ q ∧ q < p) → ops.toList[q]? = some oq → cls X oq.op ≠ 3 := fun q oq hq hoq hc => by
      rcases hq with ⟨h1, h2⟩ | ⟨h1, h2⟩
      · have := actN_lt h1 h2 hoq hc; omega
      · have := actN_lt h1 h2 hoq hc; omega
    by_cases hp : b < N p
    · have hobj := h.rel.obj b e (cut_some.2 ⟨hp, hb⟩)
      have hcont : get (HH p) b = get (HH i) b := by
        rcases Nat.lt_or_ge p i with h1 | h1
        · exact (c.tr.same (Nat.le_of_lt h1) (Nat.le_of_lt hlt) (fun q oq a b ho => hno q oq (.inl ⟨a, b⟩) ho) b hp).symm
        · exact c.tr.same h1 h.ple (fun q oq a b ho => hno q oq (.inr ⟨a, b⟩) ho) b hbi
      rw [hcont, hg] at hobj
      exact seg_of_row (n' := nr) (N' := Nr) hb (show RowR τ I nr Nr _ e w from (hobj.mono cut_le).1) hle rfl
    · obtain ⟨q, oq, q1, q2, q3, q4, q5, q6, q7, q8, q9⟩ := h.pend b e hb (by omega)
      have hqi : q < i := by
        rcases Nat.lt_or_ge q i with h1 | h1
        · exact h1
        · have := c.nle h1 (Nat.le_of_lt (lt_len q1)); omega
      have hcont : get (HH (q + 1)) b = get (HH i) b := (c.tr.same (show q + 1 ≤ i from hqi) (Nat.le_of_lt hlt) (fun q' oq' a b ho => hno q' oq' (.inl ⟨by omega, b⟩) ho) b q6).symm
      rw [hcont, hg] at q7
      exact seg_of_row (n' := nr) (N' := Nr) hb (show RowR τ I nr Nr _ e w from (q7.mono cut_le).1) hle rfl
  · obtain ⟨S, s, val, hall⟩ := hreads hst
    obtain ⟨n', N', e', op', g1, g2, g3⟩ := c.at_ s hall hsrc (Nat.le_of_lt hlt) hbi hrowi t1 t2
    rw [hg] at g1
    injection g1 with z1 z2 z3 z4
    subst z1 z2
    by_cases hp : b < N p
    · have hobj := h.rel.obj b e (cut_some.2 ⟨hp, hb⟩)
      have hrowp : isRow (get (HH p) b) = true := by
        rcases Nat.lt_or_ge p i with h1 | h1
        · exact (c.tr.ale (Nat.le_of_lt h1) (Nat.le_of_lt hlt)).kind b hp hrowi
        · exact c.stays s hall hsrc hbi hrowi h1 h.ple l2
      obtain ⟨n2, N2, e2, op2, k1, k2, k3⟩ := c.at_ s hall hsrc h.ple hp hrowp l1 l2
      rw [k1] at hobj
      exact seg_of_row (n' := n2) (N' := N2) hb (show RowR τ I n2 N2 _ e w from (hobj.mono cut_le).1) k2 (by rw [k3, g3])
    · obtain ⟨q, oq, q1, q2, q3, q4, q5, q6, q7, q8, q9⟩ := h.pend b e hb (by omega)
      have hqi : q < i := by
        rcases Nat.lt_or_ge q i with h1 | h1
        · exact h1
        · have := c.nle h1 (Nat.le_of_lt (lt_len q1)); omega
      have hrowq : isRow (get (HH (q + 1)) b) = true := (c.tr.ale (show q + 1 ≤ i from hqi) (Nat.le_of_lt hlt)).kind b q6 hrowi
      have hlo : loN X ops.toList i ≤ actN X ops.toList q := Nat.le_trans l1 (actN_mono q4)
      obtain ⟨n2, N2, e2, op2, k1, k2, k3⟩ := c.born s hall q1 q2 q5 q6 hrowq hlo
      rw [k1] at q7
      exact seg_of_row (n' := n2) (N' := N2) hb (show RowR τ I n2 N2 _ e w from (q7.mono cut_le).1) k2 (by rw [k3, g3])

/-! ### A step, whatever is ready -/
/-- all reads that may stand between acts were looked after -/
def ReadsOk (X : Env) (ops : Array Oper) (F : Nat → FR) (HH : Nat → HT) : Prop := ∀ x ∈ drawReads X ops.toList, ∃ S : Nat → SL, Snaps X ops.toList HH S ∧ ChkF X ops.toList (F ops.toList.length) (S ops.toList.length) x
theorem tmps_of_const {x : Operand} {o : Oper} {t : Nat} (h : x = .tmp t) (hx : x ∈ o.op.operands.toList) : t ∈ tmpsOf o := by
  subst h
  exact List.mem_filterMap.2 ⟨.tmp t, hx, rfl⟩
theorem draw_step (c : Ctx X ops n F HH N C I σ0 w0 a0) (hR : ReadsOk X ops F HH) (h : ∃ τ p, DInv X ops F HH N C I σ0 w0 a0 l a w τ p) {i : Nat} (hi : i ∈ Region.ready .any ops l) :
    StOp X.P ops i (fun a' w' => ∃ τ p, DInv X ops F HH N C I σ0 w0 a0 (l.setIfInBounds i true) a' w' τ p) a w := by
  obtain ⟨τ, p, h⟩ := h
  obtain ⟨hnot, o, ho, hed⟩ := mem_ready.1 hi
  have ho' : ops.toList[i]? = some o := by simpa using ho
  have hil : i < l.size := by rw [h.lsz]; exact (Array.getElem?_eq_some_iff.1 ho).1
  have r : Rdy ops l i o := ⟨ho', by simpa [Array.getD_eq_getD_getElem?, hil] using hnot, fun e he hb => hed e (by simpa using he) hb⟩
  have hlt := lt_len ho'
  -- no act between p and an act that is ready
  have toAct : cls X o.op = 3 → DInv X ops F HH N C I σ0 w0 a0 l a w τ i := fun hc => by
    have hpi : p ≤ i := by
      rcases Nat.lt_or_ge i p with h1 | h1
      · have := (h.acts i o ho' hc).2 h1; rw [r.not] at this; cases this
      · exact h1
    refine h.advTo c hpi (Nat.le_of_lt hlt) fun q oq h1 h2 hq hcq => ?_
    have hqD : l.getD q false = false := by
      cases hl : l.getD q false with
      | false => rfl
      | true => have := (h.acts q oq hq hcq).1 hl; omega
    rcases c.good.act q i oq o (by omega) hq ho' hcq hc with hb | hb
    · have := h.ahead c ho' r.ed hb; rw [hqD] at this; cases this
    · have := c.good.less q i oq o hq ho' hb; omega
  obtain ⟨hf, hr⟩ := c.tr.step i o ho'
  rcases hr with ⟨hg, hr⟩ | ⟨hg, ec, e1, e2⟩
  · have hw := h.guarded c r hg
    unfold Res at hr
    have h4 : cls X o.op = 0 ∨ cls X o.op = 1 ∨ cls X o.op = 2 ∨ cls X o.op = 3 := by
      have : cls X o.op ≤ 3 := by
        unfold cls
        split <;> first | omega | (split <;> first | omega | (split <;> omega))
      omega
    have hIi := c.holdsAt (show i + 1 ≤ ops.toList.length from hlt)
    have pure : Pur X o (maskF (tmpsOf o) (F i)) (HH i) (N i) (C i) (HH (i + 1)) (N (i + 1)) → cls X o.op ≠ 3 → StOp X.P ops i (fun a' w' => ∃ τ p, DInv X ops F HH N C I σ0 w0 a0 (l.setIfInBounds i true) a' w' τ p) a w := fun hp hc => by
      obtain ⟨v, hrun, hv⟩ := hp.2 I τ a hIi (h.opfr c r)
      exact .did ho hw (OpDo.value (Q := fun v' w' => v' = v ∧ w' = w) (hrun w) ⟨rfl, rfl⟩) fun v' w' ⟨e1, e2⟩ => by subst e1 e2; exact ⟨τ, p, h.still c r hc hv⟩
    rcases h4 with e | e | e | e
    · rw [e] at hr; exact pure hr (by omega)
    · rw [e] at hr
      obtain ⟨H1, n1, x, g, hn, hn1, hmk⟩ := hr
      have hN1 := g.le
      have h0 : cut τ (N i) n1 = none := by unfold cut; rw [if_neg (by omega)]
      obtain ⟨v, ob, w', e', k1, k2, k3, k4, k5⟩ := hmk I (cut τ (N i)) a hIi (h.opfr_cut c r) h0 w
      refine .did ho hw (OpDo.value (Q := fun v' w'' => v' = v ∧ w'' = w') k1 ⟨rfl, rfl⟩) fun v' w'' ⟨e1, e2⟩ => ?_
      subst e1 e2
      obtain ⟨τ', hτ⟩ := h.made c r e hN1 hn1 hn.at_ k2 k3 k4 k5
      exact ⟨τ', p, hτ⟩
    · rw [e] at hr
      rcases hr with hr | ⟨x, m, hrd, hr⟩
      · exact pure hr (by omega)
      · obtain ⟨g, pc, H1, n1, hA, ⟨hpe, hp23, hp15⟩, g1, nr, Nr, et, op, hg1, hle, hrun⟩ := hr
        have hIb : Holds I H1 n1 := hIi.back g1.toALe
        have hxmem : x ∈ o.op.operands.toList := by
          rcases hrd with ⟨t, e1, _⟩ | ⟨s, d, e1, _⟩ <;> rw [e1] <;> simp [Op.operands]
        have hseg : SegR τ I (blk pc) (off pc) (m pc) Nr w := by
          refine h.seg c r (H1 := H1) (n1 := n1) hA.1.free g1.le (fun b hb => hA.1.same b hb) hg1 hle fun hne => ?_
          obtain ⟨S, hS, hchk⟩ := hR _ (reads_mem ho' e hne)
          have hop : opAt ops.toList i = o.op := by unfold opAt; rw [ho']
          refine ⟨S, hS, ?_⟩
          have final : ∀ t, x = .tmp t → fget t (F ops.toList.length) = pc := fun t ht => by
            have htm := tmps_of_const (o := o) ht hxmem
            rw [hpe t ht, fget_mask, if_pos htm]
            by_cases hwr : ∃ (q : Nat) (oq : Oper), ops.toList[q]? = some oq ∧ oq.dst = some t
            · obtain ⟨q, oq, hq, hd⟩ := hwr
              have hqi := c.good.read i q o oq t ho' hq e hd htm
              rw [c.fget_some hq hd (lt_len hq) (Nat.le_refl _), c.fget_some hq hd hqi (Nat.le_of_lt hlt)]
            · rw [c.fget_none (Nat.le_refl _) fun q oq _ hq hd => hwr ⟨q, oq, hq, hd⟩, c.fget_none (Nat.le_of_lt hlt) fun q oq _ hq hd => hwr ⟨q, oq, hq, hd⟩]
          rcases hchk with ⟨t, aa, k1, k2⟩ | ⟨s', d, aa, k1, k2⟩
          · rw [hop] at k1
            rcases hrd with ⟨t', e1, e2⟩ | ⟨s2, d2, e1, e2⟩
            · rw [e1] at k1
              injection k1 with k3 k4
              subst k3
              have hfin := final aa k4
              rw [hfin] at k2
              rw [e2]
              exact k2.resolve_left hp23
            · rw [e1] at k1; cases k1
          · rw [hop] at k1
            rcases hrd with ⟨t', e1, e2⟩ | ⟨s2, d2, e1, e2⟩
            · rw [e1] at k1; cases k1
            · rw [e1] at k1
              injection k1 with k3 k5 k4
              have hfin := final aa k4
              rw [hfin] at k2
              rw [e2]
              exact (k2.resolve_left hp23).resolve_left hp15
        obtain ⟨v, k1, k2⟩ := hrun I τ w a hIi (h.opfr c r) hseg
        exact .did ho hw (OpDo.value (Q := fun v' w' => v' = v ∧ w' = w) k1 ⟨rfl, rfl⟩) fun v' w' ⟨e1, e2⟩ => by subst e1 e2; exact ⟨τ, p, h.still c r (by omega) k2⟩
    · rw [e] at hr
      have hi' := toAct e
      have hdo := hr.2 I (cut τ (N i)) w a hIi hi'.rel (hi'.opfr_cut c r)
      refine .did ho hw hdo fun v w' ⟨σ', ha, hv⟩ => ?_
      obtain ⟨τ', hτ⟩ := hi'.acted c r e ha hv
      exact ⟨τ', i + 1, hτ⟩
  · have hw := h.guarded c r hg
    refine .skip ho hw ?_
    by_cases hc : cls X o.op = 3
    · have hi' := toAct hc
      have ha : After (cut τ (N i)) I (HH i) (N i) w (cut τ (N i)) (HH (i + 1)) (N (i + 1)) w := by
        rw [e1, e2]
        exact .grow hi'.rel (Grow.refl (c.tr.free i (Nat.le_of_lt hlt)))
      obtain ⟨τ', hτ⟩ := hi'.acted c r hc ha (by rw [ec]; exact vr_undef)
      exact ⟨τ', i + 1, hτ⟩
    · exact ⟨τ, p, h.still c r hc (by rw [ec]; exact vr_undef)⟩

/-! ### The whole region -/
theorem draw_end (c : Ctx X ops n F HH N C I σ0 w0 a0) (h : ∃ τ p, DInv X ops F HH N C I σ0 w0 a0 l a w τ p) (hr : Region.ready .any ops l = []) :
    ∃ σ', After σ0 I (HH 0) (N 0) w0 σ' (HH ops.toList.length) (N ops.toList.length) w ∧ FrameR σ' I (F ops.toList.length) a.tmps ∧ a.tmps.size = a0.tmps.size ∧ a.defers = a0.defers := by
  obtain ⟨τ, p, h⟩ := h
  have all : ∀ i, i < ops.size → l.getD i false = true := by
    intro i
    induction i using Nat.strongRecOn with
    | _ i ih =>
      intro hi
      cases hl : l.getD i false with
      | true => rfl
      | false =>
        exfalso
        have hil : i < l.size := by rw [h.lsz]; exact hi
        have ho : ops[i]? = some ops[i] := Array.getElem?_eq_getElem hi
        have ho' : ops.toList[i]? = some ops[i] := by simp [ho]
        have : i ∈ Region.ready .any ops l := mem_ready.2 ⟨by simpa [Array.getD_eq_getD_getElem?, hil] using hl, _, ho, fun e he hb => by
          have hlt := c.good.edge i _ ho' e (by simpa using he) hb
          exact ih e.on hlt (by omega)⟩
        rw [hr] at this; cases this
  have hD : ∀ (j : Nat) (o : Oper), ops.toList[j]? = some o → l.getD j false = true := fun j o ho => all j (by have := lt_len ho; simpa using this)
  have hm := h.advTo c h.ple (Nat.le_refl _) fun q o h1 h2 hq hc => by
    have := (h.acts q o hq hc).1 (hD q o hq); omega
  have hcut : cut τ (N ops.toList.length) = τ := by
    funext b
    unfold cut
    by_cases hb : b < N ops.toList.length
    · rw [if_pos hb]
    · rw [if_neg hb]
      cases hτ : τ b with
      | none => rfl
      | some e => exact absurd (hm.blt c hτ) hb
  have hrel := hm.rel
  rw [hcut] at hrel
  refine ⟨τ, ⟨hm.ext, hrel, hm.unch, hm.afr⟩, fun t => ?_, hm.asz, hm.adf⟩
  by_cases hwr : ∃ (q : Nat) (oq : Oper), ops.toList[q]? = some oq ∧ oq.dst = some t
  · obtain ⟨q, oq, hq, hd⟩ := hwr
    rw [c.fget_some hq hd (lt_len hq) (Nat.le_refl _)]
    exact hm.done q oq t hq (hD q oq hq) hd
  · rw [c.fget_none (Nat.le_refl _) fun q oq _ hq hd => hwr ⟨q, oq, hq, hd⟩, hm.todo t fun q oq hq _ hd => hwr ⟨q, oq, hq, hd⟩]
    exact (c.frame t).mono hm.ext.1
theorem draw_start (c : Ctx X ops n F HH N C I σ0 w0 a0) : DInv X ops F HH N C I σ0 w0 a0 (Array.replicate ops.size false) a0 w0 σ0 0 := by
  have hnot : ∀ i, (Array.replicate ops.size false).getD i false = false := fun i => by
    by_cases h : i < ops.size <;> simp [Array.getD_eq_getD_getElem?, h]
  have hcut : cut σ0 (N 0) = σ0 := by
    funext b
    unfold cut
    by_cases hb : b < N 0
    · rw [if_pos hb]
    · rw [if_neg hb]
      cases hτ : σ0 b with
      | none => rfl
      | some e => exact absurd (c.rel.dom b e hτ).1 hb
  exact {
    lsz := by simp
    ple := Nat.zero_le _
    acts := fun j o _ _ => by rw [hnot]; simp
    edges := fun i o _ hl => by rw [hnot] at hl; cases hl
    asz := rfl
    adf := rfl
    done := fun i o t _ hl => by rw [hnot] at hl; cases hl
    todo := fun t _ => rfl
    ext := SExt.refl _ _ _
    unch := Unch.refl _ _
    rel := by rw [hcut]; exact c.rel
    afr := fun b _ _ => rfl
    src := fun b e hb => .inl hb
    pend := fun b e hb h1 => by have := (c.rel.dom b e hb).1; omega
    keep := fun q o _ _ hq => absurd hq (by omega) }
theorem draw_ok (hX : EnvOk X) (hFo : FormOk X) (hT : 3 ≤ X.P.types.size) (hm : X.P.follows .mixedOrders = true) (hc : CallOk X call) : DrawOk X call := by
  intro r ops n f H nx hok hn hf
  have hgood := good_of hok
  have key : ∀ (F : Nat → FR) (HH : Nat → HT) (N C : Nat → Nat), F 0 = f → HH 0 = H → N 0 = nx → Trace X ops.toList F HH N C → ReadsOk X ops F HH → CodS X n (.region r ops true) f H nx .normal (F ops.toList.length) (HH ops.toList.length) (N ops.toList.length) := by
    intro F HH N C z1 z2 z3 htr hR
    subst z1 z2 z3
    refine ⟨htr.ale (Nat.zero_le _) (Nat.le_refl _), fun I σ w a hI hS hF hs hd => ?_⟩
    let w1 : World := { w with drawn := w.drawn + 1 }
    have hS1 : SRel σ I (HH 0) (N 0) w1 := hS.heap rfl
    have c : Ctx X ops n F HH N C I σ w1 a := ⟨htr, hgood, hn, hI, hS1, hF, hs⟩
    intro b k cs
    have hstart := draw_start c
    obtain ⟨a', w', ⟨σ', ha, hF', hs', hd'⟩, hsteps⟩ := sched_go (P := X.P) (ops := ops) (R := fun a' w' => ∃ σ', After σ I (HH 0) (N 0) w1 σ' (HH ops.toList.length) (N ops.toList.length) w' ∧ FrameR σ' I (F ops.toList.length) a'.tmps ∧ a'.tmps.size = a.tmps.size ∧ a'.defers = a.defers)
      (fun l a' w' => ∃ τ p, DInv X ops F HH N C I σ w1 a l a' w' τ p) (fun l a' w' ⟨τ, p, h⟩ => h.lsz) (fun l a' w' h i hi => draw_step c hR h hi) (fun l a' w' h hr => draw_end c h hr)
      ops.size (w.tape w.drawn (.order b.fn r)) (Array.replicate ops.size false) a w1 ⟨σ, 0, hstart⟩ (by
        have := List.countP_le_length (p := fun i => !(Array.replicate ops.size false).getD i true) (l := List.range ops.size)
        simpa using this) b k cs
    refine ⟨.normal, a', w', ⟨rfl, σ', ?_, hF', by omega, by rw [hd', hd]⟩, .head step_region_draw (Steps.trans ?_ (.one (step_region_end (ops := ops))))⟩
    · exact ⟨ha.ext, ha.rel, ⟨ha.unch.size, ha.unch.old, ha.unch.os, ha.unch.out⟩, ha.afr⟩
    · simp only [Region.schedule, hm, Bool.true_or, if_true]
      exact hsteps
  unfold runDrawL
  cases hl : drawReads X ops.toList with
  | nil =>
    show OutS X n _ f H nx (runOpsD ops.toList ops.toList 0 .nil (fun _ f H nx => .norm f H nx) X call f H nx)
    rcases runOpsD_trace (all := ops.toList) hX hFo hT hc ops.toList 0 .nil (fun _ f H nx => .norm f H nx) f H nx hf with ⟨m, e⟩ | ⟨F, HH, N, C, S, K, z1, z2, z3, z4, z5, z6, z7, z8⟩
    · rw [e]; trivial
    · rw [z8]
      exact key F HH N C z1 z2 z3 ⟨fun j o ho => (z6 j o ho).1, z7⟩ fun x hx => by rw [hl] at hx; cases hx
  | cons x xs =>
    show OutS X n _ f H nx (runOpsD ops.toList ops.toList 0 (.cons H 0 .nil) (fun s f H nx => chkReads X ops.toList f s (.norm f H nx) (x :: xs)) X call f H nx)
    rcases runOpsD_trace (all := ops.toList) hX hFo hT hc ops.toList 0 (.cons H 0 .nil) (fun s f H nx => chkReads X ops.toList f s (.norm f H nx) (x :: xs)) f H nx hf with ⟨m, e⟩ | ⟨F, HH, N, C, S, K, z1, z2, z3, z4, z5, z6, z7, z8⟩
    · rw [e]; trivial
    · rw [z8]
      rcases chkReads_ok (X := X) (L := ops.toList) (f := F ops.toList.length) (s := S ops.toList.length) (k := .norm (F ops.toList.length) (HH ops.toList.length) (N ops.toList.length)) (x :: xs) with ⟨m, e⟩ | ⟨e, hchk⟩
      · rw [e]; trivial
      · rw [e]
        have hK : ∀ j, j ≤ ops.toList.length → K j = actN X ops.toList j := by
          intro j
          induction j with
          | zero => intro _; rw [z5]; rfl
          | succ j ih =>
            intro hj
            have hlt : j < ops.toList.length := by omega
            have ho : ops.toList[j]? = some ops.toList[j] := List.getElem?_eq_getElem hlt
            rw [(z6 j _ ho).2.2, ih (by omega), actN_succ ho]
        have hsn : Snaps X ops.toList HH S := ⟨by rw [z4, z2], fun j o ho => by rw [(z6 j o ho).2.1, hK j (Nat.le_of_lt (lt_len ho))]⟩
        exact key F HH N C z1 z2 z3 ⟨fun j o ho => (z6 j o ho).1, z7⟩ fun y hy => by rw [hl] at hy; exact ⟨S, hsn, hchk y hy⟩
end Go.Ev
set_option linter.unusedVariables false
set_option linter.unusedSimpArgs false
namespace Go.Ev
variable {X : Env}

/-! ### A function's run, told -/
theorem get1_e (i : Nat) : get1 e1 i = .dead := by
  unfold get1
  generalize s8 _ = s
  cases s <;> rfl
theorem get2_e (i : Nat) : get2 e2 i = .dead := by
  unfold get2
  generalize s8 _ = s
  cases s <;> exact get1_e _
theorem get3_e (i : Nat) : get3 e3 i = .dead := by
  unfold get3
  generalize s8 _ = s
  cases s <;> exact get2_e _
theorem get4_e (i : Nat) : get4 e4 i = .dead := by
  unfold get4
  generalize s8 _ = s
  cases s <;> exact get3_e _
theorem get5_e (i : Nat) : get5 e5 i = .dead := by
  unfold get5
  generalize s8 _ = s
  cases s <;> exact get4_e _
theorem get6_e (i : Nat) : get6 e6 i = .dead := by
  unfold get6
  generalize s8 _ = s
  cases s <;> exact get5_e _
theorem get_e (i : Nat) (h : i < 262144) : get HT.e i = .dead := get6_e i
/-- what a world must hold ahead of a run that has a ground -/
def Grounded (G : Obj) (w : World) : Prop := ∀ R E, G = .tup R E → GndW R E w
theorem top (hX : EnvOk X) (h3 : 3 ≤ X.P.types.size) (hN : FnsOk X) (hO : OrcOk X) (hm : X.P.follows .mixedOrders = true) {n g F : Nat} {fn : Func} {G : Obj} (hg : X.P.funcs[g]? = some fn) (ho : X.orc g = 0) (hi : isImm G) (hrun : isTr (runTop X G n g fn F) = true)
    {args : Array Value} (hA : ∀ σ I, ArgsR σ I F args) (w : World) (hG : Grounded G w) :
    Calls X.P g args w fun e w' => e = .returned (.bool true) ∧ w.heap.size ≤ w'.heap.size ∧ w'.os = w.os ∧ w'.output = w.output ∧ ∀ k, k < w.heap.size → w'.heap[k]? = w.heap[k]? := by
  have hFo : FormOk X := ⟨trivial⟩
  have hf0 : Free HT.e 0 := ⟨by omega, fun i _ hi => get_e i hi⟩
  have hr := run_ok hX hFo h3 hN hO (fun call hc => draw_ok hX hFo h3 hm hc) n
  unfold runTop at hrun
  rcases new_tells G HT.e 0 hf0 (fun _ H nx => callFn fn X (Ev.runN n X) g F H nx (fun c H nx => .exit c 0 H nx)) with ⟨m, hb⟩ | ⟨c0, H0, n0, he0, rfl, rfl, hn⟩
  · rw [hb] at hrun
    exact absurd hrun (by simp [isTr])
  · rw [he0] at hrun
    have hf : Free H0 (0 + 1) := hn.free
    rcases fn_callsC hX hFo hN hr hg ho hf (F := F) (fun c H nx => .exit c 0 H nx) with ⟨m, hb⟩ | ⟨c, H', nx', he, hal, h⟩
    · rw [hb] at hrun
      exact absurd hrun (by simp [isTr])
    · rw [he] at hrun
      have hc : c = 237684487542793012780631851009 := beq_iff.1 hrun
      have hH0 : get H' 0 = G := by
        have := hal.lasts 0 (by omega) (by rw [hn.at_]; exact hi)
        rw [this, hn.at_]
      have hS : SRel (fun _ => none) ⟨fun i => get H' i, fun _ => none⟩ H0 (0 + 1) w := ⟨fun b e hb => absurd hb (by simp), fun b e hb => absurd hb (by simp), fun b b' e e' hb => absurd hb (by simp), fun R E hI => ⟨hG R E (hH0.symm.trans hI), fun b e hb => absurd hb (by simp)⟩⟩
      refine (h ⟨fun i => get H' i, fun _ => none⟩ (fun _ => none) w args (fun i _ _ => rfl) hS (hA _ _)).mono ?_
      rintro e w' ⟨v, rfl, σ', ha, hv⟩
      rw [bool_yes hv hc]
      exact ⟨rfl, ha.unch.size, ha.unch.os, ha.unch.out, fun k hk => ha.unch.old k hk fun b e hb => absurd hb (by simp)⟩
end Go.Ev
set_option linter.unusedVariables false
set_option linter.unusedSimpArgs false
namespace Go.Ev

/-! ### Arguments -/
def Kept (w w' : World) : Prop := w.heap.size ≤ w'.heap.size ∧ w'.os = w.os ∧ w'.output = w.output ∧ ∀ k, k < w.heap.size → w'.heap[k]? = w.heap[k]?
theorem Kept.frame {w w' : World} (h : Kept w w') (may : MemPlace → Prop) : w.keptBut w' may := by
  refine ⟨h.2.1, h.2.2.1, fun i hi => ?_⟩
  rw [h.2.2.2 i hi]
  split <;> simp_all
/-- a u8 of which the rest by m is told -/
def restC (r m : Nat) : Nat := 24 * 79228162514264337593543950336 + r + m * 4294967296
def u8C (n : Nat) : Nat := 8 * 79228162514264337593543950336 + n
def argF1 (c : Nat) : Nat := c * 340282366920938463463374607431768211456
def argF2 (c d : Nat) : Nat := (c + d * 340282366920938463463374607431768211456) * 340282366920938463463374607431768211456
theorem dig_mul (N i : Nat) : dig (N * 340282366920938463463374607431768211456) (i + 1) = dig N i := by
  have := dig_shl N i
  rw [Nat.shiftLeft_eq, show (2 : Nat) ^ 128 = 340282366920938463463374607431768211456 from by decide] at this
  exact this
theorem dig_mul0 (N : Nat) : dig (N * 340282366920938463463374607431768211456) 0 = 0 := by
  rw [dig_def, show 128 * 0 = 0 from rfl, Nat.shiftRight_zero, show (2 : Nat) ^ 128 = 340282366920938463463374607431768211456 from by decide]
  exact Nat.mul_mod_left _ _
theorem args1 {c : Nat} {v : Value} (hc : c < 340282366920938463463374607431768211456) (h : ∀ σ I, VR σ I c v) : ∀ σ I, ArgsR σ I (argF1 c) #[v] := fun σ I => by
  refine ⟨?_, .inl (dig_mul0 c), fun i hi => ?_⟩
  · show c * 340282366920938463463374607431768211456 < 2 ^ (128 * (1 + 1))
    rw [show (2 : Nat) ^ (128 * (1 + 1)) = 340282366920938463463374607431768211456 * 340282366920938463463374607431768211456 from by decide]
    exact (Nat.mul_lt_mul_right (by decide)).2 hc
  · have : i = 0 := by simp at hi; omega
    subst this
    show VR σ I (dig (argF1 c) (0 + 1)) v
    unfold argF1
    rw [dig_mul, dig_small (by rw [show (2 : Nat) ^ 128 = 340282366920938463463374607431768211456 from by decide]; exact hc)]
    exact h σ I
theorem args1N {Q : Imm → Prop} {c : Nat} {v : Value} (hc : c < 340282366920938463463374607431768211456) (h : ∀ σ I, Q I → VR σ I c v) : ∀ σ I, Q I → ArgsR σ I (argF1 c) #[v] := fun σ I hq => by
  refine ⟨?_, .inl (dig_mul0 c), fun i hi => ?_⟩
  · show c * 340282366920938463463374607431768211456 < 2 ^ (128 * (1 + 1))
    rw [show (2 : Nat) ^ (128 * (1 + 1)) = 340282366920938463463374607431768211456 * 340282366920938463463374607431768211456 from by decide]
    exact (Nat.mul_lt_mul_right (by decide)).2 hc
  · have : i = 0 := by simp at hi; omega
    subst this
    show VR σ I (dig (argF1 c) (0 + 1)) v
    unfold argF1
    rw [dig_mul, dig_small (by rw [show (2 : Nat) ^ 128 = 340282366920938463463374607431768211456 from by decide]; exact hc)]
    exact h σ I hq
theorem pow3 (k : Nat) (h : k = 3) : (2 : Nat) ^ (128 * k) = 340282366920938463463374607431768211456 * 340282366920938463463374607431768211456 * 340282366920938463463374607431768211456 := by
  rw [Nat.pow_mul, show (2 : Nat) ^ 128 = 340282366920938463463374607431768211456 from by decide, h, Nat.pow_succ, Nat.pow_two]
theorem args2 {c d : Nat} {v u : Value} (hc : c < 340282366920938463463374607431768211456) (hd : d < 340282366920938463463374607431768211456) (h : ∀ σ I, VR σ I c v) (h' : ∀ σ I, VR σ I d u) : ∀ σ I, ArgsR σ I (argF2 c d) #[v, u] := fun σ I => by
  have e0 : dig (c + d * 340282366920938463463374607431768211456) 0 = c := by
    rw [dig_def, show 128 * 0 = 0 from rfl, Nat.shiftRight_zero, show (2 : Nat) ^ 128 = 340282366920938463463374607431768211456 from by decide, Nat.add_mul_mod_self_right, Nat.mod_eq_of_lt hc]
  have e1 : dig (c + d * 340282366920938463463374607431768211456) (0 + 1) = d := by
    rw [dig_def, show 128 * (0 + 1) = 128 from rfl, Nat.shiftRight_eq_div_pow, show (2 : Nat) ^ 128 = 340282366920938463463374607431768211456 from by decide, Nat.add_mul_div_right _ _ (by decide), Nat.div_eq_of_lt hc, Nat.zero_add, Nat.mod_eq_of_lt hd]
  refine ⟨?_, .inl (dig_mul0 _), fun i hi => ?_⟩
  · rw [pow3 (#[v, u].size + 1) rfl]
    unfold argF2
    refine (Nat.mul_lt_mul_right (by decide)).2 ?_
    have h3 : (d + 1) * 340282366920938463463374607431768211456 ≤ 340282366920938463463374607431768211456 * 340282366920938463463374607431768211456 := Nat.mul_le_mul_right _ hd
    rw [Nat.add_mul, Nat.one_mul] at h3
    omega
  · have : i = 0 ∨ i = 1 := by simp at hi; omega
    rcases this with rfl | rfl
    · show VR σ I (dig (argF2 c d) (0 + 1)) v
      unfold argF2
      rw [dig_mul, e0]; exact h σ I
    · show VR σ I (dig (argF2 c d) (1 + 1)) u
      unfold argF2
      rw [dig_mul, e1]; exact h' σ I
theorem restC_lt {r m : Nat} (hr : r < 256) (hm : m < 4294967296) : restC r m < 340282366920938463463374607431768211456 := by unfold restC; omega
theorem u8C_lt {n : Nat} (h : n < 256) : u8C n < 340282366920938463463374607431768211456 := by unfold u8C; omega
theorem restC_rel {σ : Sig} {I : Imm} {x m : Nat} (hx : x < 256) (h0 : 0 < m) (hm : m < 256) : VR σ I (restC (x % m) m) (.int .u8 x) := by
  have hr := Nat.mod_lt x h0
  generalize hq : x % m = r at hr
  refine CRp.toV ?_
  have h24 : hi (restC r m) = 24 := by rw [hi_def]; unfold restC; omega
  have e1 : restC r m / 4294967296 % 4294967296 = m := by unfold restC; omega
  have e2 : restC r m % 4294967296 = r := by unfold restC; omega
  unfold CRp; rw [h24]
  exact ⟨x, rfl, hx, by rw [e1]; exact h0, by rw [e1, e2]; exact hq, .inl (by unfold restC; omega)⟩
theorem u8C_rel {σ : Sig} {I : Imm} {x : Nat} (hx : x < 256) : VR σ I (u8C x) (.int .u8 x) := by
  refine CRp.toV ?_
  have h8 : hi (u8C x) = 8 := by rw [hi_def]; unfold u8C; omega
  unfold CRp; rw [h8]
  refine ⟨x, rfl, ?_, ?_, ?_⟩
  · show (0 : Int) ≤ _; omega
  · show _ ≤ (255 : Int); omega
  · show u8C x = 8 * 79228162514264337593543950336 + _; unfold u8C; omega
theorem bool_rel {σ : Sig} {I : Imm} (b : Bool) : VR σ I (boolC b) (.bool b) := by
  refine CRp.toV ?_
  have h3 : hi (boolC b) = 3 := by cases b <;> rfl
  unfold CRp; rw [h3]
  exact ⟨b, rfl, rfl⟩
theorem boolC_lt (b : Bool) : boolC b < 340282366920938463463374607431768211456 := by cases b <;> decide
theorem u8_nat {a : Int} (h : (Lit.int .u8 a).wf = true) : ∃ x : Nat, a = (x : Int) ∧ x < 256 := by
  simp [Lit.wf, IntKind.min, IntKind.max, IntKind.signed, IntKind.bits] at h
  exact ⟨a.toNat, by omega, by omega⟩
end Go.Ev
set_option linter.unusedVariables false
set_option linter.unusedSimpArgs false
namespace Go.Ev
def argF3 (c d e : Nat) : Nat := packL [0, c, d, e]
theorem packL_lt' : ∀ l : List Nat, (∀ c ∈ l, c < 2 ^ 128) → packL l < 2 ^ (128 * l.length)
  | [], _ => by simp [packL]
  | c :: l, h => by
    have hc := h c (by simp)
    have ih := packL_lt' l fun x hx => h x (by simp [hx])
    have e : (2 : Nat) ^ (128 * (c :: l).length) = 2 ^ 128 * 2 ^ (128 * l.length) := by rw [← Nat.pow_add]; congr 1; simp; omega
    rw [e]
    have hB : (340282366920938463463374607431768211456 : Nat) = 2 ^ 128 := by decide
    simp only [packL, hB]
    have h3 : (packL l + 1) * 2 ^ 128 ≤ 2 ^ (128 * l.length) * 2 ^ 128 := Nat.mul_le_mul_right _ ih
    rw [Nat.add_mul, Nat.one_mul] at h3
    rw [Nat.mul_comm (2 ^ 128)]
    omega
theorem args3 {c d e : Nat} {v u t : Value} (hc : c < 340282366920938463463374607431768211456) (hd : d < 340282366920938463463374607431768211456) (he : e < 340282366920938463463374607431768211456) (h : ∀ σ I, VR σ I c v) (h' : ∀ σ I, VR σ I d u) (h'' : ∀ σ I, VR σ I e t) : ∀ σ I, ArgsR σ I (argF3 c d e) #[v, u, t] := fun σ I => by
  have hB : (340282366920938463463374607431768211456 : Nat) = 2 ^ 128 := by decide
  rw [hB] at hc hd he
  have hall : ∀ x ∈ [0, c, d, e], x < 2 ^ 128 := fun x hx => by
    simp only [List.mem_cons, List.not_mem_nil, or_false] at hx
    rcases hx with rfl | rfl | rfl | rfl
    · decide
    · exact hc
    · exact hd
    · exact he
  refine ⟨packL_lt' _ hall, .inl ?_, fun i hi => ?_⟩
  · unfold argF3; rw [dig_packL _ _ hall]; rfl
  · unfold argF3
    rw [dig_packL _ _ hall]
    have : i = 0 ∨ i = 1 ∨ i = 2 := by simp at hi; omega
    rcases this with rfl | rfl | rfl
    · exact h σ I
    · exact h' σ I
    · exact h'' σ I
end Go.Ev
set_option linter.unusedVariables false
set_option linter.unusedSimpArgs false
namespace Go.Ev
variable {X : Env}

/-! ### More lasting things known -/
def ILe (I I' : Imm) : Prop := (∀ i, I i = .dead ∨ I' i = I i) ∧ ∀ k v, I.val k = some v → I'.val k = some v
theorem ILe.at {I I' : Imm} (h : ILe I I') {i : Nat} {x : Obj} (e : I i = x) (hx : isImm x) : I' i = x := by
  rcases h.1 i with h | h
  · rw [h] at e; subst e; exact hx.elim
  · rw [h]; exact e
section
variable {σ : Sig} {I I' : Imm}
theorem CRp.imm (h : ILe I I') {c : Nat} {v : Value} (k : CRp σ I c v) : CRp σ I' c v := by
  unfold CRp at k ⊢
  split at k <;> first | exact k | skip
  · obtain ⟨s, a, b, e⟩ := k
    exact ⟨s, a, b, h.at e trivial⟩
  · obtain ⟨x, q1, q2, q3, q4, q5⟩ := k
    exact ⟨x, q1, q2, q3, q4, q5.imp id (h.2 _ _)⟩
  · exact ⟨h.2 _ _ k.1, k.2⟩
theorem CRi.imm (h : ILe I I') {c : Nat} {v : Value} (k : CRi σ I c v) : CRi σ I' c v := by
  rcases k with ⟨a, a2, t, w, b, d, e, k⟩ | ⟨a, k⟩
  · exact .inl ⟨a, a2, t, w, b, d, e, k.imm h⟩
  · exact .inr ⟨a, k.imm h⟩
theorem CRs.imm (h : ILe I I') {c : Nat} {v : Value} (k : CRs σ I c v) : CRs σ I' c v := by
  rcases k with k | ⟨a, b, g, n1, N1, n2, N2, x, y, e, q, r1, r2, r3, r4, r5⟩
  · exact .inl (k.imm h)
  · exact .inr ⟨a, b, g, n1, N1, n2, N2, x, y, h.at e trivial, q, r1, r2, fun i hi => (r3 i hi).imm h, fun i hi => (r4 i hi).imm h, r5⟩
theorem CRa.imm (h : ILe I I') {c : Nat} {v : Value} (k : CRa σ I c v) : CRa σ I' c v := by
  rcases k with k | ⟨a, b, N, cs, e, q, r⟩
  · exact .inl (k.imm h)
  · exact .inr ⟨a, b, N, cs, h.at e trivial, q, fun i hi => (r i hi).imm h⟩
theorem CRv.imm (h : ILe I I') {c : Nat} {v : Value} (k : CRv σ I c v) : CRv σ I' c v := by
  rcases k with k | ⟨a, b, N, cs, e, q, r⟩
  · exact .inl (k.imm h)
  · exact .inr ⟨a, b, N, cs, h.at e trivial, q, fun i hi => (r i hi).imm h⟩
theorem VR.imm (h : ILe I I') {c : Nat} {v : Value} (k : VR σ I c v) : VR σ I' c v := k.imp id (·.imp id (·.imm h))
theorem FrameR.imm (h : ILe I I') {f : FR} {t : Array Value} (k : FrameR σ I f t) : FrameR σ I' f t := fun i => (k i).imm h
theorem ObjR.imm (hs : ILe I I') {o : Obj} {e : SE} {w : World} (h : ObjR σ I o e w) : ObjR σ I' o e w := by
  cases o <;> first | trivial | skip
  · obtain ⟨⟨cells, el, fz, h1, h2, h3, h4, h5⟩, hz⟩ := h
    exact ⟨⟨cells, el, fz, h1, h2, h3, h4, fun i hi => let ⟨v, a, b⟩ := h5 i hi; ⟨v, a, b.imm hs⟩⟩, hz⟩
  · obtain ⟨es, h1, h2, h3⟩ := h
    refine ⟨es, h1, ?_, h3⟩
    have : ∀ (l : ML) (es : List MapEntry), MLR σ I l es → MLR σ I' l es := by
      intro l
      induction l with
      | nil => intro es h; cases es <;> exact h
      | cons k v b l ih => intro es h; cases es with
        | nil => exact h
        | cons x es => exact ⟨⟨h.1.1.imm hs, h.1.2.1, h.1.2.2.1, h.1.2.2.2.1.imm hs, h.1.2.2.2.2⟩, ih es h.2⟩
    exact this _ _ h2
  · rcases h with ⟨hc, buf, s, r, h1, h2, h4, h3⟩ | h
    · exact .inl ⟨hc, buf, s, r, h1, h2, h4, fun i hi => (h3 i hi).imm hs⟩
    · exact .inr h
theorem SRel.imm (hs : ILe I I') (h0 : I' 0 = I 0) {H : HT} {nx : Nat} {w : World} (h : SRel σ I H nx w) : SRel σ I' H nx w where
  dom := h.dom
  obj := fun b e hb => (h.obj b e hb).imm hs
  inj := h.inj
  g0 := fun R E hI => h.g0 R E (h0.symm.trans hI)
end

/-! ### A point of a run -/
/-- the evaluator's state tells what the world and the call's places are; nothing that was there at w0 has changed -/
def Pt (n : Nat) (V : Option Value) (w0 : World) (f : FR) (H : HT) (nx : Nat) (a : Act) (w : World) : Prop :=
  ∃ (I : Imm) (σ : Sig), SRel σ I H nx w ∧ FrameR σ I f a.tmps ∧ Holds I H nx ∧ (∀ i, nx ≤ i → I i = .dead) ∧ 0 < nx ∧ n ≤ a.tmps.size ∧ a.defers = [] ∧ Free H nx ∧ (∀ b e, σ b = some e → w0.heap.size ≤ e.B) ∧ Stays w0 w ∧ ∀ v, V = some v → I.val 1 = some v
noncomputable def more (I : Imm) (nx : Nat) (H1 : HT) (n1 : Nat) : Imm := ⟨fun i => if i < nx then I i else if i < n1 then get H1 i else .dead, I.val⟩
theorem more_le {I : Imm} {nx n1 : Nat} {H1 : HT} (ht : ∀ i, nx ≤ i → I i = .dead) : ILe I (more I nx H1 n1) := ⟨fun i => by
  by_cases h : i < nx
  · exact .inr (if_pos h)
  · exact .inl (ht i (by omega)), fun _ _ h => h⟩
theorem more_holds {I : Imm} {nx n1 : Nat} {H H1 : HT} (hH : Holds I H nx) (ha : ALe H nx H1 n1) : Holds (more I nx H1 n1) H1 n1 := fun i hi hm => by
  show (if i < nx then I.f i else if i < n1 then get H1 i else .dead) = get H1 i
  by_cases h : i < nx
  · rw [if_pos h]
    have e := ha.back i h hm
    rw [e]; exact hH i h (by rw [← e]; exact hm)
  · rw [if_neg h, if_pos hi]
theorem more_tight {I : Imm} {nx n1 : Nat} {H1 : HT} (hle : nx ≤ n1) : ∀ i, n1 ≤ i → more I nx H1 n1 i = .dead := fun i hi => by
  show (if i < nx then I.f i else if i < n1 then get H1 i else .dead) = .dead
  rw [if_neg (by omega), if_neg (by omega)]
theorem pt_after {w0 w w' : World} {σ σ' : Sig} {I : Imm} {H H' : HT} {nx nx' : Nat} (h : After σ I H nx w σ' H' nx' w') (hs : ∀ b e, σ b = some e → w0.heap.size ≤ e.B) (hst : Stays w0 w) : (∀ b e, σ' b = some e → w0.heap.size ≤ e.B) ∧ Stays w0 w' := by
  refine ⟨fun b e hb => ?_, Nat.le_trans hst.1 h.unch.size, h.unch.os.trans hst.2.1, h.unch.out.trans hst.2.2.1, fun k hk => ?_⟩
  · rcases h.ext.2 b e hb with h1 | ⟨_, h2 | ⟨b0, e0, h3, h4⟩⟩
    · exact hs b e h1
    · exact Nat.le_trans hst.1 h2
    · rw [← h4]; exact hs b0 e0 h3
  · rw [h.unch.old k (Nat.lt_of_lt_of_le hk hst.1) (fun b e hb => by have := hs b e hb; omega)]
    exact hst.2.2.2 k hk
theorem wpL_mono {P : Program} {c : Code} {Q Q' : Exit → Act → World → Prop} {a : Act} {w : World} (h : wpL P c Q a w) (hq : ∀ e a w, Q e a w → Q' e a w) : wpL P c Q' a w :=
  fun b k cs => let ⟨e, a', w', q, r⟩ := h b k cs; ⟨e, a', w', hq _ _ _ q, r⟩
/-- from a state to a state, by a piece of code -/
def Tri (X : Env) (V : Option Value) (n : Nat) (c : Code) (f : FR) (H : HT) (nx : Nat) (e : Exit) (f' : FR) (H' : HT) (nx' : Nat) : Prop :=
  ∀ (w0 : World) (a : Act) (w : World), Pt n V w0 f H nx a w → wpL X.P c (fun e' a' w' => e' = e ∧ Pt n V w0 f' H' nx' a' w') a w
variable {V : Option Value} {n nx nx1 nx2 : Nat} {f f1 f2 : FR} {H H1 H2 : HT} {c b : Code} {e : Exit}
theorem Tri.of (h : CodS X n c f H nx e f1 H1 nx1) : Tri X V n c f H nx e f1 H1 nx1 := by
  rintro w0 a w ⟨I, σ, h1, h2, h3, h4, h5, h6, h7, h8, h9, h10, h11⟩
  have hle := more_le (n1 := nx1) (H1 := H1) h4
  have h00 : more I nx H1 nx1 0 = I 0 := if_pos h5
  refine wpL_mono (h.2 (more I nx H1 nx1) σ w a (more_holds h3 h.1) (h1.imm hle h00) (h2.imm hle) h6 h7) ?_
  rintro e' a' w' ⟨rfl, σ', q1, q2, q3, q4⟩
  obtain ⟨r1, r2⟩ := pt_after q1 h9 h10
  exact ⟨rfl, more I nx H1 nx1, σ', q1.rel, q2, more_holds h3 h.1, more_tight h.1.le, Nat.lt_of_lt_of_le h5 h.1.le, q3, q4, h.1.free, r1, r2, h11⟩
/-- things let go -/
theorem Pt.less {w0 w : World} {a : Act} (h : Pt n V w0 f H nx a w) (hs : ∀ i, i < 262144 → get H1 i = get H i ∨ get H1 i = .dead) : Pt n V w0 f H1 nx a w := by
  obtain ⟨I, σ, h1, h2, h3, h4, h5, h6, h7, h8, h9, h10, h11⟩ := h
  have hlt : ∀ b e, σ b = some e → b < 262144 := fun b e hb => Nat.lt_of_lt_of_le (h1.dom b e hb).1 h8.1
  refine ⟨I, σ, ⟨h1.dom, fun b e hb => ?_, fun b b' e e' hb hb' hB n1 n2 => ?_, h1.g0⟩, h2, fun i hi hm => ?_, h4, h5, h6, h7, ⟨h8.1, fun i hi hi' => ?_⟩, h9, h10, h11⟩
  · rcases hs b (hlt b e hb) with q | q
    · rw [q]; exact h1.obj b e hb
    · rw [q]; trivial
  · have q1 := (hs b (hlt b e hb)).resolve_right n1
    have q2 := (hs b' (hlt b' e' hb')).resolve_right n2
    rw [q1] at n1; rw [q2] at n2
    exact h1.inj b b' e e' hb hb' hB n1 n2
  · rcases hs i (Nat.lt_of_lt_of_le hi h8.1) with q | q
    · rw [q] at hm ⊢; exact h3 i hi hm
    · rw [q] at hm; exact hm.elim
  · rcases hs i hi' with q | q
    · rw [q]; exact h8.2 i hi hi'
    · exact q
theorem Tri.less (h : Tri X V n c f H nx e f1 H1 nx1) (hs : ∀ i, i < 262144 → get H2 i = get H1 i ∨ get H2 i = .dead) : Tri X V n c f H nx e f1 H2 nx1 :=
  fun w0 a w hp => wpL_mono (h w0 a w hp) fun e' a' w' ⟨q, r⟩ => ⟨q, r.less hs⟩
theorem Tri.seq (h : Tri X V n c f H nx .normal f1 H1 nx1) (k : Tri X V n b f1 H1 nx1 e f2 H2 nx2) : Tri X V n (.seq c b) f H nx e f2 H2 nx2 :=
  fun w0 a w hp => wp_seq (wp_mono (h w0 a w hp).wp fun e' a' w' ⟨q, r⟩ => by subst q; exact (k w0 a' w' r).wp)
theorem Tri.loop (h : Tri X V n c f H nx .normal f1 H1 nx1) (k : Tri X V n (.loop c) f1 H1 nx1 e f2 H2 nx2) : Tri X V n (.loop c) f H nx e f2 H2 nx2 :=
  fun w0 a w hp => wpL_loop (wp_mono (h w0 a w hp).wp fun e' a' w' ⟨q, r⟩ => by subst q; exact k w0 a' w' r)
theorem Tri.block {i : Nat} (h : Tri X V n c f H nx (.exit i) f1 H1 nx1) : Tri X V n (.block i c) f H nx .normal f1 H1 nx1 :=
  fun w0 a w hp => wp_block (wp_mono (h w0 a w hp).wp fun e' a' w' ⟨q, r⟩ => by subst q; unfold Exit.inBlock; simp only [if_true]; exact ⟨trivial, r⟩)
theorem Tri.seqRet (h : Tri X V n c f H nx .ret f1 H1 nx1) : Tri X V n (.seq c b) f H nx .ret f1 H1 nx1 :=
  fun w0 a w hp => wp_seq (wp_mono (h w0 a w hp).wp fun e' a' w' ⟨q, r⟩ => by subst q; exact ⟨rfl, r⟩)
theorem Tri.seqExit {i : Nat} (h : Tri X V n c f H nx (.exit i) f1 H1 nx1) : Tri X V n (.seq c b) f H nx (.exit i) f1 H1 nx1 :=
  fun w0 a w hp => wp_seq (wp_mono (h w0 a w hp).wp fun e' a' w' ⟨q, r⟩ => by subst q; exact ⟨rfl, r⟩)
theorem Tri.blockN {i : Nat} (h : Tri X V n c f H nx .normal f1 H1 nx1) : Tri X V n (.block i c) f H nx .normal f1 H1 nx1 :=
  fun w0 a w hp => wp_block (wp_mono (h w0 a w hp).wp fun e' a' w' ⟨q, r⟩ => by subst q; exact ⟨rfl, r⟩)
theorem Tri.blockRet {i : Nat} (h : Tri X V n c f H nx .ret f1 H1 nx1) : Tri X V n (.block i c) f H nx .ret f1 H1 nx1 :=
  fun w0 a w hp => wp_block (wp_mono (h w0 a w hp).wp fun e' a' w' ⟨q, r⟩ => by subst q; exact ⟨rfl, r⟩)
theorem Tri.loopExit {i : Nat} (h : Tri X V n c f H nx (.exit i) f1 H1 nx1) : Tri X V n (.loop c) f H nx (.exit i) f1 H1 nx1 :=
  fun w0 a w hp => wpL_loop (wp_mono (h w0 a w hp).wp fun e' a' w' ⟨q, r⟩ => by subst q; exact ⟨rfl, r⟩)
theorem Tri.pre (hp : ∀ w0 a w, Pt n V w0 f H nx a w → Pt n V w0 f1 H1 nx1 a w) (h : Tri X V n c f1 H1 nx1 e f2 H2 nx2) : Tri X V n c f H nx e f2 H2 nx2 := fun w0 a w q => h w0 a w (hp w0 a w q)
/-- so many rounds of a loop -/
noncomputable def rounds (run : RunT) (g : Nat) (b : Code) : Nat → FR → HT → Nat → Out := @Nat.rec (fun _ => FR → HT → Nat → Out) (fun f H nx => .norm f H nx) (fun _ ih f H nx => @Out.rec (fun _ => Out) ih (fun _ _ _ => .bad 200) (fun _ _ _ _ => .bad 201) .bad (run g b f H nx))
theorem rounds_ext {run : RunT} (hr : RunOk X run) {g : Nat} (hc : codeOk n b = true) (hd : drawsOk X g b = true) : ∀ (k : Nat) (f : FR) (H : HT) (nx : Nat) (f1 : FR) (H1 : HT) (nx1 : Nat), Free H nx → rounds run g b k f H nx = .norm f1 H1 nx1 →
    ∀ (e : Exit) (f2 : FR) (H2 : HT) (nx2 : Nat), Tri X V n (.loop b) f1 H1 nx1 e f2 H2 nx2 → Tri X V n (.loop b) f H nx e f2 H2 nx2
  | 0, f, H, nx, f1, H1, nx1, hf, h, e, f2, H2, nx2, T => by
    have h : Out.norm f H nx = .norm f1 H1 nx1 := h
    injection h with h1 h2 h3
    subst h1 h2 h3; exact T
  | k + 1, f, H, nx, f1, H1, nx1, hf, h, e, f2, H2, nx2, T => by
    have h : @Out.rec (fun _ => Out) (rounds run g b k) (fun _ _ _ => .bad 200) (fun _ _ _ _ => .bad 201) .bad (run g b f H nx) = .norm f1 H1 nx1 := h
    have ho := hr g b f H nx n hc hd hf
    cases hrun : run g b f H nx with
    | norm f' H' nx' =>
      rw [hrun] at h ho
      exact (Tri.of ho).loop (rounds_ext hr hc hd k f' H' nx' f1 H1 nx1 ho.1.free h e f2 H2 nx2 T)
    | ret _ _ _ => rw [hrun] at h; cases h
    | exit _ _ _ _ => rw [hrun] at h; cases h
    | bad m => rw [hrun] at h; cases h

/-! ### Heaps told by lists -/
def look1 : List (Nat × Obj) → Nat → Obj
  | [], _ => .dead
  | x :: l, i => if x.1 = i then x.2 else look1 l i
theorem mkHK_law : ∀ l : List (Nat × Obj), (∀ x ∈ l, x.1 < 262144) → ∃ H, (∀ k, mkHK l k = k H) ∧ ∀ i, i < 262144 → get H i = look1 l i
  | [], _ => ⟨.e, fun _ => rfl, fun i hi => get_e i hi⟩
  | x :: l, h => by
    obtain ⟨H, h1, h2⟩ := mkHK_law l fun y hy => h y (by simp [hy])
    obtain ⟨H', h3, h4⟩ := set_law H x.2 x.1 (h x (by simp))
    refine ⟨H', fun k => ?_, fun i hi => ?_⟩
    · show mkHK l (fun H => set H x.2 x.1 k) = _
      rw [h1, h3]
    · rw [h4 i hi, h2 i hi]; rfl
theorem mlEq_eq : ∀ {l l' : ML}, mlEq l l' = true → l = l'
  | .nil, .nil, _ => rfl
  | .cons a b c l, .cons a' b' c' l', h => by
    simp only [mlEq, Bool.and_eq_true, beq_iff] at h
    obtain ⟨⟨⟨h1, h2⟩, h3⟩, h4⟩ := h
    rw [h1, h2, h3, mlEq_eq h4]
  | .nil, .cons .., h => by cases h
  | .cons .., .nil, h => by cases h
theorem objEq_eq {a b : Obj} (h : objEq a b = true) : a = b := by
  cases a <;> cases b <;> simp only [objEq, Bool.and_eq_true, beq_iff, beq_iff_eq, Bool.false_eq_true, reduceCtorEq] at h <;> first | exact h.elim | skip
  · obtain ⟨⟨⟨h1, h2⟩, h3⟩, h4⟩ := h; rw [h1, h2, h3, h4]
  · obtain ⟨h1, h2⟩ := h; rw [h1, h2]
  · obtain ⟨h1, h2⟩ := h; rw [h1, h2]
  · obtain ⟨h1, h2⟩ := h; rw [h1, h2]
  · obtain ⟨⟨⟨⟨h1, h2⟩, h3⟩, h4⟩, h5⟩ := h; rw [h1, h2, h3, h4, h5]
  · obtain ⟨⟨h1, h2⟩, h3⟩ := h; rw [h1, h2, mlEq_eq h3]
  · obtain ⟨⟨h1, h2⟩, h3⟩ := h; rw [h1, h2, h3]
theorem chkL_at {H : HT} : ∀ {l : List (Nat × Obj)}, chkL H l = true → (∀ x ∈ l, x.1 < 262144) ∧ ∀ i, look1 l i = get H i ∨ look1 l i = .dead
  | [], _ => ⟨fun x hx => absurd hx (by simp), fun i => .inr rfl⟩
  | x :: l, h => by
    simp only [chkL, Bool.and_eq_true, blt_iff] at h
    obtain ⟨⟨h1, h2⟩, h3⟩ := h
    obtain ⟨k1, k2⟩ := chkL_at h3
    refine ⟨fun y hy => ?_, fun i => ?_⟩
    · rcases List.mem_cons.1 hy with rfl | hy
      · exact h1
      · exact k1 y hy
    · show (if x.1 = i then x.2 else look1 l i) = _ ∨ (if x.1 = i then x.2 else look1 l i) = _
      by_cases e : x.1 = i
      · subst e; rw [if_pos rfl]; exact .inl (objEq_eq h2).symm
      · rw [if_neg e]; exact k2 i
/-- how a piece of code ends: 0 goes on, 1 returns, i + 2 leaves block i -/
def exitOf : Nat → Exit | 0 => .normal | 1 => .ret | i + 2 => .exit i
noncomputable def endsAt (e : Nat) (f' : FR) (L : List (Nat × Obj)) (nx' : Nat) : Out → Bool
  | .norm f H nx => Nat.beq e 0 && Nat.beq f f' && Nat.beq nx nx' && chkL H L
  | .ret f H nx => Nat.beq e 1 && Nat.beq f f' && Nat.beq nx nx' && chkL H L
  | .exit i f H nx => Nat.beq e (i + 2) && Nat.beq f f' && Nat.beq nx nx' && chkL H L
  | .bad _ => false
/-- the heap of a list -/
def HeapOf (L : List (Nat × Obj)) (H : HT) : Prop := (∀ k, mkHK L k = k H) ∧ ∀ i, i < 262144 → get H i = look1 L i
theorem OutS.ends {o : Out} {k : Nat} {L : List (Nat × Obj)} (h : OutS X n c f H nx o) (he : endsAt k f1 L nx1 o = true) : ∃ H1, HeapOf L H1 ∧ Tri X V n c f H nx (exitOf k) f1 H1 nx1 := by
  have key : ∀ {e : Exit} {f' : FR} {H' : HT} {nx' : Nat}, CodS X n c f H nx e f' H' nx' → f' = f1 → nx' = nx1 → chkL H' L = true → e = exitOf k → ∃ H1, HeapOf L H1 ∧ Tri X V n c f H nx (exitOf k) f1 H1 nx1 := by
    rintro e f' H' nx' hc rfl rfl hl rfl
    obtain ⟨k1, k2⟩ := chkL_at hl
    obtain ⟨H1, q1, q2⟩ := mkHK_law L k1
    exact ⟨H1, ⟨q1, q2⟩, (Tri.of hc).less fun i hi => by rw [q2 i hi]; exact k2 i⟩
  cases o with
  | bad m => cases he
  | norm f' H' nx' =>
    simp only [endsAt, Bool.and_eq_true, beq_iff] at he
    obtain ⟨⟨⟨h1, h2⟩, h3⟩, h4⟩ := he
    subst h1; exact key h h2 h3 h4 rfl
  | ret f' H' nx' =>
    simp only [endsAt, Bool.and_eq_true, beq_iff] at he
    obtain ⟨⟨⟨h1, h2⟩, h3⟩, h4⟩ := he
    subst h1; exact key h h2 h3 h4 rfl
  | exit i f' H' nx' =>
    simp only [endsAt, Bool.and_eq_true, beq_iff] at he
    obtain ⟨⟨⟨h1, h2⟩, h3⟩, h4⟩ := he
    subst h1; exact key h h2 h3 h4 rfl
/-- a stretch of a loop: k rounds from one listed state to the next -/
theorem rounds_ends {run : RunT} (hr : RunOk X run) {g k : Nat} {L : List (Nat × Obj)} (hc : codeOk n b = true) (hd : drawsOk X g b = true) (hf : Free H nx) (he : endsAt 0 f1 L nx1 (rounds run g b k f H nx) = true) :
    ∃ H1, HeapOf L H1 ∧ Free H1 nx1 ∧ ∀ (e : Exit) (f2 : FR) (H2 : HT) (nx2 : Nat), Tri X V n (.loop b) f1 H1 nx1 e f2 H2 nx2 → Tri X V n (.loop b) f H nx e f2 H2 nx2 := by
  cases ho : rounds run g b k f H nx with
  | bad m => rw [ho] at he; cases he
  | ret _ _ _ => rw [ho] at he; simp [endsAt] at he
  | exit i _ _ _ => rw [ho] at he; simp [endsAt] at he
  | norm f' H' nx' =>
    rw [ho] at he
    simp only [endsAt, Bool.and_eq_true, beq_iff] at he
    obtain ⟨⟨⟨_, h2⟩, h3⟩, h4⟩ := he
    subst h2 h3
    obtain ⟨k1, k2⟩ := chkL_at h4
    obtain ⟨H1, q1, q2⟩ := mkHK_law L k1
    have hless : ∀ i, i < 262144 → get H1 i = get H' i ∨ get H1 i = .dead := fun i hi => by rw [q2 i hi]; exact k2 i
    have hfree : ∀ {k : Nat} {f : FR} {H : HT} {nx : Nat}, Free H nx → rounds run g b k f H nx = .norm f' H' nx' → Free H' nx' := by
      intro k
      induction k with
      | zero => intro f H nx hf h; have h : Out.norm f H nx = .norm f' H' nx' := h; injection h with h1 h2 h3; subst h2 h3; exact hf
      | succ k ih =>
        intro f H nx hf h
        have h : @Out.rec (fun _ => Out) (rounds run g b k) (fun _ _ _ => .bad 200) (fun _ _ _ _ => .bad 201) .bad (run g b f H nx) = .norm f' H' nx' := h
        have ho := hr g b f H nx n hc hd hf
        cases hrun : run g b f H nx with
        | norm _ _ _ => rw [hrun] at h ho; exact ih ho.1.free h
        | ret _ _ _ => rw [hrun] at h; cases h
        | exit _ _ _ _ => rw [hrun] at h; cases h
        | bad m => rw [hrun] at h; cases h
    have hf' := hfree hf ho
    refine ⟨H1, ⟨q1, q2⟩, ⟨hf'.1, fun i hi hi' => ?_⟩, fun e f2 H2 nx2 T => rounds_ext hr hc hd k f H nx f' H' nx' hf ho e f2 H2 nx2 (T.pre fun w0 a w hp => hp.less hless)⟩
    rcases hless i hi' with q | q
    · rw [q]; exact hf'.2 i hi hi'
    · exact q
theorem OutS.endsF {o : Out} {k : Nat} {L : List (Nat × Obj)} (h : OutS X n c f H nx o) (he : endsAt k f1 L nx1 o = true) : ∃ H1, HeapOf L H1 ∧ Free H1 nx1 ∧ Tri X V n c f H nx (exitOf k) f1 H1 nx1 := by
  have key : ∀ {e : Exit} {f' : FR} {H' : HT} {nx' : Nat}, CodS X n c f H nx e f' H' nx' → f' = f1 → nx' = nx1 → chkL H' L = true → e = exitOf k → ∃ H1, HeapOf L H1 ∧ Free H1 nx1 ∧ Tri X V n c f H nx (exitOf k) f1 H1 nx1 := by
    rintro e f' H' nx' hc rfl rfl hl rfl
    obtain ⟨k1, k2⟩ := chkL_at hl
    obtain ⟨H1, q1, q2⟩ := mkHK_law L k1
    have hless : ∀ i, i < 262144 → get H1 i = get H' i ∨ get H1 i = .dead := fun i hi => by rw [q2 i hi]; exact k2 i
    refine ⟨H1, ⟨q1, q2⟩, ⟨hc.1.free.1, fun i hi hi' => ?_⟩, (Tri.of hc).less hless⟩
    rcases hless i hi' with q | q
    · rw [q]; exact hc.1.free.2 i hi hi'
    · exact q
  cases o with
  | bad m => cases he
  | norm f' H' nx' =>
    simp only [endsAt, Bool.and_eq_true, beq_iff] at he
    obtain ⟨⟨⟨h1, h2⟩, h3⟩, h4⟩ := he
    subst h1; exact key h h2 h3 h4 rfl
  | ret f' H' nx' =>
    simp only [endsAt, Bool.and_eq_true, beq_iff] at he
    obtain ⟨⟨⟨h1, h2⟩, h3⟩, h4⟩ := he
    subst h1; exact key h h2 h3 h4 rfl
  | exit i f' H' nx' =>
    simp only [endsAt, Bool.and_eq_true, beq_iff] at he
    obtain ⟨⟨⟨h1, h2⟩, h3⟩, h4⟩ := he
    subst h1; exact key h h2 h3 h4 rfl
/-- the place where a call begins -/
def begF (F : Nat) : FR := Nat.xor F (Nat.mul (Nat.land 1 4294967295) 2654435769)
theorem calls_of_tri (hX : EnvOk X) (hFo : FormOk X) {g F : Nat} {fn : Func} {G : Obj} (hg : X.P.funcs[g]? = some fn) (hb : fn.body = some c) (hi : isImm G) {H0 : HT} (hH0 : HeapOf [(0, G)] H0) (he : e = .normal ∨ e = .ret)
    (T : Tri X V fn.ntmps c (begF F) H0 1 e f1 H1 nx1) (hres : isTr (resK X fn f1 H1 nx1 fun c H nx => .exit c 0 H nx) = true) {args : Array Value} (hA : ∀ σ I, (∀ v, V = some v → I.val 1 = some v) → ArgsR σ I F args) (w : World) (hG : Grounded G w) :
    Calls X.P g args w fun e w' => e = .returned (.bool true) ∧ Kept w w' := by
  have hget : ∀ i, i < 262144 → get H0 i = if i = 0 then G else .dead := fun i hi => by
    rw [hH0.2 i hi]
    show (if 0 = i then G else .dead) = _
    by_cases h : i = 0
    · subst h; rfl
    · rw [if_neg h, if_neg (fun e => h e.symm)]
  refine calls_of_wp hg hb ?_
  have hp : Pt fn.ntmps V w (begF F) H0 1 { tmps := args ++ Array.replicate (fn.ntmps - args.size) undef, defers := [] } w := by
    refine ⟨⟨fun i => if i = 0 then G else .dead, fun k => if k = 1 then V else none⟩, fun _ => none, ⟨fun b e hb => absurd hb (by simp), fun b e hb => absurd hb (by simp), fun b b' e e' hb => absurd hb (by simp), fun R E hI => ⟨hG R E hI, fun b e hb => absurd hb (by simp)⟩⟩, args_frame (hA _ _ fun v hv => (show (if 1 = 1 then V else none) = some v from (if_pos rfl).trans hv)), fun i hi hm => ?_, fun i hi => if_neg (by omega), by decide, by simp; omega, rfl, ⟨by decide, fun i hi hi' => by rw [hget i hi', if_neg (by omega)]⟩, fun b e hb => absurd hb (by simp), ⟨Nat.le_refl _, rfl, rfl, fun _ _ => rfl⟩, fun v hv => (show (if 1 = 1 then V else none) = some v from (if_pos rfl).trans hv)⟩
    have : i = 0 := by omega
    subst this; rw [hget 0 (by decide)]
  refine wp_mono (T w _ w hp).wp fun e' a' w' hq => ?_
  obtain ⟨rfl, I, σ, h1, h2, h3, h4, h5, h6, h7, h8, h9, h10, h11⟩ := hq
  rcases resK_tells hX hFo (fn := fn) (f := f1) h8 (fun c H nx => .exit c 0 H nx) with ⟨m, hbad⟩ | ⟨c', H2, n2, he2, hg2, hr2⟩
  · rw [hbad] at hres; exact absurd hres (by simp [isTr])
  · rw [he2] at hres
    have hc : c' = 237684487542793012780631851009 := beq_iff.1 hres
    have hle := more_le (n1 := n2) (H1 := H2) h4
    obtain ⟨v, hv1, hv2⟩ := hr2 (more I nx1 H2 n2) σ w' a'.tmps (more_holds h3 hg2.toALe) (h1.imm hle (if_pos h5)) (h2.imm hle)
    have hvb := bool_yes hv2 hc
    subst hvb
    have hR : Ending.returned (Value.bool true) = .returned (.bool true) ∧ Kept w w' := ⟨rfl, h10⟩
    rcases he with rfl | rfl
    · exact ⟨h7, _, hv1, hR⟩
    · exact ⟨h7, _, hv1, hR⟩
end Go.Ev
set_option linter.unusedVariables false
set_option linter.unusedSimpArgs false
namespace Go.Ev
variable {X : Env}

/-! ### States told by lists -/
/-- the places that are told -/
noncomputable def mkF : List (Nat × Nat) → FR := @List.rec (Nat × Nat) (fun _ => FR) 0 (fun x _ ih => put ih (Nat.succ x.1) x.2)
def look2 : List (Nat × Nat) → Nat → Nat
  | [], _ => 0
  | x :: l, t => if t = x.1 then x.2 else look2 l t
theorem fget_zero (t : Nat) : fget t 0 = 0 := by
  show dig 0 (t + 1) = 0
  rw [dig_def, Nat.zero_shiftRight, Nat.zero_mod]
theorem fget_mkF : ∀ {l : List (Nat × Nat)}, (∀ x ∈ l, x.2 < 2 ^ 128) → ∀ t, fget t (mkF l) = look2 l t
  | [], _, t => fget_zero t
  | x :: l, h, t => by
    show fget t (put (mkF l) (Nat.succ x.1) x.2) = _
    rw [fget_put (h x (by simp)), fget_mkF (fun y hy => h y (by simp [hy])) t]; rfl
noncomputable def chkF (f : FR) : List (Nat × Nat) → Bool
  | [] => true
  | x :: l => Nat.beq (fget x.1 f) x.2 && chkF f l
theorem chkF_at {f : FR} : ∀ {l : List (Nat × Nat)}, chkF f l = true → (∀ x ∈ l, x.2 < 2 ^ 128) ∧ ∀ t, look2 l t = fget t f ∨ look2 l t = 0
  | [], _ => ⟨fun x hx => absurd hx (by simp), fun t => .inr rfl⟩
  | x :: l, h => by
    simp only [chkF, Bool.and_eq_true, beq_iff] at h
    obtain ⟨k1, k2⟩ := chkF_at h.2
    refine ⟨fun y hy => ?_, fun t => ?_⟩
    · rcases List.mem_cons.1 hy with rfl | hy
      · rw [← h.1]; exact fget_lt _ _
      · exact k1 y hy
    · show (if t = x.1 then x.2 else look2 l t) = _ ∨ (if t = x.1 then x.2 else look2 l t) = _
      by_cases e : t = x.1
      · subst e; rw [if_pos rfl]; exact .inl h.1.symm
      · rw [if_neg e]; exact k2 t
structure St where
  F : List (Nat × Nat)
  L : List (Nat × Obj)
  nx : Nat
noncomputable def okL (nx : Nat) : List (Nat × Obj) → Bool
  | [] => true
  | x :: l => Nat.blt x.1 nx && okL nx l
noncomputable def okS (S : St) : Bool := Nat.ble S.nx 262144 && okL S.nx S.L
theorem okL_at {nx : Nat} : ∀ {l : List (Nat × Obj)}, okL nx l = true → ∀ i, nx ≤ i → look1 l i = .dead
  | [], _, i, _ => rfl
  | x :: l, h, i, hi => by
    simp only [okL, Bool.and_eq_true, blt_iff] at h
    show (if x.1 = i then x.2 else look1 l i) = _
    rw [if_neg (by omega)]; exact okL_at h.2 i hi
theorem okS_free {S : St} (h : okS S = true) {H : HT} (hH : HeapOf S.L H) : Free H S.nx := by
  simp only [okS, Bool.and_eq_true, ble_iff] at h
  exact ⟨h.1, fun i hi hi' => by rw [hH.2 i hi']; exact okL_at h.2 i hi⟩
theorem HeapOf.uniq {L : List (Nat × Obj)} {H H' : HT} (h : HeapOf L H) (h' : HeapOf L H') : H = H' := by
  have := (h.1 fun H => .norm 0 H 0).symm.trans (h'.1 fun H => .norm 0 H 0)
  injection this
/-- how a stretch ends: 0 goes on, 1 returns, i + 2 leaves block i -/
noncomputable def endsS (k : Nat) (S : St) : Out → Bool
  | .norm f H nx => Nat.beq k 0 && Nat.beq nx S.nx && chkF f S.F && chkL H S.L
  | .ret f H nx => Nat.beq k 1 && Nat.beq nx S.nx && chkF f S.F && chkL H S.L
  | .exit i f H nx => Nat.beq k (i + 2) && Nat.beq nx S.nx && chkF f S.F && chkL H S.L
  | .bad _ => false
theorem Pt.drop {V : Option Value} {n : Nat} {w0 w : World} {f : FR} {H : HT} {nx : Nat} {a : Act} {S : St} (hp : Pt n V w0 f H nx a w) (hF : chkF f S.F = true) (hL : chkL H S.L = true) (hn : nx = S.nx) {H' : HT} (hH : HeapOf S.L H') : Pt n V w0 (mkF S.F) H' S.nx a w := by
  subst hn
  obtain ⟨k1, k2⟩ := chkF_at hF
  obtain ⟨q1, q2⟩ := chkL_at hL
  have h2 := hp.less (H1 := H') fun i hi => by rw [hH.2 i hi]; exact q2 i
  obtain ⟨I, σ, r1, r2, r3⟩ := h2
  refine ⟨I, σ, r1, fun t => ?_, r3⟩
  rw [fget_mkF k1]
  rcases k2 t with q | q
  · rw [q]; exact r2 t
  · rw [q]; exact .inl (by decide)
/-- from a told state to a told state -/
def TriS (X : Env) (V : Option Value) (n : Nat) (c : Code) (S : St) (e : Exit) (S' : St) : Prop := ∀ H H', HeapOf S.L H → HeapOf S'.L H' → Tri X V n c (mkF S.F) H S.nx e (mkF S'.F) H' S'.nx
theorem Tri.drop {V : Option Value} {n : Nat} {c : Code} {f f1 : FR} {H H1 H' : HT} {nx nx1 : Nat} {e : Exit} {S : St} (h : Tri X V n c f H nx e f1 H1 nx1) (hF : chkF f1 S.F = true) (hL : chkL H1 S.L = true) (hn : nx1 = S.nx) (hH : HeapOf S.L H') : Tri X V n c f H nx e (mkF S.F) H' S.nx :=
  fun w0 a w hp => wpL_mono (h w0 a w hp) fun e' a' w' ⟨q, r⟩ => ⟨q, r.drop hF hL hn hH⟩
noncomputable def runS (run : RunT) (g : Nat) (c : Code) (S : St) : Out := mkHK S.L fun H => frc (fun f => run g c f H S.nx) (mkF S.F)
noncomputable def roundsS (run : RunT) (g k : Nat) (b : Code) (S : St) : Out := mkHK S.L fun H => frc (fun f => rounds run g b k f H S.nx) (mkF S.F)
variable {V : Option Value} {n : Nat} {c b : Code} {S S1 S2 : St} {e : Exit}
theorem heap_of {L : List (Nat × Obj)} {nx : Nat} (hn : nx ≤ 262144) (h : okL nx L = true) : ∃ H, HeapOf L H := by
  refine mkHK_law L fun x hx => ?_
  induction L with
  | nil => exact absurd hx (by simp)
  | cons y l ih =>
    simp only [okL, Bool.and_eq_true, blt_iff] at h
    rcases List.mem_cons.1 hx with rfl | hx
    · omega
    · exact ih h.2 hx
theorem okS.heap (h : okS S = true) : ∃ H, HeapOf S.L H := by
  simp only [okS, Bool.and_eq_true, ble_iff] at h
  exact heap_of h.1 h.2
theorem OutS.endS {o : Out} {k : Nat} {f : FR} {H H' : HT} {nx : Nat} (h : OutS X n c f H nx o) (he : endsS k S o = true) (hH : HeapOf S.L H') : Tri X V n c f H nx (exitOf k) (mkF S.F) H' S.nx := by
  cases o with
  | bad m => cases he
  | norm f' H1 nx' =>
    simp only [endsS, Bool.and_eq_true, beq_iff] at he
    obtain ⟨⟨⟨h1, h2⟩, h3⟩, h4⟩ := he
    subst h1; exact (Tri.of h).drop h3 h4 h2 hH
  | ret f' H1 nx' =>
    simp only [endsS, Bool.and_eq_true, beq_iff] at he
    obtain ⟨⟨⟨h1, h2⟩, h3⟩, h4⟩ := he
    subst h1; exact (Tri.of h).drop h3 h4 h2 hH
  | exit i f' H1 nx' =>
    simp only [endsS, Bool.and_eq_true, beq_iff] at he
    obtain ⟨⟨⟨h1, h2⟩, h3⟩, h4⟩ := he
    subst h1; exact (Tri.of h).drop h3 h4 h2 hH
/-- a stretch of code that the kernel has run -/
theorem TriS.seg {run : RunT} (hr : RunOk X run) {g k : Nat} (hc : codeOk n c = true) (hd : drawsOk X g c = true) (ho : okS S = true) (he : endsS k S1 (runS run g c S) = true) : TriS X V n c S (exitOf k) S1 := fun H H' hH hH' => by
  unfold runS at he
  rw [hH.1, frc_eq] at he
  exact (hr g c (mkF S.F) H S.nx n hc hd (okS_free ho hH)).endS he hH'
theorem TriS.seq (ho : okS S1 = true) (h : TriS X V n c S .normal S1) (k : TriS X V n b S1 e S2) : TriS X V n (.seq c b) S e S2 := fun H H' hH hH' => by
  obtain ⟨H1, h1⟩ := okS.heap ho
  exact (h H H1 hH h1).seq (k H1 H' h1 hH')
theorem TriS.block {i : Nat} (h : TriS X V n c S (.exit i) S1) : TriS X V n (.block i c) S .normal S1 := fun H H' hH hH' => (h H H' hH hH').block
theorem TriS.seqExit {i : Nat} (h : TriS X V n c S (.exit i) S1) : TriS X V n (.seq c b) S (.exit i) S1 := fun H H' hH hH' => (h H H' hH hH').seqExit
theorem TriS.loopExit {i : Nat} (h : TriS X V n c S (.exit i) S1) : TriS X V n (.loop c) S (.exit i) S1 := fun H H' hH hH' => (h H H' hH hH').loopExit
theorem TriS.loop (ho : okS S1 = true) (h : TriS X V n c S .normal S1) (k : TriS X V n (.loop c) S1 e S2) : TriS X V n (.loop c) S e S2 := fun H H' hH hH' => by
  obtain ⟨H1, h1⟩ := okS.heap ho
  exact (h H H1 hH h1).loop (k H1 H' h1 hH')
/-- so many rounds of a loop that the kernel has run -/
theorem TriS.rounds {run : RunT} (hr : RunOk X run) {g k : Nat} (hc : codeOk n b = true) (hd : drawsOk X g b = true) (ho : okS S = true) (ho1 : okS S1 = true) (he : endsS 0 S1 (roundsS run g k b S) = true) (h : TriS X V n (.loop b) S1 e S2) : TriS X V n (.loop b) S e S2 := fun H H' hH hH' => by
  unfold roundsS at he
  rw [hH.1, frc_eq] at he
  obtain ⟨H1, h1⟩ := okS.heap ho1
  cases hq : Ev.rounds run g b k (mkF S.F) H S.nx with
  | bad m => rw [hq] at he; cases he
  | ret _ _ _ => rw [hq] at he; simp [endsS] at he
  | exit i _ _ _ => rw [hq] at he; simp [endsS] at he
  | norm f' Hn nx' =>
    rw [hq] at he
    simp only [endsS, Bool.and_eq_true, beq_iff] at he
    obtain ⟨⟨⟨_, h2⟩, h3⟩, h4⟩ := he
    exact rounds_ext hr hc hd k _ _ _ _ _ _ (okS_free ho hH) hq _ _ _ _ ((h H1 H' h1 hH').pre fun w0 a w hp => hp.drop h3 h4 h2 h1)
/-- pieces, one behind the other -/
def seqs : List Code → Code → Code
  | [], t => t
  | c :: l, t => .seq c (seqs l t)
noncomputable def runL (run : RunT) (g : Nat) : List Code → FR → HT → Nat → Out := @List.rec Code (fun _ => FR → HT → Nat → Out) (fun f H nx => .norm f H nx) (fun c _ ih f H nx => @Out.rec (fun _ => Out) ih (fun _ _ _ => .bad 200) (fun _ _ _ _ => .bad 201) .bad (run g c f H nx))
noncomputable def runLS (run : RunT) (g : Nat) (l : List Code) (S : St) : Out := mkHK S.L fun H => frc (fun f => runL run g l f H S.nx) (mkF S.F)
theorem runL_ext {run : RunT} (hr : RunOk X run) {g : Nat} {t : Code} : ∀ (l : List Code), (∀ c ∈ l, codeOk n c = true ∧ drawsOk X g c = true) → ∀ (f : FR) (H : HT) (nx : Nat) (f1 : FR) (H1 : HT) (nx1 : Nat), Free H nx → runL run g l f H nx = .norm f1 H1 nx1 →
    ∀ (e : Exit) (f2 : FR) (H2 : HT) (nx2 : Nat), Tri X V n t f1 H1 nx1 e f2 H2 nx2 → Tri X V n (seqs l t) f H nx e f2 H2 nx2
  | [], _, f, H, nx, f1, H1, nx1, hf, h, e, f2, H2, nx2, T => by
    have h : Out.norm f H nx = .norm f1 H1 nx1 := h
    injection h with h1 h2 h3
    subst h1 h2 h3; exact T
  | c :: l, hc, f, H, nx, f1, H1, nx1, hf, h, e, f2, H2, nx2, T => by
    have h : @Out.rec (fun _ => Out) (runL run g l) (fun _ _ _ => .bad 200) (fun _ _ _ _ => .bad 201) .bad (run g c f H nx) = .norm f1 H1 nx1 := h
    have ho := hr g c f H nx n (hc c (by simp)).1 (hc c (by simp)).2 hf
    cases hrun : run g c f H nx with
    | norm f' H' nx' =>
      rw [hrun] at h ho
      exact (Tri.of ho).seq (runL_ext hr l (fun x hx => hc x (by simp [hx])) f' H' nx' f1 H1 nx1 ho.1.free h e f2 H2 nx2 T)
    | ret _ _ _ => rw [hrun] at h; cases h
    | exit _ _ _ _ => rw [hrun] at h; cases h
    | bad m => rw [hrun] at h; cases h
/-- pieces of code that the kernel has run, ahead of the rest -/
theorem TriS.pieces {run : RunT} (hr : RunOk X run) {g : Nat} {l : List Code} {t : Code} (hc : ∀ c ∈ l, codeOk n c = true ∧ drawsOk X g c = true) (ho : okS S = true) (ho1 : okS S1 = true) (he : endsS 0 S1 (runLS run g l S) = true) (h : TriS X V n t S1 e S2) : TriS X V n (seqs l t) S e S2 := fun H H' hH hH' => by
  unfold runLS at he
  rw [hH.1, frc_eq] at he
  obtain ⟨H1, h1⟩ := okS.heap ho1
  cases hq : runL run g l (mkF S.F) H S.nx with
  | bad m => rw [hq] at he; cases he
  | ret _ _ _ => rw [hq] at he; simp [endsS] at he
  | exit i _ _ _ => rw [hq] at he; simp [endsS] at he
  | norm f' Hn nx' =>
    rw [hq] at he
    simp only [endsS, Bool.and_eq_true, beq_iff] at he
    obtain ⟨⟨⟨_, h2⟩, h3⟩, h4⟩ := he
    exact runL_ext hr l hc _ _ _ _ _ _ (okS_free ho hH) hq _ _ _ _ ((h H1 H' h1 hH').pre fun w0 a w hp => hp.drop h3 h4 h2 h1)
theorem calls_of_st (hX : EnvOk X) (hFo : FormOk X) {g F : Nat} {fn : Func} {G : Obj} (hg : X.P.funcs[g]? = some fn) (hb : fn.body = some c) (hi : isImm G) (he : e = .normal ∨ e = .ret) {l : List (Nat × Nat)} (h0 : chkF (begF F) l = true) (hG0 : objEq G G = true)
    (T : TriS X V fn.ntmps c ⟨l, [(0, G)], 1⟩ e S1) (ho1 : okS S1 = true) (hres : isTr (mkHK S1.L fun H => resK X fn (mkF S1.F) H S1.nx fun c H nx => .exit c 0 H nx) = true) {args : Array Value} (hA : ∀ σ I, (∀ v, V = some v → I.val 1 = some v) → ArgsR σ I F args) (w : World) (hG : Grounded G w) :
    Calls X.P g args w fun e w' => e = .returned (.bool true) ∧ Kept w w' := by
  obtain ⟨H0, hH0⟩ := mkHK_law [(0, G)] (fun x hx => by simp at hx; subst hx; show 0 < 262144; decide)
  obtain ⟨H1, hH1⟩ := okS.heap ho1
  rw [hH1.1] at hres
  have hget : get H0 0 = G := by rw [hH0.2 0 (by decide)]; rfl
  refine calls_of_tri hX hFo hg hb hi hH0 he (Tri.pre (f1 := mkF l) (H1 := H0) (nx1 := 1) (fun w0 a w hp => ?_) (T H0 H1 hH0 hH1)) hres hA w hG
  refine hp.drop (S := ⟨l, [(0, G)], 1⟩) h0 ?_ rfl hH0
  simp only [chkL, hget, hG0, Bool.and_true]
  rfl

/-! ### A value that has a name -/
/-- a cell that a value bears, whatever is known, as long as the value bears the name 1 -/
def Bears (c : Nat) (v : Value) : Prop := ∀ σ (I : Imm), I.val 1 = some v → VR σ I c v
/-- a cell that says of a value that it is the one with the name 1 -/
def Pins (c : Nat) : Prop := ∀ σ (I : Imm) v u, I.val 1 = some v → VR σ I c u → u = v
theorem Pt.swap {n : Nat} {w0 w : World} {t c c' : Nat} {l : List (Nat × Nat)} {H : HT} {nx : Nat} {a : Act} {v : Value} (hp : Pt n (some v) w0 (mkF ((t, c) :: l)) H nx a w) (hc : ∀ x ∈ (t, c) :: l, x.2 < 2 ^ 128) (hc' : c' < 2 ^ 128) (h1 : Pins c) (h2 : Bears c' v) : Pt n (some v) w0 (mkF ((t, c') :: l)) H nx a w := by
  obtain ⟨I, σ, q1, q2, q3, q4, q5, q6, q7, q8, q9, q10, q11⟩ := hp
  refine ⟨I, σ, q1, fun u => ?_, q3, q4, q5, q6, q7, q8, q9, q10, q11⟩
  have hv := q11 v rfl
  have hu := q2 u
  rw [fget_mkF hc] at hu
  have hc2 : ∀ x ∈ (t, c') :: l, x.2 < 2 ^ 128 := fun x hx => by
    rcases List.mem_cons.1 hx with rfl | hx
    · exact hc'
    · exact hc x (by simp [hx])
  rw [fget_mkF hc2]
  have hu : VR σ I (if u = t then c else look2 l u) (a.tmps.getD u undef) := hu
  show VR σ I (if u = t then c' else look2 l u) (a.tmps.getD u undef)
  by_cases e : u = t
  · rw [if_pos e] at hu ⊢
    rw [h1 σ I v _ hv hu]; exact h2 σ I hv
  · rw [if_neg e] at hu ⊢; exact hu
noncomputable def smallF (l : List (Nat × Nat)) : Bool := l.all fun x => Nat.blt x.2 340282366920938463463374607431768211456
theorem smallF_at {l : List (Nat × Nat)} (h : smallF l = true) : ∀ x ∈ l, x.2 < 2 ^ 128 := fun x hx => by
  have := List.all_eq_true.1 h x hx
  rw [blt_iff] at this
  rw [show (2 : Nat) ^ 128 = 340282366920938463463374607431768211456 from by decide]; exact this
/-- the same piece of code, the named cell told otherwise ahead of it and behind it -/
theorem TriS.swap {t c c' d d' : Nat} {l l' : List (Nat × Nat)} {L L' : List (Nat × Obj)} {nx nx' : Nat} {v : Value} {cd : Code} (h : TriS X (some v) n cd ⟨(t, c) :: l, L, nx⟩ e ⟨(t, d) :: l', L', nx'⟩) (s1 : smallF ((t, c') :: l) = true) (s2 : smallF ((t, d) :: l') = true) (hc : c < 2 ^ 128) (hd : d' < 2 ^ 128)
    (p1 : Pins c') (b1 : Bears c v) (p2 : Pins d) (b2 : Bears d' v) : TriS X (some v) n cd ⟨(t, c') :: l, L, nx⟩ e ⟨(t, d') :: l', L', nx'⟩ := fun H H' hH hH' w0 a w hp =>
  wpL_mono (h H H' hH hH' w0 a w (Pt.swap hp (smallF_at s1) hc p1 b1)) fun e' a' w' ⟨q, r⟩ => ⟨q, Pt.swap r (smallF_at s2) hd p2 b2⟩
/-- the value that bears the name 1 -/
def nameC : Nat := 28 * 79228162514264337593543950336 + 1
/-- a byte of which the rest by m is told, and that bears the name 1 -/
def restN (r m : Nat) : Nat := 24 * 79228162514264337593543950336 + r + m * 4294967296 + 18446744073709551616
theorem nameC_pins : Pins nameC := fun σ I v u h hu => by
  have hp := hu.toP (by decide)
  unfold CRp at hp
  rw [show hi nameC = 28 from by decide, show nameC % 18446744073709551616 = 1 from by decide] at hp
  have := h.symm.trans hp.1
  injection this with e; exact e.symm
theorem nameC_bears {v : Value} (h1 : ∀ cs, v ≠ .agg cs) (h2 : ∀ cs, v ≠ .tuple cs) : Bears nameC v := fun σ I h => by
  refine CRp.toV ?_
  unfold CRp
  rw [show hi nameC = 28 from by decide, show nameC % 18446744073709551616 = 1 from by decide]
  exact ⟨h, h1, h2, .inl (by decide)⟩
theorem restN_at {r m : Nat} (hr : r < 256) (hm : m < 256) : hi (restN r m) = 24 ∧ restN r m / 4294967296 % 4294967296 = m ∧ restN r m % 4294967296 = r ∧ restN r m / 18446744073709551616 % 4294967296 = 1 := by
  refine ⟨?_, ?_, ?_, ?_⟩
  · rw [hi_def]; unfold restN; omega
  · unfold restN; omega
  · unfold restN; omega
  · unfold restN; omega
theorem restN_pins {r m : Nat} (hr : r < 256) (hm : m < 256) : Pins (restN r m) := fun σ I v u h hu => by
  obtain ⟨q1, q2, q3, q4⟩ := restN_at hr hm
  have hp := hu.toP (by rw [q1]; decide)
  unfold CRp at hp
  rw [q1] at hp
  obtain ⟨x, rfl, _, _, _, hp⟩ := hp
  rw [q4] at hp
  rcases hp with hp | hp
  · exact absurd hp (by decide)
  · exact (Option.some.inj (h.symm.trans hp)).symm
theorem restN_bears {x m : Nat} (hx : x < 256) (h0 : 0 < m) (hm : m < 256) : Bears (restN (x % m) m) (.int .u8 x) := fun σ I h => by
  have hr := Nat.mod_lt x h0
  obtain ⟨q1, q2, q3, q4⟩ := restN_at (r := x % m) (m := m) (by omega) hm
  refine CRp.toV ?_
  unfold CRp
  rw [q1]
  exact ⟨x, rfl, hx, by rw [q2]; exact h0, by rw [q2, q3], .inr (by rw [q4]; exact h)⟩
end Go.Ev
set_option linter.unusedVariables false
set_option linter.unusedSimpArgs false
namespace Go.Ev
variable {X : Env}

/-! ### Between calls: what a caller that is walked by hand holds -/
/-- the world w holds the told state; the values of the list are as their cells say; no name above K is given -/
def Sd (G : Obj) (K : Nat) (L : List (Nat × Obj)) (nx : Nat) (cs : List (Nat × Value)) (w0 w : World) : Prop :=
  ∃ (I : Imm) (σ : Sig) (H : HT), HeapOf L H ∧ SRel σ I H nx w ∧ Holds I H nx ∧ (∀ i, nx ≤ i → I i = .dead) ∧ 0 < nx ∧ Free H nx ∧ (∀ b e, σ b = some e → w0.heap.size ≤ e.B) ∧ Stays w0 w ∧ (∀ j, K < j → I.val j = none) ∧ ∀ x ∈ cs, VR σ I x.1 x.2
theorem sd_begin {G : Obj} (hi : isImm G) {w : World} (hG : Grounded G w) : Sd G 0 [(0, G)] 1 [] w w := by
  obtain ⟨H0, hH0⟩ := mkHK_law [(0, G)] (fun x hx => by simp at hx; subst hx; show 0 < 262144; decide)
  have hget : ∀ i, i < 262144 → get H0 i = if i = 0 then G else .dead := fun i hi => by
    rw [hH0.2 i hi]
    show (if 0 = i then G else .dead) = _
    by_cases h : i = 0
    · subst h; rfl
    · rw [if_neg h, if_neg (fun e => h e.symm)]
  refine ⟨⟨fun i => if i = 0 then G else .dead, fun _ => none⟩, fun _ => none, H0, hH0, ⟨fun b e hb => absurd hb (by simp), fun b e hb => absurd hb (by simp), fun b b' e e' hb => absurd hb (by simp), fun R E hI => ⟨hG R E hI, fun b e hb => absurd hb (by simp)⟩⟩, fun i hi hm => ?_, fun i hi => if_neg (by omega), by decide, ⟨by decide, fun i hi hi' => by rw [hget i hi', if_neg (by omega)]⟩, fun b e hb => absurd hb (by simp), ⟨Nat.le_refl _, rfl, rfl, fun _ _ => rfl⟩, fun _ _ => rfl, fun x hx => absurd hx (by simp)⟩
  have : i = 0 := by omega
  subst this; rw [hget 0 (by decide)]
/-- a step of the caller's own that leaves what was there as it was -/
theorem Sd.stays {G : Obj} {K nx : Nat} {L : List (Nat × Obj)} {cs : List (Nat × Value)} {w0 w w1 : World} (h : Sd G K L nx cs w0 w) (s : Stays w w1) : Sd G K L nx cs w0 w1 := by
  obtain ⟨I, σ, H, h1, h2, h3, h4, h5, h6, h7, h8, h9, h10⟩ := h
  exact ⟨I, σ, H, h1, h2.stays s, h3, h4, h5, h6, h7, ⟨Nat.le_trans h8.1 s.1, s.2.1.trans h8.2.1, s.2.2.1.trans h8.2.2.1, fun k hk => (s.2.2.2 k (Nat.lt_of_lt_of_le hk h8.1)).trans (h8.2.2.2 k hk)⟩, h9, h10⟩
theorem Sd.fewer {G : Obj} {K nx : Nat} {L : List (Nat × Obj)} {cs cs' : List (Nat × Value)} {w0 w : World} (h : Sd G K L nx cs w0 w) (hs : ∀ x ∈ cs', x ∈ cs) : Sd G K L nx cs' w0 w := by
  obtain ⟨I, σ, H, h1, h2, h3, h4, h5, h6, h7, h8, h9, h10⟩ := h
  exact ⟨I, σ, H, h1, h2, h3, h4, h5, h6, h7, h8, h9, fun x hx => h10 x (hs x hx)⟩
/-- a value that no cell can tell gets a name; q: what is told of a text's length -/
def nameQ (j q : Nat) : Nat := (120259084288 + q) * 18446744073709551616 + j
theorem nameQ_at {j q : Nat} (hj : j < 18446744073709551616) (hq : q < 4) : hi (nameQ j q) = 28 ∧ nameQ j q % 18446744073709551616 = j ∧ nameQ j q / 18446744073709551616 % 4 = q := by
  have h2 : nameQ j q / 18446744073709551616 = 120259084288 + q := by
    unfold nameQ
    rw [Nat.add_comm, Nat.add_mul_div_right _ _ (by decide), Nat.div_eq_of_lt hj, Nat.zero_add]
  refine ⟨?_, ?_, ?_⟩
  · rw [hi_def, show (79228162514264337593543950336 : Nat) = 18446744073709551616 * 4294967296 by decide, ← Nat.div_div_eq_div_mul, h2]
    omega
  · unfold nameQ
    rw [Nat.add_comm, Nat.add_mul_mod_self_right, Nat.mod_eq_of_lt hj]
  · rw [h2]; omega
theorem vr_name {σ : Sig} {I : Imm} {c : Nat} {v : Value} (h : hi c = 28) (h0 : I.val (c % 18446744073709551616) = some v) (h1 : ∀ cs, v ≠ .agg cs) (h2 : ∀ cs, v ≠ .tuple cs) (h3 : TxR (c / 18446744073709551616 % 4) v) : VR σ I c v := by
  refine CRp.toV ?_
  unfold CRp
  rw [h]
  exact ⟨h0, h1, h2, h3⟩
/-- one name more -/
def named (I : Imm) (m : Nat) (v : Value) : Imm := ⟨I.f, fun j => if j = m then some v else I.val j⟩
theorem named_at (I : Imm) (m : Nat) (v : Value) : (named I m v).val m = some v := if_pos rfl
theorem named_ne {I : Imm} {m j : Nat} {v : Value} (h : j ≠ m) : (named I m v).val j = I.val j := if_neg h
theorem named_le {I : Imm} {m : Nat} {v : Value} (h : I.val m = none) : ILe I (named I m v) := ⟨fun i => .inr rfl, fun j u hu => by
  by_cases e : j = m
  · subst e; rw [h] at hu; cases hu
  · rw [named_ne e]; exact hu⟩
theorem Sd.name {G : Obj} {K M nx : Nat} {L : List (Nat × Obj)} {cs : List (Nat × Value)} {w0 w : World} (h : Sd G K L nx cs w0 w) (hM : M = K + 1) (hK : M < 18446744073709551616) {q : Nat} (hq : q < 4) {v : Value} (h1 : ∀ cs, v ≠ .agg cs) (h2 : ∀ cs, v ≠ .tuple cs) (ht : TxR q v) : Sd G M L nx ((nameQ M q, v) :: cs) w0 w := by
  obtain ⟨I, σ, H, a1, a2, a3, a4, a5, a6, a7, a8, a9, a10⟩ := h
  have hle : ILe I (named I M v) := named_le (a9 M (by omega))
  obtain ⟨e1, e2, e3⟩ := nameQ_at (j := M) hK hq
  generalize nameQ M q = c at *
  refine ⟨named I M v, σ, H, a1, a2.imm hle rfl, a3, a4, a5, a6, a7, a8, fun j hj => ?_, fun x hx => ?_⟩
  · rw [named_ne (by omega)]; exact a9 j (by omega)
  · rcases List.mem_cons.1 hx with rfl | hx
    · exact vr_name e1 (by rw [e2]; exact named_at I M v) h1 h2 (by rw [e3]; exact ht)
    · exact (a10 x hx).imm hle
theorem SRel.drop {σ : Sig} {I : Imm} {H H1 : HT} {nx n2 : Nat} {w : World} (h : SRel σ I H nx w) (hn : nx ≤ n2) (h2 : n2 ≤ 262144) (hs : ∀ i, i < 262144 → get H1 i = get H i ∨ get H1 i = .dead) : SRel σ I H1 n2 w := by
  have hlt : ∀ b e, σ b = some e → b < 262144 := fun b e hb => by have := (h.dom b e hb).1; omega
  refine ⟨fun b e hb => ⟨by have := (h.dom b e hb).1; omega, (h.dom b e hb).2⟩, fun b e hb => ?_, fun b b' e e' hb hb' hB n1 n2 => ?_, h.g0⟩
  · rcases hs b (hlt b e hb) with q | q
    · rw [q]; exact h.obj b e hb
    · rw [q]; trivial
  · have q1 := (hs b (hlt b e hb)).resolve_right n1
    have q2 := (hs b' (hlt b' e' hb')).resolve_right n2
    rw [q1] at n1; rw [q2] at n2
    exact h.inj b b' e e' hb hb' hB n1 n2
/-- what a call of the caller's must come to: its result's cell c0 (0: nothing is told), what else is looked at, the state behind it -/
noncomputable def chkC (c0 : Nat) (ok : Nat → HT → Bool) (L2 : List (Nat × Obj)) (n2 : Nat) (c : Nat) (H : HT) (nx : Nat) : Bool := (Nat.beq c0 0 || Nat.beq c c0) && ok c H && Nat.ble nx n2 && chkL H L2
noncomputable def runC (X : Env) (n g : Nat) (fn : Func) (F : Nat) (L : List (Nat × Obj)) (nx c0 : Nat) (ok : Nat → HT → Bool) (L2 : List (Nat × Obj)) (n2 : Nat) : Out :=
  mkHK L fun H => callFn fn X (Ev.runN n X) g F H nx fun c H nx => .exit (boolC (chkC c0 ok L2 n2 c H nx)) 0 H nx
theorem sd_call (hX : EnvOk X) (h3 : 3 ≤ X.P.types.size) (hN : FnsOk X) (hO : OrcOk X) (hm : X.P.follows .mixedOrders = true) {n g F : Nat} {fn : Func} (hg : X.P.funcs[g]? = some fn) (ho : X.orc g = 0)
    {G : Obj} {K nx n2 c0 : Nat} {L L2 : List (Nat × Obj)} {cs : List (Nat × Value)} {w0 w : World} {ok : Nat → HT → Bool} {P : Value → Prop} (hP : ∀ c H nx σ I v, ok c H = true → Holds I H nx → Free H nx → VR σ I c v → P v)
    (hrun : isTr (runC X n g fn F L nx c0 ok L2 n2) = true) (ho2 : okS ⟨[], L2, n2⟩ = true) {args : Array Value} (hA : ∀ σ I, (∀ x ∈ cs, VR σ I x.1 x.2) → ArgsR σ I F args) (h : Sd G K L nx cs w0 w) :
    Calls X.P g args w fun e w' => ∃ v, e = .returned v ∧ P v ∧ Sd G K L2 n2 ((c0, v) :: cs) w0 w' := by
  have hFo : FormOk X := ⟨trivial⟩
  have hr := run_ok hX hFo h3 hN hO (fun call hc => draw_ok hX hFo h3 hm hc) n
  obtain ⟨I, σ, H, a1, a2, a3, a4, a5, a6, a7, a8, a9, a10⟩ := h
  unfold runC at hrun
  rw [a1.1] at hrun
  rcases fn_callsC hX hFo hN hr hg ho a6 (F := F) (fun c H nx => .exit (boolC (chkC c0 ok L2 n2 c H nx)) 0 H nx) with ⟨m, hb⟩ | ⟨c, H', nx', he, hal, hcall⟩
  · rw [hb] at hrun; exact absurd hrun (by simp [isTr])
  · rw [he] at hrun
    have hc : chkC c0 ok L2 n2 c H' nx' = true := by
      cases hq : chkC c0 ok L2 n2 c H' nx' with
      | true => rfl
      | false => rw [hq] at hrun; exact absurd (beq_iff.1 hrun) (by decide)
    unfold chkC at hc
    simp only [Bool.and_eq_true, Bool.or_eq_true, beq_iff, ble_iff] at hc
    obtain ⟨⟨⟨hc1, hc2⟩, hc3⟩, hc4⟩ := hc
    have hle := more_le (n1 := nx') (H1 := H') a4
    have hh := more_holds a3 hal
    have h00 : more I nx H' nx' 0 = I 0 := if_pos a5
    obtain ⟨H2, hH2⟩ := okS.heap ho2
    have hs2 : n2 ≤ 262144 := by simp only [okS, Bool.and_eq_true, ble_iff] at ho2; exact ho2.1
    obtain ⟨q1, q2⟩ := chkL_at hc4
    have hless : ∀ i, i < 262144 → get H2 i = get H' i ∨ get H2 i = .dead := fun i hi => by rw [hH2.2 i hi]; exact q2 i
    refine (hcall (more I nx H' nx') σ w args hh (a2.imm hle h00) (hA σ _ fun x hx => (a10 x hx).imm hle)).mono ?_
    rintro e w' ⟨v, rfl, σ', ha, hv⟩
    obtain ⟨r1, r2⟩ := pt_after ha a7 a8
    refine ⟨v, rfl, hP c H' nx' σ' _ v hc2 hh hal.free hv, more I nx H' nx', σ', H2, hH2, ha.rel.drop hc3 hs2 hless, fun i hi hm => ?_, fun i hi => more_tight hal.le i (by omega), by have := hal.le; omega, okS_free (S := ⟨[], L2, n2⟩) ho2 hH2, r1, r2, fun j hj => ?_, fun x hx => ?_⟩
    · rcases hless i (by omega) with q | q
      · rw [q] at hm ⊢
        rcases Nat.lt_or_ge i nx' with hlt | hge
        · exact hh i hlt hm
        · rw [hal.free.2 i hge (by omega)] at hm; exact hm.elim
      · rw [q] at hm; exact hm.elim
    · exact a9 j hj
    · rcases List.mem_cons.1 hx with rfl | hx
      · rcases hc1 with hc1 | hc1
        · subst hc1; exact .inl (by show hi 0 = 0; decide)
        · rw [← hc1]; exact hv
      · exact ((a10 x hx).imm hle).mono ha.ext.1
theorem aggC_at {nx : Nat} (h : nx < 262144) : hi (79228162514264337593543950336 + nx) = 1 ∧ lo (79228162514264337593543950336 + nx) = nx := by
  refine ⟨?_, ?_⟩
  · rw [hi_def]; omega
  · rw [lo_def]; omega
/-- a struct that the caller hands in: a thing that lasts, of cells that are told -/
theorem Sd.agg {G : Obj} {K nx : Nat} {L : List (Nat × Obj)} {cs : List (Nat × Value)} {w0 w : World} (h : Sd G K L nx cs w0 w) (hn : nx < 262143) {N : Nat} {vs : Array Value} (hv : ∀ i (hi' : i < vs.size), (3 ≤ hi (dig N (i + 1)) ∧ hi (dig N (i + 1)) ≠ 23) ∧ (dig N (i + 1), vs[i]) ∈ cs) :
    Sd G K ((nx, .agg vs.size N) :: L) (nx + 1) ((79228162514264337593543950336 + nx, .agg vs) :: cs) w0 w := by
  obtain ⟨I, σ, H, a1, a2, a3, a4, a5, a6, a7, a8, a9, a10⟩ := h
  obtain ⟨H', hs, hg⟩ := set_law H (.agg vs.size N) nx (by omega)
  have hle : ILe I ⟨fun i => if i = nx then .agg vs.size N else I i, I.val⟩ := ⟨fun i => by
    by_cases e : i = nx
    · subst e; exact .inl (a4 _ (Nat.le_refl _))
    · exact .inr (if_neg e), fun _ _ h => h⟩
  have a2' := a2.imm hle (if_neg (by omega))
  have hlt : ∀ i, i < nx → get H' i = get H i := fun i hi => by rw [hg i (by omega), if_neg (by omega)]
  refine ⟨⟨fun i => if i = nx then .agg vs.size N else I i, I.val⟩, σ, H', ⟨fun k => ?_, fun i hi => ?_⟩, ⟨fun b e hb => ?_, fun b e hb => ?_, fun b b' e e' hb hb' hB n1 n2 => ?_, a2'.g0⟩, fun i hi hm => ?_, fun i hi => ?_, by omega, ⟨by omega, fun i hi hi' => ?_⟩, a7, a8, a9, fun x hx => ?_⟩
  · show mkHK L (fun H => set H (.agg vs.size N) nx k) = _
    rw [a1.1, hs]
  · rw [hg i hi, a1.2 i hi]; rfl
  · have := a2.dom b e hb; exact ⟨by omega, this.2⟩
  · rw [hlt b (a2.dom b e hb).1]; exact a2'.obj b e hb
  · rw [hlt b (a2.dom b e hb).1] at n1
    rw [hlt b' (a2.dom b' e' hb').1] at n2
    exact a2.inj b b' e e' hb hb' hB n1 n2
  · show (if i = nx then _ else I i) = _
    by_cases e : i = nx
    · subst e; rw [if_pos rfl, hg _ (by omega), if_pos rfl]
    · rw [if_neg e, hlt i (by omega)]
      rw [hlt i (by omega)] at hm
      exact a3 i (by omega) hm
  · show (if i = nx then _ else I i) = _
    rw [if_neg (by omega)]; exact a4 i (by omega)
  · rw [hg i hi', if_neg (by omega)]; exact a6.2 i (by omega) hi'
  · rcases List.mem_cons.1 hx with rfl | hx
    · obtain ⟨e1, e2⟩ := aggC_at (nx := nx) (by omega)
      refine .inr (.inr (.inl (.inr ⟨e1, by rw [e2]; omega, N, vs, ?_, rfl, fun i hi' => ?_⟩)))
      · show (if lo (79228162514264337593543950336 + nx) = nx then _ else _) = _
        rw [if_pos e2]
      · obtain ⟨q1, q2⟩ := hv i hi'
        exact ((a10 _ q2).imm hle).toS q1
    · exact (a10 x hx).imm hle
theorem vr_sl {σ : Sig} {I : Imm} {b n c : Nat} {v : Value} (hc : hi c = 15) (h : SlR σ c v) : VR σ I c v := by
  refine CRp.toV ?_
  unfold CRp
  rw [hc]
  exact h
/-- a literal slice that the caller makes: cc its cell (mkSl nx 0 n n, reckoned) -/
theorem Sd.row {G : Obj} {K nx n cc : Nat} {L : List (Nat × Obj)} {cs : List (Nat × Value)} {w0 w : World} (h : Sd G K L nx cs w0 w) (hn : nx < 262143) {N et cnt : Nat} {cells : Array Value} {el : TypeId} (hsz : cells.size = n) (hcnt : cnt < 8388608)
    (hv : ∀ i (hi' : i < cells.size), (3 ≤ hi (dig N (i + 1)) ∧ hi (dig N (i + 1)) ≠ 23) ∧ (dig N (i + 1), cells[i]) ∈ cs) (hc : cc = mkSl nx 0 cnt cnt) (hc15 : hi cc = 15) :
    Sd G K ((nx, .row n N et false) :: L) (nx + 1) ((cc, .slice (some ⟨w.heap.size, 0, none⟩) cnt cnt) :: cs) w0 (w.alloc (.cells cells el)) := by
  obtain ⟨I, σ, H, a1, a2, a3, a4, a5, a6, a7, a8, a9, a10⟩ := h
  obtain ⟨H', hs, hg⟩ := set_law H (.row n N et false) nx (by omega)
  have hlt : ∀ i, i < nx → get H' i = get H i := fun i hi => by rw [hg i (by omega), if_neg (by omega)]
  have hat : get H' nx = .row n N et false := by rw [hg nx (by omega), if_pos rfl]
  have hfr : Free H' (nx + 1) := ⟨by omega, fun i hi hi' => by rw [hg i hi', if_neg (by omega)]; exact a6.2 i (by omega) hi'⟩
  have hne : NewAt (.row n N et false) H nx H' := ⟨by omega, hfr, hat, hlt⟩
  have ha := a2.newRow (s := 0) (el := el) (cells := cells) hne ⟨by omega, fun i hi' => by
    obtain ⟨q1, q2⟩ := hv i (by omega)
    exact ⟨cells[i], by rw [Array.getElem?_eq_getElem (by omega)], (a10 _ q2).toS q1⟩⟩
  obtain ⟨r1, r2⟩ := pt_after ha a7 a8
  refine ⟨I, _, H', ⟨fun k => ?_, fun i hi => ?_⟩, ha.rel, fun i hi hm => ?_, fun i hi => a4 i (by omega), by omega, hfr, r1, r2, a9, fun x hx => ?_⟩
  · show mkHK L (fun H => set H (.row n N et false) nx k) = _
    rw [a1.1, hs]
  · rw [hg i hi, a1.2 i hi]; rfl
  · by_cases e : i = nx
    · subst e; rw [hat] at hm; exact hm.elim
    · rw [hlt i (by omega)] at hm ⊢; exact a3 i (by omega) hm
  · rcases List.mem_cons.1 hx with rfl | hx
    · refine vr_sl (b := 0) (n := 0) hc15 (.inr ⟨nx, 0, cnt, cnt, cnt, ⟨w.heap.size, 0, cells.size, 0⟩, upd_same, by omega, by omega, by omega, by omega, hc, rfl, Nat.le_refl _, fun _ => rfl, fun h => by omega⟩)
    · exact (a10 x hx).mono ha.ext.1
end Go.Ev
set_option linter.unusedVariables false
set_option linter.unusedSimpArgs false
namespace Go.Ev
variable {X : Env}

/-! ### More of what a caller holds: literals, arguments, a reply with an error -/
theorem Sd.cons {G : Obj} {K nx : Nat} {L : List (Nat × Obj)} {cs : List (Nat × Value)} {w0 w : World} (h : Sd G K L nx cs w0 w) {c : Nat} {v : Value} (hv : ∀ σ I, VR σ I c v) : Sd G K L nx ((c, v) :: cs) w0 w := by
  obtain ⟨I, σ, H, h1, h2, h3, h4, h5, h6, h7, h8, h9, h10⟩ := h
  refine ⟨I, σ, H, h1, h2, h3, h4, h5, h6, h7, h8, h9, fun x hx => ?_⟩
  rcases List.mem_cons.1 hx with rfl | hx
  · exact hv σ I
  · exact h10 x hx
theorem argsP (l : List (Nat × Value)) {σ : Sig} {I : Imm} (h : ∀ x ∈ l, VR σ I x.1 x.2) : ArgsR σ I (packL (0 :: l.map (·.1))) (l.map (·.2)).toArray := by
  have hB : (340282366920938463463374607431768211456 : Nat) = 2 ^ 128 := by decide
  have hall : ∀ c ∈ 0 :: l.map (·.1), c < 2 ^ 128 := fun c hc => by
    rcases List.mem_cons.1 hc with rfl | hc
    · decide
    · obtain ⟨x, hx, rfl⟩ := List.mem_map.1 hc
      rw [← hB]; exact (h x hx).lt
  refine ⟨?_, .inl ?_, fun i hi => ?_⟩
  · have := packL_lt _ hall
    simpa using this
  · rw [dig_packL _ _ hall]; rfl
  · have hi' : i < l.length := by simpa using hi
    rw [dig_packL _ _ hall]
    have := h l[i] (List.getElem_mem hi')
    simpa [List.getD, List.getElem?_eq_getElem hi'] using this
theorem i64_vr {n : Int} {c : Nat} (h1 : IntKind.i64.min ≤ n) (h2 : n ≤ IntKind.i64.max) (hc : c = 554597137599850363154807652352 + (n % 18446744073709551616).toNat) (σ : Sig) (I : Imm) : VR σ I c (.int .i64 n) := by
  refine CRp.toV ?_
  have h7 : hi c = 7 := by rw [hi_def]; omega
  unfold CRp; rw [h7]
  exact ⟨n, rfl, h1, h2, by subst hc; rfl⟩
theorem u64_vr {n : Int} {c : Nat} (h1 : IntKind.u64.min ≤ n) (h2 : n ≤ IntKind.u64.max) (hc : c = 871509787656907713528983453696 + (n % 18446744073709551616).toNat) (σ : Sig) (I : Imm) : VR σ I c (.int .u64 n) := by
  refine CRp.toV ?_
  have h7 : hi c = 11 := by rw [hi_def]; omega
  unfold CRp; rw [h7]
  exact ⟨n, rfl, h1, h2, by subst hc; rfl⟩
theorem str0_vr (σ : Sig) (I : Imm) : VR σ I 950737950171172051122527404032 (.string ⟨#[]⟩) := by
  refine CRp.toV ?_
  have h7 : hi 950737950171172051122527404032 = 12 := by decide
  unfold CRp; rw [h7]
  exact ⟨⟨#[]⟩, rfl, by simp, by decide⟩
theorem dn_vr {n : Int} {b : Nat} (h1 : IntKind.i64.min ≤ n) (h2 : n ≤ IntKind.i64.max) (hb : b < 18446744073709551616) (h : n ≤ (b : Int)) (σ : Sig) (I : Imm) : VR σ I (2059932225370872777432142708736 + b) (.int .i64 n) := by
  refine CRp.toV ?_
  have h7 : hi (2059932225370872777432142708736 + b) = 26 := by rw [hi_def]; omega
  unfold CRp; rw [h7]
  refine ⟨n, rfl, h1, h2, ?_⟩
  have e1 : (2059932225370872777432142708736 + b) / 18446744073709551616 % 2 = 0 := by omega
  have e2 : (2059932225370872777432142708736 + b) % 18446744073709551616 = b := by omega
  rw [e1, e2]; simpa using h
theorem up_vr {n : Int} {b : Nat} (h1 : IntKind.i64.min ≤ n) (h2 : n ≤ IntKind.i64.max) (hb : b < 18446744073709551616) (h : (b : Int) ≤ n) (σ : Sig) (I : Imm) : VR σ I (2059932225389319521505852260352 + b) (.int .i64 n) := by
  refine CRp.toV ?_
  have h7 : hi (2059932225389319521505852260352 + b) = 26 := by rw [hi_def]; omega
  unfold CRp; rw [h7]
  refine ⟨n, rfl, h1, h2, ?_⟩
  have e1 : (2059932225389319521505852260352 + b) / 18446744073709551616 % 2 = 1 := by omega
  have e2 : (2059932225389319521505852260352 + b) % 18446744073709551616 = b := by omega
  rw [e1, e2]; simpa using h
/-- a pair of a reply with a code and an error that is there -/
noncomputable def okRep (c : Nat) (H : HT) : Bool := isTr (tupK H c fun n N => aggK H (dig N (0 + 1)) fun m M => .exit (boolC (Nat.beq n 2 && Nat.beq m 3 && Nat.ble 256 (hi (dig N (1 + 1))) && (Nat.beq (hi (dig M (0 + 1))) 7 && Nat.blt 554597137599850363154807652352 (dig M (0 + 1))))) 0 H 0)
theorem okRep_at {c : Nat} {H : HT} {nx : Nat} {σ : Sig} {I : Imm} {v : Value} (h : okRep c H = true) (hI : Holds I H nx) (hf : Free H nx) (hv : VR σ I c v) : ∃ (n : Int) (x y : Value) (t : TypeId) (u : Value), n ≠ 0 ∧ v = .tuple #[.agg #[.int .i64 n, x, y], .iface t u] := by
  unfold okRep at h
  rcases tupK_tells (c := c) hf (fun n N => aggK H (dig N (0 + 1)) fun m M => .exit (boolC (Nat.beq n 2 && Nat.beq m 3 && Nat.ble 256 (hi (dig N (1 + 1))) && (Nat.beq (hi (dig M (0 + 1))) 7 && Nat.blt 554597137599850363154807652352 (dig M (0 + 1))))) 0 H 0) with ⟨m, hb⟩ | ⟨n, N, he, h2, h3⟩
  · rw [hb] at h; exact absurd h (by simp [isTr])
  rw [he] at h
  rcases aggK_tells (c := dig N (0 + 1)) hf (fun m M => .exit (boolC (Nat.beq n 2 && Nat.beq m 3 && Nat.ble 256 (hi (dig N (1 + 1))) && (Nat.beq (hi (dig M (0 + 1))) 7 && Nat.blt 554597137599850363154807652352 (dig M (0 + 1))))) 0 H 0) with ⟨m, hb⟩ | ⟨m, M, he', h4, h5⟩
  · rw [hb] at h; exact absurd h (by simp [isTr])
  rw [he'] at h
  have hc : (Nat.beq n 2 && Nat.beq m 3 && Nat.ble 256 (hi (dig N (1 + 1))) && (Nat.beq (hi (dig M (0 + 1))) 7 && Nat.blt 554597137599850363154807652352 (dig M (0 + 1)))) = true := by
    cases hq : (Nat.beq n 2 && Nat.beq m 3 && Nat.ble 256 (hi (dig N (1 + 1))) && (Nat.beq (hi (dig M (0 + 1))) 7 && Nat.blt 554597137599850363154807652352 (dig M (0 + 1)))) with
    | true => rfl
    | false => rw [hq] at h; exact absurd (beq_iff.1 h) (by decide)
  simp only [Bool.and_eq_true, beq_iff, ble_iff, blt_iff] at hc
  obtain ⟨⟨⟨rfl, rfl⟩, c1⟩, c2, c3⟩ := hc
  obtain ⟨vs, rfl, hs, hvs⟩ := h3 I σ v hI hv
  have a0 := hvs 0 (by omega)
  have a1 := hvs 1 (by omega)
  obtain ⟨cs, hcs, hz, hcc⟩ := h5 I σ vs[0] hI a0.toVR
  have b0 := hcc 0 (by omega)
  obtain ⟨k, q1, n, q2, q3, q4, q5⟩ := one_int (CRa.toVR (.inl b0)) (by omega) (by omega)
  have hk : k = .i64 := by
    rw [c2] at q1
    cases k <;> first | rfl | exact absurd q1 (by decide)
  subst hk
  obtain ⟨t, u, _, hu, _⟩ := iface_inv a1.toVR c1
  have hn : n ≠ 0 := fun e => by
    subst e
    rw [q5] at c3
    simp [intTag] at c3
  refine ⟨n, cs[1], cs[2], t, u, hn, ?_⟩
  congr 1
  refine Array.ext (by simpa using hs) fun i h1 h2 => ?_
  have : i = 0 ∨ i = 1 := by simp at h2; omega
  rcases this with rfl | rfl
  · show vs[0] = _
    rw [hcs]
    show Value.agg cs = Value.agg _
    congr 1
    refine Array.ext (by simpa using hz) fun j g1 g2 => ?_
    have : j = 0 ∨ j = 1 ∨ j = 2 := by simp at g2; omega
    rcases this with rfl | rfl | rfl
    · show cs[0] = _; rw [q2]; rfl
    · rfl
    · rfl
  · show vs[1] = _; rw [hu]; rfl
/-- a text that the caller hands in: a thing that lasts -/
theorem Sd.str {G : Obj} {K nx : Nat} {L : List (Nat × Obj)} {cs : List (Nat × Value)} {w0 w : World} (h : Sd G K L nx cs w0 w) (hn : nx < 262143) {s : ByteArray} {n N : Nat} (e1 : n = s.data.toList.length) (e2 : N = packB s.data.toList) :
    Sd G K ((nx, .str n N) :: L) (nx + 1) ((1029966112685436388716071354368 + nx, .string s) :: cs) w0 w := by
  subst e1 e2
  obtain ⟨I, σ, H, a1, a2, a3, a4, a5, a6, a7, a8, a9, a10⟩ := h
  obtain ⟨H', hs, hg⟩ := set_law H (.str s.data.toList.length (packB s.data.toList)) nx (by omega)
  have hle : ILe I ⟨fun i => if i = nx then .str s.data.toList.length (packB s.data.toList) else I i, I.val⟩ := ⟨fun i => by
    by_cases e : i = nx
    · subst e; exact .inl (a4 _ (Nat.le_refl _))
    · exact .inr (if_neg e), fun _ _ h => h⟩
  have a2' := a2.imm hle (if_neg (by omega))
  have hlt : ∀ i, i < nx → get H' i = get H i := fun i hi => by rw [hg i (by omega), if_neg (by omega)]
  refine ⟨⟨fun i => if i = nx then .str s.data.toList.length (packB s.data.toList) else I i, I.val⟩, σ, H', ⟨fun k => ?_, fun i hi => ?_⟩, ⟨fun b e hb => ?_, fun b e hb => ?_, fun b b' e e' hb hb' hB n1 n2 => ?_, a2'.g0⟩, fun i hi hm => ?_, fun i hi => ?_, by omega, ⟨by omega, fun i hi hi' => ?_⟩, a7, a8, a9, fun x hx => ?_⟩
  · show mkHK L (fun H => set H (.str s.data.toList.length (packB s.data.toList)) nx k) = _
    rw [a1.1, hs]
  · rw [hg i hi, a1.2 i hi]; rfl
  · have := a2.dom b e hb; exact ⟨by omega, this.2⟩
  · rw [hlt b (a2.dom b e hb).1]; exact a2'.obj b e hb
  · rw [hlt b (a2.dom b e hb).1] at n1
    rw [hlt b' (a2.dom b' e' hb').1] at n2
    exact a2.inj b b' e e' hb hb' hB n1 n2
  · show (if i = nx then _ else I i) = _
    by_cases e : i = nx
    · subst e; rw [if_pos rfl, hg _ (by omega), if_pos rfl]
    · rw [if_neg e, hlt i (by omega)]
      rw [hlt i (by omega)] at hm
      exact a3 i (by omega) hm
  · show (if i = nx then _ else I i) = _
    rw [if_neg (by omega)]; exact a4 i (by omega)
  · rw [hg i hi', if_neg (by omega)]; exact a6.2 i (by omega) hi'
  · rcases List.mem_cons.1 hx with rfl | hx
    · refine CRp.toV ?_
      have h13 : hi (1029966112685436388716071354368 + nx) = 13 := by rw [hi_def]; omega
      have hlo : lo (1029966112685436388716071354368 + nx) = nx := by rw [lo_def]; omega
      unfold CRp; rw [h13]
      refine ⟨s, rfl, by rw [hlo]; omega, ?_⟩
      show (if lo (1029966112685436388716071354368 + nx) = nx then _ else _) = _
      rw [if_pos hlo]
    · exact (a10 x hx).imm hle
theorem Sd.txt {G : Obj} {K nx : Nat} {L : List (Nat × Obj)} {cs : List (Nat × Value)} {w0 w : World} (h : Sd G K L nx cs w0 w) {s : ByteArray} (hs : s.data.toList.length ≤ 11) {c : Nat} (hc : c = strC s) : Sd G K L nx ((c, .string s) :: cs) w0 w :=
  h.cons fun σ I => by subst hc; exact (crp_str hs).toV
end Go.Ev
set_option linter.unusedVariables false
set_option linter.unusedSimpArgs false
namespace Go.Ev
variable {X : Env}

/-! ### A caller walked by hand whose calls ahead the kernel has run: the state is not told, its heap passes the test of all that is to come -/
def Ah (K : HT → Nat → Out) (cs : List (Nat × Value)) (w0 w : World) : Prop :=
  ∃ (I : Imm) (σ : Sig) (H : HT) (nx : Nat), SRel σ I H nx w ∧ Holds I H nx ∧ (∀ i, nx ≤ i → I i = .dead) ∧ 0 < nx ∧ Free H nx ∧ (∀ b e, σ b = some e → w0.heap.size ≤ e.B) ∧ Stays w0 w ∧ (∀ x ∈ cs, VR σ I x.1 x.2) ∧ isTr (K H nx) = true
theorem Ah.stays {K : HT → Nat → Out} {cs : List (Nat × Value)} {w0 w w1 : World} (h : Ah K cs w0 w) (s : Stays w w1) : Ah K cs w0 w1 := by
  obtain ⟨I, σ, H, nx, h2, h3, h4, h5, h6, h7, h8, h10⟩ := h
  exact ⟨I, σ, H, nx, h2.stays s, h3, h4, h5, h6, h7, ⟨Nat.le_trans h8.1 s.1, s.2.1.trans h8.2.1, s.2.2.1.trans h8.2.2.1, fun k hk => (s.2.2.2 k (Nat.lt_of_lt_of_le hk h8.1)).trans (h8.2.2.2 k hk)⟩, h10⟩
theorem Ah.kept {K : HT → Nat → Out} {cs : List (Nat × Value)} {w0 w : World} (h : Ah K cs w0 w) : Stays w0 w := by
  obtain ⟨I, σ, H, nx, h2, h3, h4, h5, h6, h7, h8, h10⟩ := h
  exact h8
theorem Ah.fewer {K : HT → Nat → Out} {cs cs' : List (Nat × Value)} {w0 w : World} (h : Ah K cs w0 w) (hs : ∀ x ∈ cs', x ∈ cs) : Ah K cs' w0 w := by
  obtain ⟨I, σ, H, nx, h2, h3, h4, h5, h6, h7, h8, h9, h10⟩ := h
  exact ⟨I, σ, H, nx, h2, h3, h4, h5, h6, h7, h8, fun x hx => h9 x (hs x hx), h10⟩
theorem Ah.test {K K' : HT → Nat → Out} {cs : List (Nat × Value)} {w0 w : World} (h : Ah K cs w0 w) (hs : ∀ H nx, isTr (K H nx) = true → isTr (K' H nx) = true) : Ah K' cs w0 w := by
  obtain ⟨I, σ, H, nx, h2, h3, h4, h5, h6, h7, h8, h9, h10⟩ := h
  exact ⟨I, σ, H, nx, h2, h3, h4, h5, h6, h7, h8, h9, hs H nx h10⟩
theorem Sd.ah {G : Obj} {M nx : Nat} {L : List (Nat × Obj)} {cs : List (Nat × Value)} {w0 w : World} (h : Sd G M L nx cs w0 w) {K : HT → Nat → Out} (hr : isTr (mkHK L fun H => K H nx) = true) : Ah K cs w0 w := by
  obtain ⟨I, σ, H, h1, h2, h3, h4, h5, h6, h7, h8, h9, h10⟩ := h
  rw [h1.1] at hr
  exact ⟨I, σ, H, nx, h2, h3, h4, h5, h6, h7, h8, h10, hr⟩
/-- a text -/
theorem Ah.txt {s : ByteArray} {K : K0} {cs : List (Nat × Value)} {w0 w : World} (h : Ah (fun H nx => constK (.string s) 0 H nx K) cs w0 w) : ∃ c, Ah (fun H nx => K c H nx) ((c, .string s) :: cs) w0 w := by
  obtain ⟨I, σ, H, nx, a1, a2, a3, a4, a5, a6, a7, a8, a9⟩ := h
  have a9 : isTr (constK (.string s) 0 H nx K) = true := a9
  rcases constK_tells (v := .string s) (f := 0) a5 K with ⟨m, hb⟩ | ⟨c, H', nx', he, hg, hc⟩
  · rw [hb] at a9; exact absurd a9 (by simp [isTr])
  · rw [he] at a9
    have hle := more_le (n1 := nx') (H1 := H') a3
    have hh := more_holds a2 hg.toALe
    have h00 : more I nx H' nx' 0 = I 0 := if_pos a4
    refine ⟨c, more I nx H' nx', σ, H', nx', (a1.imm hle h00).grow hg, hh, more_tight hg.le, by have := hg.le; omega, hg.free, a6, a7, fun x hx => ?_, a9⟩
    rcases List.mem_cons.1 hx with rfl | hx
    · exact (hc _ σ hh).toVR
    · exact (a8 x hx).imm hle
/-- a call -/
theorem ah_call (hX : EnvOk X) (h3 : 3 ≤ X.P.types.size) (hN : FnsOk X) (hO : OrcOk X) (hm : X.P.follows .mixedOrders = true) {n g F : Nat} {fn : Func} (hg : X.P.funcs[g]? = some fn) (ho : X.orc g = 0)
    {K : K0} {cs : List (Nat × Value)} {w0 w : World} {args : Array Value} (hA : ∀ σ I, (∀ x ∈ cs, VR σ I x.1 x.2) → ArgsR σ I F args) (h : Ah (fun H nx => callFn fn X (Ev.runN n X) g F H nx K) cs w0 w) :
    Calls X.P g args w fun e w' => ∃ c v, e = .returned v ∧ Ah (fun H nx => K c H nx) ((c, v) :: cs) w0 w' := by
  have hFo : FormOk X := ⟨trivial⟩
  have hr := run_ok hX hFo h3 hN hO (fun call hc => draw_ok hX hFo h3 hm hc) n
  obtain ⟨I, σ, H, nx, a2, a3, a4, a5, a6, a7, a8, a10, hrun⟩ := h
  have hrun : isTr (callFn fn X (Ev.runN n X) g F H nx K) = true := hrun
  rcases fn_callsC hX hFo hN hr hg ho a6 (F := F) K with ⟨m, hb⟩ | ⟨c, H', nx', he, hal, hcall⟩
  · rw [hb] at hrun; exact absurd hrun (by simp [isTr])
  · rw [he] at hrun
    have hle := more_le (n1 := nx') (H1 := H') a4
    have hh := more_holds a3 hal
    have h00 : more I nx H' nx' 0 = I 0 := if_pos a5
    refine (hcall (more I nx H' nx') σ w args hh (a2.imm hle h00) (hA σ _ fun x hx => (a10 x hx).imm hle)).mono ?_
    rintro e w' ⟨v, rfl, σ', ha, hv⟩
    obtain ⟨r1, r2⟩ := pt_after ha a7 a8
    refine ⟨c, v, rfl, more I nx H' nx', σ', H', nx', ha.rel, hh, more_tight hal.le, by have := hal.le; omega, hal.free, r1, r2, fun x hx => ?_, hrun⟩
    rcases List.mem_cons.1 hx with rfl | hx
    · exact hv
    · exact ((a10 x hx).imm hle).mono ha.ext.1

/-! ### Rows of lines said to a script, with branches -/
theorem trK_says {X : Env} {n g : Nat} {fn : Func} {l m : ByteArray} {t : Tr} {c : Nat} {H : HT} {nx : Nat} : trK X n g fn (.says l m t) c H nx = sayK X n g fn l m (trK X n g fn t) c H nx := rfl
theorem trK_both {X : Env} {n g : Nat} {fn : Func} {a b : Tr} {c : Nat} {H : HT} {nx : Nat} : trK X n g fn (.both a b) c H nx = both2 (trK X n g fn b c H nx) (trK X n g fn a c H nx) := rfl
theorem trK_told {X : Env} {n g : Nat} {fn : Func} {c0 k : Nat} {L : List (Nat × Obj)} {c : Nat} {H : HT} {nx : Nat} : trK X n g fn (.told c0 L k) c H nx = .exit (boolC (toldB c0 L k c H nx)) 0 H nx := rfl
/-- the script vs has a cell; what is to come is t -/
def AtT (X : Env) (n g : Nat) (fn : Func) (t : Tr) (vs : Value) (w0 w : World) : Prop := ∃ c, Ah (fun H nx => trK X n g fn t c H nx) [(c, vs)] w0 w
theorem isTr_exit {b : Bool} {f : FR} {H : HT} {nx : Nat} (h : isTr (.exit (boolC b) f H nx) = true) : b = true := by
  cases b with
  | true => rfl
  | false => exact absurd (beq_iff.1 h) (by decide)
theorem both2_at {a b : Out} (h : isTr (both2 b a) = true) : isTr a = true ∧ isTr b = true := by
  cases a with
  | norm _ _ _ => exact absurd h (by simp [both2, isTr])
  | ret _ _ _ => exact absurd h (by simp [both2, isTr])
  | bad _ => exact absurd h (by simp [both2, isTr])
  | exit i f H nx =>
    have h : isTr (br (.bad 303) b (Nat.beq i 237684487542793012780631851009)) = true := h
    cases hq : Nat.beq i 237684487542793012780631851009 with
    | true => rw [hq] at h; exact ⟨hq, h⟩
    | false => rw [hq] at h; exact absurd h (by simp [br, isTr])
variable {n g : Nat} {fn : Func} {vs : Value} {w0 w : World}
theorem AtT.stays {t : Tr} {w1 : World} (h : AtT X n g fn t vs w0 w) (s : Stays w w1) : AtT X n g fn t vs w0 w1 := ⟨h.choose, h.choose_spec.stays s⟩
theorem AtT.kept {t : Tr} (h : AtT X n g fn t vs w0 w) : Stays w0 w := h.choose_spec.kept
theorem AtT.left {a b : Tr} (h : AtT X n g fn (.both a b) vs w0 w) : AtT X n g fn a vs w0 w := ⟨h.choose, h.choose_spec.test fun H nx q => by rw [trK_both] at q; exact (both2_at q).1⟩
theorem AtT.right {a b : Tr} (h : AtT X n g fn (.both a b) vs w0 w) : AtT X n g fn b vs w0 w := ⟨h.choose, h.choose_spec.test fun H nx q => by rw [trK_both] at q; exact (both2_at q).2⟩
theorem AtT.says {l m : ByteArray} {t : Tr} (hX : EnvOk X) (h3 : 3 ≤ X.P.types.size) (hN : FnsOk X) (hO : OrcOk X) (hm : X.P.follows .mixedOrders = true) (hg : X.P.funcs[g]? = some fn) (ho : X.orc g = 0)
    (h : AtT X n g fn (.says l m t) vs w0 w) : Calls X.P g #[vs, .string l, .string m] w fun e w' => e = .returned (.bool true) ∧ AtT X n g fn t vs w0 w' := by
  obtain ⟨c, h⟩ := h
  have h := h.test (K' := fun H nx => constK (.string l) 0 H nx fun c1 H nx => constK (.string m) 0 H nx fun c2 H nx => frc (fun F => callFn fn X (Ev.runN n X) g F H nx fun r H nx => br (.bad 300) (trK X n g fn t c H nx) (Nat.beq r 237684487542793012780631851009)) (packL [0, c, c1, c2])) (fun H nx q => by
    rw [trK_says] at q; unfold sayK at q; exact q)
  obtain ⟨c1, h⟩ := Ah.txt h
  obtain ⟨c2, h⟩ := Ah.txt h
  have h := h.test (K' := fun H nx => callFn fn X (Ev.runN n X) g (packL [0, c, c1, c2]) H nx fun r H nx => br (.bad 300) (trK X n g fn t c H nx) (Nat.beq r 237684487542793012780631851009)) (fun H nx q => by
    rw [frc_eq] at q; exact q)
  refine (ah_call hX h3 hN hO hm hg ho (n := n) (F := packL [0, c, c1, c2]) (K := fun r H nx => br (.bad 300) (trK X n g fn t c H nx) (Nat.beq r 237684487542793012780631851009)) (args := #[vs, .string l, .string m]) (fun σ I hx => argsP [(c, vs), (c1, .string l), (c2, .string m)] fun x hx' => hx x (by
    simp only [List.mem_cons, List.not_mem_nil, or_false] at hx' ⊢
    rcases hx' with rfl | rfl | rfl <;> simp)) h).mono ?_
  rintro e w' ⟨r, v, rfl, I, σ, H, nx, b1, b2, b3, b4, b5, b6, b7, b8, b9⟩
  have b9 : isTr (br (.bad 300) (trK X n g fn t c H nx) (Nat.beq r 237684487542793012780631851009)) = true := b9
  cases hq : Nat.beq r 237684487542793012780631851009 with
  | false => rw [hq] at b9; exact absurd b9 (by simp [br, isTr])
  | true =>
    rw [hq] at b9
    have hr := beq_iff.1 hq
    subst hr
    have hv := bool_yes (b8 (237684487542793012780631851009, v) (List.mem_cons_self ..)) rfl
    subst hv
    exact ⟨rfl, c, I, σ, H, nx, b1, b2, b3, b4, b5, b6, b7, fun x hx => b8 x (by
      simp only [List.mem_cons, List.not_mem_nil, or_false] at hx ⊢
      subst hx; simp), b9⟩
/-- a told state: from here on another run -/
theorem AtT.next {c0 k : Nat} {L : List (Nat × Obj)} {t : Tr} (h : AtT X n g fn (.told c0 L k) vs w0 w) (ho : okS ⟨[], L, k⟩ = true) (hr : isTr (mkHK L fun H => trK X n g fn t c0 H k) = true) : AtT X n g fn t vs w0 w := by
  obtain ⟨c, I, σ, H, nx, a2, a3, a4, a5, a6, a7, a8, a9, a10⟩ := h
  have a10 : isTr (trK X n g fn (.told c0 L k) c H nx) = true := a10
  rw [trK_told] at a10
  have hc := isTr_exit a10
  unfold toldB at hc
  simp only [Bool.and_eq_true, beq_iff, ble_iff] at hc
  obtain ⟨⟨rfl, hc3⟩, hc4⟩ := hc
  obtain ⟨H2, hH2⟩ := okS.heap ho
  have hs2 : k ≤ 262144 := by simp only [okS, Bool.and_eq_true, ble_iff] at ho; exact ho.1
  obtain ⟨q1, q2⟩ := chkL_at hc4
  have hless : ∀ i, i < 262144 → get H2 i = get H i ∨ get H2 i = .dead := fun i hi => by rw [hH2.2 i hi]; exact q2 i
  rw [hH2.1] at hr
  refine ⟨c, I, σ, H2, k, a2.drop hc3 hs2 hless, fun i hi hm => ?_, fun i hi => a4 i (by omega), by omega, okS_free (S := ⟨[], L, k⟩) ho hH2, a7, a8, a9, hr⟩
  rcases hless i (by omega) with q | q
  · rw [q] at hm ⊢
    rcases Nat.lt_or_ge i nx with hlt | hge
    · exact a3 i hlt hm
    · rw [a6.2 i hge (by omega)] at hm; exact hm.elim
  · rw [q] at hm; exact hm.elim
/-- the beginning: a call that makes the script -/
theorem AtT.begin {G : Obj} {t : Tr} {gN nN : Nat} {fnN : Func} {b : Bool} (hi : isImm G) (hG : Grounded G w0) (hw : Stays w0 w) (hX : EnvOk X) (h3 : 3 ≤ X.P.types.size) (hN : FnsOk X) (hO : OrcOk X) (hm : X.P.follows .mixedOrders = true) (hg : X.P.funcs[gN]? = some fnN) (ho : X.orc gN = 0)
    (hr : isTr (mkHK [(0, G)] fun H => frc (fun F => callFn fnN X (Ev.runN nN X) gN F H 1 (trK X n g fn t)) (packL [0, boolC b])) = true) :
    Calls X.P gN #[.bool b] w fun e w' => ∃ v, e = .returned v ∧ AtT X n g fn t v w0 w' := by
  have h := ((sd_begin hi hG).stays hw).cons (c := boolC b) (v := .bool b) (fun σ I => (cra_bool (σ := σ) (I := I) b).toVR)
  have h := (h.ah (K := fun H nx => callFn fnN X (Ev.runN nN X) gN (packL [0, boolC b]) H nx (trK X n g fn t)) (by
    have e : (fun H => frc (fun F => callFn fnN X (Ev.runN nN X) gN F H 1 (trK X n g fn t)) (packL [0, boolC b])) = fun H => callFn fnN X (Ev.runN nN X) gN (packL [0, boolC b]) H 1 (trK X n g fn t) := funext fun H => frc_eq _ _
    rw [e] at hr
    exact hr))
  refine (ah_call hX h3 hN hO hm hg ho (n := nN) (F := packL [0, boolC b]) (args := #[.bool b]) (fun σ I hx => argsP [(boolC b, .bool b)] fun x hx' => hx x hx') h).mono ?_
  rintro e w' ⟨c, v, rfl, h⟩
  exact ⟨v, rfl, c, h.fewer fun x hx => by
    simp only [List.mem_cons, List.not_mem_nil, or_false] at hx ⊢
    subst hx; simp⟩
/-! ### A call that answers a text, and leaves all as it was -/
theorem Grounded.stays {G : Obj} {w w1 : World} (h : Grounded G w) (s : Stays w w1) : Grounded G w1 := fun R E e => by
  obtain ⟨h1, h2⟩ := h R E e
  refine ⟨?_, fun hz => ?_⟩
  · rw [cell_same (s.2.2.2 _ (cell_lt h1))]; exact h1
  · obtain ⟨t, fz, h3⟩ := h2 hz
    refine ⟨t, fz, (s.2.2.2 _ ?_).trans h3⟩
    rcases Nat.lt_or_ge (E / 65536 % 65536) w.heap.size with q | q
    · exact q
    · rw [Array.getElem?_eq_none q] at h3; cases h3
theorem str_at {s : ByteArray} {σ : Sig} {I : Imm} {v : Value} (hs : s.data.toList.length ≤ 11) (h : VR σ I (strC s) v) : v = .string s := by
  have h12 := strC_hi hs
  have hp : CRp σ I (strC s) v := h.toP (by rw [h12]; decide)
  exact (cell_eq hp (crp_str hs) h12 h12 (by decide) (by decide)).1 rfl
noncomputable def textK (X : Env) (n g : Nat) (fn : Func) (G : Obj) (l : List Nat) (s : ByteArray) : Out := mkHK [(0, G)] fun H => frc (fun F => callFn fn X (Ev.runN n X) g F H 1 fun c H nx => .exit (boolC (Nat.beq c (strC s) && Nat.ble s.data.toList.length 11)) 0 H nx) (packL (0 :: l))
theorem call_text (hX : EnvOk X) (h3 : 3 ≤ X.P.types.size) (hN : FnsOk X) (hO : OrcOk X) (hm : X.P.follows .mixedOrders = true) (hg : X.P.funcs[g]? = some fn) (ho : X.orc g = 0) {G : Obj} (hi : isImm G) (hG : Grounded G w) {s : ByteArray} (cs : List (Nat × Value)) (hv : ∀ x ∈ cs, ∀ σ I, VR σ I x.1 x.2)
    (hr : isTr (textK X n g fn G (cs.map (·.1)) s) = true) : Calls X.P g (cs.map (·.2)).toArray w fun e w' => e = .returned (.string s) ∧ Stays w w' := by
  have h : Sd G 0 [(0, G)] 1 cs w w := by
    obtain ⟨I, σ, H, h1, h2, h3, h4, h5, h6, h7, h8, h9, h10⟩ := sd_begin hi hG
    exact ⟨I, σ, H, h1, h2, h3, h4, h5, h6, h7, h8, h9, fun x hx => hv x hx σ I⟩
  unfold textK at hr
  have h := h.ah (K := fun H nx => callFn fn X (Ev.runN n X) g (packL (0 :: cs.map (·.1))) H nx fun c H nx => .exit (boolC (Nat.beq c (strC s) && Nat.ble s.data.toList.length 11)) 0 H nx) (by
    have e : (fun H => frc (fun F => callFn fn X (Ev.runN n X) g F H 1 fun c H nx => .exit (boolC (Nat.beq c (strC s) && Nat.ble s.data.toList.length 11)) 0 H nx) (packL (0 :: cs.map (·.1)))) = fun H => callFn fn X (Ev.runN n X) g (packL (0 :: cs.map (·.1))) H 1 fun c H nx => .exit (boolC (Nat.beq c (strC s) && Nat.ble s.data.toList.length 11)) 0 H nx := funext fun H => frc_eq _ _
    rw [e] at hr
    exact hr)
  have hA : ∀ (σ : Sig) (I : Imm), (∀ x ∈ cs, VR σ I x.1 x.2) → ArgsR σ I (packL (0 :: cs.map (·.1))) (cs.map (·.2)).toArray := fun σ I hx => argsP cs hx
  generalize packL (0 :: cs.map (·.1)) = F at h hA
  refine (ah_call hX h3 hN hO hm hg ho (n := n) hA h).mono ?_
  rintro e w' ⟨c, v, rfl, I, σ, H, nx, b1, b2, b3, b4, b5, b6, b7, b8, b9⟩
  have b9 := isTr_exit (show isTr (.exit (boolC (Nat.beq c (strC s) && Nat.ble s.data.toList.length 11)) 0 H nx) = true from b9)
  simp only [Bool.and_eq_true, beq_iff, ble_iff] at b9
  obtain ⟨rfl, hs⟩ := b9
  have hv := str_at hs (b8 (strC s, v) (List.mem_cons_self ..))
  subst hv
  exact ⟨rfl, b7⟩
end Go.Ev
set_option linter.unusedVariables false
set_option linter.unusedSimpArgs false
namespace Go.Ev
variable {X : Env} {cs : List (Nat × Value)} {w0 w : World}

/-! ### More of what a caller walked by hand does between the calls: loads, structs, closures, told states with more cells than one -/
theorem brT_ (a b : Out) : br a b true = b := rfl
/-- the cell i behind a pointer -/
noncomputable def ldK (H : HT) (c i : Nat) (k : Nat → Out) : Out := br (.bad 310) (rowK H (blk c) fun n N _ _ => br (.bad 311) (frc k (dig N (Nat.succ (Nat.add (off c) i)))) (Nat.ble (Nat.succ (Nat.add (off c) i)) n)) (isPtr c)
theorem Ah.load {c i : Nat} {v : Value} {K : Nat → HT → Nat → Out} (h : Ah (fun H nx => ldK H c i fun d => K d H nx) cs w0 w) (hc : (c, v) ∈ cs) :
    ∃ (B o d : Nat) (u : Value), v = .pointer (some ⟨B, o, none⟩) ∧ w.cell? ⟨B, o + i, none⟩ = some u ∧ Ah (fun H nx => K d H nx) ((d, u) :: cs) w0 w := by
  obtain ⟨I, σ, H, nx, a1, a2, a3, a4, a5, a6, a7, a8, a9⟩ := h
  have a9 : isTr (br (.bad 310) (rowK H (blk c) fun n N _ _ => br (.bad 311) (frc (fun d => K d H nx) (dig N (Nat.succ (Nat.add (off c) i)))) (Nat.ble (Nat.succ (Nat.add (off c) i)) n)) (isPtr c)) = true := a9
  cases hp : isPtr c with
  | false => rw [hp] at a9; exact absurd a9 (by simp [br, isTr])
  | true =>
    rw [hp, brT_] at a9
    rcases rowK_tells (b := blk c) (H := H) (fun n N _ _ => br (.bad 311) (frc (fun d => K d H nx) (dig N (Nat.succ (Nat.add (off c) i)))) (Nat.ble (Nat.succ (Nat.add (off c) i)) n)) with ⟨m, hb⟩ | ⟨n, N, et, op, e, hg⟩
    · rw [hb] at a9; exact absurd a9 (by simp [isTr])
    · rw [e] at a9
      cases hle : Nat.ble (Nat.succ (Nat.add (off c) i)) n with
      | false => rw [hle] at a9; exact absurd a9 (by simp [br, isTr])
      | true =>
        rw [hle, brT_, frc_eq] at a9
        have hle' : off c + (i + 1) ≤ n := ble_iff.1 hle
        obtain ⟨s, he1, he2, he3, hv⟩ := isPtr_inv (show VR σ I c v from a8 (c, v) hc) hp
        subst hv
        obtain ⟨u, h1, h2⟩ := a1.seg hg (o := off c) (m := i + 1) hle' s he1 i (by omega)
        refine ⟨s.B, s.β + off c, dig N (Nat.succ (Nat.add (off c) i)), u, rfl, by simpa [Nat.add_assoc] using h1, I, σ, H, nx, a1, a2, a3, a4, a5, a6, a7, fun x hx => ?_, a9⟩
        rcases List.mem_cons.1 hx with rfl | hx
        · exact CRs.toV h2
        · exact a8 x hx
/-- a struct made of values that have cells -/
noncomputable def agK (N n : Nat) (H : HT) (nx : Nat) (k : K0) : Out := new (.agg n N) H nx fun i H nx => frc (fun c => k c H nx) (Nat.add i 79228162514264337593543950336)
theorem Ah.agg {N n : Nat} {K : K0} (h : Ah (fun H nx => agK N n H nx K) cs w0 w) {vs : Array Value} (hn : vs.size = n) (hv : ∀ i (hi' : i < vs.size), (3 ≤ hi (dig N (i + 1)) ∧ hi (dig N (i + 1)) ≠ 23) ∧ (dig N (i + 1), vs[i]) ∈ cs) :
    ∃ c, Ah (fun H nx => K c H nx) ((c, .agg vs) :: cs) w0 w := by
  subst hn
  obtain ⟨I, σ, H, nx, a1, a2, a3, a4, a5, a6, a7, a8, a9⟩ := h
  have a9 : isTr (new (.agg vs.size N) H nx fun i H nx => frc (fun c => K c H nx) (Nat.add i 79228162514264337593543950336)) = true := a9
  rcases new_tells (.agg vs.size N) H nx a5 (fun i H nx => frc (fun c => K c H nx) (Nat.add i 79228162514264337593543950336)) with ⟨m, hb⟩ | ⟨c, H', nx', he, rfl, rfl, hn⟩
  · rw [hb] at a9; exact absurd a9 (by simp [isTr])
  · rw [he, frc_eq] at a9
    have g := hn.grow
    have hle := more_le (n1 := c + 1) (H1 := H') a3
    have hh := more_holds a2 g.toALe
    have h00 : more I c H' (c + 1) 0 = I 0 := if_pos a4
    have hlt : c < 262144 := by have := g.free.1; omega
    refine ⟨Nat.add c 79228162514264337593543950336, more I c H' (c + 1), σ, H', c + 1, (a1.imm hle h00).grow g, hh, more_tight g.le, by omega, g.free, a6, a7, fun x hx => ?_, a9⟩
    rcases List.mem_cons.1 hx with rfl | hx
    · have e0 : Nat.add c 79228162514264337593543950336 = 79228162514264337593543950336 + c := Nat.add_comm _ _
      rw [e0]
      obtain ⟨e1, e2⟩ := aggC_at (nx := c) hlt
      refine .inr (.inr (.inl (.inr ⟨e1, by rw [e2]; omega, N, vs, ?_, rfl, fun i hi' => ?_⟩)))
      · show (if lo (79228162514264337593543950336 + c) < c then _ else if lo (79228162514264337593543950336 + c) < c + 1 then get H' (lo (79228162514264337593543950336 + c)) else _) = _
        rw [e2, if_neg (by omega), if_pos (by omega), hn.at_]
      · obtain ⟨q1, q2⟩ := hv i hi'
        exact ((a8 _ q2).imm hle).toS q1
    · exact (a8 x hx).imm hle
/-- a value's cell is one that was told -/
noncomputable def isC (c c0 : Nat) (k : Out) : Out := br (.bad 312) k (Nat.beq c c0)
theorem Ah.same {c c0 : Nat} {K : HT → Nat → Out} (h : Ah (fun H nx => isC c c0 (K H nx)) cs w0 w) : c = c0 ∧ Ah K cs w0 w := by
  obtain ⟨I, σ, H, nx, a1, a2, a3, a4, a5, a6, a7, a8, a9⟩ := h
  have a9 : isTr (br (.bad 312) (K H nx) (Nat.beq c c0)) = true := a9
  cases hq : Nat.beq c c0 with
  | false => rw [hq] at a9; exact absurd a9 (by simp [br, isTr])
  | true => rw [hq, brT_] at a9; exact ⟨beq_iff.1 hq, I, σ, H, nx, a1, a2, a3, a4, a5, a6, a7, a8, a9⟩
/-- a told state: the cells stay, from here on another run -/
noncomputable def tellK (L : List (Nat × Obj)) (n : Nat) (H : HT) (nx : Nat) : Out := .exit (boolC (Nat.ble nx n && chkL H L)) 0 H nx
theorem Ah.next {L : List (Nat × Obj)} {k : Nat} (h : Ah (fun H nx => tellK L k H nx) cs w0 w) (ho : okS ⟨[], L, k⟩ = true) {K : HT → Nat → Out} (hr : isTr (mkHK L fun H => K H k) = true) : Ah K cs w0 w := by
  obtain ⟨I, σ, H, nx, a2, a3, a4, a5, a6, a7, a8, a9, a10⟩ := h
  have hc := isTr_exit (show isTr (.exit (boolC (Nat.ble nx k && chkL H L)) 0 H nx) = true from a10)
  simp only [Bool.and_eq_true, ble_iff] at hc
  obtain ⟨hc3, hc4⟩ := hc
  obtain ⟨H2, hH2⟩ := okS.heap ho
  have hs2 : k ≤ 262144 := by simp only [okS, Bool.and_eq_true, ble_iff] at ho; exact ho.1
  obtain ⟨q1, q2⟩ := chkL_at hc4
  have hless : ∀ i, i < 262144 → get H2 i = get H i ∨ get H2 i = .dead := fun i hi => by rw [hH2.2 i hi]; exact q2 i
  rw [hH2.1] at hr
  refine ⟨I, σ, H2, k, a2.drop hc3 hs2 hless, fun i hi hm => ?_, fun i hi => a4 i (by omega), by omega, okS_free (S := ⟨[], L, k⟩) ho hH2, a7, a8, a9, hr⟩
  rcases hless i (by omega) with q | q
  · rw [q] at hm ⊢
    rcases Nat.lt_or_ge i nx with hlt | hge
    · exact a3 i hlt hm
    · rw [a6.2 i hge (by omega)] at hm; exact hm.elim
  · rw [q] at hm; exact hm.elim
/-- a closure of the function g with n free cells -/
noncomputable def clK (H : HT) (c g n : Nat) (k : Nat → Out) : Out := br (.bad 313) (cloObj (fun g' m1 _ m2 N2 => br (.bad 314) (k N2) (and' (Nat.beq g g') (and' (Nat.beq m1 0) (Nat.beq n m2)))) (get H (lo c))) (Nat.beq (hi c) 19)
theorem Ah.clo {c g n : Nat} {v : Value} {K : Nat → HT → Nat → Out} (h : Ah (fun H nx => clK H c g n fun N => K N H nx) cs w0 w) (hc : (c, v) ∈ cs) :
    ∃ (N : Nat) (b : Array Value), v = .func (.func g) #[] b ∧ b.size = n ∧ Ah (fun H nx => K N H nx) ((List.range n).map (fun i => (dig N (i + 1), b.getD i undef)) ++ cs) w0 w := by
  obtain ⟨I, σ, H, nx, a1, a2, a3, a4, a5, a6, a7, a8, a9⟩ := h
  have a9 : isTr (br (.bad 313) (cloObj (fun g' m1 _ m2 N2 => br (.bad 314) (K N2 H nx) (and' (Nat.beq g g') (and' (Nat.beq m1 0) (Nat.beq n m2)))) (get H (lo c))) (Nat.beq (hi c) 19)) = true := a9
  cases h19 : Nat.beq (hi c) 19 with
  | false => rw [h19] at a9; exact absurd a9 (by simp [br, isTr])
  | true =>
    rw [h19, brT_] at a9
    have h19' := beq_iff.1 h19
    have hv : VR σ I c v := a8 (c, v) hc
    cases hob : get H (lo c) with
    | clo g' m1 N1 m2 N2 =>
      rw [hob] at a9
      replace a9 : isTr (br (.bad 314) (K N2 H nx) (and' (Nat.beq g g') (and' (Nat.beq m1 0) (Nat.beq n m2)))) = true := a9
      cases hq : and' (Nat.beq g g') (and' (Nat.beq m1 0) (Nat.beq n m2)) with
      | false => rw [hq] at a9; exact absurd a9 (by simp [br, isTr])
      | true =>
        rw [hq, brT_] at a9
        simp only [and'_eq, Bool.and_eq_true, beq_iff] at hq
        obtain ⟨rfl, rfl, rfl⟩ := hq
        rcases hv.toS (by omega) with hi' | ⟨_, hlo, g2, n1', N1', n2', N2', a, b, hIc, rfl, ha, hb, _, hbs, _⟩
        · exact absurd h19' hi'.ne.2
        · have hIg := get_of_holds a2 a5 hlo hob trivial
          rw [hIc] at hIg
          injection hIg with r1 r2 r3 r4 r5
          subst r1 r2 r3 r4 r5
          have ha0 : a = #[] := Array.size_eq_zero_iff.1 ha
          subst ha0
          refine ⟨N2', b, rfl, hb, I, σ, H, nx, a1, a2, a3, a4, a5, a6, a7, fun x hx => ?_, a9⟩
          rcases List.mem_append.1 hx with hx | hx
          · obtain ⟨i, hi', rfl⟩ := List.mem_map.1 hx
            have hlt : i < b.size := by rw [hb]; exact List.mem_range.1 hi'
            have := hbs i hlt
            show VR σ I (dig N2' (i + 1)) (b.getD i undef)
            rw [Array.getD_eq_getD_getElem?, Array.getElem?_eq_getElem hlt]
            exact CRs.toV (.inl this)
          · exact a8 x hx
    | row _ _ _ _ => rw [hob] at a9; exact absurd a9 (by simp [cloObj, isTr])
    | str _ _ => rw [hob] at a9; exact absurd a9 (by simp [cloObj, isTr])
    | agg _ _ => rw [hob] at a9; exact absurd a9 (by simp [cloObj, isTr])
    | tup _ _ => rw [hob] at a9; exact absurd a9 (by simp [cloObj, isTr])
    | map _ _ _ => rw [hob] at a9; exact absurd a9 (by simp [cloObj, isTr])
    | chan _ _ _ => rw [hob] at a9; exact absurd a9 (by simp [cloObj, isTr])
    | dead => rw [hob] at a9; exact absurd a9 (by simp [cloObj, isTr])
end Go.Ev
set_option linter.unusedVariables false
set_option linter.unusedSimpArgs false
namespace Go.Ev
variable {X : Env} {cs : List (Nat × Value)} {w0 w : World} {K : HT → Nat → Out}

/-! ### More for a caller walked by hand: literals, values behind told cells, calls by lists -/
theorem Ah.lit (h : Ah K cs w0 w) {c : Nat} {v : Value} (hv : ∀ σ I, VR σ I c v) : Ah K ((c, v) :: cs) w0 w := by
  obtain ⟨I, σ, H, nx, a1, a2, a3, a4, a5, a6, a7, a8, a9⟩ := h
  refine ⟨I, σ, H, nx, a1, a2, a3, a4, a5, a6, a7, fun x hx => ?_, a9⟩
  rcases List.mem_cons.1 hx with rfl | hx
  · exact hv σ I
  · exact a8 x hx
theorem Ah.val (h : Ah K cs w0 w) {c : Nat} {v : Value} {P : Value → Prop} (hc : (c, v) ∈ cs) (hp : ∀ σ I, VR σ I c v → P v) : P v := by
  obtain ⟨I, σ, H, nx, a1, a2, a3, a4, a5, a6, a7, a8, a9⟩ := h
  exact hp σ I (show VR σ I c v from a8 (c, v) hc)
/-- a call of a function whose arguments have cells -/
noncomputable def cK (X : Env) (n g : Nat) (fn : Func) (l : List Nat) (k : K0) (H : HT) (nx : Nat) : Out := frc (fun F => callFn fn X (Ev.runN n X) g F H nx k) (packL (0 :: l))
theorem Ah.call (hX : EnvOk X) (h3 : 3 ≤ X.P.types.size) (hN : FnsOk X) (hO : OrcOk X) (hm : X.P.follows .mixedOrders = true) {n g : Nat} {fn : Func} (hg : X.P.funcs[g]? = some fn) (ho : X.orc g = 0)
    {K : K0} (xs : List (Nat × Value)) (hx : ∀ x ∈ xs, x ∈ cs) (h : Ah (fun H nx => cK X n g fn (xs.map (·.1)) K H nx) cs w0 w) :
    Calls X.P g (xs.map (·.2)).toArray w fun e w' => ∃ c v, e = .returned v ∧ Ah (fun H nx => K c H nx) ((c, v) :: cs) w0 w' := by
  have h := h.test (K' := fun H nx => callFn fn X (Ev.runN n X) g (packL (0 :: xs.map (·.1))) H nx K) (fun H nx q => by
    unfold cK at q; rw [frc_eq] at q; exact q)
  exact ah_call hX h3 hN hO hm hg ho (fun σ I hh => argsP xs fun x hx' => hh x (hx x hx')) h
end Go.Ev
