/-
  What the evaluator answers is what the program does, whatever is drawn: part 4.
-/
import Derived.Test.YtgjnadligocdkaaGreatDoorSvPC
set_option linter.unusedVariables false
set_option linter.unusedSimpArgs false
namespace Go.Ev
variable {X : Env} {ops : Array Oper} {F : Nat → FR} {HH : Nat → HT} {N C : Nat → Nat} {n : Nat} {I : Imm} {σ0 : Sig} {w0 : World} {a0 : Act} {call : CallT}
variable {l : Array Bool} {a : Act} {w : World} {τ : Sig} {p : Nat} {S : Nat → SL}
def loN (X : Env) (L : List Oper) (i : Nat) : Nat := (L.zipIdx.filter fun x => cls X x.1.op == 3 && Bt L x.2 i).length
def hiN (X : Env) (L : List Oper) (i : Nat) : Nat := (L.zipIdx.filter fun x => cls X x.1.op == 3 && !Bt L i x.2).length
theorem reads_mem {L : List Oper} {i : Nat} {o : Oper} (ho : L[i]? = some o) (hc : cls X o.op = 2) (hne : loN X L i ≠ hiN X L i) : (i, loN X L i, hiN X L i) ∈ drawReads X L := by
  unfold drawReads
  simp only
  refine List.mem_filterMap.2 ⟨(o, i), by rw [List.mem_zipIdx_iff_getElem?]; exact ho, ?_⟩
  have h2 : (cls X o.op == 2) = true := by rw [hc]; rfl
  simp only [h2, if_true]
  have h3 : ((loN X L i) == (hiN X L i)) = false := by simpa using hne
  show (if (loN X L i == hiN X L i) = true then none else some (i, loN X L i, hiN X L i)) = _
  rw [h3]; rfl
theorem Ctx.text_bounds (c : Ctx X ops n F HH N C I σ0 w0 a0) {i : Nat} {o : Oper} (ho : ops.toList[i]? = some o) : loN X ops.toList i ≤ actN X ops.toList i ∧ actN X ops.toList i ≤ hiN X ops.toList i := by
  rw [actN_zip]
  refine ⟨filter_le fun x hx h => ?_, filter_le fun x hx h => ?_⟩
  · have hx' := List.mem_zipIdx_iff_getElem?.1 hx
    simp only [Bool.and_eq_true, decide_eq_true_eq] at h ⊢
    exact ⟨h.1, c.good.less i x.2 o x.1 ho hx' h.2⟩
  · have hx' := List.mem_zipIdx_iff_getElem?.1 hx
    simp only [Bool.and_eq_true, decide_eq_true_eq, Bool.not_eq_true'] at h ⊢
    refine ⟨h.1, ?_⟩
    cases hb : Bt ops.toList i x.2 with
    | false => rfl
    | true => have := c.good.less x.2 i x.1 o hx' ho hb; omega
theorem DInv.bounds (c : Ctx X ops n F HH N C I σ0 w0 a0) (h : DInv X ops F HH N C I σ0 w0 a0 l a w τ p) {i : Nat} {o : Oper} (r : Rdy ops l i o) : loN X ops.toList i ≤ actN X ops.toList p ∧ actN X ops.toList p ≤ hiN X ops.toList i := by
  rw [actN_zip]
  refine ⟨filter_le fun x hx hh => ?_, filter_le fun x hx hh => ?_⟩
  · have hx' := List.mem_zipIdx_iff_getElem?.1 hx
    simp only [Bool.and_eq_true, decide_eq_true_eq, beq_iff_eq] at hh ⊢
    exact ⟨hh.1, (h.acts x.2 x.1 hx' hh.1).1 (h.ahead c r.at_ r.ed hh.2)⟩
  · have hx' := List.mem_zipIdx_iff_getElem?.1 hx
    simp only [Bool.and_eq_true, decide_eq_true_eq, Bool.not_eq_true', beq_iff_eq] at hh ⊢
    refine ⟨hh.1, ?_⟩
    cases hb : Bt ops.toList i x.2 with
    | false => rfl
    | true =>
      have := h.closed c x.2 i ((h.acts x.2 x.1 hx' hh.1).2 hh.2) hb
      rw [r.not] at this; cases this
theorem DInv.source (c : Ctx X ops n F HH N C I σ0 w0 a0) (h : DInv X ops F HH N C I σ0 w0 a0 l a w τ p) {b : Nat} {e : SE} (hb : τ b = some e) : Src X ops.toList N b := by
  rcases h.src b e hb with hs | ⟨q, o, h1, _, h2, h3⟩
  · exact .inl (c.rel.dom b e hs).1
  · exact .inr ⟨q, o, h1, h2, h3⟩
theorem DInv.seg (c : Ctx X ops n F HH N C I σ0 w0 a0) (h : DInv X ops F HH N C I σ0 w0 a0 l a w τ p) {i : Nat} {o : Oper} (r : Rdy ops l i o) {H1 : HT} {n1 b oo nn nr Nr et : Nat} {op : Bool} (hf1 : Free H1 n1) (hn1 : n1 ≤ N (i + 1)) (hsame : ∀ b, b < N i → get H1 b = get (HH i) b)
    (hg : get H1 b = .row nr Nr et op) (hle : oo + nn ≤ nr) (hreads : loN X ops.toList i ≠ hiN X ops.toList i → ∃ S : Nat → SL, Snaps X ops.toList HH S ∧ ∃ val, SAll b oo nn (loN X ops.toList i) (hiN X ops.toList i) val (S ops.toList.length)) : SegR τ I b oo nn Nr w := by
  intro e hb
  have hlt := lt_len r.at_
  have hsrc := h.source c hb
  have hbm := h.blt c hb
  have hbi : b < N i := by
    rcases h.src b e hb with hs | ⟨q, oq, hq, hD, hc, q1, q2⟩
    · exact Nat.lt_of_lt_of_le (c.rel.dom b e hs).1 (c.nle (Nat.zero_le _) (Nat.le_of_lt hlt))
    · rcases Nat.lt_trichotomy q i with h1 | h1 | h1
      · exact Nat.lt_of_lt_of_le q2 (c.nle (show q + 1 ≤ i from h1) (Nat.le_of_lt hlt))
      · subst h1; rw [r.not] at hD; cases hD
      · exfalso
        have h2 := c.nle (show i + 1 ≤ q from h1) (Nat.le_of_lt (lt_len hq))
        have h3 := hf1.2 b (by omega) (by have := (c.tr.free _ (Nat.le_refl _)).1; omega)
        rw [hg] at h3; cases h3
  rw [hsame b hbi] at hg
  have hrowi : isRow (get (HH i) b) = true := by rw [hg]; rfl
  obtain ⟨l1, l2⟩ := h.bounds c r
  obtain ⟨t1, t2⟩ := c.text_bounds r.at_
  by_cases hst : loN X ops.toList i = hiN X ops.toList i
  · -- no acts between
    have heq : actN X ops.toList p = actN X ops.toList i := by omega
    have hno : ∀ (q : Nat) (oq : Oper), (p ≤ q ∧ q < i) ∨ (i ≤ q ∧ q < p) → ops.toList[q]? = some oq → cls X oq.op ≠ 3 := fun q oq hq hoq hc => by
      rcases hq with ⟨h1, h2⟩ | ⟨h1, h2⟩
      · have := actN_lt h1 h2 hoq hc; omega
      · have := actN_lt h1 h2 hoq hc; omega
    by_cases hp : b < N p
    · have hobj := h.rel.obj b e (cut_some.2 ⟨hp, hb⟩)
      have hcont : get (HH p) b = get (HH i) b := by
        rcases Nat.lt_or_ge p i with h1 | h1
        · exact (c.tr.same (Nat.le_of_lt h1) (Nat.le_of_lt hlt) (fun q oq a b ho => hno q oq (.inl ⟨a, b⟩) ho) b hp).symm
        · exact c.tr.same h1 h.ple (fun q oq a b ho => hno q oq (.inr ⟨a, b⟩) ho) b hbi
      rw [hcont, hg] at hobj
      exact seg_of_row (n' := nr) (N' := Nr) hb (show RowR τ I nr Nr _ e w from (hobj.mono cut_le).1) hle rfl
    · obtain ⟨q, oq, q1, q2, q3, q4, q5, q6, q7, q8, q9⟩ := h.pend b e hb (by omega)
      have hqi : q < i := by
        rcases Nat.lt_or_ge q i with h1 | h1
        · exact h1
        · have := c.nle h1 (Nat.le_of_lt (lt_len q1)); omega
      have hcont : get (HH (q + 1)) b = get (HH i) b := (c.tr.same (show q + 1 ≤ i from hqi) (Nat.le_of_lt hlt) (fun q' oq' a b ho => hno q' oq' (.inl ⟨by omega, b⟩) ho) b q6).symm
      rw [hcont, hg] at q7
      exact seg_of_row (n' := nr) (N' := Nr) hb (show RowR τ I nr Nr _ e w from (q7.mono cut_le).1) hle rfl
  · obtain ⟨S, s, val, hall⟩ := hreads hst
    obtain ⟨n', N', e', op', g1, g2, g3⟩ := c.at_ s hall hsrc (Nat.le_of_lt hlt) hbi hrowi t1 t2
    rw [hg] at g1
    injection g1 with z1 z2 z3 z4
    subst z1 z2
    by_cases hp : b < N p
    · have hobj := h.rel.obj b e (cut_some.2 ⟨hp, hb⟩)
      have hrowp : isRow (get (HH p) b) = true := by
        rcases Nat.lt_or_ge p i with h1 | h1
        · exact (c.tr.ale (Nat.le_of_lt h1) (Nat.le_of_lt hlt)).kind b hp hrowi
        · exact c.stays s hall hsrc hbi hrowi h1 h.ple l2
      obtain ⟨n2, N2, e2, op2, k1, k2, k3⟩ := c.at_ s hall hsrc h.ple hp hrowp l1 l2
      rw [k1] at hobj
      exact seg_of_row (n' := n2) (N' := N2) hb (show RowR τ I n2 N2 _ e w from (hobj.mono cut_le).1) k2 (by rw [k3, g3])
    · obtain ⟨q, oq, q1, q2, q3, q4, q5, q6, q7, q8, q9⟩ := h.pend b e hb (by omega)
      have hqi : q < i := by
        rcases Nat.lt_or_ge q i with h1 | h1
        · exact h1
        · have := c.nle h1 (Nat.le_of_lt (lt_len q1)); omega
      have hrowq : isRow (get (HH (q + 1)) b) = true := (c.tr.ale (show q + 1 ≤ i from hqi) (Nat.le_of_lt hlt)).kind b q6 hrowi
      have hlo : loN X ops.toList i ≤ actN X ops.toList q := Nat.le_trans l1 (actN_mono q4)
      obtain ⟨n2, N2, e2, op2, k1, k2, k3⟩ := c.born s hall q1 q2 q5 q6 hrowq hlo
      rw [k1] at q7
      exact seg_of_row (n' := n2) (N' := N2) hb (show RowR τ I n2 N2 _ e w from (q7.mono cut_le).1) k2 (by rw [k3, g3])
def ReadsOk (X : Env) (ops : Array Oper) (F : Nat → FR) (HH : Nat → HT) : Prop := ∀ x ∈ drawReads X ops.toList, ∃ S : Nat → SL, Snaps X ops.toList HH S ∧ ChkF X ops.toList (F ops.toList.length) (S ops.toList.length) x
theorem tmps_of_const {x : Operand} {o : Oper} {t : Nat} (h : x = .tmp t) (hx : x ∈ o.op.operands.toList) : t ∈ tmpsOf o := by
  subst h
  exact List.mem_filterMap.2 ⟨.tmp t, hx, rfl⟩
theorem draw_step (c : Ctx X ops n F HH N C I σ0 w0 a0) (hR : ReadsOk X ops F HH) (h : ∃ τ p, DInv X ops F HH N C I σ0 w0 a0 l a w τ p) {i : Nat} (hi : i ∈ Region.ready .any ops l) :
    StOp X.P ops i (fun a' w' => ∃ τ p, DInv X ops F HH N C I σ0 w0 a0 (l.setIfInBounds i true) a' w' τ p) a w := by
  obtain ⟨τ, p, h⟩ := h
  obtain ⟨hnot, o, ho, hed⟩ := mem_ready.1 hi
  have ho' : ops.toList[i]? = some o := by simpa using ho
  have hil : i < l.size := by rw [h.lsz]; exact (Array.getElem?_eq_some_iff.1 ho).1
  have r : Rdy ops l i o := ⟨ho', by simpa [Array.getD_eq_getD_getElem?, hil] using hnot, fun e he hb => hed e (by simpa using he) hb⟩
  have hlt := lt_len ho'
  have toAct : cls X o.op = 3 → DInv X ops F HH N C I σ0 w0 a0 l a w τ i := fun hc => by
    have hpi : p ≤ i := by
      rcases Nat.lt_or_ge i p with h1 | h1
      · have := (h.acts i o ho' hc).2 h1; rw [r.not] at this; cases this
      · exact h1
    refine h.advTo c hpi (Nat.le_of_lt hlt) fun q oq h1 h2 hq hcq => ?_
    have hqD : l.getD q false = false := by
      cases hl : l.getD q false with
      | false => rfl
      | true => have := (h.acts q oq hq hcq).1 hl; omega
    rcases c.good.act q i oq o (by omega) hq ho' hcq hc with hb | hb
    · have := h.ahead c ho' r.ed hb; rw [hqD] at this; cases this
    · have := c.good.less q i oq o hq ho' hb; omega
  obtain ⟨hf, hr⟩ := c.tr.step i o ho'
  rcases hr with ⟨hg, hr⟩ | ⟨hg, ec, e1, e2⟩
  · have hw := h.guarded c r hg
    unfold Res at hr
    have h4 : cls X o.op = 0 ∨ cls X o.op = 1 ∨ cls X o.op = 2 ∨ cls X o.op = 3 := by
      have : cls X o.op ≤ 3 := by
        unfold cls
        split <;> first | omega | (split <;> first | omega | (split <;> omega))
      omega
    have hIi := c.holdsAt (show i + 1 ≤ ops.toList.length from hlt)
    have pure : Pur X o (maskF (tmpsOf o) (F i)) (HH i) (N i) (C i) (HH (i + 1)) (N (i + 1)) → cls X o.op ≠ 3 → StOp X.P ops i (fun a' w' => ∃ τ p, DInv X ops F HH N C I σ0 w0 a0 (l.setIfInBounds i true) a' w' τ p) a w := fun hp hc => by
      obtain ⟨v, hrun, hv⟩ := hp.2 I τ a hIi (h.opfr c r)
      exact .did ho hw (OpDo.value (Q := fun v' w' => v' = v ∧ w' = w) (hrun w) ⟨rfl, rfl⟩) fun v' w' ⟨e1, e2⟩ => by subst e1 e2; exact ⟨τ, p, h.still c r hc hv⟩
    rcases h4 with e | e | e | e
    · rw [e] at hr; exact pure hr (by omega)
    · rw [e] at hr
      obtain ⟨H1, n1, x, g, hn, hn1, hmk⟩ := hr
      have hN1 := g.le
      have h0 : cut τ (N i) n1 = none := by unfold cut; rw [if_neg (by omega)]
      obtain ⟨v, ob, w', e', k1, k2, k3, k4, k5⟩ := hmk I (cut τ (N i)) a hIi (h.opfr_cut c r) h0 w
      refine .did ho hw (OpDo.value (Q := fun v' w'' => v' = v ∧ w'' = w') k1 ⟨rfl, rfl⟩) fun v' w'' ⟨e1, e2⟩ => ?_
      subst e1 e2
      obtain ⟨τ', hτ⟩ := h.made c r e hN1 hn1 hn.at_ k2 k3 k4 k5
      exact ⟨τ', p, hτ⟩
    · rw [e] at hr
      rcases hr with hr | ⟨x, m, hrd, hr⟩
      · exact pure hr (by omega)
      · obtain ⟨g, pc, H1, n1, hA, ⟨hpe, hp23, hp15⟩, g1, nr, Nr, et, op, hg1, hle, hrun⟩ := hr
        have hIb : Holds I H1 n1 := hIi.back g1.toALe
        have hxmem : x ∈ o.op.operands.toList := by
          rcases hrd with ⟨t, e1, _⟩ | ⟨s, d, e1, _⟩ <;> rw [e1] <;> simp [Op.operands]
        have hseg : SegR τ I (blk pc) (off pc) (m pc) Nr w := by
          refine h.seg c r (H1 := H1) (n1 := n1) hA.1.free g1.le (fun b hb => hA.1.same b hb) hg1 hle fun hne => ?_
          obtain ⟨S, hS, hchk⟩ := hR _ (reads_mem ho' e hne)
          have hop : opAt ops.toList i = o.op := by unfold opAt; rw [ho']
          refine ⟨S, hS, ?_⟩
          have final : ∀ t, x = .tmp t → fget t (F ops.toList.length) = pc := fun t ht => by
            have htm := tmps_of_const (o := o) ht hxmem
            rw [hpe t ht, fget_mask, if_pos htm]
            by_cases hwr : ∃ (q : Nat) (oq : Oper), ops.toList[q]? = some oq ∧ oq.dst = some t
            · obtain ⟨q, oq, hq, hd⟩ := hwr
              have hqi := c.good.read i q o oq t ho' hq e hd htm
              rw [c.fget_some hq hd (lt_len hq) (Nat.le_refl _), c.fget_some hq hd hqi (Nat.le_of_lt hlt)]
            · rw [c.fget_none (Nat.le_refl _) fun q oq _ hq hd => hwr ⟨q, oq, hq, hd⟩, c.fget_none (Nat.le_of_lt hlt) fun q oq _ hq hd => hwr ⟨q, oq, hq, hd⟩]
          rcases hchk with ⟨t, aa, k1, k2⟩ | ⟨s', d, aa, k1, k2⟩
          · rw [hop] at k1
            rcases hrd with ⟨t', e1, e2⟩ | ⟨s2, d2, e1, e2⟩
            · rw [e1] at k1
              injection k1 with k3 k4
              subst k3
              have hfin := final aa k4
              rw [hfin] at k2
              rw [e2]
              exact k2.resolve_left hp23
            · rw [e1] at k1; cases k1
          · rw [hop] at k1
            rcases hrd with ⟨t', e1, e2⟩ | ⟨s2, d2, e1, e2⟩
            · rw [e1] at k1; cases k1
            · rw [e1] at k1
              injection k1 with k3 k5 k4
              have hfin := final aa k4
              rw [hfin] at k2
              rw [e2]
              exact (k2.resolve_left hp23).resolve_left hp15
        obtain ⟨v, k1, k2⟩ := hrun I τ w a hIi (h.opfr c r) hseg
        exact .did ho hw (OpDo.value (Q := fun v' w' => v' = v ∧ w' = w) k1 ⟨rfl, rfl⟩) fun v' w' ⟨e1, e2⟩ => by subst e1 e2; exact ⟨τ, p, h.still c r (by omega) k2⟩
    · rw [e] at hr
      have hi' := toAct e
      have hdo := hr.2 I (cut τ (N i)) w a hIi hi'.rel (hi'.opfr_cut c r)
      refine .did ho hw hdo fun v w' ⟨σ', ha, hv⟩ => ?_
      obtain ⟨τ', hτ⟩ := hi'.acted c r e ha hv
      exact ⟨τ', i + 1, hτ⟩
  · have hw := h.guarded c r hg
    refine .skip ho hw ?_
    by_cases hc : cls X o.op = 3
    · have hi' := toAct hc
      have ha : After (cut τ (N i)) I (HH i) (N i) w (cut τ (N i)) (HH (i + 1)) (N (i + 1)) w := by
        rw [e1, e2]
        exact .grow hi'.rel (Grow.refl (c.tr.free i (Nat.le_of_lt hlt)))
      obtain ⟨τ', hτ⟩ := hi'.acted c r hc ha (by rw [ec]; exact vr_undef)
      exact ⟨τ', i + 1, hτ⟩
    · exact ⟨τ, p, h.still c r hc (by rw [ec]; exact vr_undef)⟩
theorem draw_end (c : Ctx X ops n F HH N C I σ0 w0 a0) (h : ∃ τ p, DInv X ops F HH N C I σ0 w0 a0 l a w τ p) (hr : Region.ready .any ops l = []) :
    ∃ σ', After σ0 I (HH 0) (N 0) w0 σ' (HH ops.toList.length) (N ops.toList.length) w ∧ FrameR σ' I (F ops.toList.length) a.tmps ∧ a.tmps.size = a0.tmps.size ∧ a.defers = a0.defers := by
  obtain ⟨τ, p, h⟩ := h
  have all : ∀ i, i < ops.size → l.getD i false = true := by
    intro i
    induction i using Nat.strongRecOn with
    | _ i ih =>
      intro hi
      cases hl : l.getD i false with
      | true => rfl
      | false =>
        exfalso
        have hil : i < l.size := by rw [h.lsz]; exact hi
        have ho : ops[i]? = some ops[i] := Array.getElem?_eq_getElem hi
        have ho' : ops.toList[i]? = some ops[i] := by simp [ho]
        have : i ∈ Region.ready .any ops l := mem_ready.2 ⟨by simpa [Array.getD_eq_getD_getElem?, hil] using hl, _, ho, fun e he hb => by
          have hlt := c.good.edge i _ ho' e (by simpa using he) hb
          exact ih e.on hlt (by omega)⟩
        rw [hr] at this; cases this
  have hD : ∀ (j : Nat) (o : Oper), ops.toList[j]? = some o → l.getD j false = true := fun j o ho => all j (by have := lt_len ho; simpa using this)
  have hm := h.advTo c h.ple (Nat.le_refl _) fun q o h1 h2 hq hc => by
    have := (h.acts q o hq hc).1 (hD q o hq); omega
  have hcut : cut τ (N ops.toList.length) = τ := by
    funext b
    unfold cut
    by_cases hb : b < N ops.toList.length
    · rw [if_pos hb]
    · rw [if_neg hb]
      cases hτ : τ b with
      | none => rfl
      | some e => exact absurd (hm.blt c hτ) hb
  have hrel := hm.rel
  rw [hcut] at hrel
  refine ⟨τ, ⟨hm.ext, hrel, hm.unch, hm.afr⟩, fun t => ?_, hm.asz, hm.adf⟩
  by_cases hwr : ∃ (q : Nat) (oq : Oper), ops.toList[q]? = some oq ∧ oq.dst = some t
  · obtain ⟨q, oq, hq, hd⟩ := hwr
    rw [c.fget_some hq hd (lt_len hq) (Nat.le_refl _)]
    exact hm.done q oq t hq (hD q oq hq) hd
  · rw [c.fget_none (Nat.le_refl _) fun q oq _ hq hd => hwr ⟨q, oq, hq, hd⟩, hm.todo t fun q oq hq _ hd => hwr ⟨q, oq, hq, hd⟩]
    exact (c.frame t).mono hm.ext.1
theorem draw_start (c : Ctx X ops n F HH N C I σ0 w0 a0) : DInv X ops F HH N C I σ0 w0 a0 (Array.replicate ops.size false) a0 w0 σ0 0 := by
  have hnot : ∀ i, (Array.replicate ops.size false).getD i false = false := fun i => by
    by_cases h : i < ops.size <;> simp [Array.getD_eq_getD_getElem?, h]
  have hcut : cut σ0 (N 0) = σ0 := by
    funext b
    unfold cut
    by_cases hb : b < N 0
    · rw [if_pos hb]
    · rw [if_neg hb]
      cases hτ : σ0 b with
      | none => rfl
      | some e => exact absurd (c.rel.dom b e hτ).1 hb
  exact {
    lsz := by simp
    ple := Nat.zero_le _
    acts := fun j o _ _ => by rw [hnot]; simp
    edges := fun i o _ hl => by rw [hnot] at hl; cases hl
    asz := rfl
    adf := rfl
    done := fun i o t _ hl => by rw [hnot] at hl; cases hl
    todo := fun t _ => rfl
    ext := SExt.refl _ _ _
    unch := Unch.refl _ _
    rel := by rw [hcut]; exact c.rel
    afr := fun b _ _ => rfl
    src := fun b e hb => .inl hb
    pend := fun b e hb h1 => by have := (c.rel.dom b e hb).1; omega
    keep := fun q o _ _ hq => absurd hq (by omega) }
theorem draw_ok (hX : EnvOk X) (hFo : FormOk X) (hT : 3 ≤ X.P.types.size) (hm : X.P.follows .mixedOrders = true) (hc : CallOk X call) : DrawOk X call := by
  intro r ops n f H nx hok hn hf
  have hgood := good_of hok
  have key : ∀ (F : Nat → FR) (HH : Nat → HT) (N C : Nat → Nat), F 0 = f → HH 0 = H → N 0 = nx → Trace X ops.toList F HH N C → ReadsOk X ops F HH → CodS X n (.region r ops true) f H nx .normal (F ops.toList.length) (HH ops.toList.length) (N ops.toList.length) := by
    intro F HH N C z1 z2 z3 htr hR
    subst z1 z2 z3
    refine ⟨htr.ale (Nat.zero_le _) (Nat.le_refl _), fun I σ w a hI hS hF hs hd => ?_⟩
    let w1 : World := { w with drawn := w.drawn + 1 }
    have hS1 : SRel σ I (HH 0) (N 0) w1 := hS.heap rfl
    have c : Ctx X ops n F HH N C I σ w1 a := ⟨htr, hgood, hn, hI, hS1, hF, hs⟩
    intro b k cs
    have hstart := draw_start c
    obtain ⟨a', w', ⟨σ', ha, hF', hs', hd'⟩, hsteps⟩ := sched_go (P := X.P) (ops := ops) (R := fun a' w' => ∃ σ', After σ I (HH 0) (N 0) w1 σ' (HH ops.toList.length) (N ops.toList.length) w' ∧ FrameR σ' I (F ops.toList.length) a'.tmps ∧ a'.tmps.size = a.tmps.size ∧ a'.defers = a.defers)
      (fun l a' w' => ∃ τ p, DInv X ops F HH N C I σ w1 a l a' w' τ p) (fun l a' w' ⟨τ, p, h⟩ => h.lsz) (fun l a' w' h i hi => draw_step c hR h hi) (fun l a' w' h hr => draw_end c h hr)
      ops.size (w.tape w.drawn (.order b.fn r)) (Array.replicate ops.size false) a w1 ⟨σ, 0, hstart⟩ (by
        have := List.countP_le_length (p := fun i => !(Array.replicate ops.size false).getD i true) (l := List.range ops.size)
        simpa using this) b k cs
    refine ⟨.normal, a', w', ⟨rfl, σ', ?_, hF', by omega, by rw [hd', hd]⟩, .head step_region_draw (Steps.trans ?_ (.one (step_region_end (ops := ops))))⟩
    · exact ⟨ha.ext, ha.rel, ⟨ha.unch.size, ha.unch.old, ha.unch.os, ha.unch.out⟩, ha.afr⟩
    · simp only [Region.schedule, hm, Bool.true_or, if_true]
      exact hsteps
  unfold runDrawL
  cases hl : drawReads X ops.toList with
  | nil =>
    show OutS X n _ f H nx (runOpsD ops.toList ops.toList 0 .nil (fun _ f H nx => .norm f H nx) X call f H nx)
    rcases runOpsD_trace (all := ops.toList) hX hFo hT hc ops.toList 0 .nil (fun _ f H nx => .norm f H nx) f H nx hf with ⟨m, e⟩ | ⟨F, HH, N, C, S, K, z1, z2, z3, z4, z5, z6, z7, z8⟩
    · rw [e]; trivial
    · rw [z8]
      exact key F HH N C z1 z2 z3 ⟨fun j o ho => (z6 j o ho).1, z7⟩ fun x hx => by rw [hl] at hx; cases hx
  | cons x xs =>
    show OutS X n _ f H nx (runOpsD ops.toList ops.toList 0 (.cons H 0 .nil) (fun s f H nx => chkReads X ops.toList f s (.norm f H nx) (x :: xs)) X call f H nx)
    rcases runOpsD_trace (all := ops.toList) hX hFo hT hc ops.toList 0 (.cons H 0 .nil) (fun s f H nx => chkReads X ops.toList f s (.norm f H nx) (x :: xs)) f H nx hf with ⟨m, e⟩ | ⟨F, HH, N, C, S, K, z1, z2, z3, z4, z5, z6, z7, z8⟩
    · rw [e]; trivial
    · rw [z8]
      rcases chkReads_ok (X := X) (L := ops.toList) (f := F ops.toList.length) (s := S ops.toList.length) (k := .norm (F ops.toList.length) (HH ops.toList.length) (N ops.toList.length)) (x :: xs) with ⟨m, e⟩ | ⟨e, hchk⟩
      · rw [e]; trivial
      · rw [e]
        have hK : ∀ j, j ≤ ops.toList.length → K j = actN X ops.toList j := by
          intro j
          induction j with
          | zero => intro _; rw [z5]; rfl
          | succ j ih =>
            intro hj
            have hlt : j < ops.toList.length := by omega
            have ho : ops.toList[j]? = some ops.toList[j] := List.getElem?_eq_getElem hlt
            rw [(z6 j _ ho).2.2, ih (by omega), actN_succ ho]
        have hsn : Snaps X ops.toList HH S := ⟨by rw [z4, z2], fun j o ho => by rw [(z6 j o ho).2.1, hK j (Nat.le_of_lt (lt_len ho))]⟩
        exact key F HH N C z1 z2 z3 ⟨fun j o ho => (z6 j o ho).1, z7⟩ fun y hy => by rw [hl] at hy; exact ⟨S, hsn, hchk y hy⟩
end Go.Ev
set_option linter.unusedVariables false
set_option linter.unusedSimpArgs false
namespace Go.Ev
variable {X : Env}
theorem get1_e (i : Nat) : get1 e1 i = .dead := by
  unfold get1
  generalize s8 _ = s
  cases s <;> rfl
theorem get2_e (i : Nat) : get2 e2 i = .dead := by
  unfold get2
  generalize s8 _ = s
  cases s <;> exact get1_e _
theorem get3_e (i : Nat) : get3 e3 i = .dead := by
  unfold get3
  generalize s8 _ = s
  cases s <;> exact get2_e _
theorem get4_e (i : Nat) : get4 e4 i = .dead := by
  unfold get4
  generalize s8 _ = s
  cases s <;> exact get3_e _
theorem get5_e (i : Nat) : get5 e5 i = .dead := by
  unfold get5
  generalize s8 _ = s
  cases s <;> exact get4_e _
theorem get6_e (i : Nat) : get6 e6 i = .dead := by
  unfold get6
  generalize s8 _ = s
  cases s <;> exact get5_e _
theorem get_e (i : Nat) (h : i < 262144) : get HT.e i = .dead := get6_e i
def Grounded (G : Obj) (w : World) : Prop := ∀ R E, G = .tup R E → GndW R E w
theorem top (hX : EnvOk X) (h3 : 3 ≤ X.P.types.size) (hN : FnsOk X) (hO : OrcOk X) (hm : X.P.follows .mixedOrders = true) {n g F : Nat} {fn : Func} {G : Obj} (hg : X.P.funcs[g]? = some fn) (ho : X.orc g = 0) (hi : isImm G) (hrun : isTr (runTop X G n g fn F) = true)
    {args : Array Value} (hA : ∀ σ I, ArgsR σ I F args) (w : World) (hG : Grounded G w) :
    Calls X.P g args w fun e w' => e = .returned (.bool true) ∧ w.heap.size ≤ w'.heap.size ∧ w'.os = w.os ∧ w'.output = w.output ∧ ∀ k, k < w.heap.size → w'.heap[k]? = w.heap[k]? := by
  have hFo : FormOk X := ⟨trivial⟩
  have hf0 : Free HT.e 0 := ⟨by omega, fun i _ hi => get_e i hi⟩
  have hr := run_ok hX hFo h3 hN hO (fun call hc => draw_ok hX hFo h3 hm hc) n
  unfold runTop at hrun
  rcases new_tells G HT.e 0 hf0 (fun _ H nx => callFn fn X (Ev.runN n X) g F H nx (fun c H nx => .exit c 0 H nx)) with ⟨m, hb⟩ | ⟨c0, H0, n0, he0, rfl, rfl, hn⟩
  · rw [hb] at hrun
    exact absurd hrun (by simp [isTr])
  · rw [he0] at hrun
    have hf : Free H0 (0 + 1) := hn.free
    rcases fn_callsC hX hFo hN hr hg ho hf (F := F) (fun c H nx => .exit c 0 H nx) with ⟨m, hb⟩ | ⟨c, H', nx', he, hal, h⟩
    · rw [hb] at hrun
      exact absurd hrun (by simp [isTr])
    · rw [he] at hrun
      have hc : c = 237684487542793012780631851009 := beq_iff.1 hrun
      have hH0 : get H' 0 = G := by
        have := hal.lasts 0 (by omega) (by rw [hn.at_]; exact hi)
        rw [this, hn.at_]
      have hS : SRel (fun _ => none) ⟨fun i => get H' i, fun _ => none⟩ H0 (0 + 1) w := ⟨fun b e hb => absurd hb (by simp), fun b e hb => absurd hb (by simp), fun b b' e e' hb => absurd hb (by simp), fun R E hI => ⟨hG R E (hH0.symm.trans hI), fun b e hb => absurd hb (by simp)⟩⟩
      refine (h ⟨fun i => get H' i, fun _ => none⟩ (fun _ => none) w args (fun i _ _ => rfl) hS (hA _ _)).mono ?_
      rintro e w' ⟨v, rfl, σ', ha, hv⟩
      rw [bool_yes hv hc]
      exact ⟨rfl, ha.unch.size, ha.unch.os, ha.unch.out, fun k hk => ha.unch.old k hk fun b e hb => absurd hb (by simp)⟩
end Go.Ev
set_option linter.unusedVariables false
set_option linter.unusedSimpArgs false
namespace Go.Ev
def Kept (w w' : World) : Prop := w.heap.size ≤ w'.heap.size ∧ w'.os = w.os ∧ w'.output = w.output ∧ ∀ k, k < w.heap.size → w'.heap[k]? = w.heap[k]?
theorem Kept.frame {w w' : World} (h : Kept w w') (may : MemPlace → Prop) : w.keptBut w' may := by
  refine ⟨h.2.1, h.2.2.1, fun i hi => ?_⟩
  rw [h.2.2.2 i hi]
  split <;> simp_all
end Go.Ev
set_option linter.unusedVariables false
set_option linter.unusedSimpArgs false
namespace Go.Ev
end Go.Ev
set_option linter.unusedVariables false
set_option linter.unusedSimpArgs false
namespace Go.Ev
variable {X : Env}
def ILe (I I' : Imm) : Prop := (∀ i, I i = .dead ∨ I' i = I i) ∧ ∀ k v, I.val k = some v → I'.val k = some v
theorem ILe.at {I I' : Imm} (h : ILe I I') {i : Nat} {x : Obj} (e : I i = x) (hx : isImm x) : I' i = x := by
  rcases h.1 i with h | h
  · rw [h] at e; subst e; exact hx.elim
  · rw [h]; exact e
section
variable {σ : Sig} {I I' : Imm}
theorem CRp.imm (h : ILe I I') {c : Nat} {v : Value} (k : CRp σ I c v) : CRp σ I' c v := by
  unfold CRp at k ⊢
  split at k <;> first | exact k | skip
  · obtain ⟨s, a, b, e⟩ := k
    exact ⟨s, a, b, h.at e trivial⟩
  · obtain ⟨x, q1, q2, q3, q4, q5⟩ := k
    exact ⟨x, q1, q2, q3, q4, q5.imp id (h.2 _ _)⟩
  · exact ⟨h.2 _ _ k.1, k.2⟩
theorem CRi.imm (h : ILe I I') {c : Nat} {v : Value} (k : CRi σ I c v) : CRi σ I' c v := by
  rcases k with ⟨a, a2, t, w, b, d, e, k⟩ | ⟨a, k⟩
  · exact .inl ⟨a, a2, t, w, b, d, e, k.imm h⟩
  · exact .inr ⟨a, k.imm h⟩
theorem CRs.imm (h : ILe I I') {c : Nat} {v : Value} (k : CRs σ I c v) : CRs σ I' c v := by
  rcases k with k | ⟨a, b, g, n1, N1, n2, N2, x, y, e, q, r1, r2, r3, r4, r5⟩
  · exact .inl (k.imm h)
  · exact .inr ⟨a, b, g, n1, N1, n2, N2, x, y, h.at e trivial, q, r1, r2, fun i hi => (r3 i hi).imm h, fun i hi => (r4 i hi).imm h, r5⟩
theorem CRa.imm (h : ILe I I') {c : Nat} {v : Value} (k : CRa σ I c v) : CRa σ I' c v := by
  rcases k with k | ⟨a, b, N, cs, e, q, r⟩
  · exact .inl (k.imm h)
  · exact .inr ⟨a, b, N, cs, h.at e trivial, q, fun i hi => (r i hi).imm h⟩
theorem CRv.imm (h : ILe I I') {c : Nat} {v : Value} (k : CRv σ I c v) : CRv σ I' c v := by
  rcases k with k | ⟨a, b, N, cs, e, q, r⟩
  · exact .inl (k.imm h)
  · exact .inr ⟨a, b, N, cs, h.at e trivial, q, fun i hi => (r i hi).imm h⟩
theorem VR.imm (h : ILe I I') {c : Nat} {v : Value} (k : VR σ I c v) : VR σ I' c v := k.imp id (·.imp id (·.imm h))
theorem FrameR.imm (h : ILe I I') {f : FR} {t : Array Value} (k : FrameR σ I f t) : FrameR σ I' f t := fun i => (k i).imm h
theorem ObjR.imm (hs : ILe I I') {o : Obj} {e : SE} {w : World} (h : ObjR σ I o e w) : ObjR σ I' o e w := by
  cases o <;> first | trivial | skip
  · obtain ⟨⟨cells, el, fz, h1, h2, h3, h4, h5⟩, hz⟩ := h
    exact ⟨⟨cells, el, fz, h1, h2, h3, h4, fun i hi => let ⟨v, a, b⟩ := h5 i hi; ⟨v, a, b.imm hs⟩⟩, hz⟩
  · obtain ⟨es, h1, h2, h3⟩ := h
    refine ⟨es, h1, ?_, h3⟩
    have : ∀ (l : ML) (es : List MapEntry), MLR σ I l es → MLR σ I' l es := by
      intro l
      induction l with
      | nil => intro es h; cases es <;> exact h
      | cons k v b l ih => intro es h; cases es with
        | nil => exact h
        | cons x es => exact ⟨⟨h.1.1.imm hs, h.1.2.1, h.1.2.2.1, h.1.2.2.2.1.imm hs, h.1.2.2.2.2⟩, ih es h.2⟩
    exact this _ _ h2
  · rcases h with ⟨hc, buf, s, r, h1, h2, h4, h3⟩ | h
    · exact .inl ⟨hc, buf, s, r, h1, h2, h4, fun i hi => (h3 i hi).imm hs⟩
    · exact .inr h
theorem SRel.imm (hs : ILe I I') (h0 : I' 0 = I 0) {H : HT} {nx : Nat} {w : World} (h : SRel σ I H nx w) : SRel σ I' H nx w where
  dom := h.dom
  obj := fun b e hb => (h.obj b e hb).imm hs
  inj := h.inj
  g0 := fun R E hI => h.g0 R E (h0.symm.trans hI)
end
def Pt (n : Nat) (V : Option Value) (w0 : World) (f : FR) (H : HT) (nx : Nat) (a : Act) (w : World) : Prop :=
  ∃ (I : Imm) (σ : Sig), SRel σ I H nx w ∧ FrameR σ I f a.tmps ∧ Holds I H nx ∧ (∀ i, nx ≤ i → I i = .dead) ∧ 0 < nx ∧ n ≤ a.tmps.size ∧ a.defers = [] ∧ Free H nx ∧ (∀ b e, σ b = some e → w0.heap.size ≤ e.B) ∧ Stays w0 w ∧ ∀ v, V = some v → I.val 1 = some v
noncomputable def more (I : Imm) (nx : Nat) (H1 : HT) (n1 : Nat) : Imm := ⟨fun i => if i < nx then I i else if i < n1 then get H1 i else .dead, I.val⟩
theorem more_le {I : Imm} {nx n1 : Nat} {H1 : HT} (ht : ∀ i, nx ≤ i → I i = .dead) : ILe I (more I nx H1 n1) := ⟨fun i => by
  by_cases h : i < nx
  · exact .inr (if_pos h)
  · exact .inl (ht i (by omega)), fun _ _ h => h⟩
theorem more_holds {I : Imm} {nx n1 : Nat} {H H1 : HT} (hH : Holds I H nx) (ha : ALe H nx H1 n1) : Holds (more I nx H1 n1) H1 n1 := fun i hi hm => by
  show (if i < nx then I.f i else if i < n1 then get H1 i else .dead) = get H1 i
  by_cases h : i < nx
  · rw [if_pos h]
    have e := ha.back i h hm
    rw [e]; exact hH i h (by rw [← e]; exact hm)
  · rw [if_neg h, if_pos hi]
theorem more_tight {I : Imm} {nx n1 : Nat} {H1 : HT} (hle : nx ≤ n1) : ∀ i, n1 ≤ i → more I nx H1 n1 i = .dead := fun i hi => by
  show (if i < nx then I.f i else if i < n1 then get H1 i else .dead) = .dead
  rw [if_neg (by omega), if_neg (by omega)]
theorem pt_after {w0 w w' : World} {σ σ' : Sig} {I : Imm} {H H' : HT} {nx nx' : Nat} (h : After σ I H nx w σ' H' nx' w') (hs : ∀ b e, σ b = some e → w0.heap.size ≤ e.B) (hst : Stays w0 w) : (∀ b e, σ' b = some e → w0.heap.size ≤ e.B) ∧ Stays w0 w' := by
  refine ⟨fun b e hb => ?_, Nat.le_trans hst.1 h.unch.size, h.unch.os.trans hst.2.1, h.unch.out.trans hst.2.2.1, fun k hk => ?_⟩
  · rcases h.ext.2 b e hb with h1 | ⟨_, h2 | ⟨b0, e0, h3, h4⟩⟩
    · exact hs b e h1
    · exact Nat.le_trans hst.1 h2
    · rw [← h4]; exact hs b0 e0 h3
  · rw [h.unch.old k (Nat.lt_of_lt_of_le hk hst.1) (fun b e hb => by have := hs b e hb; omega)]
    exact hst.2.2.2 k hk
theorem wpL_mono {P : Program} {c : Code} {Q Q' : Exit → Act → World → Prop} {a : Act} {w : World} (h : wpL P c Q a w) (hq : ∀ e a w, Q e a w → Q' e a w) : wpL P c Q' a w :=
  fun b k cs => let ⟨e, a', w', q, r⟩ := h b k cs; ⟨e, a', w', hq _ _ _ q, r⟩
def Tri (X : Env) (V : Option Value) (n : Nat) (c : Code) (f : FR) (H : HT) (nx : Nat) (e : Exit) (f' : FR) (H' : HT) (nx' : Nat) : Prop :=
  ∀ (w0 : World) (a : Act) (w : World), Pt n V w0 f H nx a w → wpL X.P c (fun e' a' w' => e' = e ∧ Pt n V w0 f' H' nx' a' w') a w
variable {V : Option Value} {n nx nx1 nx2 : Nat} {f f1 f2 : FR} {H H1 H2 : HT} {c b : Code} {e : Exit}
theorem Tri.of (h : CodS X n c f H nx e f1 H1 nx1) : Tri X V n c f H nx e f1 H1 nx1 := by
  rintro w0 a w ⟨I, σ, h1, h2, h3, h4, h5, h6, h7, h8, h9, h10, h11⟩
  have hle := more_le (n1 := nx1) (H1 := H1) h4
  have h00 : more I nx H1 nx1 0 = I 0 := if_pos h5
  refine wpL_mono (h.2 (more I nx H1 nx1) σ w a (more_holds h3 h.1) (h1.imm hle h00) (h2.imm hle) h6 h7) ?_
  rintro e' a' w' ⟨rfl, σ', q1, q2, q3, q4⟩
  obtain ⟨r1, r2⟩ := pt_after q1 h9 h10
  exact ⟨rfl, more I nx H1 nx1, σ', q1.rel, q2, more_holds h3 h.1, more_tight h.1.le, Nat.lt_of_lt_of_le h5 h.1.le, q3, q4, h.1.free, r1, r2, h11⟩
theorem Pt.less {w0 w : World} {a : Act} (h : Pt n V w0 f H nx a w) (hs : ∀ i, i < 262144 → get H1 i = get H i ∨ get H1 i = .dead) : Pt n V w0 f H1 nx a w := by
  obtain ⟨I, σ, h1, h2, h3, h4, h5, h6, h7, h8, h9, h10, h11⟩ := h
  have hlt : ∀ b e, σ b = some e → b < 262144 := fun b e hb => Nat.lt_of_lt_of_le (h1.dom b e hb).1 h8.1
  refine ⟨I, σ, ⟨h1.dom, fun b e hb => ?_, fun b b' e e' hb hb' hB n1 n2 => ?_, h1.g0⟩, h2, fun i hi hm => ?_, h4, h5, h6, h7, ⟨h8.1, fun i hi hi' => ?_⟩, h9, h10, h11⟩
  · rcases hs b (hlt b e hb) with q | q
    · rw [q]; exact h1.obj b e hb
    · rw [q]; trivial
  · have q1 := (hs b (hlt b e hb)).resolve_right n1
    have q2 := (hs b' (hlt b' e' hb')).resolve_right n2
    rw [q1] at n1; rw [q2] at n2
    exact h1.inj b b' e e' hb hb' hB n1 n2
  · rcases hs i (Nat.lt_of_lt_of_le hi h8.1) with q | q
    · rw [q] at hm ⊢; exact h3 i hi hm
    · rw [q] at hm; exact hm.elim
  · rcases hs i hi' with q | q
    · rw [q]; exact h8.2 i hi hi'
    · exact q
theorem Tri.less (h : Tri X V n c f H nx e f1 H1 nx1) (hs : ∀ i, i < 262144 → get H2 i = get H1 i ∨ get H2 i = .dead) : Tri X V n c f H nx e f1 H2 nx1 :=
  fun w0 a w hp => wpL_mono (h w0 a w hp) fun e' a' w' ⟨q, r⟩ => ⟨q, r.less hs⟩
theorem Tri.seq (h : Tri X V n c f H nx .normal f1 H1 nx1) (k : Tri X V n b f1 H1 nx1 e f2 H2 nx2) : Tri X V n (.seq c b) f H nx e f2 H2 nx2 :=
  fun w0 a w hp => wp_seq (wp_mono (h w0 a w hp).wp fun e' a' w' ⟨q, r⟩ => by subst q; exact (k w0 a' w' r).wp)
theorem Tri.loop (h : Tri X V n c f H nx .normal f1 H1 nx1) (k : Tri X V n (.loop c) f1 H1 nx1 e f2 H2 nx2) : Tri X V n (.loop c) f H nx e f2 H2 nx2 :=
  fun w0 a w hp => wpL_loop (wp_mono (h w0 a w hp).wp fun e' a' w' ⟨q, r⟩ => by subst q; exact k w0 a' w' r)
theorem Tri.block {i : Nat} (h : Tri X V n c f H nx (.exit i) f1 H1 nx1) : Tri X V n (.block i c) f H nx .normal f1 H1 nx1 :=
  fun w0 a w hp => wp_block (wp_mono (h w0 a w hp).wp fun e' a' w' ⟨q, r⟩ => by subst q; unfold Exit.inBlock; simp only [if_true]; exact ⟨trivial, r⟩)
theorem Tri.pre (hp : ∀ w0 a w, Pt n V w0 f H nx a w → Pt n V w0 f1 H1 nx1 a w) (h : Tri X V n c f1 H1 nx1 e f2 H2 nx2) : Tri X V n c f H nx e f2 H2 nx2 := fun w0 a w q => h w0 a w (hp w0 a w q)
noncomputable def rounds (run : RunT) (g : Nat) (b : Code) : Nat → FR → HT → Nat → Out := @Nat.rec (fun _ => FR → HT → Nat → Out) (fun f H nx => .norm f H nx) (fun _ ih f H nx => @Out.rec (fun _ => Out) ih (fun _ _ _ => .bad 200) (fun _ _ _ _ => .bad 201) .bad (run g b f H nx))
theorem rounds_ext {run : RunT} (hr : RunOk X run) {g : Nat} (hc : codeOk n b = true) (hd : drawsOk X g b = true) : ∀ (k : Nat) (f : FR) (H : HT) (nx : Nat) (f1 : FR) (H1 : HT) (nx1 : Nat), Free H nx → rounds run g b k f H nx = .norm f1 H1 nx1 →
    ∀ (e : Exit) (f2 : FR) (H2 : HT) (nx2 : Nat), Tri X V n (.loop b) f1 H1 nx1 e f2 H2 nx2 → Tri X V n (.loop b) f H nx e f2 H2 nx2
  | 0, f, H, nx, f1, H1, nx1, hf, h, e, f2, H2, nx2, T => by
    have h : Out.norm f H nx = .norm f1 H1 nx1 := h
    injection h with h1 h2 h3
    subst h1 h2 h3; exact T
  | k + 1, f, H, nx, f1, H1, nx1, hf, h, e, f2, H2, nx2, T => by
    have h : @Out.rec (fun _ => Out) (rounds run g b k) (fun _ _ _ => .bad 200) (fun _ _ _ _ => .bad 201) .bad (run g b f H nx) = .norm f1 H1 nx1 := h
    have ho := hr g b f H nx n hc hd hf
    cases hrun : run g b f H nx with
    | norm f' H' nx' =>
      rw [hrun] at h ho
      exact (Tri.of ho).loop (rounds_ext hr hc hd k f' H' nx' f1 H1 nx1 ho.1.free h e f2 H2 nx2 T)
    | ret _ _ _ => rw [hrun] at h; cases h
    | exit _ _ _ _ => rw [hrun] at h; cases h
    | bad m => rw [hrun] at h; cases h
def look1 : List (Nat × Obj) → Nat → Obj
  | [], _ => .dead
  | x :: l, i => if x.1 = i then x.2 else look1 l i
theorem mkHK_law : ∀ l : List (Nat × Obj), (∀ x ∈ l, x.1 < 262144) → ∃ H, (∀ k, mkHK l k = k H) ∧ ∀ i, i < 262144 → get H i = look1 l i
  | [], _ => ⟨.e, fun _ => rfl, fun i hi => get_e i hi⟩
  | x :: l, h => by
    obtain ⟨H, h1, h2⟩ := mkHK_law l fun y hy => h y (by simp [hy])
    obtain ⟨H', h3, h4⟩ := set_law H x.2 x.1 (h x (by simp))
    refine ⟨H', fun k => ?_, fun i hi => ?_⟩
    · show mkHK l (fun H => set H x.2 x.1 k) = _
      rw [h1, h3]
    · rw [h4 i hi, h2 i hi]; rfl
theorem mlEq_eq : ∀ {l l' : ML}, mlEq l l' = true → l = l'
  | .nil, .nil, _ => rfl
  | .cons a b c l, .cons a' b' c' l', h => by
    simp only [mlEq, Bool.and_eq_true, beq_iff] at h
    obtain ⟨⟨⟨h1, h2⟩, h3⟩, h4⟩ := h
    rw [h1, h2, h3, mlEq_eq h4]
  | .nil, .cons .., h => by cases h
  | .cons .., .nil, h => by cases h
theorem objEq_eq {a b : Obj} (h : objEq a b = true) : a = b := by
  cases a <;> cases b <;> simp only [objEq, Bool.and_eq_true, beq_iff, beq_iff_eq, Bool.false_eq_true, reduceCtorEq] at h <;> first | exact h.elim | skip
  · obtain ⟨⟨⟨h1, h2⟩, h3⟩, h4⟩ := h; rw [h1, h2, h3, h4]
  · obtain ⟨h1, h2⟩ := h; rw [h1, h2]
  · obtain ⟨h1, h2⟩ := h; rw [h1, h2]
  · obtain ⟨h1, h2⟩ := h; rw [h1, h2]
  · obtain ⟨⟨⟨⟨h1, h2⟩, h3⟩, h4⟩, h5⟩ := h; rw [h1, h2, h3, h4, h5]
  · obtain ⟨⟨h1, h2⟩, h3⟩ := h; rw [h1, h2, mlEq_eq h3]
  · obtain ⟨⟨h1, h2⟩, h3⟩ := h; rw [h1, h2, h3]
theorem chkL_at {H : HT} : ∀ {l : List (Nat × Obj)}, chkL H l = true → (∀ x ∈ l, x.1 < 262144) ∧ ∀ i, look1 l i = get H i ∨ look1 l i = .dead
  | [], _ => ⟨fun x hx => absurd hx (by simp), fun i => .inr rfl⟩
  | x :: l, h => by
    simp only [chkL, Bool.and_eq_true, blt_iff] at h
    obtain ⟨⟨h1, h2⟩, h3⟩ := h
    obtain ⟨k1, k2⟩ := chkL_at h3
    refine ⟨fun y hy => ?_, fun i => ?_⟩
    · rcases List.mem_cons.1 hy with rfl | hy
      · exact h1
      · exact k1 y hy
    · show (if x.1 = i then x.2 else look1 l i) = _ ∨ (if x.1 = i then x.2 else look1 l i) = _
      by_cases e : x.1 = i
      · subst e; rw [if_pos rfl]; exact .inl (objEq_eq h2).symm
      · rw [if_neg e]; exact k2 i
def exitOf : Nat → Exit | 0 => .normal | 1 => .ret | i + 2 => .exit i
def HeapOf (L : List (Nat × Obj)) (H : HT) : Prop := (∀ k, mkHK L k = k H) ∧ ∀ i, i < 262144 → get H i = look1 L i
end Go.Ev
set_option linter.unusedVariables false
set_option linter.unusedSimpArgs false
namespace Go.Ev
variable {X : Env}
noncomputable def mkF : List (Nat × Nat) → FR := @List.rec (Nat × Nat) (fun _ => FR) 0 (fun x _ ih => put ih (Nat.succ x.1) x.2)
def look2 : List (Nat × Nat) → Nat → Nat
  | [], _ => 0
  | x :: l, t => if t = x.1 then x.2 else look2 l t
theorem fget_zero (t : Nat) : fget t 0 = 0 := by
  show dig 0 (t + 1) = 0
  rw [dig_def, Nat.zero_shiftRight, Nat.zero_mod]
theorem fget_mkF : ∀ {l : List (Nat × Nat)}, (∀ x ∈ l, x.2 < 2 ^ 128) → ∀ t, fget t (mkF l) = look2 l t
  | [], _, t => fget_zero t
  | x :: l, h, t => by
    show fget t (put (mkF l) (Nat.succ x.1) x.2) = _
    rw [fget_put (h x (by simp)), fget_mkF (fun y hy => h y (by simp [hy])) t]; rfl
noncomputable def chkF (f : FR) : List (Nat × Nat) → Bool
  | [] => true
  | x :: l => Nat.beq (fget x.1 f) x.2 && chkF f l
theorem chkF_at {f : FR} : ∀ {l : List (Nat × Nat)}, chkF f l = true → (∀ x ∈ l, x.2 < 2 ^ 128) ∧ ∀ t, look2 l t = fget t f ∨ look2 l t = 0
  | [], _ => ⟨fun x hx => absurd hx (by simp), fun t => .inr rfl⟩
  | x :: l, h => by
    simp only [chkF, Bool.and_eq_true, beq_iff] at h
    obtain ⟨k1, k2⟩ := chkF_at h.2
    refine ⟨fun y hy => ?_, fun t => ?_⟩
    · rcases List.mem_cons.1 hy with rfl | hy
      · rw [← h.1]; exact fget_lt _ _
      · exact k1 y hy
    · show (if t = x.1 then x.2 else look2 l t) = _ ∨ (if t = x.1 then x.2 else look2 l t) = _
      by_cases e : t = x.1
      · subst e; rw [if_pos rfl]; exact .inl h.1.symm
      · rw [if_neg e]; exact k2 t
structure St where
  F : List (Nat × Nat)
  L : List (Nat × Obj)
  nx : Nat
noncomputable def okL (nx : Nat) : List (Nat × Obj) → Bool
  | [] => true
  | x :: l => Nat.blt x.1 nx && okL nx l
noncomputable def okS (S : St) : Bool := Nat.ble S.nx 262144 && okL S.nx S.L
theorem okL_at {nx : Nat} : ∀ {l : List (Nat × Obj)}, okL nx l = true → ∀ i, nx ≤ i → look1 l i = .dead
  | [], _, i, _ => rfl
  | x :: l, h, i, hi => by
    simp only [okL, Bool.and_eq_true, blt_iff] at h
    show (if x.1 = i then x.2 else look1 l i) = _
    rw [if_neg (by omega)]; exact okL_at h.2 i hi
theorem okS_free {S : St} (h : okS S = true) {H : HT} (hH : HeapOf S.L H) : Free H S.nx := by
  simp only [okS, Bool.and_eq_true, ble_iff] at h
  exact ⟨h.1, fun i hi hi' => by rw [hH.2 i hi']; exact okL_at h.2 i hi⟩
noncomputable def endsS (k : Nat) (S : St) : Out → Bool
  | .norm f H nx => Nat.beq k 0 && Nat.beq nx S.nx && chkF f S.F && chkL H S.L
  | .ret f H nx => Nat.beq k 1 && Nat.beq nx S.nx && chkF f S.F && chkL H S.L
  | .exit i f H nx => Nat.beq k (i + 2) && Nat.beq nx S.nx && chkF f S.F && chkL H S.L
  | .bad _ => false
theorem Pt.drop {V : Option Value} {n : Nat} {w0 w : World} {f : FR} {H : HT} {nx : Nat} {a : Act} {S : St} (hp : Pt n V w0 f H nx a w) (hF : chkF f S.F = true) (hL : chkL H S.L = true) (hn : nx = S.nx) {H' : HT} (hH : HeapOf S.L H') : Pt n V w0 (mkF S.F) H' S.nx a w := by
  subst hn
  obtain ⟨k1, k2⟩ := chkF_at hF
  obtain ⟨q1, q2⟩ := chkL_at hL
  have h2 := hp.less (H1 := H') fun i hi => by rw [hH.2 i hi]; exact q2 i
  obtain ⟨I, σ, r1, r2, r3⟩ := h2
  refine ⟨I, σ, r1, fun t => ?_, r3⟩
  rw [fget_mkF k1]
  rcases k2 t with q | q
  · rw [q]; exact r2 t
  · rw [q]; exact .inl (by decide)
def TriS (X : Env) (V : Option Value) (n : Nat) (c : Code) (S : St) (e : Exit) (S' : St) : Prop := ∀ H H', HeapOf S.L H → HeapOf S'.L H' → Tri X V n c (mkF S.F) H S.nx e (mkF S'.F) H' S'.nx
theorem Tri.drop {V : Option Value} {n : Nat} {c : Code} {f f1 : FR} {H H1 H' : HT} {nx nx1 : Nat} {e : Exit} {S : St} (h : Tri X V n c f H nx e f1 H1 nx1) (hF : chkF f1 S.F = true) (hL : chkL H1 S.L = true) (hn : nx1 = S.nx) (hH : HeapOf S.L H') : Tri X V n c f H nx e (mkF S.F) H' S.nx :=
  fun w0 a w hp => wpL_mono (h w0 a w hp) fun e' a' w' ⟨q, r⟩ => ⟨q, r.drop hF hL hn hH⟩
noncomputable def runS (run : RunT) (g : Nat) (c : Code) (S : St) : Out := mkHK S.L fun H => frc (fun f => run g c f H S.nx) (mkF S.F)
noncomputable def roundsS (run : RunT) (g k : Nat) (b : Code) (S : St) : Out := mkHK S.L fun H => frc (fun f => rounds run g b k f H S.nx) (mkF S.F)
variable {V : Option Value} {n : Nat} {c b : Code} {S S1 S2 : St} {e : Exit}
theorem heap_of {L : List (Nat × Obj)} {nx : Nat} (hn : nx ≤ 262144) (h : okL nx L = true) : ∃ H, HeapOf L H := by
  refine mkHK_law L fun x hx => ?_
  induction L with
  | nil => exact absurd hx (by simp)
  | cons y l ih =>
    simp only [okL, Bool.and_eq_true, blt_iff] at h
    rcases List.mem_cons.1 hx with rfl | hx
    · omega
    · exact ih h.2 hx
theorem okS.heap (h : okS S = true) : ∃ H, HeapOf S.L H := by
  simp only [okS, Bool.and_eq_true, ble_iff] at h
  exact heap_of h.1 h.2
theorem OutS.endS {o : Out} {k : Nat} {f : FR} {H H' : HT} {nx : Nat} (h : OutS X n c f H nx o) (he : endsS k S o = true) (hH : HeapOf S.L H') : Tri X V n c f H nx (exitOf k) (mkF S.F) H' S.nx := by
  cases o with
  | bad m => cases he
  | norm f' H1 nx' =>
    simp only [endsS, Bool.and_eq_true, beq_iff] at he
    obtain ⟨⟨⟨h1, h2⟩, h3⟩, h4⟩ := he
    subst h1; exact (Tri.of h).drop h3 h4 h2 hH
  | ret f' H1 nx' =>
    simp only [endsS, Bool.and_eq_true, beq_iff] at he
    obtain ⟨⟨⟨h1, h2⟩, h3⟩, h4⟩ := he
    subst h1; exact (Tri.of h).drop h3 h4 h2 hH
  | exit i f' H1 nx' =>
    simp only [endsS, Bool.and_eq_true, beq_iff] at he
    obtain ⟨⟨⟨h1, h2⟩, h3⟩, h4⟩ := he
    subst h1; exact (Tri.of h).drop h3 h4 h2 hH
theorem TriS.seg {run : RunT} (hr : RunOk X run) {g k : Nat} (hc : codeOk n c = true) (hd : drawsOk X g c = true) (ho : okS S = true) (he : endsS k S1 (runS run g c S) = true) : TriS X V n c S (exitOf k) S1 := fun H H' hH hH' => by
  unfold runS at he
  rw [hH.1, frc_eq] at he
  exact (hr g c (mkF S.F) H S.nx n hc hd (okS_free ho hH)).endS he hH'
theorem TriS.seq (ho : okS S1 = true) (h : TriS X V n c S .normal S1) (k : TriS X V n b S1 e S2) : TriS X V n (.seq c b) S e S2 := fun H H' hH hH' => by
  obtain ⟨H1, h1⟩ := okS.heap ho
  exact (h H H1 hH h1).seq (k H1 H' h1 hH')
theorem TriS.block {i : Nat} (h : TriS X V n c S (.exit i) S1) : TriS X V n (.block i c) S .normal S1 := fun H H' hH hH' => (h H H' hH hH').block
theorem TriS.loop (ho : okS S1 = true) (h : TriS X V n c S .normal S1) (k : TriS X V n (.loop c) S1 e S2) : TriS X V n (.loop c) S e S2 := fun H H' hH hH' => by
  obtain ⟨H1, h1⟩ := okS.heap ho
  exact (h H H1 hH h1).loop (k H1 H' h1 hH')
theorem TriS.rounds {run : RunT} (hr : RunOk X run) {g k : Nat} (hc : codeOk n b = true) (hd : drawsOk X g b = true) (ho : okS S = true) (ho1 : okS S1 = true) (he : endsS 0 S1 (roundsS run g k b S) = true) (h : TriS X V n (.loop b) S1 e S2) : TriS X V n (.loop b) S e S2 := fun H H' hH hH' => by
  unfold roundsS at he
  rw [hH.1, frc_eq] at he
  obtain ⟨H1, h1⟩ := okS.heap ho1
  cases hq : Ev.rounds run g b k (mkF S.F) H S.nx with
  | bad m => rw [hq] at he; cases he
  | ret _ _ _ => rw [hq] at he; simp [endsS] at he
  | exit i _ _ _ => rw [hq] at he; simp [endsS] at he
  | norm f' Hn nx' =>
    rw [hq] at he
    simp only [endsS, Bool.and_eq_true, beq_iff] at he
    obtain ⟨⟨⟨_, h2⟩, h3⟩, h4⟩ := he
    exact rounds_ext hr hc hd k _ _ _ _ _ _ (okS_free ho hH) hq _ _ _ _ ((h H1 H' h1 hH').pre fun w0 a w hp => hp.drop h3 h4 h2 h1)
def seqs : List Code → Code → Code
  | [], t => t
  | c :: l, t => .seq c (seqs l t)
noncomputable def runL (run : RunT) (g : Nat) : List Code → FR → HT → Nat → Out := @List.rec Code (fun _ => FR → HT → Nat → Out) (fun f H nx => .norm f H nx) (fun c _ ih f H nx => @Out.rec (fun _ => Out) ih (fun _ _ _ => .bad 200) (fun _ _ _ _ => .bad 201) .bad (run g c f H nx))
noncomputable def runLS (run : RunT) (g : Nat) (l : List Code) (S : St) : Out := mkHK S.L fun H => frc (fun f => runL run g l f H S.nx) (mkF S.F)
theorem runL_ext {run : RunT} (hr : RunOk X run) {g : Nat} {t : Code} : ∀ (l : List Code), (∀ c ∈ l, codeOk n c = true ∧ drawsOk X g c = true) → ∀ (f : FR) (H : HT) (nx : Nat) (f1 : FR) (H1 : HT) (nx1 : Nat), Free H nx → runL run g l f H nx = .norm f1 H1 nx1 →
    ∀ (e : Exit) (f2 : FR) (H2 : HT) (nx2 : Nat), Tri X V n t f1 H1 nx1 e f2 H2 nx2 → Tri X V n (seqs l t) f H nx e f2 H2 nx2
  | [], _, f, H, nx, f1, H1, nx1, hf, h, e, f2, H2, nx2, T => by
    have h : Out.norm f H nx = .norm f1 H1 nx1 := h
    injection h with h1 h2 h3
    subst h1 h2 h3; exact T
  | c :: l, hc, f, H, nx, f1, H1, nx1, hf, h, e, f2, H2, nx2, T => by
    have h : @Out.rec (fun _ => Out) (runL run g l) (fun _ _ _ => .bad 200) (fun _ _ _ _ => .bad 201) .bad (run g c f H nx) = .norm f1 H1 nx1 := h
    have ho := hr g c f H nx n (hc c (by simp)).1 (hc c (by simp)).2 hf
    cases hrun : run g c f H nx with
    | norm f' H' nx' =>
      rw [hrun] at h ho
      exact (Tri.of ho).seq (runL_ext hr l (fun x hx => hc x (by simp [hx])) f' H' nx' f1 H1 nx1 ho.1.free h e f2 H2 nx2 T)
    | ret _ _ _ => rw [hrun] at h; cases h
    | exit _ _ _ _ => rw [hrun] at h; cases h
    | bad m => rw [hrun] at h; cases h
theorem TriS.pieces {run : RunT} (hr : RunOk X run) {g : Nat} {l : List Code} {t : Code} (hc : ∀ c ∈ l, codeOk n c = true ∧ drawsOk X g c = true) (ho : okS S = true) (ho1 : okS S1 = true) (he : endsS 0 S1 (runLS run g l S) = true) (h : TriS X V n t S1 e S2) : TriS X V n (seqs l t) S e S2 := fun H H' hH hH' => by
  unfold runLS at he
  rw [hH.1, frc_eq] at he
  obtain ⟨H1, h1⟩ := okS.heap ho1
  cases hq : runL run g l (mkF S.F) H S.nx with
  | bad m => rw [hq] at he; cases he
  | ret _ _ _ => rw [hq] at he; simp [endsS] at he
  | exit i _ _ _ => rw [hq] at he; simp [endsS] at he
  | norm f' Hn nx' =>
    rw [hq] at he
    simp only [endsS, Bool.and_eq_true, beq_iff] at he
    obtain ⟨⟨⟨_, h2⟩, h3⟩, h4⟩ := he
    exact runL_ext hr l hc _ _ _ _ _ _ (okS_free ho hH) hq _ _ _ _ ((h H1 H' h1 hH').pre fun w0 a w hp => hp.drop h3 h4 h2 h1)
def Bears (c : Nat) (v : Value) : Prop := ∀ σ (I : Imm), I.val 1 = some v → VR σ I c v
def Pins (c : Nat) : Prop := ∀ σ (I : Imm) v u, I.val 1 = some v → VR σ I c u → u = v
theorem Pt.swap {n : Nat} {w0 w : World} {t c c' : Nat} {l : List (Nat × Nat)} {H : HT} {nx : Nat} {a : Act} {v : Value} (hp : Pt n (some v) w0 (mkF ((t, c) :: l)) H nx a w) (hc : ∀ x ∈ (t, c) :: l, x.2 < 2 ^ 128) (hc' : c' < 2 ^ 128) (h1 : Pins c) (h2 : Bears c' v) : Pt n (some v) w0 (mkF ((t, c') :: l)) H nx a w := by
  obtain ⟨I, σ, q1, q2, q3, q4, q5, q6, q7, q8, q9, q10, q11⟩ := hp
  refine ⟨I, σ, q1, fun u => ?_, q3, q4, q5, q6, q7, q8, q9, q10, q11⟩
  have hv := q11 v rfl
  have hu := q2 u
  rw [fget_mkF hc] at hu
  have hc2 : ∀ x ∈ (t, c') :: l, x.2 < 2 ^ 128 := fun x hx => by
    rcases List.mem_cons.1 hx with rfl | hx
    · exact hc'
    · exact hc x (by simp [hx])
  rw [fget_mkF hc2]
  have hu : VR σ I (if u = t then c else look2 l u) (a.tmps.getD u undef) := hu
  show VR σ I (if u = t then c' else look2 l u) (a.tmps.getD u undef)
  by_cases e : u = t
  · rw [if_pos e] at hu ⊢
    rw [h1 σ I v _ hv hu]; exact h2 σ I hv
  · rw [if_neg e] at hu ⊢; exact hu
noncomputable def smallF (l : List (Nat × Nat)) : Bool := l.all fun x => Nat.blt x.2 340282366920938463463374607431768211456
theorem smallF_at {l : List (Nat × Nat)} (h : smallF l = true) : ∀ x ∈ l, x.2 < 2 ^ 128 := fun x hx => by
  have := List.all_eq_true.1 h x hx
  rw [blt_iff] at this
  rw [show (2 : Nat) ^ 128 = 340282366920938463463374607431768211456 from by decide]; exact this
theorem TriS.swap {t c c' d d' : Nat} {l l' : List (Nat × Nat)} {L L' : List (Nat × Obj)} {nx nx' : Nat} {v : Value} {cd : Code} (h : TriS X (some v) n cd ⟨(t, c) :: l, L, nx⟩ e ⟨(t, d) :: l', L', nx'⟩) (s1 : smallF ((t, c') :: l) = true) (s2 : smallF ((t, d) :: l') = true) (hc : c < 2 ^ 128) (hd : d' < 2 ^ 128)
    (p1 : Pins c') (b1 : Bears c v) (p2 : Pins d) (b2 : Bears d' v) : TriS X (some v) n cd ⟨(t, c') :: l, L, nx⟩ e ⟨(t, d') :: l', L', nx'⟩ := fun H H' hH hH' w0 a w hp =>
  wpL_mono (h H H' hH hH' w0 a w (Pt.swap hp (smallF_at s1) hc p1 b1)) fun e' a' w' ⟨q, r⟩ => ⟨q, Pt.swap r (smallF_at s2) hd p2 b2⟩
end Go.Ev
set_option linter.unusedVariables false
set_option linter.unusedSimpArgs false
namespace Go.Ev
variable {X : Env}
def Sd (G : Obj) (K : Nat) (L : List (Nat × Obj)) (nx : Nat) (cs : List (Nat × Value)) (w0 w : World) : Prop :=
  ∃ (I : Imm) (σ : Sig) (H : HT), HeapOf L H ∧ SRel σ I H nx w ∧ Holds I H nx ∧ (∀ i, nx ≤ i → I i = .dead) ∧ 0 < nx ∧ Free H nx ∧ (∀ b e, σ b = some e → w0.heap.size ≤ e.B) ∧ Stays w0 w ∧ (∀ j, K < j → I.val j = none) ∧ ∀ x ∈ cs, VR σ I x.1 x.2
theorem Sd.stays {G : Obj} {K nx : Nat} {L : List (Nat × Obj)} {cs : List (Nat × Value)} {w0 w w1 : World} (h : Sd G K L nx cs w0 w) (s : Stays w w1) : Sd G K L nx cs w0 w1 := by
  obtain ⟨I, σ, H, h1, h2, h3, h4, h5, h6, h7, h8, h9, h10⟩ := h
  exact ⟨I, σ, H, h1, h2.stays s, h3, h4, h5, h6, h7, ⟨Nat.le_trans h8.1 s.1, s.2.1.trans h8.2.1, s.2.2.1.trans h8.2.2.1, fun k hk => (s.2.2.2 k (Nat.lt_of_lt_of_le hk h8.1)).trans (h8.2.2.2 k hk)⟩, h9, h10⟩
def nameQ (j q : Nat) : Nat := (120259084288 + q) * 18446744073709551616 + j
theorem nameQ_at {j q : Nat} (hj : j < 18446744073709551616) (hq : q < 4) : hi (nameQ j q) = 28 ∧ nameQ j q % 18446744073709551616 = j ∧ nameQ j q / 18446744073709551616 % 4 = q := by
  have h2 : nameQ j q / 18446744073709551616 = 120259084288 + q := by
    unfold nameQ
    rw [Nat.add_comm, Nat.add_mul_div_right _ _ (by decide), Nat.div_eq_of_lt hj, Nat.zero_add]
  refine ⟨?_, ?_, ?_⟩
  · rw [hi_def, show (79228162514264337593543950336 : Nat) = 18446744073709551616 * 4294967296 by decide, ← Nat.div_div_eq_div_mul, h2]
    omega
  · unfold nameQ
    rw [Nat.add_comm, Nat.add_mul_mod_self_right, Nat.mod_eq_of_lt hj]
  · rw [h2]; omega
theorem vr_name {σ : Sig} {I : Imm} {c : Nat} {v : Value} (h : hi c = 28) (h0 : I.val (c % 18446744073709551616) = some v) (h1 : ∀ cs, v ≠ .agg cs) (h2 : ∀ cs, v ≠ .tuple cs) (h3 : TxR (c / 18446744073709551616 % 4) v) : VR σ I c v := by
  refine CRp.toV ?_
  unfold CRp
  rw [h]
  exact ⟨h0, h1, h2, h3⟩
def named (I : Imm) (m : Nat) (v : Value) : Imm := ⟨I.f, fun j => if j = m then some v else I.val j⟩
theorem named_at (I : Imm) (m : Nat) (v : Value) : (named I m v).val m = some v := if_pos rfl
theorem named_ne {I : Imm} {m j : Nat} {v : Value} (h : j ≠ m) : (named I m v).val j = I.val j := if_neg h
theorem named_le {I : Imm} {m : Nat} {v : Value} (h : I.val m = none) : ILe I (named I m v) := ⟨fun i => .inr rfl, fun j u hu => by
  by_cases e : j = m
  · subst e; rw [h] at hu; cases hu
  · rw [named_ne e]; exact hu⟩
theorem Sd.name {G : Obj} {K M nx : Nat} {L : List (Nat × Obj)} {cs : List (Nat × Value)} {w0 w : World} (h : Sd G K L nx cs w0 w) (hM : M = K + 1) (hK : M < 18446744073709551616) {q : Nat} (hq : q < 4) {v : Value} (h1 : ∀ cs, v ≠ .agg cs) (h2 : ∀ cs, v ≠ .tuple cs) (ht : TxR q v) : Sd G M L nx ((nameQ M q, v) :: cs) w0 w := by
  obtain ⟨I, σ, H, a1, a2, a3, a4, a5, a6, a7, a8, a9, a10⟩ := h
  have hle : ILe I (named I M v) := named_le (a9 M (by omega))
  obtain ⟨e1, e2, e3⟩ := nameQ_at (j := M) hK hq
  generalize nameQ M q = c at *
  refine ⟨named I M v, σ, H, a1, a2.imm hle rfl, a3, a4, a5, a6, a7, a8, fun j hj => ?_, fun x hx => ?_⟩
  · rw [named_ne (by omega)]; exact a9 j (by omega)
  · rcases List.mem_cons.1 hx with rfl | hx
    · exact vr_name e1 (by rw [e2]; exact named_at I M v) h1 h2 (by rw [e3]; exact ht)
    · exact (a10 x hx).imm hle
theorem SRel.drop {σ : Sig} {I : Imm} {H H1 : HT} {nx n2 : Nat} {w : World} (h : SRel σ I H nx w) (hn : nx ≤ n2) (h2 : n2 ≤ 262144) (hs : ∀ i, i < 262144 → get H1 i = get H i ∨ get H1 i = .dead) : SRel σ I H1 n2 w := by
  have hlt : ∀ b e, σ b = some e → b < 262144 := fun b e hb => by have := (h.dom b e hb).1; omega
  refine ⟨fun b e hb => ⟨by have := (h.dom b e hb).1; omega, (h.dom b e hb).2⟩, fun b e hb => ?_, fun b b' e e' hb hb' hB n1 n2 => ?_, h.g0⟩
  · rcases hs b (hlt b e hb) with q | q
    · rw [q]; exact h.obj b e hb
    · rw [q]; trivial
  · have q1 := (hs b (hlt b e hb)).resolve_right n1
    have q2 := (hs b' (hlt b' e' hb')).resolve_right n2
    rw [q1] at n1; rw [q2] at n2
    exact h.inj b b' e e' hb hb' hB n1 n2
noncomputable def chkC (c0 : Nat) (ok : Nat → HT → Bool) (L2 : List (Nat × Obj)) (n2 : Nat) (c : Nat) (H : HT) (nx : Nat) : Bool := (Nat.beq c0 0 || Nat.beq c c0) && ok c H && Nat.ble nx n2 && chkL H L2
theorem aggC_at {nx : Nat} (h : nx < 262144) : hi (79228162514264337593543950336 + nx) = 1 ∧ lo (79228162514264337593543950336 + nx) = nx := by
  refine ⟨?_, ?_⟩
  · rw [hi_def]; omega
  · rw [lo_def]; omega
theorem Sd.agg {G : Obj} {K nx : Nat} {L : List (Nat × Obj)} {cs : List (Nat × Value)} {w0 w : World} (h : Sd G K L nx cs w0 w) (hn : nx < 262143) {N : Nat} {vs : Array Value} (hv : ∀ i (hi' : i < vs.size), (3 ≤ hi (dig N (i + 1)) ∧ hi (dig N (i + 1)) ≠ 23) ∧ (dig N (i + 1), vs[i]) ∈ cs) :
    Sd G K ((nx, .agg vs.size N) :: L) (nx + 1) ((79228162514264337593543950336 + nx, .agg vs) :: cs) w0 w := by
  obtain ⟨I, σ, H, a1, a2, a3, a4, a5, a6, a7, a8, a9, a10⟩ := h
  obtain ⟨H', hs, hg⟩ := set_law H (.agg vs.size N) nx (by omega)
  have hle : ILe I ⟨fun i => if i = nx then .agg vs.size N else I i, I.val⟩ := ⟨fun i => by
    by_cases e : i = nx
    · subst e; exact .inl (a4 _ (Nat.le_refl _))
    · exact .inr (if_neg e), fun _ _ h => h⟩
  have a2' := a2.imm hle (if_neg (by omega))
  have hlt : ∀ i, i < nx → get H' i = get H i := fun i hi => by rw [hg i (by omega), if_neg (by omega)]
  refine ⟨⟨fun i => if i = nx then .agg vs.size N else I i, I.val⟩, σ, H', ⟨fun k => ?_, fun i hi => ?_⟩, ⟨fun b e hb => ?_, fun b e hb => ?_, fun b b' e e' hb hb' hB n1 n2 => ?_, a2'.g0⟩, fun i hi hm => ?_, fun i hi => ?_, by omega, ⟨by omega, fun i hi hi' => ?_⟩, a7, a8, a9, fun x hx => ?_⟩
  · show mkHK L (fun H => set H (.agg vs.size N) nx k) = _
    rw [a1.1, hs]
  · rw [hg i hi, a1.2 i hi]; rfl
  · have := a2.dom b e hb; exact ⟨by omega, this.2⟩
  · rw [hlt b (a2.dom b e hb).1]; exact a2'.obj b e hb
  · rw [hlt b (a2.dom b e hb).1] at n1
    rw [hlt b' (a2.dom b' e' hb').1] at n2
    exact a2.inj b b' e e' hb hb' hB n1 n2
  · show (if i = nx then _ else I i) = _
    by_cases e : i = nx
    · subst e; rw [if_pos rfl, hg _ (by omega), if_pos rfl]
    · rw [if_neg e, hlt i (by omega)]
      rw [hlt i (by omega)] at hm
      exact a3 i (by omega) hm
  · show (if i = nx then _ else I i) = _
    rw [if_neg (by omega)]; exact a4 i (by omega)
  · rw [hg i hi', if_neg (by omega)]; exact a6.2 i (by omega) hi'
  · rcases List.mem_cons.1 hx with rfl | hx
    · obtain ⟨e1, e2⟩ := aggC_at (nx := nx) (by omega)
      refine .inr (.inr (.inl (.inr ⟨e1, by rw [e2]; omega, N, vs, ?_, rfl, fun i hi' => ?_⟩)))
      · show (if lo (79228162514264337593543950336 + nx) = nx then _ else _) = _
        rw [if_pos e2]
      · obtain ⟨q1, q2⟩ := hv i hi'
        exact ((a10 _ q2).imm hle).toS q1
    · exact (a10 x hx).imm hle
theorem vr_sl {σ : Sig} {I : Imm} {b n c : Nat} {v : Value} (hc : hi c = 15) (h : SlR σ c v) : VR σ I c v := by
  refine CRp.toV ?_
  unfold CRp
  rw [hc]
  exact h
theorem Sd.row {G : Obj} {K nx n cc : Nat} {L : List (Nat × Obj)} {cs : List (Nat × Value)} {w0 w : World} (h : Sd G K L nx cs w0 w) (hn : nx < 262143) {N et cnt : Nat} {cells : Array Value} {el : TypeId} (hsz : cells.size = n) (hcnt : cnt < 8388608)
    (hv : ∀ i (hi' : i < cells.size), (3 ≤ hi (dig N (i + 1)) ∧ hi (dig N (i + 1)) ≠ 23) ∧ (dig N (i + 1), cells[i]) ∈ cs) (hc : cc = mkSl nx 0 cnt cnt) (hc15 : hi cc = 15) :
    Sd G K ((nx, .row n N et false) :: L) (nx + 1) ((cc, .slice (some ⟨w.heap.size, 0, none⟩) cnt cnt) :: cs) w0 (w.alloc (.cells cells el)) := by
  obtain ⟨I, σ, H, a1, a2, a3, a4, a5, a6, a7, a8, a9, a10⟩ := h
  obtain ⟨H', hs, hg⟩ := set_law H (.row n N et false) nx (by omega)
  have hlt : ∀ i, i < nx → get H' i = get H i := fun i hi => by rw [hg i (by omega), if_neg (by omega)]
  have hat : get H' nx = .row n N et false := by rw [hg nx (by omega), if_pos rfl]
  have hfr : Free H' (nx + 1) := ⟨by omega, fun i hi hi' => by rw [hg i hi', if_neg (by omega)]; exact a6.2 i (by omega) hi'⟩
  have hne : NewAt (.row n N et false) H nx H' := ⟨by omega, hfr, hat, hlt⟩
  have ha := a2.newRow (s := 0) (el := el) (cells := cells) hne ⟨by omega, fun i hi' => by
    obtain ⟨q1, q2⟩ := hv i (by omega)
    exact ⟨cells[i], by rw [Array.getElem?_eq_getElem (by omega)], (a10 _ q2).toS q1⟩⟩
  obtain ⟨r1, r2⟩ := pt_after ha a7 a8
  refine ⟨I, _, H', ⟨fun k => ?_, fun i hi => ?_⟩, ha.rel, fun i hi hm => ?_, fun i hi => a4 i (by omega), by omega, hfr, r1, r2, a9, fun x hx => ?_⟩
  · show mkHK L (fun H => set H (.row n N et false) nx k) = _
    rw [a1.1, hs]
  · rw [hg i hi, a1.2 i hi]; rfl
  · by_cases e : i = nx
    · subst e; rw [hat] at hm; exact hm.elim
    · rw [hlt i (by omega)] at hm ⊢; exact a3 i (by omega) hm
  · rcases List.mem_cons.1 hx with rfl | hx
    · refine vr_sl (b := 0) (n := 0) hc15 (.inr ⟨nx, 0, cnt, cnt, cnt, ⟨w.heap.size, 0, cells.size, 0⟩, upd_same, by omega, by omega, by omega, by omega, hc, rfl, Nat.le_refl _, fun _ => rfl, fun h => by omega⟩)
    · exact (a10 x hx).mono ha.ext.1
end Go.Ev
set_option linter.unusedVariables false
set_option linter.unusedSimpArgs false
namespace Go.Ev
variable {X : Env}
theorem Sd.cons {G : Obj} {K nx : Nat} {L : List (Nat × Obj)} {cs : List (Nat × Value)} {w0 w : World} (h : Sd G K L nx cs w0 w) {c : Nat} {v : Value} (hv : ∀ σ I, VR σ I c v) : Sd G K L nx ((c, v) :: cs) w0 w := by
  obtain ⟨I, σ, H, h1, h2, h3, h4, h5, h6, h7, h8, h9, h10⟩ := h
  refine ⟨I, σ, H, h1, h2, h3, h4, h5, h6, h7, h8, h9, fun x hx => ?_⟩
  rcases List.mem_cons.1 hx with rfl | hx
  · exact hv σ I
  · exact h10 x hx
theorem argsP (l : List (Nat × Value)) {σ : Sig} {I : Imm} (h : ∀ x ∈ l, VR σ I x.1 x.2) : ArgsR σ I (packL (0 :: l.map (·.1))) (l.map (·.2)).toArray := by
  have hB : (340282366920938463463374607431768211456 : Nat) = 2 ^ 128 := by decide
  have hall : ∀ c ∈ 0 :: l.map (·.1), c < 2 ^ 128 := fun c hc => by
    rcases List.mem_cons.1 hc with rfl | hc
    · decide
    · obtain ⟨x, hx, rfl⟩ := List.mem_map.1 hc
      rw [← hB]; exact (h x hx).lt
  refine ⟨?_, .inl ?_, fun i hi => ?_⟩
  · have := packL_lt _ hall
    simpa using this
  · rw [dig_packL _ _ hall]; rfl
  · have hi' : i < l.length := by simpa using hi
    rw [dig_packL _ _ hall]
    have := h l[i] (List.getElem_mem hi')
    simpa [List.getD, List.getElem?_eq_getElem hi'] using this
theorem i64_vr {n : Int} {c : Nat} (h1 : IntKind.i64.min ≤ n) (h2 : n ≤ IntKind.i64.max) (hc : c = 554597137599850363154807652352 + (n % 18446744073709551616).toNat) (σ : Sig) (I : Imm) : VR σ I c (.int .i64 n) := by
  refine CRp.toV ?_
  have h7 : hi c = 7 := by rw [hi_def]; omega
  unfold CRp; rw [h7]
  exact ⟨n, rfl, h1, h2, by subst hc; rfl⟩
theorem Sd.str {G : Obj} {K nx : Nat} {L : List (Nat × Obj)} {cs : List (Nat × Value)} {w0 w : World} (h : Sd G K L nx cs w0 w) (hn : nx < 262143) {s : ByteArray} {n N : Nat} (e1 : n = s.data.toList.length) (e2 : N = packB s.data.toList) :
    Sd G K ((nx, .str n N) :: L) (nx + 1) ((1029966112685436388716071354368 + nx, .string s) :: cs) w0 w := by
  subst e1 e2
  obtain ⟨I, σ, H, a1, a2, a3, a4, a5, a6, a7, a8, a9, a10⟩ := h
  obtain ⟨H', hs, hg⟩ := set_law H (.str s.data.toList.length (packB s.data.toList)) nx (by omega)
  have hle : ILe I ⟨fun i => if i = nx then .str s.data.toList.length (packB s.data.toList) else I i, I.val⟩ := ⟨fun i => by
    by_cases e : i = nx
    · subst e; exact .inl (a4 _ (Nat.le_refl _))
    · exact .inr (if_neg e), fun _ _ h => h⟩
  have a2' := a2.imm hle (if_neg (by omega))
  have hlt : ∀ i, i < nx → get H' i = get H i := fun i hi => by rw [hg i (by omega), if_neg (by omega)]
  refine ⟨⟨fun i => if i = nx then .str s.data.toList.length (packB s.data.toList) else I i, I.val⟩, σ, H', ⟨fun k => ?_, fun i hi => ?_⟩, ⟨fun b e hb => ?_, fun b e hb => ?_, fun b b' e e' hb hb' hB n1 n2 => ?_, a2'.g0⟩, fun i hi hm => ?_, fun i hi => ?_, by omega, ⟨by omega, fun i hi hi' => ?_⟩, a7, a8, a9, fun x hx => ?_⟩
  · show mkHK L (fun H => set H (.str s.data.toList.length (packB s.data.toList)) nx k) = _
    rw [a1.1, hs]
  · rw [hg i hi, a1.2 i hi]; rfl
  · have := a2.dom b e hb; exact ⟨by omega, this.2⟩
  · rw [hlt b (a2.dom b e hb).1]; exact a2'.obj b e hb
  · rw [hlt b (a2.dom b e hb).1] at n1
    rw [hlt b' (a2.dom b' e' hb').1] at n2
    exact a2.inj b b' e e' hb hb' hB n1 n2
  · show (if i = nx then _ else I i) = _
    by_cases e : i = nx
    · subst e; rw [if_pos rfl, hg _ (by omega), if_pos rfl]
    · rw [if_neg e, hlt i (by omega)]
      rw [hlt i (by omega)] at hm
      exact a3 i (by omega) hm
  · show (if i = nx then _ else I i) = _
    rw [if_neg (by omega)]; exact a4 i (by omega)
  · rw [hg i hi', if_neg (by omega)]; exact a6.2 i (by omega) hi'
  · rcases List.mem_cons.1 hx with rfl | hx
    · refine CRp.toV ?_
      have h13 : hi (1029966112685436388716071354368 + nx) = 13 := by rw [hi_def]; omega
      have hlo : lo (1029966112685436388716071354368 + nx) = nx := by rw [lo_def]; omega
      unfold CRp; rw [h13]
      refine ⟨s, rfl, by rw [hlo]; omega, ?_⟩
      show (if lo (1029966112685436388716071354368 + nx) = nx then _ else _) = _
      rw [if_pos hlo]
    · exact (a10 x hx).imm hle
theorem Sd.txt {G : Obj} {K nx : Nat} {L : List (Nat × Obj)} {cs : List (Nat × Value)} {w0 w : World} (h : Sd G K L nx cs w0 w) {s : ByteArray} (hs : s.data.toList.length ≤ 11) {c : Nat} (hc : c = strC s) : Sd G K L nx ((c, .string s) :: cs) w0 w :=
  h.cons fun σ I => by subst hc; exact (crp_str hs).toV
end Go.Ev
set_option linter.unusedVariables false
set_option linter.unusedSimpArgs false
namespace Go.Ev
variable {X : Env}
def Ah (K : HT → Nat → Out) (cs : List (Nat × Value)) (w0 w : World) : Prop :=
  ∃ (I : Imm) (σ : Sig) (H : HT) (nx : Nat), SRel σ I H nx w ∧ Holds I H nx ∧ (∀ i, nx ≤ i → I i = .dead) ∧ 0 < nx ∧ Free H nx ∧ (∀ b e, σ b = some e → w0.heap.size ≤ e.B) ∧ Stays w0 w ∧ (∀ x ∈ cs, VR σ I x.1 x.2) ∧ isTr (K H nx) = true
theorem Ah.stays {K : HT → Nat → Out} {cs : List (Nat × Value)} {w0 w w1 : World} (h : Ah K cs w0 w) (s : Stays w w1) : Ah K cs w0 w1 := by
  obtain ⟨I, σ, H, nx, h2, h3, h4, h5, h6, h7, h8, h10⟩ := h
  exact ⟨I, σ, H, nx, h2.stays s, h3, h4, h5, h6, h7, ⟨Nat.le_trans h8.1 s.1, s.2.1.trans h8.2.1, s.2.2.1.trans h8.2.2.1, fun k hk => (s.2.2.2 k (Nat.lt_of_lt_of_le hk h8.1)).trans (h8.2.2.2 k hk)⟩, h10⟩
theorem Ah.test {K K' : HT → Nat → Out} {cs : List (Nat × Value)} {w0 w : World} (h : Ah K cs w0 w) (hs : ∀ H nx, isTr (K H nx) = true → isTr (K' H nx) = true) : Ah K' cs w0 w := by
  obtain ⟨I, σ, H, nx, h2, h3, h4, h5, h6, h7, h8, h9, h10⟩ := h
  exact ⟨I, σ, H, nx, h2, h3, h4, h5, h6, h7, h8, h9, hs H nx h10⟩
theorem Ah.txt {s : ByteArray} {K : K0} {cs : List (Nat × Value)} {w0 w : World} (h : Ah (fun H nx => constK (.string s) 0 H nx K) cs w0 w) : ∃ c, Ah (fun H nx => K c H nx) ((c, .string s) :: cs) w0 w := by
  obtain ⟨I, σ, H, nx, a1, a2, a3, a4, a5, a6, a7, a8, a9⟩ := h
  have a9 : isTr (constK (.string s) 0 H nx K) = true := a9
  rcases constK_tells (v := .string s) (f := 0) a5 K with ⟨m, hb⟩ | ⟨c, H', nx', he, hg, hc⟩
  · rw [hb] at a9; exact absurd a9 (by simp [isTr])
  · rw [he] at a9
    have hle := more_le (n1 := nx') (H1 := H') a3
    have hh := more_holds a2 hg.toALe
    have h00 : more I nx H' nx' 0 = I 0 := if_pos a4
    refine ⟨c, more I nx H' nx', σ, H', nx', (a1.imm hle h00).grow hg, hh, more_tight hg.le, by have := hg.le; omega, hg.free, a6, a7, fun x hx => ?_, a9⟩
    rcases List.mem_cons.1 hx with rfl | hx
    · exact (hc _ σ hh).toVR
    · exact (a8 x hx).imm hle
theorem ah_call (hX : EnvOk X) (h3 : 3 ≤ X.P.types.size) (hN : FnsOk X) (hO : OrcOk X) (hm : X.P.follows .mixedOrders = true) {n g F : Nat} {fn : Func} (hg : X.P.funcs[g]? = some fn) (ho : X.orc g = 0)
    {K : K0} {cs : List (Nat × Value)} {w0 w : World} {args : Array Value} (hA : ∀ σ I, (∀ x ∈ cs, VR σ I x.1 x.2) → ArgsR σ I F args) (h : Ah (fun H nx => callFn fn X (Ev.runN n X) g F H nx K) cs w0 w) :
    Calls X.P g args w fun e w' => ∃ c v, e = .returned v ∧ Ah (fun H nx => K c H nx) ((c, v) :: cs) w0 w' := by
  have hFo : FormOk X := ⟨trivial⟩
  have hr := run_ok hX hFo h3 hN hO (fun call hc => draw_ok hX hFo h3 hm hc) n
  obtain ⟨I, σ, H, nx, a2, a3, a4, a5, a6, a7, a8, a10, hrun⟩ := h
  have hrun : isTr (callFn fn X (Ev.runN n X) g F H nx K) = true := hrun
  rcases fn_callsC hX hFo hN hr hg ho a6 (F := F) K with ⟨m, hb⟩ | ⟨c, H', nx', he, hal, hcall⟩
  · rw [hb] at hrun; exact absurd hrun (by simp [isTr])
  · rw [he] at hrun
    have hle := more_le (n1 := nx') (H1 := H') a4
    have hh := more_holds a3 hal
    have h00 : more I nx H' nx' 0 = I 0 := if_pos a5
    refine (hcall (more I nx H' nx') σ w args hh (a2.imm hle h00) (hA σ _ fun x hx => (a10 x hx).imm hle)).mono ?_
    rintro e w' ⟨v, rfl, σ', ha, hv⟩
    obtain ⟨r1, r2⟩ := pt_after ha a7 a8
    refine ⟨c, v, rfl, more I nx H' nx', σ', H', nx', ha.rel, hh, more_tight hal.le, by have := hal.le; omega, hal.free, r1, r2, fun x hx => ?_, hrun⟩
    rcases List.mem_cons.1 hx with rfl | hx
    · exact hv
    · exact ((a10 x hx).imm hle).mono ha.ext.1
theorem trK_says {X : Env} {n g : Nat} {fn : Func} {l m : ByteArray} {t : Tr} {c : Nat} {H : HT} {nx : Nat} : trK X n g fn (.says l m t) c H nx = sayK X n g fn l m (trK X n g fn t) c H nx := rfl
theorem trK_both {X : Env} {n g : Nat} {fn : Func} {a b : Tr} {c : Nat} {H : HT} {nx : Nat} : trK X n g fn (.both a b) c H nx = both2 (trK X n g fn b c H nx) (trK X n g fn a c H nx) := rfl
theorem trK_told {X : Env} {n g : Nat} {fn : Func} {c0 k : Nat} {L : List (Nat × Obj)} {c : Nat} {H : HT} {nx : Nat} : trK X n g fn (.told c0 L k) c H nx = .exit (boolC (toldB c0 L k c H nx)) 0 H nx := rfl
def AtT (X : Env) (n g : Nat) (fn : Func) (t : Tr) (vs : Value) (w0 w : World) : Prop := ∃ c, Ah (fun H nx => trK X n g fn t c H nx) [(c, vs)] w0 w
theorem isTr_exit {b : Bool} {f : FR} {H : HT} {nx : Nat} (h : isTr (.exit (boolC b) f H nx) = true) : b = true := by
  cases b with
  | true => rfl
  | false => exact absurd (beq_iff.1 h) (by decide)
theorem both2_at {a b : Out} (h : isTr (both2 b a) = true) : isTr a = true ∧ isTr b = true := by
  cases a with
  | norm _ _ _ => exact absurd h (by simp [both2, isTr])
  | ret _ _ _ => exact absurd h (by simp [both2, isTr])
  | bad _ => exact absurd h (by simp [both2, isTr])
  | exit i f H nx =>
    have h : isTr (br (.bad 303) b (Nat.beq i 237684487542793012780631851009)) = true := h
    cases hq : Nat.beq i 237684487542793012780631851009 with
    | true => rw [hq] at h; exact ⟨hq, h⟩
    | false => rw [hq] at h; exact absurd h (by simp [br, isTr])
variable {n g : Nat} {fn : Func} {vs : Value} {w0 w : World}
theorem AtT.stays {t : Tr} {w1 : World} (h : AtT X n g fn t vs w0 w) (s : Stays w w1) : AtT X n g fn t vs w0 w1 := ⟨h.choose, h.choose_spec.stays s⟩
theorem AtT.left {a b : Tr} (h : AtT X n g fn (.both a b) vs w0 w) : AtT X n g fn a vs w0 w := ⟨h.choose, h.choose_spec.test fun H nx q => by rw [trK_both] at q; exact (both2_at q).1⟩
theorem AtT.right {a b : Tr} (h : AtT X n g fn (.both a b) vs w0 w) : AtT X n g fn b vs w0 w := ⟨h.choose, h.choose_spec.test fun H nx q => by rw [trK_both] at q; exact (both2_at q).2⟩
theorem AtT.says {l m : ByteArray} {t : Tr} (hX : EnvOk X) (h3 : 3 ≤ X.P.types.size) (hN : FnsOk X) (hO : OrcOk X) (hm : X.P.follows .mixedOrders = true) (hg : X.P.funcs[g]? = some fn) (ho : X.orc g = 0)
    (h : AtT X n g fn (.says l m t) vs w0 w) : Calls X.P g #[vs, .string l, .string m] w fun e w' => e = .returned (.bool true) ∧ AtT X n g fn t vs w0 w' := by
  obtain ⟨c, h⟩ := h
  have h := h.test (K' := fun H nx => constK (.string l) 0 H nx fun c1 H nx => constK (.string m) 0 H nx fun c2 H nx => frc (fun F => callFn fn X (Ev.runN n X) g F H nx fun r H nx => br (.bad 300) (trK X n g fn t c H nx) (Nat.beq r 237684487542793012780631851009)) (packL [0, c, c1, c2])) (fun H nx q => by
    rw [trK_says] at q; unfold sayK at q; exact q)
  obtain ⟨c1, h⟩ := Ah.txt h
  obtain ⟨c2, h⟩ := Ah.txt h
  have h := h.test (K' := fun H nx => callFn fn X (Ev.runN n X) g (packL [0, c, c1, c2]) H nx fun r H nx => br (.bad 300) (trK X n g fn t c H nx) (Nat.beq r 237684487542793012780631851009)) (fun H nx q => by
    rw [frc_eq] at q; exact q)
  refine (ah_call hX h3 hN hO hm hg ho (n := n) (F := packL [0, c, c1, c2]) (K := fun r H nx => br (.bad 300) (trK X n g fn t c H nx) (Nat.beq r 237684487542793012780631851009)) (args := #[vs, .string l, .string m]) (fun σ I hx => argsP [(c, vs), (c1, .string l), (c2, .string m)] fun x hx' => hx x (by
    simp only [List.mem_cons, List.not_mem_nil, or_false] at hx' ⊢
    rcases hx' with rfl | rfl | rfl <;> simp)) h).mono ?_
  rintro e w' ⟨r, v, rfl, I, σ, H, nx, b1, b2, b3, b4, b5, b6, b7, b8, b9⟩
  have b9 : isTr (br (.bad 300) (trK X n g fn t c H nx) (Nat.beq r 237684487542793012780631851009)) = true := b9
  cases hq : Nat.beq r 237684487542793012780631851009 with
  | false => rw [hq] at b9; exact absurd b9 (by simp [br, isTr])
  | true =>
    rw [hq] at b9
    have hr := beq_iff.1 hq
    subst hr
    have hv := bool_yes (b8 (237684487542793012780631851009, v) (List.mem_cons_self ..)) rfl
    subst hv
    exact ⟨rfl, c, I, σ, H, nx, b1, b2, b3, b4, b5, b6, b7, fun x hx => b8 x (by
      simp only [List.mem_cons, List.not_mem_nil, or_false] at hx ⊢
      subst hx; simp), b9⟩
theorem AtT.next {c0 k : Nat} {L : List (Nat × Obj)} {t : Tr} (h : AtT X n g fn (.told c0 L k) vs w0 w) (ho : okS ⟨[], L, k⟩ = true) (hr : isTr (mkHK L fun H => trK X n g fn t c0 H k) = true) : AtT X n g fn t vs w0 w := by
  obtain ⟨c, I, σ, H, nx, a2, a3, a4, a5, a6, a7, a8, a9, a10⟩ := h
  have a10 : isTr (trK X n g fn (.told c0 L k) c H nx) = true := a10
  rw [trK_told] at a10
  have hc := isTr_exit a10
  unfold toldB at hc
  simp only [Bool.and_eq_true, beq_iff, ble_iff] at hc
  obtain ⟨⟨rfl, hc3⟩, hc4⟩ := hc
  obtain ⟨H2, hH2⟩ := okS.heap ho
  have hs2 : k ≤ 262144 := by simp only [okS, Bool.and_eq_true, ble_iff] at ho; exact ho.1
  obtain ⟨q1, q2⟩ := chkL_at hc4
  have hless : ∀ i, i < 262144 → get H2 i = get H i ∨ get H2 i = .dead := fun i hi => by rw [hH2.2 i hi]; exact q2 i
  rw [hH2.1] at hr
  refine ⟨c, I, σ, H2, k, a2.drop hc3 hs2 hless, fun i hi hm => ?_, fun i hi => a4 i (by omega), by omega, okS_free (S := ⟨[], L, k⟩) ho hH2, a7, a8, a9, hr⟩
  rcases hless i (by omega) with q | q
  · rw [q] at hm ⊢
    rcases Nat.lt_or_ge i nx with hlt | hge
    · exact a3 i hlt hm
    · rw [a6.2 i hge (by omega)] at hm; exact hm.elim
  · rw [q] at hm; exact hm.elim
theorem Grounded.stays {G : Obj} {w w1 : World} (h : Grounded G w) (s : Stays w w1) : Grounded G w1 := fun R E e => by
  obtain ⟨h1, h2⟩ := h R E e
  refine ⟨?_, fun hz => ?_⟩
  · rw [cell_same (s.2.2.2 _ (cell_lt h1))]; exact h1
  · obtain ⟨t, fz, h3⟩ := h2 hz
    refine ⟨t, fz, (s.2.2.2 _ ?_).trans h3⟩
    rcases Nat.lt_or_ge (E / 65536 % 65536) w.heap.size with q | q
    · exact q
    · rw [Array.getElem?_eq_none q] at h3; cases h3
end Go.Ev
set_option linter.unusedVariables false
set_option linter.unusedSimpArgs false
noncomputable section
namespace Go.Ev
variable {X : Env}
def BlkR (w : World) (B β : Nat) (vs : Array Value) (K : Nat) : Prop := ∃ cells el fz, w.heap[B]? = some (.cells cells el fz) ∧ β + K ≤ cells.size ∧ (fz.2 ≤ fz.1 ∨ fz.2 ≤ β ∨ β + K ≤ fz.1) ∧ vs.size ≤ K ∧ ∀ i (h : i < vs.size), cells[β + i]? = some vs[i]
theorem BlkR.lt {w : World} {B β K : Nat} {vs : Array Value} (h : BlkR w B β vs K) : B < w.heap.size := by
  obtain ⟨cells, el, fz, h1, _⟩ := h
  exact (Array.getElem?_eq_some_iff.1 h1).1
structure Turned (Bs : List Nat) (w0 w : World) : Prop where
  size : w0.heap.size ≤ w.heap.size
  os : w.os = w0.os
  out : w.output = w0.output
  same : ∀ k, k < w0.heap.size → k ∉ Bs → w.heap[k]? = w0.heap[k]?
theorem Turned.refl (Bs : List Nat) (w : World) : Turned Bs w w := ⟨Nat.le_refl _, rfl, rfl, fun _ _ _ => rfl⟩
theorem Turned.trans {Bs : List Nat} {a b c : World} (h : Turned Bs a b) (k : Turned Bs b c) : Turned Bs a c := ⟨Nat.le_trans h.size k.size, k.os.trans h.os, k.out.trans h.out, fun i hi hn => (k.same i (Nat.lt_of_lt_of_le hi h.size) hn).trans (h.same i hi hn)⟩
theorem Turned.mono {Bs Cs : List Nat} {a b : World} (h : Turned Bs a b) (hs : ∀ x ∈ Bs, x ∈ Cs) : Turned Cs a b := ⟨h.size, h.os, h.out, fun i hi hn => h.same i hi fun q => hn (hs i q)⟩
def Pre (Bs : List Nat) (K : Nat) (L : List (Nat × Obj)) (nx : Nat) (cs : List (Nat × Value)) (w : World) : Prop :=
  ∃ (I : Imm) (σ : Sig) (H : HT), HeapOf L H ∧ SRel σ I H nx w ∧ Holds I H nx ∧ (∀ i, nx ≤ i → I i = .dead) ∧ 0 < nx ∧ Free H nx ∧ I 0 = .str 0 0 ∧ (∀ b e, σ b = some e → e.B ∈ Bs) ∧ (∀ j, K < j → I.val j = none) ∧ ∀ x ∈ cs, VR σ I x.1 x.2
theorem pre_begin (w : World) : Pre [] 0 [(0, .str 0 0)] 1 [] w := by
  obtain ⟨H0, hH0⟩ := mkHK_law [(0, (.str 0 0 : Obj))] (fun x hx => by simp at hx; subst hx; show 0 < 262144; decide)
  have hget : ∀ i, i < 262144 → get H0 i = if i = 0 then .str 0 0 else .dead := fun i hi => by
    rw [hH0.2 i hi]
    show (if 0 = i then (.str 0 0 : Obj) else .dead) = _
    by_cases h : i = 0
    · subst h; rfl
    · rw [if_neg h, if_neg (fun e => h e.symm)]
  refine ⟨⟨fun i => if i = 0 then .str 0 0 else .dead, fun _ => none⟩, fun _ => none, H0, hH0, ⟨fun b e hb => absurd hb (by simp), fun b e hb => absurd hb (by simp), fun b b' e e' hb => absurd hb (by simp), fun R E hI => absurd hI (by simp)⟩, fun i hi hm => ?_, fun i hi => if_neg (by omega), by decide, ⟨by decide, fun i hi hi' => by rw [hget i hi', if_neg (by omega)]⟩, rfl, fun b e hb => absurd hb (by simp), fun _ _ => rfl, fun x hx => absurd hx (by simp)⟩
  have : i = 0 := by omega
  subst this; rw [hget 0 (by decide)]
theorem Pre.cell {Bs : List Nat} {K nx : Nat} {L : List (Nat × Obj)} {cs : List (Nat × Value)} {w : World} (h : Pre Bs K L nx cs w) {c : Nat} {v : Value} (hc : ∀ σ I, VR σ I c v) : Pre Bs K L nx ((c, v) :: cs) w := by
  obtain ⟨I, σ, H, h1, h2, h3, h4, h5, h6, h7, h8, h9, h10⟩ := h
  refine ⟨I, σ, H, h1, h2, h3, h4, h5, h6, h7, h8, h9, fun x hx => ?_⟩
  rcases List.mem_cons.1 hx with rfl | hx
  · exact hc σ I
  · exact h10 x hx
theorem Pre.name {Bs : List Nat} {K M nx : Nat} {L : List (Nat × Obj)} {cs : List (Nat × Value)} {w : World} (h : Pre Bs K L nx cs w) (hM : M = K + 1) (hK : M < 18446744073709551616) {q : Nat} (hq : q < 4) {v : Value} (h1 : ∀ cs, v ≠ .agg cs) (h2 : ∀ cs, v ≠ .tuple cs) (ht : TxR q v) : Pre Bs M L nx ((nameQ M q, v) :: cs) w := by
  obtain ⟨I, σ, H, a1, a2, a3, a4, a5, a6, a0, a7, a9, a10⟩ := h
  have hle : ILe I (named I M v) := named_le (a9 M (by omega))
  obtain ⟨e1, e2, e3⟩ := nameQ_at (j := M) hK hq
  generalize nameQ M q = c at *
  refine ⟨named I M v, σ, H, a1, a2.imm hle rfl, a3, a4, a5, a6, a0, a7, fun j hj => ?_, fun x hx => ?_⟩
  · rw [named_ne (by omega)]; exact a9 j (by omega)
  · rcases List.mem_cons.1 hx with rfl | hx
    · exact vr_name e1 (by rw [e2]; exact named_at I M v) h1 h2 (by rw [e3]; exact ht)
    · exact (a10 x hx).imm hle
theorem vr_ptr {σ : Sig} {I : Imm} {c : Nat} {v : Value} (hc : hi c = 14) (h : PtrR σ c v) : VR σ I c v := by
  refine CRp.toV ?_
  unfold CRp
  rw [hc]
  exact h
theorem Pre.own {Bs : List Nat} {K nx n : Nat} {L : List (Nat × Obj)} {cs : List (Nat × Value)} {w : World} (h : Pre Bs K L nx cs w) (hn : nx < 262143) {N et B β K' s m cap : Nat} {vs : Array Value} (hb : BlkR w B β vs K') (hm : m ≤ 100 ∧ m ≤ cap ∧ s ≤ 100 ∧ (1 ≤ s ∧ cap * s = K')) (hB : B ∉ Bs) (hsz : vs.size = n)
    (hv : ∀ i (hi' : i < vs.size), (3 ≤ hi (dig N (i + 1)) ∧ hi (dig N (i + 1)) ≠ 23) ∧ ((dig N (i + 1), vs[i]) ∈ cs ∨ ∀ σ I, VR σ I (dig N (i + 1)) vs[i])) :
    Pre (B :: Bs) K ((nx, .row n N et true) :: L) (nx + 1) ((mkSl nx 0 m (8388608 + s), .slice (some ⟨B, β, none⟩) m cap) :: (mkPtr nx 0, .pointer (some ⟨B, β, none⟩)) :: cs) w := by
  have hlt0 := hb.lt
  obtain ⟨cells, el, fz, b1, b4, b2, hKn, b3⟩ := hb
  obtain ⟨I, σ, H, a1, a2, a3, a4, a5, a6, a0, a7, a9, a10⟩ := h
  obtain ⟨H', hs, hg⟩ := set_law H (.row n N et true) nx (by omega)
  have hlt : ∀ i, i < nx → get H' i = get H i := fun i hi => by rw [hg i (by omega), if_neg (by omega)]
  have hat : get H' nx = .row n N et true := by rw [hg nx (by omega), if_pos rfl]
  have hfr : Free H' (nx + 1) := ⟨by omega, fun i hi hi' => by rw [hg i hi', if_neg (by omega)]; exact a6.2 i (by omega) hi'⟩
  have hnone : σ nx = none := a2.none (Nat.le_refl _)
  let σ' : Sig := fun b => if b = nx then some ⟨B, β, K', s⟩ else σ b
  have hle : SLe σ σ' := fun b e hb => by
    show (if b = nx then _ else _) = _
    rw [if_neg (fun q => by subst q; rw [hnone] at hb; cases hb)]; exact hb
  have hσ : ∀ b e, σ' b = some e → (b = nx ∧ e = ⟨B, β, K', s⟩) ∨ (b ≠ nx ∧ σ b = some e) := fun b e hb => by
    by_cases q : b = nx
    · left; exact ⟨q, (Option.some.inj ((if_pos q).symm.trans hb)).symm⟩
    · right; exact ⟨q, (if_neg q).symm.trans hb⟩
  refine ⟨I, σ', H', ⟨fun k => ?_, fun i hi => ?_⟩, ⟨fun b e hb => ?_, fun b e hb => ?_, fun b b' e e' hb hb' hBB n1 n2 => ?_, fun R E hI => ?_⟩, fun i hi hm => ?_, fun i hi => a4 i (by omega), by omega, hfr, a0, fun b e hb => ?_, a9, fun x hx => ?_⟩
  · show mkHK L (fun H => set H (.row n N et true) nx k) = _
    rw [a1.1, hs]
  · rw [hg i hi, a1.2 i hi]; rfl
  · rcases hσ b e hb with ⟨rfl, rfl⟩ | ⟨_, hb⟩
    · exact ⟨Nat.lt_succ_self _, hlt0⟩
    · have := a2.dom b e hb; exact ⟨by omega, this.2⟩
  · rcases hσ b e hb with ⟨rfl, rfl⟩ | ⟨_, hb⟩
    · rw [hat]
      refine ⟨⟨cells, el, fz, b1, b4, by rw [← hsz]; exact hKn, b2.imp id (fun q => ⟨rfl, q⟩), fun i hi => ?_⟩, fun q => absurd q (by decide)⟩
      · obtain ⟨q1, q2⟩ := hv i (by omega)
        refine ⟨vs[i], b3 i (by omega), ?_⟩
        rcases q2 with q2 | q2
        · exact ((a10 _ q2).mono hle).toS q1
        · exact (q2 σ' I).toS q1
    · rw [hlt b (a2.dom b e hb).1]; exact (a2.obj b e hb).mono hle
  · rcases hσ b e hb with ⟨p1, p2⟩ | ⟨_, hb1⟩
    · rcases hσ b' e' hb' with ⟨p3, p4⟩ | ⟨_, hb2⟩
      · exact p1.trans p3.symm
      · exact absurd (by rw [show B = e'.B by rw [← hBB, p2]]; exact a7 b' e' hb2) hB
    · rcases hσ b' e' hb' with ⟨p3, p4⟩ | ⟨_, hb2⟩
      · exact absurd (by rw [show B = e.B by rw [hBB, p4]]; exact a7 b e hb1) hB
      · rw [hlt b (a2.dom b e hb1).1] at n1
        rw [hlt b' (a2.dom b' e' hb2).1] at n2
        exact a2.inj b b' e e' hb1 hb2 hBB n1 n2
  · rw [a0] at hI; cases hI
  · by_cases e : i = nx
    · subst e; rw [hat] at hm; exact hm.elim
    · rw [hlt i (by omega)] at hm ⊢; exact a3 i (by omega) hm
  · rcases hσ b e hb with ⟨rfl, rfl⟩ | ⟨_, hb⟩
    · exact List.mem_cons_self ..
    · exact List.mem_cons_of_mem _ (a7 b e hb)
  · rcases List.mem_cons.1 hx with rfl | hx
    · refine vr_sl (b := 0) (n := 0) (hi_mkSl (by omega) (by decide) (by omega) (by omega)) (.inr ⟨nx, 0, m, 8388608 + s, cap, ⟨B, β, K', s⟩, if_pos rfl, by omega, by decide, by omega, by omega, rfl, rfl, hm.2.1, fun h => by omega, fun _ => ⟨rfl, hm.2.2.2.1, by show 0 + cap * s = K'; omega⟩⟩)
    rcases List.mem_cons.1 hx with rfl | hx
    · exact vr_ptr (hi_mkPtr (by omega) (by decide)) (.inr ⟨nx, 0, ⟨B, β, K', s⟩, if_pos rfl, by omega, by decide, rfl, rfl⟩)
    · exact (a10 x hx).mono hle
def runLo (X : Env) (n g : Nat) (fn : Func) (F : Nat) (L : List (Nat × Obj)) (nx : Nat) (chk : Nat → HT → Nat → Bool) : Out :=
  mkHK L fun H => callFn fn X (Ev.runN n X) g F H nx fun c H nx => .exit (boolC (chk c H nx)) 0 H nx
structure Post (Bs : List Nat) (cs : List (Nat × Value)) (w0 : World) (c : Nat) (v : Value) (H : HT) (nx : Nat) (w : World) (I : Imm) (σ : Sig) : Prop where
  rel : SRel σ I H nx w
  holds : Holds I H nx
  free : Free H nx
  range : ∀ b e, σ b = some e → e.B ∈ Bs ∨ w0.heap.size ≤ e.B
  turned : Turned Bs w0 w
  val : VR σ I c v
  cells : ∀ x ∈ cs, VR σ I x.1 x.2
theorem loc_call (hX : EnvOk X) (h3 : 3 ≤ X.P.types.size) (hN : FnsOk X) (hO : OrcOk X) (hm : X.P.follows .mixedOrders = true) {n g F : Nat} {fn : Func} (hg : X.P.funcs[g]? = some fn) (ho : X.orc g = 0)
    {Bs : List Nat} {K nx : Nat} {L : List (Nat × Obj)} {cs : List (Nat × Value)} {w : World} {chk : Nat → HT → Nat → Bool} (hrun : isTr (runLo X n g fn F L nx chk) = true) {args : Array Value} (hA : ∀ σ I, (∀ x ∈ cs, VR σ I x.1 x.2) → ArgsR σ I F args) (h : Pre Bs K L nx cs w) :
    Calls X.P g args w fun e w' => ∃ c v H n' I σ, e = .returned v ∧ chk c H n' = true ∧ Post Bs cs w c v H n' w' I σ := by
  have hFo : FormOk X := ⟨trivial⟩
  have hr := run_ok hX hFo h3 hN hO (fun call hc => draw_ok hX hFo h3 hm hc) n
  obtain ⟨I, σ, H, a1, a2, a3, a4, a5, a6, a0, a7, a9, a10⟩ := h
  unfold runLo at hrun
  rw [a1.1] at hrun
  rcases fn_callsC hX hFo hN hr hg ho a6 (F := F) (fun c H nx => .exit (boolC (chk c H nx)) 0 H nx) with ⟨m, hb⟩ | ⟨c, H', nx', he, hal, hcall⟩
  · rw [hb] at hrun; exact absurd hrun (by simp [isTr])
  · rw [he] at hrun
    have hc : chk c H' nx' = true := isTr_exit (show isTr (.exit (boolC (chk c H' nx')) 0 H' nx') = true from hrun)
    have hle := more_le (n1 := nx') (H1 := H') a4
    have hh := more_holds a3 hal
    have h00 : more I nx H' nx' 0 = I 0 := if_pos a5
    refine (hcall (more I nx H' nx') σ w args hh (a2.imm hle h00) (hA σ _ fun x hx => (a10 x hx).imm hle)).mono ?_
    rintro e w' ⟨v, rfl, σ', ha, hv⟩
    refine ⟨c, v, H', nx', more I nx H' nx', σ', rfl, hc, ha.rel, hh, hal.free, fun b e hb => ?_, ⟨ha.unch.size, ha.unch.os, ha.unch.out, fun k hk hn => ha.unch.old k hk fun b e hb q => hn (q ▸ a7 b e hb)⟩, hv, fun x hx => ((a10 x hx).imm hle).mono ha.ext.1⟩
    rcases ha.ext.2 b e hb with h1 | ⟨_, h2 | ⟨b0, e0, h3, h4⟩⟩
    · exact .inl (a7 b e h1)
    · exact .inr h2
    · exact .inl (h4 ▸ a7 b0 e0 h3)
def rowIs (H : HT) (b n N : Nat) : Bool := @Obj.rec (fun _ => Bool) (fun n' N' _ _ => and' (Nat.beq n' n) (Nat.beq (low1 N') (low1 N))) (fun _ _ => false) (fun _ _ => false) (fun _ _ => false) (fun _ _ _ _ _ => false) (fun _ _ _ => false) (fun _ _ _ => false) false (get H b)
def tupIs (H : HT) (c n N : Nat) : Bool := and' (Nat.beq (hi c) 2) (@Obj.rec (fun _ => Bool) (fun _ _ _ _ => false) (fun _ _ => false) (fun _ _ => false) (fun n' N' => and' (Nat.beq n' n) (Nat.beq (low1 N') (low1 N))) (fun _ _ _ _ _ => false) (fun _ _ _ => false) (fun _ _ _ => false) false (get H (lo c)))
theorem low1_eq {N M : Nat} (h : low1 N = low1 M) (i : Nat) : dig N (i + 1) = dig M (i + 1) := by
  rw [← dig_low1 N, h, dig_low1]
theorem rowIs_at {H : HT} {b n N : Nat} (h : rowIs H b n N = true) : ∃ N' et op, get H b = .row n N' et op ∧ ∀ i, dig N' (i + 1) = dig N (i + 1) := by
  unfold rowIs at h
  cases hg : get H b with
  | row n' N' et op =>
    rw [hg] at h
    replace h : and' (Nat.beq n' n) (Nat.beq (low1 N') (low1 N)) = true := h
    simp only [and'_eq, Bool.and_eq_true, beq_iff] at h
    obtain ⟨rfl, h2⟩ := h
    exact ⟨N', et, op, rfl, low1_eq h2⟩
  | _ => rw [hg] at h; exact absurd h (by simp)
theorem Post.tup {Bs : List Nat} {cs : List (Nat × Value)} {w0 : World} {c : Nat} {v : Value} {H : HT} {nx : Nat} {w : World} {I : Imm} {σ : Sig} (h : Post Bs cs w0 c v H nx w I σ) {n N : Nat} (ht : tupIs H c n N = true) :
    ∃ vs : Array Value, v = .tuple vs ∧ vs.size = n ∧ ∀ i (h : i < vs.size), CRa σ I (dig N (i + 1)) vs[i] := by
  unfold tupIs at ht
  rw [and'_eq, Bool.and_eq_true, beq_iff] at ht
  obtain ⟨h2, ht⟩ := ht
  cases hg : get H (lo c) with
  | tup n' N' =>
    rw [hg] at ht
    replace ht : and' (Nat.beq n' n) (Nat.beq (low1 N') (low1 N)) = true := ht
    simp only [and'_eq, Bool.and_eq_true, beq_iff] at ht
    obtain ⟨rfl, ht⟩ := ht
    rcases h.val.toV (by omega) with k | ⟨_, hlo, N2, vs, k1, rfl, k2⟩
    · rcases k with k | ⟨k, _⟩
      · have := k.ne; omega
      · omega
    · have hlt : lo c < nx := by
        rcases Nat.lt_or_ge (lo c) nx with q | q
        · exact q
        · rw [h.free.2 _ q hlo] at hg; cases hg
      have := h.holds (lo c) hlt (by rw [hg]; trivial)
      rw [hg, k1] at this
      injection this with r1 r2
      subst r2
      exact ⟨vs, rfl, r1, fun i hi => by rw [← low1_eq ht]; exact k2 i hi⟩
  | _ => rw [hg] at ht; exact absurd ht (by simp)
theorem det_plain {σ : Sig} {I : Imm} {c : Nat} {u v : Value} (hu : VR σ I c u) (hv : VR σ I c v) (h3 : 3 ≤ hi c) (h12 : hi c ≤ 12) : u = v :=
  (cell_eq (hu.toP (by omega)) (hv.toP (by omega)) rfl rfl h3 h12).1 rfl
theorem det_name {σ : Sig} {I : Imm} {c : Nat} {u v : Value} (hu : VR σ I c u) (hv : VR σ I c v) (h : hi c = 28) : u = v := by
  have pu := hu.toP (by omega)
  have pv := hv.toP (by omega)
  unfold CRp at pu pv
  rw [h] at pu pv
  have e := pu.1.symm.trans pv.1
  injection e
def CellOk (ns : List Value) (c : Nat) (v : Value) : Prop := (3 ≤ hi c ∧ hi c ≠ 23) ∧ ((∃ i, ns[i]? = some v ∧ c = nameQ (i + 1) 0) ∨ ∀ σ I, VR σ I c v)
structure LB where
  B : Nat
  cl : List Nat
  et : Nat
  vs : Array Value
  m : Nat
  cap : Nat
  β : Nat
def LB.okT (ns : List Value) (w : World) (b : LB) (cs : List (Nat × Value)) : Prop := BlkR w b.B b.β b.vs b.cap ∧ b.m ≤ 100 ∧ b.m ≤ b.cap ∧ b.vs.size = b.cl.length ∧ (∀ c ∈ b.cl, c < 2 ^ 128) ∧ ∀ i (h : i < b.vs.size), CellOk ns (b.cl.getD i 0) b.vs[i] ∨ ((3 ≤ hi (b.cl.getD i 0) ∧ hi (b.cl.getD i 0) ≠ 23) ∧ (b.cl.getD i 0, b.vs[i]) ∈ cs)
def lofB : List LB → List (Nat × Obj)
  | [] => [(0, .str 0 0)]
  | b :: l => (l.length + 1, .row b.cl.length (packL (0 :: b.cl)) b.et true) :: lofB l
def csB : List LB → List (Nat × Value)
  | [] => []
  | b :: l => (mkSl (l.length + 1) 0 b.m 8388609, .slice (some ⟨b.B, b.β, none⟩) b.m b.cap) :: (mkPtr (l.length + 1) 0, .pointer (some ⟨b.B, b.β, none⟩)) :: csB l
def LBs (ns : List Value) (w : World) : List LB → Prop
  | [] => True
  | b :: l => b.okT ns w (csB l) ∧ LBs ns w l
theorem pre_names (w : World) (ns : List Value) (h1 : ∀ v ∈ ns, One v) (hl : ns.length < 1000) : ∀ k, k ≤ ns.length → ∃ cs, Pre [] k [(0, .str 0 0)] 1 cs w ∧ ∀ i v, i < k → ns[i]? = some v → (nameQ (i + 1) 0, v) ∈ cs
  | 0, _ => ⟨[], pre_begin w, fun i v hi => by omega⟩
  | k + 1, hk => by
    obtain ⟨cs, h, hn⟩ := pre_names w ns h1 hl k (by omega)
    have hv : ns[k]? = some (ns[k]'(by omega)) := List.getElem?_eq_getElem _
    have ho := h1 _ (List.mem_of_getElem? hv)
    refine ⟨_, h.name rfl (by omega) (q := 0) (by decide) ho.1 ho.2 (.inl rfl), fun i v hi hi' => ?_⟩
    rcases Nat.lt_or_ge i k with q | q
    · exact List.mem_cons_of_mem _ (hn i v q hi')
    · obtain rfl : i = k := by omega
      rw [hv] at hi'
      cases hi'
      exact List.mem_cons_self ..
theorem dig_cl {cl : List Nat} (h : ∀ c ∈ cl, c < 2 ^ 128) (i : Nat) : dig (packL (0 :: cl)) (i + 1) = cl.getD i 0 := by
  rw [dig_packL _ _ (fun c hc => by
    rcases List.mem_cons.1 hc with rfl | hc
    · decide
    · exact h c hc)]
  rfl
theorem pre_blocks {w : World} {ns : List Value} {cs0 : List (Nat × Value)} (h0 : Pre [] ns.length [(0, .str 0 0)] 1 cs0 w) (hn : ∀ i v, ns[i]? = some v → (nameQ (i + 1) 0, v) ∈ cs0) : ∀ (bl : List LB), bl.length < 1000 → (bl.map (·.B)).Nodup → LBs ns w bl → Pre (bl.map (·.B)) ns.length (lofB bl) (bl.length + 1) (csB bl ++ cs0) w
  | [], _, _, _ => h0
  | b :: l, hl, hd, hok => by
    have hd' := List.nodup_cons.1 hd
    have ih := pre_blocks h0 hn l (by simp at hl; omega) hd'.2 hok.2
    obtain ⟨o1, om, ocap, o2, o3, o4⟩ := hok.1
    exact ih.own (by simp at hl; omega) (N := packL (0 :: b.cl)) (et := b.et) (s := 1) (m := b.m) (cap := b.cap) o1 ⟨om, ocap, by decide, by decide, Nat.mul_one _⟩ hd'.1 o2 (fun i hi' => by
      rw [dig_cl o3]
      rcases o4 i hi' with ⟨q1, q2⟩ | ⟨q1, q2⟩
      · refine ⟨q1, ?_⟩
        rcases q2 with ⟨j, r1, r2⟩ | q2
        · have k := List.mem_append_right (csB l) (hn j _ r1)
          rw [← r2] at k
          exact .inl k
        · exact .inr q2
      · exact ⟨q1, .inl (List.mem_append_left _ q2)⟩)
theorem csB_at : ∀ {bl : List LB} {k : Nat} {b : LB}, bl[k]? = some b → (mkPtr (bl.length - k) 0, .pointer (some ⟨b.B, b.β, none⟩)) ∈ csB bl
  | [], k, b, h => by simp at h
  | x :: l, 0, b, h => by
    simp at h; subst h
    exact List.mem_cons_of_mem _ (List.mem_cons_self ..)
  | x :: l, k + 1, b, h => by
    have := csB_at (bl := l) (k := k) (by simpa using h)
    have e : (x :: l).length - (k + 1) = l.length - k := by simp
    rw [e]
    exact List.mem_cons_of_mem _ (List.mem_cons_of_mem _ this)
def ArgOk (ns : List Value) (bl : List LB) (x : Nat × Value) : Prop := CellOk ns x.1 x.2 ∨ x ∈ csB bl
structure Got (ns : List Value) (bl : List LB) (chk : Nat → HT → Nat → Bool) (w0 : World) (v : Value) (w : World) (c : Nat) (H : HT) (nx : Nat) (I : Imm) (σ : Sig) (cs : List (Nat × Value)) : Prop where
  chk : chk c H nx = true
  post : Post (bl.map (·.B)) cs w0 c v H nx w I σ
  ptr : ∀ x ∈ csB bl, x ∈ cs
  nm : ∀ i v, ns[i]? = some v → (nameQ (i + 1) 0, v) ∈ cs
theorem loc_all (hX : EnvOk X) (h3 : 3 ≤ X.P.types.size) (hN : FnsOk X) (hO : OrcOk X) (hm : X.P.follows .mixedOrders = true) {n g : Nat} {fn : Func} (hg : X.P.funcs[g]? = some fn) (ho : X.orc g = 0)
    {w : World} (ns : List Value) (h1 : ∀ v ∈ ns, One v) (hl : ns.length < 1000) (bl : List LB) (hbl : bl.length < 1000) (hd : (bl.map (·.B)).Nodup) (hok : LBs ns w bl) (xs : List (Nat × Value)) (hx : ∀ x ∈ xs, ArgOk ns bl x)
    {chk : Nat → HT → Nat → Bool} (hrun : isTr (runLo X n g fn (packL (0 :: xs.map (·.1))) (lofB bl) (bl.length + 1) chk) = true) :
    Calls X.P g (xs.map (·.2)).toArray w fun e w' => ∃ v c H nx I σ cs, e = .returned v ∧ Got ns bl chk w v w' c H nx I σ cs := by
  obtain ⟨cs0, h0, hn⟩ := pre_names w ns h1 hl ns.length (Nat.le_refl _)
  have hn' : ∀ i v, ns[i]? = some v → (nameQ (i + 1) 0, v) ∈ cs0 := fun i v h => hn i v (List.getElem?_eq_some_iff.1 h).1 h
  have hp := pre_blocks h0 hn' bl hbl hd hok
  refine (loc_call hX h3 hN hO hm hg ho hrun (fun σ I hcs => argsP xs fun x hx' => ?_) hp).mono ?_
  · rcases hx x hx' with ⟨_, ⟨i, q1, q2⟩ | q⟩ | q
    · have := hcs _ (List.mem_append_right _ (hn' i _ q1))
      rw [q2]; exact this
    · exact q σ I
    · exact hcs x (List.mem_append_left _ q)
  · rintro e w' ⟨c, v, H, n', I, σ, rfl, hc, hP⟩
    exact ⟨v, c, H, n', I, σ, _, rfl, hc, hP, fun x hx => List.mem_append_left _ hx, fun i v h => List.mem_append_right _ (hn' i v h)⟩
theorem Got.det {ns : List Value} {bl : List LB} {chk : Nat → HT → Nat → Bool} {w0 w : World} {v : Value} {c : Nat} {H : HT} {nx : Nat} {I : Imm} {σ : Sig} {cs : List (Nat × Value)} (h : Got ns bl chk w0 v w c H nx I σ cs) {d : Nat} {u x : Value} (hd : CellOk ns d x) (hp : hi d ≤ 12 ∨ hi d = 28) (hu : VR σ I d u) : u = x := by
  have hx : VR σ I d x := by
    rcases hd.2 with ⟨i, q1, q2⟩ | q
    · have k := h.nm i x q1
      rw [← q2] at k
      exact h.post.cells (d, x) k
    · exact q σ I
  rcases hp with hp | hp
  · exact det_plain hu hx hd.1.1 hp
  · exact det_name hu hx hp
def liveB (H : HT) (n : Nat) : Bool := @Nat.rec (fun _ => Bool) true (fun k ih => and' (isRow (get H (Nat.succ k))) ih) n
theorem liveB_at {H : HT} : ∀ {n k : Nat}, liveB H n = true → 1 ≤ k → k ≤ n → get H k ≠ .dead
  | 0, k, _, h1, h2 => by omega
  | n + 1, k, h, h1, h2 => by
    have h' : and' (isRow (get H (Nat.succ n))) (liveB H n) = true := h
    rw [and'_eq, Bool.and_eq_true] at h'
    rcases Nat.lt_or_ge k (n + 1) with q | q
    · exact liveB_at h'.2 h1 (by omega)
    · obtain rfl : k = n + 1 := by omega
      intro e
      have := h'.1
      rw [show get H (Nat.succ n) = _ from e] at this
      exact absurd this (by decide)
def RowAt (w : World) (B β : Nat) (vs : Array Value) (K : Nat) (n N : Nat) (I : Imm) (σ : Sig) : Prop := BlkR w B β vs K ∧ vs.size = n ∧ ∀ i (h : i < vs.size), VR σ I (dig N (i + 1)) vs[i]
theorem row_at {σ : Sig} {I : Imm} {H : HT} {nx b n N : Nat} {w : World} {e : SE} (h : SRel σ I H nx w) (he : σ b = some e) (hr : rowIs H b n N = true) : ∃ vs, RowAt w e.B e.β vs e.K n N I σ := by
  obtain ⟨N', et, op, hg, hd⟩ := rowIs_at hr
  have ho := h.obj b e he
  rw [hg] at ho
  obtain ⟨⟨cells, el, fz, q1, q2, q3, q4, q5⟩, q6⟩ := ho
  have hsz : e.β + n ≤ cells.size := by omega
  have hat : ∀ i (hi : i < (cells.extract e.β (e.β + n)).size), ∃ hlt : e.β + i < cells.size, (cells.extract e.β (e.β + n))[i] = cells[e.β + i] := fun i hi => by
    have hi' : i < n := by simp at hi; omega
    exact ⟨by omega, by simp⟩
  refine ⟨cells.extract e.β (e.β + n), ⟨cells, el, fz, q1, q2, q4.imp id (fun q => q.2), by simp; omega, fun i hi => ?_⟩, by simp; omega, fun i hi => ?_⟩
  · obtain ⟨h1, h2⟩ := hat i hi
    rw [h2, Array.getElem?_eq_getElem h1]
  · obtain ⟨h1, h2⟩ := hat i hi
    have hi' : i < n := by simp at hi; omega
    obtain ⟨u, r1, r2⟩ := q5 i hi'
    rw [Array.getElem?_eq_getElem h1] at r1
    rw [h2, Option.some.inj r1, ← hd]
    exact CRs.toV r2
theorem Got.sig {ns : List Value} {bl : List LB} {chk : Nat → HT → Nat → Bool} {w0 w : World} {v : Value} {c : Nat} {H : HT} {nx : Nat} {I : Imm} {σ : Sig} {cs : List (Nat × Value)} (h : Got ns bl chk w0 v w c H nx I σ cs) {k : Nat} {b : LB} (hb : bl[k]? = some b) (hk : bl.length < 1000) : ∃ e, σ (bl.length - k) = some e ∧ e.B = b.B ∧ e.β = b.β := by
  have hp := h.post.cells _ (h.ptr _ (csB_at hb))
  have h14 : hi (mkPtr (bl.length - k) 0) = 14 := hi_mkPtr (by omega) (by decide)
  have hip : isPtr (mkPtr (bl.length - k) 0) = true := by
    unfold isPtr
    rw [and'_eq, h14, some_mkPtr (by omega)]; rfl
  obtain ⟨e, e1, e2, e3, e4⟩ := isPtr_inv hp hip
  rw [blk_mkPtr (by omega)] at e1
  injection e4 with e4
  injection e4 with e4
  injection e4 with e5 e6
  rw [off_mkPtr (by omega) (by decide)] at e6
  exact ⟨e, e1, e5.symm, by omega⟩
theorem Got.row {ns : List Value} {bl : List LB} {chk : Nat → HT → Nat → Bool} {w0 w : World} {v : Value} {c : Nat} {H : HT} {nx : Nat} {I : Imm} {σ : Sig} {cs : List (Nat × Value)} (h : Got ns bl chk w0 v w c H nx I σ cs) {k : Nat} {b : LB} (hb : bl[k]? = some b) (hk : bl.length < 1000) {n N : Nat} (hr : rowIs H (bl.length - k) n N = true) : ∃ vs K, RowAt w b.B b.β vs K n N I σ := by
  obtain ⟨e, e1, e2, e3⟩ := h.sig hb hk
  obtain ⟨vs, hv⟩ := row_at h.post.rel e1 hr
  exact ⟨vs, e.K, by rw [← e2, ← e3]; exact hv⟩
theorem Got.isNew {ns : List Value} {bl : List LB} {chk : Nat → HT → Nat → Bool} {w0 w : World} {v : Value} {c : Nat} {H : HT} {nx : Nat} {I : Imm} {σ : Sig} {cs : List (Nat × Value)} (h : Got ns bl chk w0 v w c H nx I σ cs) (hk : bl.length < 1000) (hlv : liveB H bl.length = true) {b : Nat} (hb : bl.length < b) {e : SE} (he : σ b = some e) (hnd : get H b ≠ .dead) : w0.heap.size ≤ e.B := by
  rcases h.post.range b e he with q | q
  · obtain ⟨x, hx, hxB⟩ := List.mem_map.1 q
    obtain ⟨k, hk'⟩ := List.getElem?_of_mem hx
    have hlt : k < bl.length := (List.getElem?_eq_some_iff.1 hk').1
    obtain ⟨e2, s1, s2, _⟩ := h.sig hk' hk
    have := h.post.rel.inj _ _ _ _ s1 he (by rw [s2, hxB]) (liveB_at hlv (by omega) (by omega)) hnd
    omega
  · exact q
theorem rowIs_live {H : HT} {b n N : Nat} (h : rowIs H b n N = true) : get H b ≠ .dead := by
  obtain ⟨N', et, op, hg, _⟩ := rowIs_at h
  rw [hg]; exact fun e => by cases e
theorem Got.newSl {ns : List Value} {bl : List LB} {chk : Nat → HT → Nat → Bool} {w0 w : World} {v : Value} {c : Nat} {H : HT} {nx : Nat} {I : Imm} {σ : Sig} {cs : List (Nat × Value)} (h : Got ns bl chk w0 v w c H nx I σ cs) (hk : bl.length < 1000) (hlv : liveB H bl.length = true) {b m n N : Nat} (hb : bl.length < b ∧ b < 262144 ∧ m ≤ 100) (hr : rowIs H b n N = true) {u : Value} (hu : VR σ I (mkSl b 0 m 8388609) u) :
    ∃ B β cap vs, u = .slice (some ⟨B, β, none⟩) m cap ∧ m ≤ cap ∧ w0.heap.size ≤ B ∧ RowAt w B β vs cap n N I σ := by
  have h15 : hi (mkSl b 0 m 8388609) = 15 := hi_mkSl (by omega) (by decide) (by omega) (by decide)
  have his : isSl (mkSl b 0 m 8388609) = true := by
    unfold isSl
    rw [and'_eq, h15]
    have : some' (mkSl b 0 m 8388609) = true := by
      rw [some'_def, mkSl_def]; simp; omega
    rw [this]; rfl
  obtain ⟨e, cap, hs⟩ := isSl_inv hu his
  have e1 := hs.at_
  rw [blk_mkSl (by omega)] at e1
  have e2 := hs.val
  rw [off_mkSl (by omega) (by decide), sln_mkSl (by omega) (by decide) (by omega)] at e2
  have e3 := hs.opens (by rw [scp_mkSl (by omega) (by decide) (by omega) (by decide)]; decide)
  rw [scp_mkSl (by omega) (by decide) (by omega) (by decide), off_mkSl (by omega) (by decide)] at e3
  have e4 := hs.le
  rw [sln_mkSl (by omega) (by decide) (by omega)] at e4
  obtain ⟨vs, hv⟩ := row_at h.post.rel e1 hr
  have hes : e.s = 1 := by omega
  have hK : e.K = cap := by rw [← e3.2.2, hes]; omega
  rw [hK] at hv
  exact ⟨e.B, e.β, cap, vs, e2, e4, h.isNew hk hlv hb.1 e1 (rowIs_live hr), hv⟩
theorem Got.newPtr {ns : List Value} {bl : List LB} {chk : Nat → HT → Nat → Bool} {w0 w : World} {v : Value} {c : Nat} {H : HT} {nx : Nat} {I : Imm} {σ : Sig} {cs : List (Nat × Value)} (h : Got ns bl chk w0 v w c H nx I σ cs) (hk : bl.length < 1000) (hlv : liveB H bl.length = true) {b n N : Nat} (hb : bl.length < b ∧ b < 262144) (hr : rowIs H b n N = true) {u : Value} (hu : VR σ I (mkPtr b 0) u) :
    ∃ B β K vs, u = .pointer (some ⟨B, β, none⟩) ∧ w0.heap.size ≤ B ∧ RowAt w B β vs K n N I σ := by
  have h14 : hi (mkPtr b 0) = 14 := hi_mkPtr (by omega) (by decide)
  have hip : isPtr (mkPtr b 0) = true := by
    unfold isPtr
    rw [and'_eq, h14, some_mkPtr (by omega)]; rfl
  obtain ⟨e, e1, e2, e3, e4⟩ := isPtr_inv hu hip
  rw [blk_mkPtr (by omega)] at e1
  rw [off_mkPtr (by omega) (by decide)] at e4
  obtain ⟨vs, hv⟩ := row_at h.post.rel e1 hr
  exact ⟨e.B, e.β, e.K, vs, e4, h.isNew hk hlv hb.1 e1 (rowIs_live hr), hv⟩
theorem Pre.imm {Bs : List Nat} {K nx c : Nat} {L : List (Nat × Obj)} {cs : List (Nat × Value)} {w : World} (h : Pre Bs K L nx cs w) (hn : nx < 262143) {x : Obj} {v : Value} (hi : isImm x) (hx : ∀ n N et op, x ≠ .row n N et op) (hv : ∀ σ (I : Imm), I nx = x → (∀ y ∈ cs, VR σ I y.1 y.2) → VR σ I c v) : Pre Bs K ((nx, x) :: L) (nx + 1) ((c, v) :: cs) w := by
  obtain ⟨I, σ, H, a1, a2, a3, a4, a5, a6, a0, a7, a9, a10⟩ := h
  obtain ⟨H', hs, hg⟩ := set_law H x nx (by omega)
  have hle : ILe I ⟨fun i => if i = nx then x else I i, I.val⟩ := ⟨fun i => by
    by_cases e : i = nx
    · subst e; exact .inl (a4 _ (Nat.le_refl _))
    · exact .inr (if_neg e), fun _ _ h => h⟩
  have a2' := a2.imm hle (if_neg (by omega))
  have hlt : ∀ i, i < nx → get H' i = get H i := fun i hi => by rw [hg i (by omega), if_neg (by omega)]
  have hcs : ∀ y ∈ cs, VR σ ⟨fun i => if i = nx then x else I i, I.val⟩ y.1 y.2 := fun y hy => (a10 y hy).imm hle
  refine ⟨⟨fun i => if i = nx then x else I i, I.val⟩, σ, H', ⟨fun k => ?_, fun i hi => ?_⟩, ⟨fun b e hb => ?_, fun b e hb => ?_, fun b b' e e' hb hb' hB n1 n2 => ?_, a2'.g0⟩, fun i hi hm => ?_, fun i hi => ?_, by omega, ⟨by omega, fun i hi hi' => ?_⟩, ?_, a7, a9, fun y hy => ?_⟩
  · show mkHK L (fun H => set H x nx k) = _
    rw [a1.1, hs]
  · rw [hg i hi, a1.2 i hi]; rfl
  · have := a2.dom b e hb; exact ⟨by omega, this.2⟩
  · rw [hlt b (a2.dom b e hb).1]; exact a2'.obj b e hb
  · rw [hlt b (a2.dom b e hb).1] at n1
    rw [hlt b' (a2.dom b' e' hb').1] at n2
    exact a2.inj b b' e e' hb hb' hB n1 n2
  · show (if i = nx then _ else I i) = _
    by_cases e : i = nx
    · subst e; rw [if_pos rfl, hg _ (by omega), if_pos rfl]
    · rw [if_neg e, hlt i (by omega)]
      rw [hlt i (by omega)] at hm
      exact a3 i (by omega) hm
  · show (if i = nx then _ else I i) = _
    rw [if_neg (by omega)]; exact a4 i (by omega)
  · rw [hg i hi', if_neg (by omega)]; exact a6.2 i (by omega) hi'
  · show (if 0 = nx then _ else I 0) = _
    rw [if_neg (by omega)]; exact a0
  · rcases List.mem_cons.1 hy with rfl | hy
    · exact hv σ _ (if_pos rfl) hcs
    · exact hcs y hy
structure Im where
  obj : Obj
  tag : Nat
  v : Value
def lofI (bl : List LB) : List Im → List (Nat × Obj)
  | [] => lofB bl
  | x :: l => (bl.length + l.length + 1, x.obj) :: lofI bl l
def imC (x : Im) (i : Nat) : Nat := i + x.tag * 79228162514264337593543950336
def csI (bl : List LB) : List Im → List (Nat × Value)
  | [] => csB bl
  | x :: l => (imC x (bl.length + l.length + 1), x.v) :: csI bl l
def Im.ok (ns : List Value) (x : Im) : Prop := isImm x.obj ∧ (∀ n N et op, x.obj ≠ .row n N et op) ∧ ∀ σ (I : Imm) i, i < 262144 → I i = x.obj → (∀ j v, ns[j]? = some v → VR σ I (nameQ (j + 1) 0) v) → VR σ I (imC x i) x.v
theorem pre_imms {w : World} {ns : List Value} {bl : List LB} {cs0 : List (Nat × Value)} (h0 : Pre (bl.map (·.B)) ns.length (lofB bl) (bl.length + 1) (csB bl ++ cs0) w) (hn : ∀ i v, ns[i]? = some v → (nameQ (i + 1) 0, v) ∈ cs0) : ∀ (il : List Im), bl.length + il.length < 1000 → (∀ x ∈ il, x.ok ns) → Pre (bl.map (·.B)) ns.length (lofI bl il) (bl.length + il.length + 1) (csI bl il ++ cs0) w
  | [], _, _ => h0
  | x :: l, hl, hok => by
    have ih := pre_imms h0 hn l (by simp at hl; omega) (fun y hy => hok y (List.mem_cons_of_mem _ hy))
    obtain ⟨o1, o2, o3⟩ := hok x (List.mem_cons_self ..)
    refine ih.imm (by simp at hl; omega) o1 o2 (c := imC x (bl.length + l.length + 1)) (v := x.v) fun σ I hI hcs => o3 σ I _ (by simp at hl; omega) hI fun j v hj => ?_
    have k := hcs _ (List.mem_append_right (csI bl l) (hn j v hj))
    exact k
theorem csB_csI {bl : List LB} {x : Nat × Value} (h : x ∈ csB bl) : ∀ il, x ∈ csI bl il
  | [] => h
  | _ :: l => List.mem_cons_of_mem _ (csB_csI h l)
def ArgI (ns : List Value) (bl : List LB) (il : List Im) (x : Nat × Value) : Prop := CellOk ns x.1 x.2 ∨ x ∈ csI bl il
theorem loc_imm (hX : EnvOk X) (h3 : 3 ≤ X.P.types.size) (hN : FnsOk X) (hO : OrcOk X) (hm : X.P.follows .mixedOrders = true) {n g : Nat} {fn : Func} (hg : X.P.funcs[g]? = some fn) (ho : X.orc g = 0)
    {w : World} (ns : List Value) (h1 : ∀ v ∈ ns, One v) (hl : ns.length < 1000) (bl : List LB) (il : List Im) (hbl : bl.length + il.length < 1000) (hd : (bl.map (·.B)).Nodup) (hok : LBs ns w bl) (hil : ∀ x ∈ il, x.ok ns) (xs : List (Nat × Value)) (hx : ∀ x ∈ xs, ArgI ns bl il x)
    {chk : Nat → HT → Nat → Bool} (hrun : isTr (runLo X n g fn (packL (0 :: xs.map (·.1))) (lofI bl il) (bl.length + il.length + 1) chk) = true) :
    Calls X.P g (xs.map (·.2)).toArray w fun e w' => ∃ v c H nx I σ cs, e = .returned v ∧ Got ns bl chk w v w' c H nx I σ cs := by
  obtain ⟨cs0, h0, hn⟩ := pre_names w ns h1 hl ns.length (Nat.le_refl _)
  have hn' : ∀ i v, ns[i]? = some v → (nameQ (i + 1) 0, v) ∈ cs0 := fun i v h => hn i v (List.getElem?_eq_some_iff.1 h).1 h
  have hp := pre_imms (pre_blocks h0 hn' bl (by omega) hd hok) hn' il hbl hil
  refine (loc_call hX h3 hN hO hm hg ho hrun (fun σ I hcs => argsP xs fun x hx' => ?_) hp).mono ?_
  · rcases hx x hx' with ⟨_, ⟨i, q1, q2⟩ | q⟩ | q
    · have := hcs _ (List.mem_append_right _ (hn' i _ q1))
      rw [q2]; exact this
    · exact q σ I
    · exact hcs x (List.mem_append_left _ q)
  · rintro e w' ⟨c, v, H, n', I, σ, rfl, hc, hP⟩
    exact ⟨v, c, H, n', I, σ, _, rfl, hc, hP, fun x hx => List.mem_append_left _ (csB_csI hx il), fun i v h => List.mem_append_right _ (hn' i v h)⟩
def imS (s : ByteArray) : Im := ⟨.str s.data.toList.length (packB s.data.toList), 13, .string s⟩
theorem imS_ok {ns : List Value} {s : ByteArray} : (imS s).ok ns := ⟨trivial, fun _ _ _ _ e => (by cases e), fun σ I i hi' hI _ => by
  have e0 : imC (imS s) i = i + 1029966112685436388716071354368 := by show i + 13 * _ = _; omega
  rw [e0]
  exact CRp.toV (crp_str13 hi' hI)⟩
def imA (cl : List Nat) (vs : List Value) : Im := ⟨.agg vs.length (packL (0 :: cl)), 1, .agg vs.toArray⟩
theorem imA_ok {ns : List Value} {cl : List Nat} {vs : List Value} (hl : vs.length = cl.length) (hc : ∀ c ∈ cl, c < 2 ^ 128) (h : ∀ i (h : i < vs.length), CellOk ns (cl.getD i 0) vs[i]) : (imA cl vs).ok ns := ⟨trivial, fun _ _ _ _ e => (by cases e), fun σ I i hi' hI hnm => by
  have e0 : imC (imA cl vs) i = 79228162514264337593543950336 + i := by show i + 1 * _ = _; omega
  rw [e0]
  obtain ⟨e1, e2⟩ := aggC_at (nx := i) hi'
  refine .inr (.inr (.inl (.inr ⟨e1, by rw [e2]; exact hi', packL (0 :: cl), vs.toArray, ?_, rfl, fun j hj => ?_⟩)))
  · rw [e2, hI]
    show Obj.agg vs.length _ = Obj.agg vs.toArray.size _
    simp
  · have hj' : j < vs.length := by simpa using hj
    rw [dig_cl hc]
    obtain ⟨q1, q2⟩ := h j hj'
    refine VR.toS ?_ q1
    rcases q2 with ⟨k, r1, r2⟩ | q
    · have k' := hnm k _ r1
      rw [← r2] at k'
      simpa using k'
    · simpa using q σ I⟩
end Go.Ev
