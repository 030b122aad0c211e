/-
  A map handed over to a call that the evaluator runs.
-/
import Derived.Test.YtgjnadligocdkaaGreatDoorLocD
set_option linter.unusedVariables false
set_option linter.unusedSimpArgs false
set_option maxRecDepth 100000
noncomputable section
namespace Go.Ev
variable {X : Env}
def MapTold (w : World) (M c q : Nat) (l : ML) : Prop :=
  ∃ es, w.heap[M]? = some (.map es q) ∧ (∀ σ I, MLR σ I l es.toList.reverse) ∧ (keysM l).Nodup ∧ (birthsM l).Nodup ∧ (∀ b ∈ birthsM l, b < q) ∧ c = (keysM l).length ∧ ∀ k ∈ keysM l, ∀ k' ∈ keysM l, hi k = hi k'
theorem MapTold.lt {w : World} {M c q : Nat} {l : ML} (h : MapTold w M c q l) : M < w.heap.size := by
  obtain ⟨es, h, _⟩ := h
  exact (Array.getElem?_eq_some_iff.1 h).1
theorem MapTold.keep {w w' : World} {M c q : Nat} {l : ML} (h : MapTold w M c q l) (e : w'.heap[M]? = w.heap[M]?) : MapTold w' M c q l := by
  obtain ⟨es, h1, h2⟩ := h
  exact ⟨es, e.trans h1, h2⟩
theorem MapTold.turned {w w' : World} {M c q : Nat} {l : ML} {Bs : List Nat} (h : MapTold w M c q l) (t : Turned Bs w w') (hM : M ∉ Bs) : MapTold w' M c q l := h.keep (t.same M h.lt hM)
theorem Pre.map {Bs : List Nat} {K nx : Nat} {L : List (Nat × Obj)} {cs : List (Nat × Value)} {w : World} (h : Pre Bs K L nx cs w) (hn : nx < 262143) {M c q : Nat} {l : ML} (hb : MapTold w M c q l) (hB : M ∉ Bs) :
    Pre (M :: Bs) K ((nx, .map c q l) :: L) (nx + 1) ((mkMap nx, .map (some M)) :: cs) w := by
  have hlt0 := hb.lt
  obtain ⟨es, b1, b2, b3⟩ := hb
  obtain ⟨I, σ, H, a1, a2, a3, a4, a5, a6, a0, a7, a9, a10⟩ := h
  obtain ⟨H', hs, hg⟩ := set_law H (.map c q l) nx (by omega)
  have hlt : ∀ i, i < nx → get H' i = get H i := fun i hi => by rw [hg i (by omega), if_neg (by omega)]
  have hat : get H' nx = .map c q l := by rw [hg nx (by omega), if_pos rfl]
  have hfr : Free H' (nx + 1) := ⟨by omega, fun i hi hi' => by rw [hg i hi', if_neg (by omega)]; exact a6.2 i (by omega) hi'⟩
  have hnone : σ nx = none := a2.none (Nat.le_refl _)
  let σ' : Sig := fun b => if b = nx then some ⟨M, 0, 0, 0⟩ else σ b
  have hle : SLe σ σ' := fun b e hb => by
    show (if b = nx then _ else _) = _
    rw [if_neg (fun q => by subst q; rw [hnone] at hb; cases hb)]; exact hb
  have hσ : ∀ b e, σ' b = some e → (b = nx ∧ e = ⟨M, 0, 0, 0⟩) ∨ (b ≠ nx ∧ σ b = some e) := fun b e hb => by
    by_cases q : b = nx
    · left; exact ⟨q, (Option.some.inj ((if_pos q).symm.trans hb)).symm⟩
    · right; exact ⟨q, (if_neg q).symm.trans hb⟩
  refine ⟨I, σ', H', ⟨fun k => ?_, fun i hi => ?_⟩, ⟨fun b e hb => ?_, fun b e hb => ?_, fun b b' e e' hb hb' hBB n1 n2 => ?_, fun R E hI => ?_⟩, fun i hi hm => ?_, fun i hi => a4 i (by omega), by omega, hfr, a0, fun b e hb => ?_, a9, fun x hx => ?_⟩
  · show mkHK L (fun H => set H (.map c q l) nx k) = _
    rw [a1.1, hs]
  · rw [hg i hi, a1.2 i hi]; rfl
  · rcases hσ b e hb with ⟨rfl, rfl⟩ | ⟨_, hb⟩
    · exact ⟨Nat.lt_succ_self _, hlt0⟩
    · have := a2.dom b e hb; exact ⟨by omega, this.2⟩
  · rcases hσ b e hb with ⟨rfl, rfl⟩ | ⟨_, hb⟩
    · rw [hat]
      exact ⟨es, b1, b2 σ' I, b3⟩
    · rw [hlt b (a2.dom b e hb).1]; exact (a2.obj b e hb).mono hle
  · rcases hσ b e hb with ⟨p1, p2⟩ | ⟨_, hb1⟩
    · rcases hσ b' e' hb' with ⟨p3, p4⟩ | ⟨_, hb2⟩
      · exact p1.trans p3.symm
      · exact absurd (by rw [show M = e'.B by rw [← hBB, p2]]; exact a7 b' e' hb2) hB
    · rcases hσ b' e' hb' with ⟨p3, p4⟩ | ⟨_, hb2⟩
      · exact absurd (by rw [show M = e.B by rw [hBB, p4]]; exact a7 b e hb1) hB
      · rw [hlt b (a2.dom b e hb1).1] at n1
        rw [hlt b' (a2.dom b' e' hb2).1] at n2
        exact a2.inj b b' e e' hb1 hb2 hBB n1 n2
  · rw [a0] at hI; cases hI
  · by_cases e : i = nx
    · subst e; rw [hat] at hm; exact hm.elim
    · rw [hlt i (by omega)] at hm ⊢; exact a3 i (by omega) hm
  · rcases hσ b e hb with ⟨rfl, rfl⟩ | ⟨_, hb⟩
    · exact List.mem_cons_self ..
    · exact List.mem_cons_of_mem _ (a7 b e hb)
  · rcases List.mem_cons.1 hx with rfl | hx
    · exact (crp_map (e := ⟨M, 0, 0, 0⟩) (if_pos rfl) (by omega)).toV
    · exact (a10 x hx).mono hle
def lofO (L1 : List (Nat × Obj)) (o : Nat) : List LB → List (Nat × Obj)
  | [] => L1
  | b :: l => (l.length + o, .row b.cl.length (packL (0 :: b.cl)) b.et true) :: lofO L1 o l
def csO (o : Nat) : List LB → List (Nat × Value)
  | [] => []
  | b :: l => (mkSl (l.length + o) 0 b.m 8388609, .slice (some ⟨b.B, b.β, none⟩) b.m b.cap) :: (mkPtr (l.length + o) 0, .pointer (some ⟨b.B, b.β, none⟩)) :: csO o l
def LBsO (ns : List Value) (w : World) (ms : List (Nat × Value)) (o : Nat) : List LB → Prop
  | [] => True
  | b :: l => b.okT ns w (csO o l ++ ms) ∧ LBsO ns w ms o l
theorem pre_blocksO {w : World} {ns : List Value} {cs1 ms : List (Nat × Value)} {Bs1 : List Nat} {L1 : List (Nat × Obj)} {o : Nat} (h0 : Pre Bs1 ns.length L1 o cs1 w) (ho : o < 1000) (hms : ∀ x ∈ ms, x ∈ cs1) (hn : ∀ i v, ns[i]? = some v → (nameQ (i + 1) 0, v) ∈ cs1) :
    ∀ (bl : List LB), bl.length < 1000 → (bl.map (·.B) ++ Bs1).Nodup → LBsO ns w ms o bl → Pre (bl.map (·.B) ++ Bs1) ns.length (lofO L1 o bl) (bl.length + o) (csO o bl ++ cs1) w
  | [], _, _, _ => by
    have e : ([] : List LB).length + o = o := Nat.zero_add o
    rw [e]; exact h0
  | b :: l, hl, hd, hok => by
    have hd' := List.nodup_cons.1 (show (b.B :: (l.map (·.B) ++ Bs1)).Nodup from hd)
    have ih := pre_blocksO h0 ho hms hn l (by simp at hl; omega) hd'.2 hok.2
    obtain ⟨o1, om, ocap, o2, o3, o4⟩ := hok.1
    have := ih.own (by simp at hl; omega) (N := packL (0 :: b.cl)) (et := b.et) (s := 1) (m := b.m) (cap := b.cap) o1 ⟨om, ocap, by decide, by decide, Nat.mul_one _⟩ hd'.1 o2 (fun i hi' => by
      rw [dig_cl o3]
      rcases o4 i hi' with ⟨q1, q2⟩ | ⟨q1, q2⟩
      · refine ⟨q1, ?_⟩
        rcases q2 with ⟨j, r1, r2⟩ | q2
        · have k := List.mem_append_right (csO o l) (hn j _ r1)
          rw [← r2] at k
          exact .inl k
        · exact .inr q2
      · refine ⟨q1, .inl ?_⟩
        rcases List.mem_append.1 q2 with q2 | q2
        · exact List.mem_append_left _ q2
        · exact List.mem_append_right _ (hms _ q2))
    have e : (b :: l).length + o = l.length + o + 1 := by simp; omega
    rw [e]; exact this
structure GotM (ns : List Value) (M : Nat) (bl : List LB) (chk : Nat → HT → Nat → Bool) (w0 : World) (v : Value) (w : World) (c : Nat) (H : HT) (nx : Nat) (I : Imm) (σ : Sig) (cs : List (Nat × Value)) : Prop where
  chk : chk c H nx = true
  post : Post (bl.map (·.B) ++ [M]) cs w0 c v H nx w I σ
  ptr : ∀ x ∈ csO 2 bl, x ∈ cs
  map : (mkMap 1, Value.map (some M)) ∈ cs
  nm : ∀ i v, ns[i]? = some v → (nameQ (i + 1) 0, v) ∈ cs
theorem loc_map (hX : EnvOk X) (h3 : 3 ≤ X.P.types.size) (hN : FnsOk X) (hO : OrcOk X) (hm : X.P.follows .mixedOrders = true) {n g : Nat} {fn : Func} (hg : X.P.funcs[g]? = some fn) (ho : X.orc g = 0)
    {w : World} (ns : List Value) (h1 : ∀ v ∈ ns, One v) (hl : ns.length < 1000) {M c q : Nat} {l : ML} (hM : MapTold w M c q l) (bl : List LB) (hbl : bl.length < 1000) (hd : (bl.map (·.B) ++ [M]).Nodup) (hok : LBsO ns w [(mkMap 1, .map (some M))] 2 bl)
    (xs : List (Nat × Value)) (hx : ∀ x ∈ xs, CellOk ns x.1 x.2 ∨ x ∈ csO 2 bl)
    {chk : Nat → HT → Nat → Bool} (hrun : isTr (runLo X n g fn (packL (0 :: xs.map (·.1))) (lofO [(1, .map c q l), (0, .str 0 0)] 2 bl) (bl.length + 2) chk) = true) :
    Calls X.P g (xs.map (·.2)).toArray w fun e w' => ∃ v c H nx I σ cs, e = .returned v ∧ GotM ns M bl chk w v w' c H nx I σ cs := by
  obtain ⟨cs0, h0, hn⟩ := pre_names w ns h1 hl ns.length (Nat.le_refl _)
  have hn' : ∀ i v, ns[i]? = some v → (nameQ (i + 1) 0, v) ∈ (mkMap 1, Value.map (some M)) :: cs0 := fun i v h => List.mem_cons_of_mem _ (hn i v (List.getElem?_eq_some_iff.1 h).1 h)
  have hp0 := h0.map (by decide) hM (by simp)
  have hp := pre_blocksO hp0 (by decide) (ms := [(mkMap 1, .map (some M))]) (fun x hx => by simp at hx; subst hx; exact List.mem_cons_self ..) hn' bl hbl hd hok
  refine (loc_call hX h3 hN hO hm hg ho hrun (fun σ I hcs => argsP xs fun x hx' => ?_) hp).mono ?_
  · rcases hx x hx' with ⟨_, ⟨i, q1, q2⟩ | q⟩ | q
    · have := hcs _ (List.mem_append_right _ (hn' i _ q1))
      rw [q2]; exact this
    · exact q σ I
    · exact hcs x (List.mem_append_left _ q)
  · rintro e w' ⟨c, v, H, n', I, σ, rfl, hc, hP⟩
    exact ⟨v, c, H, n', I, σ, _, rfl, hc, hP, fun x hx => List.mem_append_left _ hx, List.mem_append_right _ (List.mem_cons_self ..), fun i v h => List.mem_append_right _ (hn' i v h)⟩
def valsM : ML → List Nat | .nil => [] | .cons _ v _ l => v :: valsM l
def eqML : ML → ML → Bool
  | .nil, .nil => true
  | .cons k v b l, .cons k' v' b' l' => Nat.beq k k' && (Nat.beq v v' && (Nat.beq b b' && eqML l l'))
  | _, _ => false
theorem eqML_eq : ∀ {l l' : ML}, eqML l l' = true → l = l'
  | .nil, .nil, _ => rfl
  | .cons k v b l, .cons k' v' b' l', h => by
    simp only [eqML, Bool.and_eq_true, beq_iff] at h
    obtain ⟨rfl, rfl, rfl, h⟩ := h
    rw [eqML_eq h]
  | .nil, .cons .., h => by simp [eqML] at h
  | .cons .., .nil, h => by simp [eqML] at h
def mapIs (H : HT) (b c q : Nat) (l : ML) : Bool := match get H b with | .map c' q' l' => Nat.beq c' c && (Nat.beq q' q && eqML l' l) | _ => false
theorem mapIs_at {H : HT} {b c q : Nat} {l : ML} (h : mapIs H b c q l = true) : get H b = .map c q l := by
  unfold mapIs at h
  split at h
  · rename_i c' q' l' e
    simp only [Bool.and_eq_true, beq_iff] at h
    obtain ⟨rfl, rfl, h⟩ := h
    rw [e, eqML_eq h]
  · cases h
theorem crp_free {σ σ' : Sig} {I I' : Imm} {c : Nat} {v : Value} (h3 : 3 ≤ hi c) (h12 : hi c ≤ 12) (h : CRp σ I c v) : CRp σ' I' c v := by
  unfold CRp at h ⊢
  have hc : hi c = 3 ∨ hi c = 4 ∨ hi c = 5 ∨ hi c = 6 ∨ hi c = 7 ∨ hi c = 8 ∨ hi c = 9 ∨ hi c = 10 ∨ hi c = 11 ∨ hi c = 12 := by omega
  rcases hc with e | e | e | e | e | e | e | e | e | e <;> (rw [e] at h ⊢; exact h)
theorem cra_free {σ σ' : Sig} {I I' : Imm} {c : Nat} {v : Value} (h3 : 3 ≤ hi c) (h12 : hi c ≤ 12) (h : CRa σ I c v) : CRa σ' I' c v := by
  rcases h with (h | h) | h
  · rcases h with h | ⟨h, k⟩
    · omega
    · exact .inl (.inl (.inr ⟨h, crp_free h3 h12 k⟩))
  · omega
  · omega
theorem mlr_free {σ σ' : Sig} {I I' : Imm} : ∀ {l : ML} {es : List MapEntry}, (∀ v ∈ valsM l, 3 ≤ hi v ∧ hi v ≤ 12) → MLR σ I l es → MLR σ' I' l es
  | .nil, [], _, _ => trivial
  | .cons k v b l, e :: es, hv, h => by
    obtain ⟨⟨h1, h2, h3, h4, h5⟩, h6⟩ := h
    have q := hv v (List.mem_cons_self ..)
    exact ⟨⟨crp_free h2 h3 h1, h2, h3, cra_free q.1 q.2 h4, h5⟩, mlr_free (fun u hu => hv u (List.mem_cons_of_mem _ hu)) h6⟩
  | .nil, _ :: _, _, h => h.elim
  | .cons .., [], _, h => h.elim
theorem map_told {σ : Sig} {I : Imm} {H : HT} {nx b c q : Nat} {l : ML} {w : World} {e : SE} (h : SRel σ I H nx w) (he : σ b = some e) (hm : mapIs H b c q l = true) (hv : ∀ v ∈ valsM l, 3 ≤ hi v ∧ hi v ≤ 12) : MapTold w e.B c q l := by
  have ho := h.obj b e he
  rw [mapIs_at hm] at ho
  obtain ⟨es, h1, h2, h3⟩ := (ho : MapOR σ I c q l e w)
  exact ⟨es, h1, fun σ' I' => mlr_free hv h2, h3⟩
theorem map_cell {σ : Sig} {I : Imm} {b : Nat} {u : Value} (hb : b < 16777215) (h : VR σ I (mkMap b) u) : ∃ e, σ b = some e ∧ u = .map (some e.B) := by
  have h16 : hi (mkMap b) = 16 := by rw [hi_def, mkMap_def]; omega
  have hp := h.toP (by omega)
  unfold CRp at hp
  rw [h16] at hp
  rcases hp with ⟨k, _⟩ | ⟨b', e, he, hb', hc, rfl⟩
  · rw [mkMap_def] at k; omega
  · have : b' = b := by rw [mkMap_def] at hc; omega
    subst this
    exact ⟨e, he, rfl⟩
end Go.Ev
end
namespace Go.Proofs.YtgjnadligocdkaaGreatDoor
open Go.RowKit
open Go.Ev (LB CellOk LBsO lofO csO GotM MapTold packL mkPtr mkSl mkMap nameQ rowIs tupIs mapIs ML)
noncomputable abbrev runM (g : Nat) (fn : Func) (cs : List Nat) (c q : Nat) (l : ML) (bl : List LB) (chk : Nat → Ev.HT → Nat → Bool) : Bool := Ev.isTr (Ev.runLo Ev.XA 2000 g fn (packL (0 :: cs)) (lofO [(1, .map c q l), (0, .str 0 0)] 2 bl) (bl.length + 2) chk)
theorem lm {g : Nat} {fn : Func} (hg : Tryz.prog.funcs[g]? = some fn) (ho : Ev.orcAt Ev.orcA g = 0) {w : World} (ns : List Value) (h1 : ∀ v ∈ ns, Ev.One v) (hl : ns.length < 1000) {M c q : Nat} {l : ML} (hM : MapTold w M c q l) (bl : List LB) (hbl : bl.length < 1000) (hd : (bl.map (·.B) ++ [M]).Nodup) (hok : LBsO ns w [(mkMap 1, .map (some M))] 2 bl) (xs : List (Nat × Value)) (hx : ∀ x ∈ xs, CellOk ns x.1 x.2 ∨ x ∈ csO 2 bl)
    {chk : Nat → Ev.HT → Nat → Bool} (hrun : runM g fn (xs.map (·.1)) c q l bl chk = true) :
    Calls Tryz.prog g (xs.map (·.2)).toArray w fun e w' => ∃ v c H nx I σ cs, e = .returned v ∧ GotM ns M bl chk w v w' c H nx I σ cs :=
  Ev.loc_map (Ev.envE Ev.orcA) Ev.sizeE Ev.fnsOkA Ev.orcA_ok Ev.mixedE hg ho ns h1 hl hM bl hbl hd hok xs hx hrun
end Go.Proofs.YtgjnadligocdkaaGreatDoor
