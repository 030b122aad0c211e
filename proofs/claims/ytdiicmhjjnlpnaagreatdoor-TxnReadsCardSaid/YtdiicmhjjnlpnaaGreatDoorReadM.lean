/-
  TxnReads: the walk of the statement itself.
-/
import Derived.Test.YtdiicmhjjnlpnaaGreatDoorReadW
set_option linter.unusedVariables false
set_option linter.unusedSimpArgs false
set_option maxRecDepth 100000
namespace Go.Proofs.YtdiicmhjjnlpnaaGreatDoor
open Go.RowKit

theorem root_fields : Tryz.prog.underlying 32 = some (.struct (Tryz.prog.fieldsOf 32)) := by kernel_rfl
theorem root_held : Tryz.prog.stoodInHeld 32 = false := by kernel_rfl
theorem run_eql_root (w : World) : (binOp .eql 32 (.agg #[.int .i64 0, .int .i64 0, .int .i64 0]) (.agg #[.int .i64 0, .int .i64 0, .int .i64 0])).run Tryz.prog w = .ok (.bool true) w := by
  rw [run_eql_struct, run_equalIn_agg w 9999 _ _ _ root_fields root_held]
  have h2 := Tryz.underlying3
  simp [Program.fieldsOf, Tryz.underlying32, Op.eqFields, go_sem]

theorem okRoot_at {c : Nat} {H : Ev.HT} {nx : Nat} {σ : Ev.Sig} {I : Ev.Imm} {v : Value} (h : Ev.okRoot c H = true) (hI : Ev.Holds I H nx) (hf : Ev.Free H nx) (hv : Ev.VR σ I c v) : v = .agg #[.int .i64 0, .int .i64 0, .int .i64 0] := by
  unfold Ev.okRoot at h
  rcases Ev.aggK_tells (c := c) hf (fun n N => .exit (Ev.boolC (Nat.beq n 3 && (Nat.beq (Ev.dig N (0 + 1)) 554597137599850363154807652352 && Nat.beq (Ev.dig N (1 + 1)) 554597137599850363154807652352 && Nat.beq (Ev.dig N (2 + 1)) 554597137599850363154807652352))) 0 H 0) with ⟨m, hb⟩ | ⟨m, M, he, h4, h5⟩
  · rw [hb] at h; exact absurd h (by simp [Ev.isTr])
  rw [he] at h
  have hc : (Nat.beq m 3 && (Nat.beq (Ev.dig M (0 + 1)) 554597137599850363154807652352 && Nat.beq (Ev.dig M (1 + 1)) 554597137599850363154807652352 && Nat.beq (Ev.dig M (2 + 1)) 554597137599850363154807652352)) = true := by
    cases hq : (Nat.beq m 3 && (Nat.beq (Ev.dig M (0 + 1)) 554597137599850363154807652352 && Nat.beq (Ev.dig M (1 + 1)) 554597137599850363154807652352 && Nat.beq (Ev.dig M (2 + 1)) 554597137599850363154807652352)) with
    | true => rfl
    | false => rw [hq] at h; exact absurd (Ev.beq_iff.1 h) (by decide)
  simp only [Bool.and_eq_true, Ev.beq_iff] at hc
  obtain ⟨rfl, ⟨c0, c1⟩, c2⟩ := hc
  obtain ⟨cs, rfl, hz, hcc⟩ := h5 I σ v hI hv
  have one : ∀ i (hi : i < cs.size), Ev.dig M (i + 1) = 554597137599850363154807652352 → cs[i] = .int .i64 0 := fun i hi e => by
    have b0 := hcc i hi
    obtain ⟨z, q1, q2, q3⟩ := Ev.int_of (Ev.CRa.toVR (.inl b0)) (by rw [e]; decide)
    rw [q1]
    rw [e] at q3
    unfold Ev.icell at q3
    have : z % 18446744073709551616 = 0 := by omega
    unfold Ev.InI at q2
    have : z = 0 := by omega
    rw [this]
  refine congrArg Value.agg (Array.ext (by simpa using hz) fun i h1 h2 => ?_)
  have : i = 0 ∨ i = 1 ∨ i = 2 := by simp at h2; omega
  rcases this with rfl | rfl | rfl
  · exact one 0 h1 c0
  · exact one 1 h1 c1
  · exact one 2 h1 c2

/-! ### The calls, each by a run -/
theorem sd_any {g n K nx n2 c0 : Nat} {fn : Func} {L L2 : List (Nat × Ev.Obj)} {cs : List (Nat × Value)} {w0 w : World} {ok : Nat → Ev.HT → Bool} {P : Value → Prop} (hg : Tryz.prog.funcs[g]? = some fn) (ho : Ev.orcAt Ev.orcA g = 0)
    (hP : ∀ c H nx σ I v, ok c H = true → Ev.Holds I H nx → Ev.Free H nx → Ev.VR σ I c v → P v) (l : List (Nat × Value)) (hrun : Ev.isTr (Ev.runC Ev.XA n g fn (Ev.packL (0 :: l.map (·.1))) L nx c0 ok L2 n2) = true) (ho2 : Ev.okS ⟨[], L2, n2⟩ = true)
    (hl : ∀ x ∈ l, x ∈ cs) (h : Ev.Sd Ev.gG K L nx cs w0 w) : Calls Tryz.prog g (l.map (·.2)).toArray w fun e w' => ∃ v, e = .returned v ∧ P v ∧ Ev.Sd Ev.gG K L2 n2 ((c0, v) :: cs) w0 w' :=
  Ev.sd_call (Ev.envE Ev.orcA) Ev.sizeE Ev.fnsOkA Ev.orcA_ok Ev.mixedE hg ho hP hrun ho2 (fun σ I hx => Ev.argsP l fun x hx' => hx x (hl x hx')) h
theorem orc_e : Ev.orcAt Ev.orcA 6 = 0 := by decide +kernel
theorem orc_f : Ev.orcAt Ev.orcA 5 = 0 := by decide +kernel
theorem orc_m : Ev.orcAt Ev.orcA 8 = 0 := by decide +kernel
theorem orc_t : Ev.orcAt Ev.orcA 7 = 0 := by decide +kernel
theorem orc_ch : Ev.orcAt Ev.orcA 11 = 0 := by decide +kernel
theorem orc_st : Ev.orcAt Ev.orcA 12 = 0 := by decide +kernel
theorem orc_av : Ev.orcAt Ev.orcA 13 = 0 := by decide +kernel
theorem orc_lo : Ev.orcAt Ev.orcA 14 = 0 := by decide +kernel
theorem orc_ma : Ev.orcAt Ev.orcA 15 = 0 := by decide +kernel
theorem ok_e : Ev.okS ⟨[], Ev.eL, 50⟩ = true := by decide +kernel
theorem ok_f : Ev.okS ⟨[], Ev.fL, 57⟩ = true := by decide +kernel
theorem ok_m : Ev.okS ⟨[], Ev.mL, 60⟩ = true := by decide +kernel
theorem okN {k j : Nat} (hk : k < 41) (hj : j < 50) : Ev.okS ⟨[], Ev.rL k, Ev.rN k + j⟩ = true := by
  have h : Ev.okS ⟨[], Ev.rL k, Ev.rN k⟩ = true := List.all_eq_true.1 Ev.ok_all k (List.mem_range.2 hk)
  have mono : ∀ (L : List (Nat × Ev.Obj)) (a b : Nat), a ≤ b → Ev.okL a L = true → Ev.okL b L = true := fun L => by
    induction L with
    | nil => intros; rfl
    | cons x l ih =>
      intro a b hab h
      simp only [Ev.okL, Bool.and_eq_true, Ev.blt_iff] at h ⊢
      exact ⟨by omega, ih a b hab h.2⟩
  simp only [Ev.okS, Bool.and_eq_true, Ev.ble_iff] at h ⊢
  refine ⟨?_, mono _ _ _ (by omega) h.2⟩
  unfold Ev.rN
  omega
theorem at_in {k : Nat} {f : Nat → Bool} (h : (List.range 41).all f = true) (hk : k < 41) : f k = true := List.all_eq_true.1 h k (List.mem_range.2 hk)

/-- From the file to the transaction: the literal rows of the caller's between. -/
theorem new_any {vf vm : Value} {w0 w : World} (h : Ev.Sd Ev.gG 0 Ev.mL 60 [(Ev.cM, vm), (Ev.cF, vf)] w0 w) (t1 t2 : TypeId) :
    Calls Tryz.prog 7 #[vf, vm, .slice (some ⟨w.heap.size + 1, 0, none⟩) 1 1, .int .u64 1, .int .i64 400, .bool false] ((w.alloc (.cells #[.int .i64 2] t1)).alloc (.cells #[.int .u64 0, .slice (some ⟨w.heap.size, 0, none⟩) 1 1] t2)) fun e w' => ∃ v, e = .returned v ∧ At 0 vf v w0 w' := by
  have i2 := (lit_vr (n := 2) (b := 2) (by decide) rfl)
  have i4 := (lit_vr (n := 400) (b := 400) (by decide) rfl)
  have s1 := h.cons i2.1
  have s2 := s1.row (n := 1) (cc := Ev.mkSl 60 0 1 1) (by decide) (N := Ev.fC) (et := 3) (cnt := 1) (cells := #[.int .i64 2]) (el := t1) rfl (by decide) (fun i hi' => by
    obtain rfl : i = 0 := by simp at hi'; omega
    have e : Ev.dig Ev.fC (0 + 1) = 554597137599850363154807652352 + 2 := by decide +kernel
    rw [e]
    exact ⟨i2.2.1, by simp⟩) rfl (by decide +kernel)
  have u0 : ∀ σ I, Ev.VR σ I 871509787656907713528983453696 (.int .u64 0) := fun σ I => Ev.u64_vr (by decide) (by decide) (by decide) σ I
  have s3 := s2.cons u0
  have s4 := s3.row (n := 2) (cc := Ev.cR) (by decide) (N := Ev.f2C) (et := 38) (cnt := 1) (cells := #[.int .u64 0, .slice (some ⟨w.heap.size, 0, none⟩) 1 1]) (el := t2) rfl (by decide) (fun i hi' => by
    have e0 : Ev.dig Ev.f2C (0 + 1) = 871509787656907713528983453696 := by decide +kernel
    have e1 : Ev.dig Ev.f2C (1 + 1) = Ev.mkSl 60 0 1 1 := by decide +kernel
    have : i = 0 ∨ i = 1 := by simp at hi'; omega
    rcases this with rfl | rfl
    · rw [e0]; exact ⟨by decide, by simp⟩
    · rw [e1]; exact ⟨by decide, by simp⟩) (by decide +kernel) (by decide +kernel)
  have u1 : ∀ σ I, Ev.VR σ I 871509787656907713528983453697 (.int .u64 1) := fun σ I => Ev.u64_vr (by decide) (by decide) (by decide) σ I
  have s5 := ((s4.cons u1).cons i4.1).cons (c := 237684487542793012780631851008) (v := .bool false) (fun σ I => Ev.vr_bool (σ := σ) (I := I) false)
  have hsz : (w.alloc (.cells #[.int .i64 2] t1)).heap.size = w.heap.size + 1 := by simp
  rw [hsz] at s5
  refine (sd_any (P := fun _ => True) Tryz.func7 orc_t (fun _ _ _ _ _ _ _ _ _ _ => trivial) [(Ev.cF, vf), (Ev.cM, vm), (Ev.cR, .slice (some ⟨w.heap.size + 1, 0, none⟩) 1 1), (871509787656907713528983453697, .int .u64 1), (554597137599850363154807652352 + 400, .int .i64 400), (237684487542793012780631851008, .bool false)] Ev.run_t (List.all_eq_true.1 Ev.ok_all 0 (List.mem_range.2 (by decide))) (fun x hx => ?_) s5).mono fun e w' hh => ?_
  · simp only [List.mem_cons, List.not_mem_nil, or_false] at hx ⊢
    rcases hx with rfl | rfl | rfl | rfl | rfl | rfl <;> simp
  · obtain ⟨v, rfl, _, hs⟩ := hh
    exact ⟨v, rfl, hs.fewer fun x hx => by
      simp only [List.mem_cons, List.not_mem_nil, or_false] at hx
      rcases hx with rfl | rfl <;> simp⟩

/-! ### What is asked in the end -/
theorem end_any {k : Nat} (hk : k < 41) {vf vt : Value} {w0 w : World} (h : At k vf vt w0 w) :
    Calls Tryz.prog 11 #[vt] w fun e w1 => e = .returned (.bool false) ∧
      ∀ W, Ext w1 W → Calls Tryz.prog 12 #[vt] W fun e w2 => ∃ vs, e = .returned vs ∧
        ∀ W, Ext w2 W → Calls Tryz.prog 13 #[vs] W fun e w3 => (∃ p c, e = .returned (.slice p 0 c)) ∧
          ∀ W, Ext w3 W → Calls Tryz.prog 14 #[vf] W fun e w4 => (∃ p c, e = .returned (.slice p 0 c)) ∧
            ∀ W, Ext w4 W → Calls Tryz.prog 15 #[vt] W fun e w5 => e = .returned (.agg #[.int .i64 0, .int .i64 0, .int .i64 0]) ∧ Ev.Stays w0 w5 := by
  have m2 : ∀ {c c' : Nat} {v : Value} {cs : List (Nat × Value)}, (∀ x ∈ [(Ev.cF, vf), (Ev.cT, vt)], x ∈ cs) → ∀ x ∈ [(Ev.cF, vf), (Ev.cT, vt)], x ∈ (c, v) :: cs := fun h x hx => List.mem_cons_of_mem _ (h x hx)
  have sl0 : ∀ c H nx σ I v, (fun (_ : Nat) (_ : Ev.HT) => true) c H = true → Ev.Holds I H nx → Ev.Free H nx → Ev.VR σ I c v → True := fun _ _ _ _ _ _ _ _ _ _ => trivial
  refine (sd_any (P := fun _ => True) Tryz.func11 orc_ch sl0 [(Ev.cT, vt)] (at_in Ev.e_ch_all hk) (okN hk (by decide)) (fun x hx => by
    simp only [List.mem_cons, List.not_mem_nil, or_false] at hx; subst hx; simp) h).mono fun e w1 hh => ?_
  obtain ⟨v1, rfl, _, s1⟩ := hh
  refine ⟨?_, fun W e1 => ?_⟩
  · obtain ⟨I, σ, H, _, _, _, _, _, _, _, _, _, hv⟩ := s1
    have e : v1 = .bool false := Ev.bool_no (hv _ (List.mem_cons_self ..)) rfl
    rw [e]
  refine (sd_any (P := fun _ => True) Tryz.func12 orc_st sl0 [(Ev.cT, vt)] (at_in Ev.e_st_all hk) (okN hk (by decide)) (fun x hx => by
    simp only [List.mem_cons, List.not_mem_nil, or_false] at hx; subst hx; simp) (s1.stays (stays_of e1))).mono fun e w2 hh => ?_
  obtain ⟨v2, rfl, _, s2⟩ := hh
  refine ⟨v2, rfl, fun W e2 => ?_⟩
  have hr := at_in Ev.e_av_all hk
  unfold Ev.e_av at hr
  generalize Ev.mkPtr (Ev.rB k) 0 = cp at hr s2
  refine (sd_any (P := fun _ => True) Tryz.func13 orc_av sl0 [(cp, v2)] hr (okN hk (by decide)) (fun x hx => by
    simp only [List.mem_cons, List.not_mem_nil, or_false] at hx; subst hx; simp) (s2.stays (stays_of e2))).mono fun e w3 hh => ?_
  obtain ⟨v3, rfl, _, s3⟩ := hh
  refine ⟨?_, fun W e3 => ?_⟩
  · obtain ⟨I, σ, H, _, _, _, _, _, _, _, _, _, hv⟩ := s3
    have hh : Ev.VR σ I 1188422437713965063903159255040 v3 := hv (1188422437713965063903159255040, v3) (List.mem_cons_self ..)
    obtain ⟨p, c, e, _⟩ := Ev.sl_nil (a := 1188422437713965063903159255040) (.inl rfl) hh
    exact ⟨p, c, by rw [e]⟩
  refine (sd_any (P := fun _ => True) Tryz.func14 orc_lo sl0 [(Ev.cF, vf)] (at_in Ev.e_lo_all hk) (okN hk (by decide)) (fun x hx => by
    simp only [List.mem_cons, List.not_mem_nil, or_false] at hx; subst hx; simp) (s3.stays (stays_of e3))).mono fun e w4 hh => ?_
  obtain ⟨v4, rfl, _, s4⟩ := hh
  refine ⟨?_, fun W e4 => ?_⟩
  · obtain ⟨I, σ, H, _, _, _, _, _, _, _, _, _, hv⟩ := s4
    have hh : Ev.VR σ I 1188422437713965063903159255040 v4 := hv (1188422437713965063903159255040, v4) (List.mem_cons_self ..)
    obtain ⟨p, c, e, _⟩ := Ev.sl_nil (a := 1188422437713965063903159255040) (.inl rfl) hh
    exact ⟨p, c, by rw [e]⟩
  refine (sd_any (P := fun v => v = .agg #[.int .i64 0, .int .i64 0, .int .i64 0]) Tryz.func15 orc_ma (fun c H nx σ I v a b c' d => okRoot_at a b c' d) [(Ev.cT, vt)] (at_in Ev.e_ma_all hk) (okN hk (by decide)) (fun x hx => by
    simp only [List.mem_cons, List.not_mem_nil, or_false] at hx; subst hx; simp) (s4.stays (stays_of e4))).mono fun e w5 hh => ?_
  obtain ⟨v5, rfl, hv5, s5⟩ := hh
  subst hv5
  exact ⟨rfl, sd_kept s5⟩

/-! ### The statement -/
set_option maxHeartbeats 4000000 in
theorem reads_any (v : Value) (l : List OpA) (w : World) (hv : Sl w 6 v l.length (opsCells l)) (hwf : ∀ op ∈ l, InI64 op.kind) (hG : Ev.Grounded Ev.gG w) :
    Calls Tryz.prog 3 #[v] w fun e w' => e = .returned (.bool true) ∧ Ev.Stays w w' := by
  obtain ⟨_, p, c, rfl, hc1, hc2, hcells⟩ := hv
  have HKN : Hid (Calls Tryz.prog 4 #[] w fun e w' => e = .returned (.bool true) ∧ Ev.Stays w w') := (Ev.known4 w (hG _ _ rfl)).mono fun e w' h => ⟨h.1, h.2⟩
  have HG := Lib.hid hG
  have HC := Lib.hid hcells
  have HWF := Lib.hid hwf
  clear hG hcells hwf
  by_cases h40 : l.length > 40
  · have k : decide ((40 : Int) < (l.length : Int)) = true := decide_eq_true (by omega)
    go_enter Tryz.func3, Tryz.ntmps3
    go_wp2_with fail
    refine HKN.out.mono ?_
    rintro e w1 ⟨rfl, hx1⟩
    have HX1 := Lib.hid hx1
    clear hx1
    go_wp2_with fail
    go_ret
    exact ⟨rfl, HX1.out⟩
  have k : decide ((40 : Int) < (l.length : Int)) = false := decide_eq_false (by omega)
  go_enter Tryz.func3, Tryz.ntmps3
  go_wp2_with fail
  refine HKN.out.mono ?_
  rintro e w1 ⟨rfl, hx1⟩
  have H0 := Lib.hid ((Ev.sd_begin (show Ev.isImm Ev.gG from trivial) HG.out).stays hx1)
  clear hx1 HKN
  go_wp2_with fail
  refine (sd_any (P := fun _ => True) Tryz.func6 orc_e (fun _ _ _ _ _ _ _ _ _ _ => trivial) [] Ev.run_e ok_e (fun x hx => absurd hx (by simp)) H0.out).mono ?_
  rintro e w2 ⟨ve, rfl, -, s2⟩
  have H2 := Lib.hid s2
  clear s2 H0
  go_wp2_with fail
  refine (sd_any (P := fun _ => True) Tryz.func5 orc_f (fun _ _ _ _ _ _ _ _ _ _ => trivial) [(Ev.cE, ve)] Ev.run_f ok_f (fun x hx => by simpa using hx) H2.out).mono ?_
  rintro e w3 ⟨vf, rfl, -, s3⟩
  have H3 := Lib.hid s3
  clear s3 H2
  go_wp2_with fail
  refine (sd_any (P := fun _ => True) Tryz.func8 orc_m (fun _ _ _ _ _ _ _ _ _ _ => trivial) [(554597137599850363154807652352 + 1, .int .i64 1)] Ev.run_m ok_m (fun x hx => by simp at hx; subst hx; simp) (H3.out.cons (lit_vr (n := 1) (b := 1) (by decide) rfl).1)).mono ?_
  rintro e w4 ⟨vm, rfl, -, s4⟩
  have H4 : Hid (Ev.Sd Ev.gG 0 Ev.mL 60 [(Ev.cM, vm), (Ev.cF, vf)] w w4) := s4.fewer fun x hx => by
    simp only [List.mem_cons, List.not_mem_nil, or_false] at hx
    rcases hx with rfl | rfl <;> simp
  clear s4 H3
  go_wp2_with fail
  refine (new_any H4.out _ _).mono ?_
  rintro e w5 ⟨vt, rfl, s5⟩
  have H5 := Lib.hid s5
  clear s5 H4
  go_wp2_with fail
  go_loopw [5] (fun q wr => ∃ t : Nat, t ≤ l.length ∧ q = .int .i64 t ∧ At t vf vt w wr) (fun q _ => l.length - (intOf q).toNat)
  case atStart => exact ⟨0, by omega, rfl, H5.out⟩
  case round =>
    obtain ⟨t, ht, rfl, hat⟩ := hrel
    obtain ⟨wr, rfl⟩ : ∃ wr' : World, wr' = wr := ⟨_, rfl⟩
    have HAT := Lib.hid hat
    clear hat H5
    by_cases hlt : t < l.length
    · obtain ⟨b, off, rfl, hcs⟩ := HC.out (by omega)
      obtain ⟨op, hop⟩ : ∃ op, l[t]? = some op := ⟨_, List.getElem?_eq_getElem hlt⟩
      have HK : Hid (∀ W', Ext wr W' → W'.cell? ⟨b, off + t * 6, none⟩ = some (.int .i64 op.kind) ∧ W'.cell? ⟨b, off + t * 6 + 1, none⟩ = some (encStr op.db) ∧ W'.cell? ⟨b, off + t * 6 + 2, none⟩ = some (encStr op.key) ∧ W'.cell? ⟨b, off + t * 6 + 3, none⟩ = some (encStr op.val) ∧ W'.cell? ⟨b, off + t * 6 + 4, none⟩ = some (.int .i64 op.flags) ∧ W'.cell? ⟨b, off + t * 6 + 5, none⟩ = some (.int .i64 op.n)) := fun W' e => by
        have g : ∀ q u, q < 6 → (opCells op).toList[q]? = some u → W'.cell? ⟨b, off + t * 6 + q, none⟩ = some u := fun q u hq hu => by
          rw [Nat.add_assoc]
          exact e.cell (cell_stays (sd_kept HAT.out) (hcs _ _ ((op_at hop hq).trans hu)))
        exact ⟨g 0 _ (by omega) rfl, g 1 _ (by omega) rfl, g 2 _ (by omega) rfl, g 3 _ (by omega) rfl, g 4 _ (by omega) rfl, g 5 _ (by omega) rfl⟩
      obtain ⟨x0, x1, x2, x3, x4, x5⟩ := HK.out wr (Ext.rfl' wr)
      have HLO := Lib.hid (long_any op wr)
      have b1 : (0 : Int) ≤ (t : Int) := by omega
      have b2 : (t : Int) < (l.length : Int) := by omega
      have HOP := Lib.hid hop
      clear hcs hop
      cases hlo : longB op with
      | true =>
        unfold opV opCells at HLO
        rw [hlo] at HLO
        go_wp2_with fail
        refine HLO.out.mono ?_
        rintro e w6 ⟨rfl, hx⟩
        have HX : Hid (Ev.Stays w w6) := Lib.hid (sd_kept (HAT.out.stays (stays_of hx)))
        clear hx
        go_wp2_with fail
        go_ret
        exact ⟨rfl, HX.out⟩
      | false =>
        have HDO : Hid (∀ W', Ext wr W' → Calls Tryz.prog 10 #[vt, opV op] W' (DidNot t vf vt w)) := fun W' e => do_any (by omega) (HAT.out.stays (stays_of e)) op hlo (HWF.out op (List.mem_of_getElem? HOP.out))
        unfold opV opCells at HLO HDO
        rw [hlo] at HLO
        go_wp2_with fail
        refine HLO.out.mono ?_
        rintro e w6 ⟨rfl, hx⟩
        obtain ⟨y0, y1, y2, y3, y4, y5⟩ := HK.out w6 hx
        have HX6 := Lib.hid hx
        clear hx x0 x1 x2 x3 x4 x5 HLO
        go_wp2_with fail
        refine (HDO.out w6 HX6.out).mono ?_
        rintro e w7 ⟨⟨n, tt, u, hn, rfl⟩, hat7⟩
        have HAT7 := Lib.hid hat7
        have hn0 : (n == 0) = false := by simpa using hn
        clear hat7 y0 y1 y2 y3 y4 y5 HDO hn
        go_wp2_with fail
        go_roundw
        case rel => exact ⟨t + 1, by omega, by go_num, HAT7.out.stays (stays_of ((Ext.rfl' w7).alloc _))⟩
        case measure => simp [intOf]; omega
    · obtain rfl : t = l.length := by omega
      have HEND := Lib.hid (end_any (by omega) HAT.out)
      have HEQ : Hid (∀ W, (binOp .eql 32 (.agg #[.int .i64 0, .int .i64 0, .int .i64 0]) (.agg #[.int .i64 0, .int .i64 0, .int .i64 0])).run Tryz.prog W = .ok (.bool true) W) := fun W => run_eql_root W
      have hgd : Tryz.prog.eqGuardType Tryz.prog.depth 32 = false := by kernel_rfl
      go_wp2_with fail
      refine HEND.out.mono ?_
      rintro e w6 ⟨rfl, n6⟩
      have H6 := Lib.hid n6
      clear n6 HEND
      go_wp2_with fail
      refine (H6.out w6 (Ext.rfl' w6)).mono ?_
      rintro e w7 ⟨vs, rfl, n7⟩
      have H7 := Lib.hid n7
      clear n7 H6
      go_wp2_with fail
      refine (H7.out w7 (Ext.rfl' w7)).mono ?_
      rintro e w8 ⟨⟨p8, c8, rfl⟩, n8⟩
      have H8 := Lib.hid n8
      clear n8 H7
      go_wp2_with fail
      refine (H8.out w8 (Ext.rfl' w8)).mono ?_
      rintro e w9 ⟨⟨p9, c9, rfl⟩, n9⟩
      have H9 := Lib.hid n9
      clear n9 H8
      go_wp2_with fail
      refine (H9.out w9 (Ext.rfl' w9)).mono ?_
      rintro e w10 ⟨rfl, n10⟩
      have H10 := Lib.hid n10
      have heq := HEQ.out w10
      clear n10 H9
      go_wp2_with fail
      go_ret
      exact ⟨rfl, H10.out⟩
end Go.Proofs.YtdiicmhjjnlpnaaGreatDoor
