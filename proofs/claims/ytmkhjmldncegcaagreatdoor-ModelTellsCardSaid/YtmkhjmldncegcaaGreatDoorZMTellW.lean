/-
  WALKS: ModelTells itself.
-/
import Derived.Test.YtmkhjmldncegcaaGreatDoorMW
import Derived.Test.YtmkhjmldncegcaaGreatDoorMH
import Derived.Test.YtmkhjmldncegcaaGreatDoorMG
set_option linter.unusedVariables false
set_option linter.unusedSimpArgs false
namespace Go.Proofs.YtmkhjmldncegcaaGreatDoor
open Go.RowKit Go.Maps Go.ChangeMaps Go.MapKept Go.Sort

theorem run_neq_rep (c : Int) (k v : S) (w : World) : (binOp .neq 32 (.agg #[.int .i64 c, encStr k, encStr v]) (.agg #[.int .i64 c, encStr k, encStr v])).run Tryz.prog w = .ok (.bool false) w := by
  rw [run_neq_struct, run_equalIn_agg w 9999 _ _ _ rep_fields rep_held]
  have h2 := Tryz.underlying3
  have h3 := Tryz.underlying9
  simp [Program.fieldsOf, Tryz.underlying32, Op.eqFields, go_sem]

/-- A model of the program's beside the document's, at one. -/
structure Pair (w : World) (σ : Sig) (i j pb mb rb t : Nat) : Prop where
  ex : ∃ bases A R, ModIs w σ i pb mb bases A ∧ RefAt w σ j rb R ∧ Eqv A R ∧ Sound A t
/-- What stands at all times. -/
structure Lies (w1 : World) (wr : World) (σ : Sig) : Prop where
  ext : Ext w1 wr
  old : ∀ k, k < w1.heap.size → σ k = other
  neat : Neat wr σ
  ground : Ground σ wr
theorem Lies.then {w1 wr w' : World} {σ : Sig} (h : Lies w1 wr σ) (e : Ext wr w') : Lies w1 w' σ := ⟨Ext.step h.ext e, h.old, h.neat.ext e, h.ground.ext e⟩
theorem Lies.moved {w1 wr w' : World} {σ σ' : Sig} {i : Nat} (h : Lies w1 wr σ) (hi : i ≠ 0) (m : Moved σ i wr σ' w') : Lies w1 w' σ' :=
  ⟨h.ext.moved (fun k hk => by rw [h.old k hk]; exact fun e => hi e.symm) m, fun k hk => (m.ext k (Nat.lt_of_lt_of_le hk h.ext.size)).trans (h.old k hk), m.neat, h.ground.moved m hi⟩
theorem Pair.then {w w' : World} {σ : Sig} {i j pb mb rb t : Nat} (h : Pair w σ i j pb mb rb t) (e : Ext w w') : Pair w' σ i j pb mb rb t := by
  obtain ⟨bases, A, R, h1, ⟨L, Lv, h2⟩, h3, h4⟩ := h.ex
  exact ⟨bases, A, R, h1.ext e, ⟨L, Lv, h2.ext e⟩, h3, h4⟩
theorem Pair.moved {w w' : World} {σ σ' : Sig} {i j pb mb rb t k : Nat} (h : Pair w σ i j pb mb rb t) (m : Moved σ k w σ' w') (hk : k ≠ 0) (hi : i ≠ k) (hj : j ≠ k) : Pair w' σ' i j pb mb rb t := by
  obtain ⟨bases, A, R, h1, ⟨L, Lv, h2⟩, h3, h4⟩ := h.ex
  exact ⟨bases, A, R, h1.keep (Keep.ofMoved m hi), ⟨L, Lv, h2.moved hj hk m⟩, h3, h4⟩
/-- A step of the one, of the other. -/
structure Mid (w : World) (σ : Sig) (i j pb mb rb t : Nat) (op : OpA) (rep : RepA) : Prop where
  ex : ∃ bases A R, ModIs w σ i pb mb bases (doA A op).1 ∧ RefAt w σ j rb R ∧ Eqv A R ∧ Sound A t ∧ (doR R op).2 = rep
theorem long_no {op : OpA} (h : longB op = false) : op.db.length ≤ maxLen ∧ op.key.length ≤ maxLen := by
  unfold longB at h
  simp only [Bool.or_eq_false_iff, decide_eq_false_iff_not] at h
  unfold maxLen
  omega
theorem do_pair {w1 wr : World} {σ : Sig} {i j pb mb rb t : Nat} {op : OpA} (h : Lies w1 wr σ) (p : Pair wr σ i j pb mb rb t) (ht : t ≤ 1000) (hi : i ≠ 0) (hj : j ≠ 0) (hij : i ≠ j) (hop : longB op = false) :
    ∃ rep : RepA, (∀ W, Ext wr W → Calls Tryz.prog 10 #[.pointer (some ⟨pb, 0, none⟩), opV op] W fun e w' => e = .returned (repV rep) ∧ ∃ σ', Lies w1 w' σ' ∧ Mid w' σ' i j pb mb rb t op rep ∧ ∃ W0, Ext wr W0 ∧ Moved σ i W0 σ' w') := by
  obtain ⟨bases, A, R, h1, h2, h3, h4⟩ := p.ex
  obtain ⟨L, Lv, h2⟩ := h2
  have hl := long_no hop
  refine ⟨(doA A op).2, fun W e => ?_⟩
  refine (do_any σ i pb mb bases A op W t (h1.ext e) (h.neat.ext e) h4 (by omega) hl.1 hl.2 hi (h.ground.ext e)).mono fun e' w' hp => ?_
  obtain ⟨q1, σ', bases', q2, q3⟩ := hp
  exact ⟨q1, σ', (h.then e).moved hi q3, ⟨bases', A, R, q2, ⟨L, Lv, (h2.ext e).moved (fun e => hij e.symm) hi q3⟩, h3, h4, ((eqv_do h3 op).2).symm⟩, W, e, q3⟩
theorem do_mid {w1 w3 : World} {σ : Sig} {i j pb mb rb t : Nat} {op : OpA} {rep : RepA} (h : Lies w1 w3 σ) (p : Mid w3 σ i j pb mb rb t op rep) (ht : t ≤ 1000) (hi : i ≠ 0) (hj : j ≠ 0) (hij : i ≠ j) (hop : longB op = false) :
    Calls Tryz.prog 11 #[.pointer (some ⟨rb, 0, none⟩), opV op] w3 fun e w' => e = .returned (repV rep) ∧ Lies w1 w' σ ∧ Pair w' σ i j pb mb rb (t + 1) ∧ Moved σ j w3 σ w' := by
  obtain ⟨bases, A, R, h1, ⟨L, Lv, h2⟩, h3, h4, h5⟩ := p.ex
  have hl := long_no hop
  obtain ⟨b1, b2, b3⟩ := ref_bounds h3 h4
  have hb : ∀ k, (atR R k).e.length ≤ 100000 := fun k => by
    by_cases hk : k < R.l.length
    · have := b3 k hk; omega
    · unfold atR; rw [List.getD_eq_getElem?_getD, List.getElem?_eq_none (by omega)]; simp
  refine (dor_any σ j rb L Lv R op w3 h2 h.neat hj b1 (by omega) hb).mono fun e w' hp => ?_
  obtain ⟨q1, q2, q3⟩ := hp
  rw [h5] at q1
  exact ⟨q1, h.moved hj q3, ⟨bases, _, _, h1.keep (Keep.ofMoved q3 hij), q2, (eqv_do h3 op).1, sound_do h4 op hl.1⟩, q3⟩
/-- A model of the program's at one place, the document's at another, alike. -/
theorem Pair.split {w : World} {σ : Sig} {i j pb mb rb t : Nat} (p : Pair w σ i j pb mb rb t) : ∃ bases A R, ModIs w σ i pb mb bases A ∧ RefAt w σ j rb R ∧ Eqv A R ∧ Sound A t := p.ex
theorem copy_pair {w1 wr : World} {σ : Sig} {pb mb rb t : Nat} (h : Lies w1 wr σ) (p : Pair wr σ 1 2 pb mb rb t) (ht : t ≤ 1000) :
    Calls Tryz.prog 13 #[.pointer (some ⟨pb, 0, none⟩)] wr fun e w' => ∃ pc mc, e = .returned (.pointer (some ⟨pc, 0, none⟩)) ∧ ∃ σ', Lies w1 w' σ' ∧ Pair w' σ' 1 2 pb mb rb t ∧ Pair w' σ' 3 2 pc mc rb t := by
  obtain ⟨bases, A, R, h1, ⟨L, Lv, h2⟩, h3, h4⟩ := p.ex
  refine (copy_any σ 1 3 pb mb bases A wr t h1 h.neat h4 (by omega)).mono fun e w' hp => ?_
  obtain ⟨pv, rfl, σ', ⟨pc, mc, bases', rfl, q1⟩, q2, q3, q4⟩ := hp
  have hk : ∀ i, Keep (fun l => l.1 = i) σ wr σ' w' := fun i k hk _ => ⟨q2.block k hk, q3 k hk⟩
  have hR : RefAt w' σ' 2 rb R := ⟨L, Lv, ⟨by rw [q3 rb (lt_heap h2.heap)]; exact h2.lab, by rw [q2.block rb (lt_heap h2.heap)]; exact h2.heap, h2.dbs.keep (hk 0), h2.eq⟩⟩
  exact ⟨pc, mc, rfl, σ', ⟨Ext.step h.ext q2, fun k hk' => (q3 k (Nat.lt_of_lt_of_le hk' h.ext.size)).trans (h.old k hk'), q4, ⟨q2.cell h.ground.1, by rw [q3 0 h.ground.lt]; exact h.ground.2⟩⟩, ⟨bases, A, R, h1.keep (hk 1), hR, h3, h4⟩, ⟨bases', A, R, q1, hR, h3, h4⟩⟩
theorem copy_ref {w1 wr : World} {σ : Sig} {pb mb rb t pc mc : Nat} (h : Lies w1 wr σ) (p : Pair wr σ 1 2 pb mb rb t) (q : Pair wr σ 3 2 pc mc rb t) (ht : t ≤ 1000) :
    Calls Tryz.prog 14 #[.pointer (some ⟨rb, 0, none⟩)] wr fun e w' => ∃ rc, e = .returned (.pointer (some ⟨rc, 0, none⟩)) ∧ ∃ σ', Lies w1 w' σ' ∧ Pair w' σ' 1 2 pb mb rb t ∧ Pair w' σ' 3 4 pc mc rc t := by
  obtain ⟨bases, A, R, h1, ⟨L, Lv, h2⟩, h3, h4⟩ := p.ex
  obtain ⟨bases', A', R', g1, g2, g3, g4⟩ := q.ex
  obtain ⟨b1, b2, b3⟩ := ref_bounds g3 g4
  refine (copyr_any σ 2 4 rb R' wr g2 h.neat (by decide) (by omega)).mono fun e w' hp => ?_
  obtain ⟨rc, rfl, q1, q2, q3, q4⟩ := hp
  have hs : ∀ k, k < wr.heap.size → lay σ rc (4, .top) k = σ k := fun k hk => lay_other (by omega)
  have hk : ∀ i, Keep (fun l => l.1 = i) σ wr (lay σ rc (4, .top)) w' := fun i k hk _ => ⟨q1.block k hk, hs k hk⟩
  exact ⟨rc, rfl, _, ⟨Ext.step h.ext q1, fun k hk' => (hs k (Nat.lt_of_lt_of_le hk' h.ext.size)).trans (h.old k hk'), fun k hk' => by rw [lay_other (by omega)]; exact h.neat k (Nat.le_trans q1.size hk'), ⟨q1.cell h.ground.1, by rw [hs 0 h.ground.lt]; exact h.ground.2⟩⟩,
    ⟨bases, A, R, h1.keep (hk 1), ⟨L, Lv, ⟨by rw [hs rb (lt_heap h2.heap)]; exact h2.lab, by rw [q1.block rb (lt_heap h2.heap)]; exact h2.heap, h2.dbs.keep (hk 0), h2.eq⟩⟩, h3, h4⟩, ⟨bases', A', R', g1.keep (hk 3), q4, g3, g4⟩⟩
theorem alike_pair {wr : World} {σ : Sig} {i j pb mb rb t : Nat} (p : Pair wr σ i j pb mb rb t) (ht : t ≤ 1000) :
    Calls Tryz.prog 12 #[.pointer (some ⟨pb, 0, none⟩), .pointer (some ⟨rb, 0, none⟩)] wr fun e w' => e = .returned (.bool true) ∧ Ext wr w' := by
  obtain ⟨bases, A, R, h1, ⟨L, Lv, h2⟩, h3, h4⟩ := p.ex
  exact alike_any σ i j pb mb rb bases A L Lv R wr t h1 h4 (by omega) h2 h3

set_option maxHeartbeats 16000000 in
set_option maxRecDepth 100000 in
theorem mtell_any (va vb : Value) (l more : List OpA) (w : World) (her : ErrType w) (ha : Sl w 6 va l.length (opsCells l)) (hb : Sl w 6 vb more.length (opsCells more)) :
    Calls Tryz.prog 3 #[va, vb] w fun e w' => e = .returned (.bool true) ∧ Ext w w' := by
  have HKN := Lib.hid (known_any w her)
  have HER := Lib.hid her
  obtain ⟨_, p, c, rfl, hc1, hc2, hcells⟩ := ha
  obtain ⟨_, p2, c2, rfl, hd1, hd2, hdells⟩ := hb
  have HC := Lib.hid hcells
  have HD := Lib.hid hdells
  clear hcells hdells her
  by_cases h60 : l.length > 60
  · have k : decide ((60 : Int) < (l.length : Int)) = true := decide_eq_true (by omega)
    go_enter Tryz.func3, Tryz.ntmps3
    go_wp2_with fail
    refine HKN.out.mono ?_
    rintro e w1 ⟨rfl, hx1⟩
    have HX1 := Lib.hid hx1
    clear hx1
    go_wp2_with fail
    go_ret
    exact ⟨rfl, HX1.out⟩
  by_cases h30 : more.length > 30
  · have k : decide ((60 : Int) < (l.length : Int)) = false := decide_eq_false (by omega)
    have k2 : decide ((30 : Int) < (more.length : Int)) = true := decide_eq_true (by omega)
    go_enter Tryz.func3, Tryz.ntmps3
    go_wp2_with fail
    refine HKN.out.mono ?_
    rintro e w1 ⟨rfl, hx1⟩
    have HX1 := Lib.hid hx1
    clear hx1
    go_wp2_with fail
    go_ret
    exact ⟨rfl, HX1.out⟩
  have k : decide ((60 : Int) < (l.length : Int)) = false := decide_eq_false (by omega)
  have k2 : decide ((30 : Int) < (more.length : Int)) = false := decide_eq_false (by omega)
  go_enter Tryz.func3, Tryz.ntmps3
  go_wp2_with fail
  refine HKN.out.mono ?_
  rintro e w1 ⟨rfl, hx1⟩
  have HX1 := Lib.hid hx1
  have HNW := Lib.hid (new_any (fun _ => other) 1 w1 (fun _ _ => rfl))
  clear hx1 HKN
  go_wp2_with fail
  refine HNW.out.mono ?_
  rintro e w2 ⟨pv, rfl, σ2, ⟨pb, mb, bases2, rfl, hI2⟩, hx2, hs2, hn2⟩
  have hg2 : Ground σ2 w2 := ⟨(Ext.step HX1.out hx2).cell HER.out, by rw [hs2 0 (Nat.lt_of_lt_of_le (lt_of_cell HER.out) HX1.out.size)]; rfl⟩
  have HLI2 : Hid (Lies w1 w2 σ2) := ⟨hx2, fun k hk => hs2 k hk, hn2, hg2⟩
  have HI2 := Lib.hid hI2
  have HNR := Lib.hid (newr_any σ2 2 w2 hn2)
  clear hI2 hx2 hs2 hn2 hg2 HNW
  go_wp2_with fail
  refine HNR.out.mono ?_
  rintro e w3 ⟨rb, rfl, hx3, hb1, hb2, hR3⟩
  have hk3 : Keep (fun l => l.1 = 1) σ2 w2 (lay σ2 rb (2, .top)) w3 := fun k hk _ => ⟨hx3.block k hk, lay_other (by omega)⟩
  have HLI3 : Hid (Lies w1 w3 (lay σ2 rb (2, .top))) := by
    have h := HLI2.out
    have hsz := h.ext.size
    refine ⟨Ext.step h.ext hx3, fun k hk => by rw [lay_other (by omega)]; exact h.old k hk, fun k hk => by rw [lay_other (by omega)]; exact h.neat k (by have := hx3.size; omega), ⟨hx3.cell h.ground.1, by rw [lay_other (by have := h.ground.lt; omega)]; exact h.ground.2⟩⟩
  have HP3 : Hid (Pair w3 (lay σ2 rb (2, .top)) 1 2 pb mb rb 0) := ⟨bases2, newA, newR, HI2.out.keep hk3, hR3, eqv_new, sound_new⟩
  clear hk3 hR3 hx3 hb1 hb2 HLI2 HI2 HNR
  go_wp2_with fail
  go_loopw [7] (fun q wr => ∃ t : Nat, t ≤ l.length ∧ q = .int .i64 t ∧ ∃ σ, Lies w1 wr σ ∧ Pair wr σ 1 2 pb mb rb t) (fun q _ => l.length - (intOf q).toNat)
  case atStart => exact ⟨0, by omega, rfl, _, HLI3.out, HP3.out⟩
  case round =>
    obtain ⟨t, ht, rfl, σ, hli, hpr⟩ := hrel
    obtain ⟨wr, rfl⟩ : ∃ wr' : World, wr' = wr := ⟨_, rfl⟩
    have HLI := Lib.hid hli
    have HPR := Lib.hid hpr
    clear hli hpr HLI3 HP3
    by_cases hlt : t < l.length
    · obtain ⟨b, off, rfl, hcs⟩ := HC.out (by omega)
      obtain ⟨op, hop⟩ : ∃ op, l[t]? = some op := ⟨_, List.getElem?_eq_getElem hlt⟩
      have HK : Hid (∀ W', Ext w1 W' → W'.cell? ⟨b, off + t * 6, none⟩ = some (.int .i64 op.kind) ∧ W'.cell? ⟨b, off + t * 6 + 1, none⟩ = some (encStr op.db) ∧ W'.cell? ⟨b, off + t * 6 + 2, none⟩ = some (encStr op.key) ∧ W'.cell? ⟨b, off + t * 6 + 3, none⟩ = some (encStr op.val) ∧ W'.cell? ⟨b, off + t * 6 + 4, none⟩ = some (.int .i64 op.flags) ∧ W'.cell? ⟨b, off + t * 6 + 5, none⟩ = some (.int .i64 op.n)) := fun W' e => by
        have g : ∀ q u, q < 6 → (opCells op).toList[q]? = some u → W'.cell? ⟨b, off + t * 6 + q, none⟩ = some u := fun q u hq hu => by
          rw [Nat.add_assoc]
          exact (Ext.step HX1.out e).cell (hcs _ _ ((op_at hop hq).trans hu))
        exact ⟨g 0 _ (by omega) rfl, g 1 _ (by omega) rfl, g 2 _ (by omega) rfl, g 3 _ (by omega) rfl, g 4 _ (by omega) rfl, g 5 _ (by omega) rfl⟩
      obtain ⟨x0, x1, x2, x3, x4, x5⟩ := HK.out wr HLI.out.ext
      have HLO := Lib.hid (long_any op wr)
      have b1 : (0 : Int) ≤ (t : Int) := by omega
      have b2 : (t : Int) < (l.length : Int) := by omega
      have HOP := Lib.hid hop
      clear hcs hop
      unfold opV opCells at HLO
      cases hlo : longB op with
      | true =>
        rw [hlo] at HLO
        go_wp2_with (first | (go_at_call 9; refine HLO.out.mono ?_; rintro e w' ⟨rfl, hx⟩; have HX := Lib.hid (Ext.step HX1.out (Ext.step HLI.out.ext hx)); clear hx) | fail)
        go_ret
        exact ⟨rfl, HX.out⟩
      | false =>
        rw [hlo] at HLO
        go_wp2_with (first | (go_at_call 9; refine HLO.out.mono ?_; rintro e wo ⟨rfl, hx⟩; have HX := Lib.hid hx; clear hx) | fail)
        obtain ⟨rep, hdo⟩ := do_pair (HLI.out.then HX.out) (HPR.out.then HX.out) (op := op) (by omega) (by decide) (by decide) (by decide) hlo
        have HDO := Lib.hid hdo
        obtain ⟨y0, y1, y2, y3, y4, y5⟩ := HK.out wo (HLI.out.then HX.out).ext
        have HY := Lib.hid (HK.out wo (HLI.out.then HX.out).ext)
        have HYD := Lib.hid (HK.out wo.drew (Ext.step (HLI.out.then HX.out).ext (drewW wo)))
        have heq := run_neq_rep rep.code rep.key rep.val
        unfold opV opCells repV at HDO
        have HD0 := Lib.hid (HDO.out wo (Ext.rfl' wo))
        have HD1 := Lib.hid (HDO.out wo.drew (drewW wo))
        clear hdo x0 x1 x2 x3 x4 x5 HLO HDO
        go_region_held3 (fun W' => W'.cell? ⟨b, off + t * 6, none⟩ = some (.int .i64 op.kind) ∧ W'.cell? ⟨b, off + t * 6 + 1, none⟩ = some (encStr op.db) ∧ W'.cell? ⟨b, off + t * 6 + 2, none⟩ = some (encStr op.key) ∧ W'.cell? ⟨b, off + t * 6 + 3, none⟩ = some (encStr op.val) ∧ W'.cell? ⟨b, off + t * 6 + 4, none⟩ = some (.int .i64 op.flags) ∧ W'.cell? ⟨b, off + t * 6 + 5, none⟩ = some (.int .i64 op.n))
          (first | with_reducible exact K5.out | with_reducible exact K4.out | with_reducible exact K3.out | with_reducible exact HYD.out | with_reducible exact HY.out)
          (first
            | (go_at_call 10; (first | with_reducible refine HD1.out.mono ?_ | with_reducible refine HD0.out.mono ?_); rintro e w3 ⟨rfl, σ3, hl3, hm3, W0, hw0, hmv3⟩
               have K3 := Lib.hid (HK.out w3 hl3.ext)
               have HRD := Lib.hid (do_mid hl3 hm3 (by omega) (by decide) (by decide) (by decide) hlo)
               have HL3 := Lib.hid hl3
               have HMV3 := Lib.hid (And.intro hw0 hmv3)
               unfold opV opCells repV at HRD
               clear hl3 hm3 hw0 hmv3)
            | (go_at_call 11; with_reducible refine HRD.out.mono ?_; rintro e w4 ⟨rfl, hl4, hp4, hmv4⟩
               have K4 := Lib.hid (HK.out w4 hl4.ext)
               have HAL := Lib.hid (alike_pair hp4 (by omega))
               have HL4 := Lib.hid hl4
               have HP4 := Lib.hid hp4
               have HMV4 := Lib.hid hmv4
               clear hl4 hp4 hmv4)
            | (go_at_call 12; with_reducible refine HAL.out.mono ?_; rintro e w5 ⟨rfl, hx5⟩
               have K5 := Lib.hid (HK.out w5 (Ext.step HL4.out.ext hx5))
               have HX5 := Lib.hid hx5
               clear hx5))
        go_wp2_with fail
        go_roundw
        case rel => exact ⟨t + 1, by omega, by go_num, σ3, HL4.out.then HX5.out, HP4.out.then HX5.out⟩
        case measure => simp [intOf]; omega
    · obtain rfl : t = l.length := by omega
      have HC1 := Lib.hid (copy_pair HLI.out HPR.out (by omega))
      go_wp2_with (first | (go_at_call 13; refine HC1.out.mono ?_; rintro e w6 ⟨pc, mc, rfl, σ6, hl6, hp6, hq6⟩; have HL6 := Lib.hid hl6; have HP6 := Lib.hid hp6; have HQ6 := Lib.hid hq6; have HC2 := Lib.hid (copy_ref hl6 hp6 hq6 (by omega)); clear hl6 hp6 hq6) | (go_at_call 14; refine HC2.out.mono ?_; rintro e w7 ⟨rc, rfl, σ7, hl7, hp7, hq7⟩; have HL7 := Lib.hid hl7; have HP7 := Lib.hid hp7; have HQ7 := Lib.hid hq7; clear hl7 hp7 hq7) | fail)
      clear HLI HPR HC1 HC2 HL6 HP6 HQ6
      have hl60 : l.length ≤ 60 := by omega
      go_loopw [10] (fun q wr => ∃ t : Nat, t ≤ more.length ∧ q = .int .i64 t ∧ ∃ σ, Lies w1 wr σ ∧ Pair wr σ 1 2 pb mb rb l.length ∧ Pair wr σ 3 4 pc mc rc (l.length + t)) (fun q _ => more.length - (intOf q).toNat)
      case atStart => exact ⟨0, by omega, rfl, _, HL7.out, HP7.out, HQ7.out⟩
      case round =>
        obtain ⟨t, ht, rfl, σ, hli, hpr0, hpr⟩ := hrel
        obtain ⟨wr, rfl⟩ : ∃ wr' : World, wr' = wr := ⟨_, rfl⟩
        have HLI := Lib.hid hli
        have HPR := Lib.hid hpr
        have HP0 := Lib.hid hpr0
        clear hli hpr hpr0 HL7 HP7 HQ7
        by_cases hlt : t < more.length
        · obtain ⟨b, off, rfl, hcs⟩ := HD.out (by omega)
          obtain ⟨op, hop⟩ : ∃ op, more[t]? = some op := ⟨_, List.getElem?_eq_getElem hlt⟩
          have HK : Hid (∀ W', Ext w1 W' → W'.cell? ⟨b, off + t * 6, none⟩ = some (.int .i64 op.kind) ∧ W'.cell? ⟨b, off + t * 6 + 1, none⟩ = some (encStr op.db) ∧ W'.cell? ⟨b, off + t * 6 + 2, none⟩ = some (encStr op.key) ∧ W'.cell? ⟨b, off + t * 6 + 3, none⟩ = some (encStr op.val) ∧ W'.cell? ⟨b, off + t * 6 + 4, none⟩ = some (.int .i64 op.flags) ∧ W'.cell? ⟨b, off + t * 6 + 5, none⟩ = some (.int .i64 op.n)) := fun W' e => by
            have g : ∀ q u, q < 6 → (opCells op).toList[q]? = some u → W'.cell? ⟨b, off + t * 6 + q, none⟩ = some u := fun q u hq hu => by
              rw [Nat.add_assoc]
              exact (Ext.step HX1.out e).cell (hcs _ _ ((op_at hop hq).trans hu))
            exact ⟨g 0 _ (by omega) rfl, g 1 _ (by omega) rfl, g 2 _ (by omega) rfl, g 3 _ (by omega) rfl, g 4 _ (by omega) rfl, g 5 _ (by omega) rfl⟩
          obtain ⟨x0, x1, x2, x3, x4, x5⟩ := HK.out wr HLI.out.ext
          have HLO := Lib.hid (long_any op wr)
          have b1 : (0 : Int) ≤ (t : Int) := by omega
          have b2 : (t : Int) < (more.length : Int) := by omega
          have HOP := Lib.hid hop
          clear hcs hop
          unfold opV opCells at HLO
          cases hlo : longB op with
          | true =>
            rw [hlo] at HLO
            go_wp2_with (first | (go_at_call 9; refine HLO.out.mono ?_; rintro e w' ⟨rfl, hx⟩; have HX := Lib.hid (Ext.step HX1.out (Ext.step HLI.out.ext hx)); clear hx) | fail)
            go_ret
            exact ⟨rfl, HX.out⟩
          | false =>
            rw [hlo] at HLO
            go_wp2_with (first | (go_at_call 9; refine HLO.out.mono ?_; rintro e wo ⟨rfl, hx⟩; have HX := Lib.hid hx; clear hx) | fail)
            obtain ⟨rep, hdo⟩ := do_pair (HLI.out.then HX.out) (HPR.out.then HX.out) (op := op) (by omega) (by decide) (by decide) (by decide) hlo
            have HDO := Lib.hid hdo
            obtain ⟨y0, y1, y2, y3, y4, y5⟩ := HK.out wo (HLI.out.then HX.out).ext
            have HY := Lib.hid (HK.out wo (HLI.out.then HX.out).ext)
            have HYD := Lib.hid (HK.out wo.drew (Ext.step (HLI.out.then HX.out).ext (drewW wo)))
            have heq := run_neq_rep rep.code rep.key rep.val
            unfold opV opCells repV at HDO
            have HD0 := Lib.hid (HDO.out wo (Ext.rfl' wo))
            have HD1 := Lib.hid (HDO.out wo.drew (drewW wo))
            clear hdo x0 x1 x2 x3 x4 x5 HLO HDO
            go_region_held3 (fun W' => W'.cell? ⟨b, off + t * 6, none⟩ = some (.int .i64 op.kind) ∧ W'.cell? ⟨b, off + t * 6 + 1, none⟩ = some (encStr op.db) ∧ W'.cell? ⟨b, off + t * 6 + 2, none⟩ = some (encStr op.key) ∧ W'.cell? ⟨b, off + t * 6 + 3, none⟩ = some (encStr op.val) ∧ W'.cell? ⟨b, off + t * 6 + 4, none⟩ = some (.int .i64 op.flags) ∧ W'.cell? ⟨b, off + t * 6 + 5, none⟩ = some (.int .i64 op.n))
              (first | with_reducible exact K5.out | with_reducible exact K4.out | with_reducible exact K3.out | with_reducible exact HYD.out | with_reducible exact HY.out)
              (first
                | (go_at_call 10; (first | with_reducible refine HD1.out.mono ?_ | with_reducible refine HD0.out.mono ?_); rintro e w3 ⟨rfl, σ3, hl3, hm3, W0, hw0, hmv3⟩
                   have K3 := Lib.hid (HK.out w3 hl3.ext)
                   have HRD := Lib.hid (do_mid hl3 hm3 (by omega) (by decide) (by decide) (by decide) hlo)
                   have HL3 := Lib.hid hl3
                   have HMV3 := Lib.hid (And.intro hw0 hmv3)
                   unfold opV opCells repV at HRD
                   clear hl3 hm3 hw0 hmv3)
                | (go_at_call 11; with_reducible refine HRD.out.mono ?_; rintro e w4 ⟨rfl, hl4, hp4, hmv4⟩
                   have K4 := Lib.hid (HK.out w4 hl4.ext)
                   have HAL := Lib.hid (alike_pair hp4 (by omega))
                   have HL4 := Lib.hid hl4
                   have HP4 := Lib.hid hp4
                   have HMV4 := Lib.hid hmv4
                   clear hl4 hp4 hmv4)
                | (go_at_call 12; with_reducible refine HAL.out.mono ?_; rintro e w5 ⟨rfl, hx5⟩
                   have K5 := Lib.hid (HK.out w5 (Ext.step HL4.out.ext hx5))
                   have HX5 := Lib.hid hx5
                   clear hx5))
            go_wp2_with fail
            go_roundw
            case rel => exact ⟨t + 1, by omega, by go_num, σ3, HL4.out.then HX5.out, (((HP0.out.then (Ext.step HX.out HMV3.out.1)).moved HMV3.out.2 (by decide) (by decide) (by decide)).moved HMV4.out (by decide) (by decide) (by decide)).then HX5.out, HP4.out.then HX5.out⟩
            case measure => simp [intOf]; omega
        · obtain rfl : t = more.length := by omega
          have HAL := Lib.hid (alike_pair HP0.out (by omega))
          go_wp2_with (first | (go_at_call 12; refine HAL.out.mono ?_; rintro e w9 ⟨rfl, hx9⟩; have HX9 := Lib.hid hx9; clear hx9) | fail)
          go_ret
          exact ⟨rfl, Ext.step HX1.out (Ext.step HLI.out.ext HX9.out)⟩
end Go.Proofs.YtmkhjmldncegcaaGreatDoor
