/-
  WALKS: past.Model.del, of one value among some.
-/
import Derived.Test.YtmkhjmldncegcaaGreatDoorMB
import Derived.Test.YtmkhjmldncegcaaGreatDoorMA
import Derived.LaidEql
import Derived.Stop.Asserts
import Derived.RowKitTokens
set_option linter.unusedVariables false
set_option linter.unusedSimpArgs false
namespace Go.Proofs.YtmkhjmldncegcaaGreatDoor
open Go.RowKit Go.Maps Go.ChangeMaps Go.MapKept

set_option maxHeartbeats 4000000 in
set_option maxRecDepth 100000 in
theorem del_more (σ : Sig) (i pb mb : Nat) (bases : List (S × Value)) (A : ModA) (op : OpA) (w : World) (hM : ModIs w σ i pb mb bases A) (hn : Neat w σ) (hmain : (mget ([] : S) A.l).isSome = true) (hdb : op.db.length ≤ maxLen) (hkey : op.key.length ≤ maxLen)
    (B : BaseA) (bb mb' : Nat) (rows : List (S × Value)) (hf : findA A op.db = (some B, 0)) (hg : mget op.db bases = some (.pointer (some ⟨bb, 0, none⟩))) (hB : BaseIs w σ i op.db bb mb' rows B) (hm : B.m.length ≤ 1000000)
    (hc : (valuesA A op).2.2 = 0) (hlen : (valuesA A op).2.1.length ≤ 12) (hv : op.val ≠ []) (hth : thereA (valuesA A op).2.1 op.val = true) (hne : (valuesA A op).2.1.eraseIdx (placeA (valuesA A op).2.1 op.val) ≠ []) :
    Calls Tryz.prog 44 #[.pointer (some ⟨pb, 0, none⟩), opV op] w fun e w' => e = .returned .nilIface ∧ ∃ σ', ModIs w' σ' i pb mb bases (setBase A op.db ⟨B.flags, mput op.key ((valuesA A op).2.1.eraseIdx (placeA (valuesA A op).2.1 op.val)) B.m⟩) ∧ Moved σ i w σ' w' := by
  have HV := Lib.hid fun o => values_ok σ i pb mb bases A op (w.alloc o) (hM.ext ((Ext.rfl' w).alloc o)) hmain hdb hkey B bb mb' rows hf hg (hB.ext ((Ext.rfl' w).alloc o))
  have HM := Lib.hid hM
  have HB := Lib.hid hB
  obtain ⟨g1, g2, g3, g4, g5⟩ := hB
  have hc1 := cellAt g2 1
  simp at hc1
  have HG := Lib.hid hg
  have HC1 := Lib.hid hc1
  clear g1 g2 g3 g4 g5 hM hf hg hc1
  rw [hc] at HV
  have HLEN := Lib.hid hlen
  clear hlen
  have HVE := Lib.hid hv
  have HTH := Lib.hid hth
  clear hv hth
  have HNE := Lib.hid hne
  clear hne
  unfold opV opCells
  go_enter Tryz.func44, Tryz.ntmps44
  go_wp2_with fail
  refine (HV.out _).mono ?_
  rintro e w1 ⟨bv, lv, rfl, hext, hv0, hv21⟩
  rw [errV_0]
  have HX := Lib.hid hext
  have HV0 := Lib.hid hv0
  clear hv0 hv21
  have hbox := boxAt hext
  have b2 := cellAt hbox 2
  have b3 := cellAt hbox 3
  simp [opCells] at b2 b3
  have c1' := hext.cell (((Ext.rfl' w).alloc (.cells (opCells op) 30 (0, 0))).cell HC1.out)
  clear hext hbox
  obtain ⟨hbv, xs, hlv, hmx, hxs, hrow⟩ := HV0.out trivial
  subst hbv
  have hgl : RowAt w σ (i, .row op.db op.key) lv xs := by
    obtain ⟨lv', h5, h6⟩ := HB.out.2.2.2.2.get_some hmx
    rw [hlv] at h5
    injection h5 with h5
    rw [h5]; exact h6
  have HROW := Lib.hid (owns_ext hrow.1 HX.out)
  have HLAB : Hid (∀ g, lv.ownBlock = some g → g < w.heap.size ∧ σ g = (i, .row op.db op.key)) := Lib.hid fun g e => ⟨(hgl.1.lt g e).2, hgl.2 g e⟩
  have HXS := Lib.hid hxs
  have HLV := Lib.hid hlv
  have HMX := Lib.hid hmx
  clear hrow hgl hxs hlv hmx
  have HBS := Lib.hid (bsS_any lv xs op.val w1 HROW.out (by have : xs.length ≤ 12 := (by have := HLEN.out; rw [HXS.out] at this; exact this); omega))
  obtain ⟨lp, lc, hlvf⟩ : ∃ lp lc, lv = .slice lp xs.length lc := by obtain ⟨_, p, c, h, _⟩ := Sl.ofOwns HROW.out; exact ⟨p, c, h⟩
  subst hlvf
  have HTH' : Hid (thereA xs op.val = true) := by have := HTH.out; rw [HXS.out] at this; exact this
  rw [HTH'.out] at HBS
  go_wp2_with fail
  refine HBS.out.mono ?_
  rintro e w2 ⟨rfl, hq⟩
  have hx2 : Ext w1 w2 := Ext.ofDraws hq
  have b2q := hx2.cell b2
  have b3q := hx2.cell b3
  have c1q := hx2.cell c1'
  have HX2 := Lib.hid hx2
  clear hx2 b2 b3 c1' hq
  obtain ⟨a, r, hv'⟩ : ∃ a r, op.val = a :: r := by
    cases h : op.val with
    | nil => exact absurd h HVE.out
    | cons a r => exact ⟨a, r, rfl⟩
  rw [hv'] at b3q
  clear hv'
  have hpl : placeA xs op.val < xs.length := by have := HTH'.out; unfold thereA at this; simp only [decide_eq_true_eq] at this; exact this.1
  have hxl : xs.length ≤ 12 := by have := HLEN.out; rw [HXS.out] at this; exact this
  have HPQ : Hid (placeA (valuesA A op).2.1 op.val = placeA xs op.val) := by rw [HXS.out]; exact Lib.hid rfl
  generalize placeA xs op.val = pl at hpl HBS HPQ ⊢
  go_wp2_with fail
  have hXw2 : Ext w w2 := Ext.step (Ext.step ((Ext.rfl' w).alloc _) HX.out) HX2.out
  have HXW := Lib.hid hXw2
  have HPL := Lib.hid hpl
  have HI := Lib.hid fun (W3 : World) (hx : Ext w2 W3) => deleteS_own (.slice lp xs.length lc) xs pl W3 (owns_ext HROW.out (Ext.step HX2.out hx)) hpl
  have hw1 : IntKind.i64.wrap ((pl : Int) + 1) = (pl : Int) + 1 := by rw [IntKind.wrap_i64]; omega
  clear hXw2 b3q
  go_region_held3 (fun w' => w'.cell? ⟨bb, 1, none⟩ = some (.map (some mb')) ∧ w'.cell? ⟨w.heap.size, 2, none⟩ = some (encStr op.key))
    (first | exact ⟨c1q, b2q⟩ | exact K5.out | exact K4.out)
    (first
      | (go_at_call 81; refine (HI.out _ (by first | exact Ext.rfl' w2 | exact Ext.drew' (Ext.rfl' w2))).mono ?_; rintro e w4 ⟨v', rfl, hown4, hgrow4, hat4⟩
         have hKK : ∀ g o u, g < w2.heap.size → σ g ≠ (i, .row op.db op.key) ∨ w.heap.size ≤ g → w2.cell? ⟨g, o, none⟩ = some u → w4.cell? ⟨g, o, none⟩ = some u := fun g o u hg hl hc => by
           rw [World.cell?_of_block (w := w2) (w' := w4) (a := ⟨g, o, none⟩) ?_]; exact hc
           exact hgrow4.block g hg (fun e => by
             have := HLAB.out _ e.symm
             rcases hl with hl | hl
             · exact hl this.2
             · omega)
         have K4 := Lib.hid (And.intro (hKK bb 1 _ (lt_of_cell c1q) (.inl (by rw [HB.out.1]; simp)) c1q) (hKK w.heap.size 2 _ (lt_of_cell b2q) (.inr (Nat.le_refl _)) b2q))
         obtain ⟨w5, hr, hM5, ht5⟩ := (HB.out.2.2.2.1.same (w' := w4) (by
            rw [hgrow4.block mb' (by have := HB.out.2.2.2.1.lt; have := HXW.out.size; simp; omega) (fun e => by
              have h1 := (HLAB.out _ e.symm).2
              rw [HB.out.2.2.1] at h1
              cases h1)]
            exact HXW.out.block mb' HB.out.2.2.2.1.lt)).store (t := 56) (e := 53) keyedS Tryz.underlying56 (by have := HB.out.2.2.2.2.length; unfold maxLen; omega) (keyS hkey) v'
         have HO4 := Lib.hid hown4
         have HG4 := Lib.hid hgrow4
         have HA4 := Lib.hid hat4
         have HM5 := Lib.hid hM5
         have HT5 := Lib.hid ht5
         have K5 : Hid (w5.cell? ⟨bb, 1, none⟩ = some (.map (some mb')) ∧ w5.cell? ⟨w.heap.size, 2, none⟩ = some (encStr op.key)) := by
           have hne : bb ≠ mb' := fun e => by have h1 := HB.out.1; have h2 := HB.out.2.2.1; rw [e, h2] at h1; cases h1
           have hne2 : w.heap.size ≠ mb' := fun e => by have := HB.out.2.2.2.1.lt; omega
           refine ⟨?_, ?_⟩
           · rw [World.cell?_of_block (w := w4) (w' := w5) (a := ⟨bb, 1, none⟩) (mapTurned_other ht5 hne)]; exact K4.out.1
           · rw [World.cell?_of_block (w := w4) (w' := w5) (a := ⟨w.heap.size, 2, none⟩) (mapTurned_other ht5 hne2)]; exact K4.out.2
         clear hown4 hgrow4 hat4 hM5 ht5 hKK))
  obtain ⟨b1r, b2r⟩ := K5.out
  have hl : (xs.eraseIdx pl).length = xs.length - 1 := by rw [List.length_eraseIdx]; simp [HPL.out]
  have ho := HO4.out
  rw [← hl] at ho
  obtain ⟨vp, vc, hvf⟩ : ∃ vp vc, v' = .slice vp (xs.eraseIdx pl).length vc := by obtain ⟨_, p, c, h, _⟩ := Sl.ofOwns ho; exact ⟨p, c, h⟩
  have HPI := Lib.hid (put_ins hn HM.out HB.out HG.out (by first | exact HXW.out | exact HXW.out.drew) HLAB.out ho HG4.out (.inl HA4.out) HM5.out HT5.out)
  have hlk := fun n => (HM5.out.ext (Ext.drewN w5 n)).look1 (t := 56) (e := 53) keyedS Tryz.underlying56 (z := .slice none 0 0) (Tryz.zeroValue53 _) (keyS hkey)
  rw [mget_put_same] at hlk
  simp only [Option.getD_some] at hlk
  subst hvf
  clear ho hl
  go_wp2_with fail
  have hz : (((xs.eraseIdx pl).length : Int) == 0) = false := by
    have h := HNE.out
    rw [HPQ.out, HXS.out] at h
    have : (xs.eraseIdx pl).length ≠ 0 := fun e => h (List.eq_nil_of_length_eq_zero e)
    rw [beq_eq_false_iff_ne]; omega
  go_quiet (fail)
  go_wp2
  go_ret
  obtain ⟨σ', h1, h2⟩ := HPI.out
  refine ⟨rfl, σ', ?_, h2.thenExt (Ext.drewN _ _)⟩
  rw [HPQ.out, HXS.out]
  exact h1.ext (Ext.drewN _ _)

set_option maxHeartbeats 4000000 in
set_option maxRecDepth 100000 in
theorem del_last (σ : Sig) (i pb mb : Nat) (bases : List (S × Value)) (A : ModA) (op : OpA) (w : World) (hM : ModIs w σ i pb mb bases A) (hn : Neat w σ) (hmain : (mget ([] : S) A.l).isSome = true) (hdb : op.db.length ≤ maxLen) (hkey : op.key.length ≤ maxLen)
    (B : BaseA) (bb mb' : Nat) (rows : List (S × Value)) (hf : findA A op.db = (some B, 0)) (hg : mget op.db bases = some (.pointer (some ⟨bb, 0, none⟩))) (hB : BaseIs w σ i op.db bb mb' rows B) (hm : B.m.length ≤ 1000000)
    (hc : (valuesA A op).2.2 = 0) (hlen : (valuesA A op).2.1.length ≤ 12) (hv : op.val ≠ []) (hth : thereA (valuesA A op).2.1 op.val = true) (hne : (valuesA A op).2.1.eraseIdx (placeA (valuesA A op).2.1 op.val) = []) :
    Calls Tryz.prog 44 #[.pointer (some ⟨pb, 0, none⟩), opV op] w fun e w' => e = .returned .nilIface ∧ ∃ σ', ModIs w' σ' i pb mb bases (setBase A op.db ⟨B.flags, mdel op.key B.m⟩) ∧ Moved σ i w σ' w' := by
  have HV := Lib.hid fun o => values_ok σ i pb mb bases A op (w.alloc o) (hM.ext ((Ext.rfl' w).alloc o)) hmain hdb hkey B bb mb' rows hf hg (hB.ext ((Ext.rfl' w).alloc o))
  have HM := Lib.hid hM
  have HB := Lib.hid hB
  obtain ⟨g1, g2, g3, g4, g5⟩ := hB
  have hc1 := cellAt g2 1
  simp at hc1
  have HG := Lib.hid hg
  have HC1 := Lib.hid hc1
  clear g1 g2 g3 g4 g5 hM hf hg hc1
  rw [hc] at HV
  have HLEN := Lib.hid hlen
  clear hlen
  have HVE := Lib.hid hv
  have HTH := Lib.hid hth
  clear hv hth
  have HNE := Lib.hid hne
  clear hne
  unfold opV opCells
  go_enter Tryz.func44, Tryz.ntmps44
  go_wp2_with fail
  refine (HV.out _).mono ?_
  rintro e w1 ⟨bv, lv, rfl, hext, hv0, hv21⟩
  rw [errV_0]
  have HX := Lib.hid hext
  have HV0 := Lib.hid hv0
  clear hv0 hv21
  have hbox := boxAt hext
  have b2 := cellAt hbox 2
  have b3 := cellAt hbox 3
  simp [opCells] at b2 b3
  have c1' := hext.cell (((Ext.rfl' w).alloc (.cells (opCells op) 30 (0, 0))).cell HC1.out)
  clear hext hbox
  obtain ⟨hbv, xs, hlv, hmx, hxs, hrow⟩ := HV0.out trivial
  subst hbv
  have hgl : RowAt w σ (i, .row op.db op.key) lv xs := by
    obtain ⟨lv', h5, h6⟩ := HB.out.2.2.2.2.get_some hmx
    rw [hlv] at h5
    injection h5 with h5
    rw [h5]; exact h6
  have HROW := Lib.hid (owns_ext hrow.1 HX.out)
  have HLAB : Hid (∀ g, lv.ownBlock = some g → g < w.heap.size ∧ σ g = (i, .row op.db op.key)) := Lib.hid fun g e => ⟨(hgl.1.lt g e).2, hgl.2 g e⟩
  have HXS := Lib.hid hxs
  have HLV := Lib.hid hlv
  have HMX := Lib.hid hmx
  clear hrow hgl hxs hlv hmx
  have HBS := Lib.hid (bsS_any lv xs op.val w1 HROW.out (by have : xs.length ≤ 12 := (by have := HLEN.out; rw [HXS.out] at this; exact this); omega))
  obtain ⟨lp, lc, hlvf⟩ : ∃ lp lc, lv = .slice lp xs.length lc := by obtain ⟨_, p, c, h, _⟩ := Sl.ofOwns HROW.out; exact ⟨p, c, h⟩
  subst hlvf
  have HTH' : Hid (thereA xs op.val = true) := by have := HTH.out; rw [HXS.out] at this; exact this
  rw [HTH'.out] at HBS
  go_wp2_with fail
  refine HBS.out.mono ?_
  rintro e w2 ⟨rfl, hq⟩
  have hx2 : Ext w1 w2 := Ext.ofDraws hq
  have b2q := hx2.cell b2
  have b3q := hx2.cell b3
  have c1q := hx2.cell c1'
  have HX2 := Lib.hid hx2
  clear hx2 b2 b3 c1' hq
  obtain ⟨a, r, hv'⟩ : ∃ a r, op.val = a :: r := by
    cases h : op.val with
    | nil => exact absurd h HVE.out
    | cons a r => exact ⟨a, r, rfl⟩
  rw [hv'] at b3q
  clear hv'
  have hpl : placeA xs op.val < xs.length := by have := HTH'.out; unfold thereA at this; simp only [decide_eq_true_eq] at this; exact this.1
  have hxl : xs.length ≤ 12 := by have := HLEN.out; rw [HXS.out] at this; exact this
  have HPQ : Hid (placeA (valuesA A op).2.1 op.val = placeA xs op.val) := by rw [HXS.out]; exact Lib.hid rfl
  generalize placeA xs op.val = pl at hpl HBS HPQ ⊢
  go_wp2_with fail
  have hXw2 : Ext w w2 := Ext.step (Ext.step ((Ext.rfl' w).alloc _) HX.out) HX2.out
  have HXW := Lib.hid hXw2
  have HPL := Lib.hid hpl
  have HI := Lib.hid fun (W3 : World) (hx : Ext w2 W3) => deleteS_own (.slice lp xs.length lc) xs pl W3 (owns_ext HROW.out (Ext.step HX2.out hx)) hpl
  have hw1 : IntKind.i64.wrap ((pl : Int) + 1) = (pl : Int) + 1 := by rw [IntKind.wrap_i64]; omega
  clear hXw2 b3q
  go_region_held3 (fun w' => w'.cell? ⟨bb, 1, none⟩ = some (.map (some mb')) ∧ w'.cell? ⟨w.heap.size, 2, none⟩ = some (encStr op.key))
    (first | exact ⟨c1q, b2q⟩ | exact K5.out | exact K4.out)
    (first
      | (go_at_call 81; refine (HI.out _ (by first | exact Ext.rfl' w2 | exact Ext.drew' (Ext.rfl' w2))).mono ?_; rintro e w4 ⟨v', rfl, hown4, hgrow4, hat4⟩
         have hKK : ∀ g o u, g < w2.heap.size → σ g ≠ (i, .row op.db op.key) ∨ w.heap.size ≤ g → w2.cell? ⟨g, o, none⟩ = some u → w4.cell? ⟨g, o, none⟩ = some u := fun g o u hg hl hc => by
           rw [World.cell?_of_block (w := w2) (w' := w4) (a := ⟨g, o, none⟩) ?_]; exact hc
           exact hgrow4.block g hg (fun e => by
             have := HLAB.out _ e.symm
             rcases hl with hl | hl
             · exact hl this.2
             · omega)
         have K4 := Lib.hid (And.intro (hKK bb 1 _ (lt_of_cell c1q) (.inl (by rw [HB.out.1]; simp)) c1q) (hKK w.heap.size 2 _ (lt_of_cell b2q) (.inr (Nat.le_refl _)) b2q))
         obtain ⟨w5, hr, hM5, ht5⟩ := (HB.out.2.2.2.1.same (w' := w4) (by
            rw [hgrow4.block mb' (by have := HB.out.2.2.2.1.lt; have := HXW.out.size; simp; omega) (fun e => by
              have h1 := (HLAB.out _ e.symm).2
              rw [HB.out.2.2.1] at h1
              cases h1)]
            exact HXW.out.block mb' HB.out.2.2.2.1.lt)).store (t := 56) (e := 53) keyedS Tryz.underlying56 (by have := HB.out.2.2.2.2.length; unfold maxLen; omega) (keyS hkey) v'
         have HO4 := Lib.hid hown4
         have HG4 := Lib.hid hgrow4
         have HA4 := Lib.hid hat4
         have HM5 := Lib.hid hM5
         have HT5 := Lib.hid ht5
         have K5 : Hid (w5.cell? ⟨bb, 1, none⟩ = some (.map (some mb')) ∧ w5.cell? ⟨w.heap.size, 2, none⟩ = some (encStr op.key)) := by
           have hne : bb ≠ mb' := fun e => by have h1 := HB.out.1; have h2 := HB.out.2.2.1; rw [e, h2] at h1; cases h1
           have hne2 : w.heap.size ≠ mb' := fun e => by have := HB.out.2.2.2.1.lt; omega
           refine ⟨?_, ?_⟩
           · rw [World.cell?_of_block (w := w4) (w' := w5) (a := ⟨bb, 1, none⟩) (mapTurned_other ht5 hne)]; exact K4.out.1
           · rw [World.cell?_of_block (w := w4) (w' := w5) (a := ⟨w.heap.size, 2, none⟩) (mapTurned_other ht5 hne2)]; exact K4.out.2
         clear hown4 hgrow4 hat4 hM5 ht5 hKK))
  obtain ⟨b1r, b2r⟩ := K5.out
  have hl : (xs.eraseIdx pl).length = xs.length - 1 := by rw [List.length_eraseIdx]; simp [HPL.out]
  have ho := HO4.out
  rw [← hl] at ho
  obtain ⟨vp, vc, hvf⟩ : ∃ vp vc, v' = .slice vp (xs.eraseIdx pl).length vc := by obtain ⟨_, p, c, h, _⟩ := Sl.ofOwns ho; exact ⟨p, c, h⟩
  have HPI := Lib.hid (put_ins hn HM.out HB.out HG.out (by first | exact HXW.out | exact HXW.out.drew) HLAB.out ho HG4.out (.inl HA4.out) HM5.out HT5.out)
  have hlk := fun n => (HM5.out.ext (Ext.drewN w5 n)).look1 (t := 56) (e := 53) keyedS Tryz.underlying56 (z := .slice none 0 0) (Tryz.zeroValue53 _) (keyS hkey)
  rw [mget_put_same] at hlk
  simp only [Option.getD_some] at hlk
  subst hvf
  clear ho hl
  go_wp2_with fail
  have hys : xs.eraseIdx pl = [] := by
    have h := HNE.out
    rw [HPQ.out, HXS.out] at h
    exact h
  rw [hys] at HPI hlk ⊢
  obtain ⟨σ', hM', hmv⟩ := HPI.out
  have hB1 : BaseIs w5 σ' i op.db bb mb' (mput op.key (.slice vp ([] : List S).length vc) rows) ⟨B.flags, mput op.key [] B.m⟩ := by
    obtain ⟨bv, hb1, bb1, mb1, rows1, hb2, h1, h2, h3, h4, h5⟩ := hM'.2.2.2.2.get_some (mget_set_same (v := (⟨B.flags, mput op.key [] B.m⟩ : BaseA)) (by rw [← HM.out.2.2.2.2.has, HG.out]; rfl))
    rw [HG.out] at hb1
    injection hb1 with hb1
    rw [← hb1] at hb2
    injection hb2 with hb2
    injection hb2 with hb2
    injection hb2 with hb2 _ _
    subst hb2
    have hcc := cellAt h2 1
    rw [b1r] at hcc
    simp at hcc
    subst hcc
    rw [hys] at HM5
    rw [← h4.unique HM5.out]
    exact ⟨h1, h2, h3, h4, h5⟩
  have hdel : ∀ n, ∃ w6, (Builtin.delete_ #[56, 9] 0 #[.map (some mb'), encStr op.key]).run Tryz.prog (w5.drewN n) = .ok (.tuple #[]) w6 ∧ MapOf w6 9 mb' (mdel op.key (mput op.key (.slice vp ([] : List S).length vc) rows)) ∧ (w5.drewN n).mapTurned w6 mb' := fun n =>
    (hB1.2.2.2.1.ext (Ext.drewN w5 n)).drop (t := 56) (e := 53) keyedS Tryz.underlying56 (keyS hkey) 0
  obtain ⟨W6, h6⟩ := Classical.axiomOfChoice hdel
  have hr6 := fun n => (h6 n).1
  have H6 := Lib.hid fun n => (h6 n).2
  have HB1 := Lib.hid hB1
  have HM1 := Lib.hid hM'
  have HMV := Lib.hid hmv
  clear hB1 hM' hmv hdel h6 hys
  go_quiet (fail)
  go_wp2
  go_region
  go_wp2
  go_ret
  have hd := fun n => del_key HMV.out.neat HM1.out HB1.out HG.out (Ext.drewN w5 n) (H6.out n).1 (H6.out n).2
  refine ⟨rfl, σ', ?_, HMV.out.trans (hd _).2⟩
  have he : setBase (setBase A op.db ⟨B.flags, mput op.key [] B.m⟩) op.db ⟨B.flags, mdel op.key (mput op.key [] B.m)⟩ = setBase A op.db ⟨B.flags, mdel op.key B.m⟩ := by
    unfold setBase
    simp only [mset_set, mdel_put]
  rw [← he]
  exact (hd _).1

theorem del_any (σ : Sig) (i pb mb : Nat) (bases : List (S × Value)) (A : ModA) (op : OpA) (w : World) (m : Nat) (hM : ModIs w σ i pb mb bases A) (hn : Neat w σ) (hs : Sound A m) (hm : m ≤ 1000000) (hdb : op.db.length ≤ maxLen) (hkey : op.key.length ≤ maxLen) :
    Calls Tryz.prog 44 #[.pointer (some ⟨pb, 0, none⟩), opV op] w fun e w' => e = .returned (errV (delA A op).2) ∧ ∃ σ', ModIs w' σ' i pb mb bases (delA A op).1 ∧ Moved σ i w σ' w' := by
  by_cases h0 : (findA A op.db).2 = 0
  · obtain ⟨B, bb, mb', rows, hf, hgA, hg, hB⟩ := find_at hM hs.main h0
    have hBm : B.m.length ≤ 1000000 := Nat.le_trans (hs.keys _ _ (mget_mem hgA)) hm
    rcases vals_codes hf with hc | hc | hc | hc
    · obtain ⟨xs, h1, h2, h3⟩ := vals_found hf hc
      have hlen : (valuesA A op).2.1.length ≤ 12 := by rw [h2]; exact (hs.vals _ _ (mget_mem hgA) _ (mget_mem h1)).2
      have hP : delA A op = if op.val = [] then (setBase A op.db ⟨B.flags, mdel op.key B.m⟩, 0)
          else if thereA (valuesA A op).2.1 op.val = false then (A, 21)
          else if (valuesA A op).2.1.eraseIdx (placeA (valuesA A op).2.1 op.val) = [] then (setBase A op.db ⟨B.flags, mdel op.key B.m⟩, 0)
          else (setBase A op.db ⟨B.flags, mput op.key ((valuesA A op).2.1.eraseIdx (placeA (valuesA A op).2.1 op.val)) B.m⟩, 0) := by
        unfold delA
        rw [if_neg (by rw [hc]; simp), h3]
        rfl
      rw [hP]
      by_cases hv : op.val = []
      · rw [if_pos hv]
        exact del_all σ i pb mb bases A op w hM hn hs.main hdb hkey B bb mb' rows hf hg hB hBm hc hlen hv
      · rw [if_neg hv]
        cases hth : thereA (valuesA A op).2.1 op.val with
        | false =>
          rw [if_pos rfl]
          exact quiet_way hM hn rfl (del_not σ i pb mb bases A op w hM hn hs.main hdb hkey B bb mb' rows hf hg hB hBm hc hlen hv hth)
        | true =>
          rw [if_neg (by simp)]
          by_cases hne : (valuesA A op).2.1.eraseIdx (placeA (valuesA A op).2.1 op.val) = []
          · rw [if_pos hne]
            exact del_last σ i pb mb bases A op w hM hn hs.main hdb hkey B bb mb' rows hf hg hB hBm hc hlen hv hth hne
          · rw [if_neg hne]
            exact del_more σ i pb mb bases A op w hM hn hs.main hdb hkey B bb mb' rows hf hg hB hBm hc hlen hv hth hne
    all_goals
      have hP : delA A op = (A, (valuesA A op).2.2) := by unfold delA; rw [if_pos (by rw [hc]; decide)]
      rw [hP, hc]
    · exact quiet_way hM hn rfl (del_vals21 σ i pb mb bases A op w hM hn hs.main hdb hkey B bb mb' rows hf hg hB hBm hc)
    · exact quiet_way hM hn rfl (del_vals22 σ i pb mb bases A op w hM hn hs.main hdb hkey B bb mb' rows hf hg hB hBm hc)
    · exact quiet_way hM hn rfl (del_vals23 σ i pb mb bases A op w hM hn hs.main hdb hkey B bb mb' rows hf hg hB hBm hc)
  · have hv : (valuesA A op).2.2 = (findA A op.db).2 := by unfold valuesA; rw [if_pos h0]
    have hP : delA A op = (A, (findA A op.db).2) := by unfold delA; rw [if_pos (by rw [hv]; exact h0), hv]
    rw [hP]
    exact quiet_way hM hn rfl (del_err σ i pb mb bases A op w hM hs.main hdb h0)
end Go.Proofs.YtmkhjmldncegcaaGreatDoor

/-
  WALKS: past.Model.name.
-/
set_option linter.unusedVariables false
set_option linter.unusedSimpArgs false
namespace Go.Proofs.YtmkhjmldncegcaaGreatDoor
open Go.RowKit Go.Maps Go.ChangeMaps Go.MapKept

/-- Behind a new database's making. -/
theorem name_new {σ : Sig} {i pb mb : Nat} {bases : List (S × Value)} {A : ModA} {w w1 w2 : World} {db : S} {fl : Int} (hn : Neat w σ) (hM : ModIs w σ i pb mb bases A) (hget : mget db A.l = none) (e1 : Ext w w1)
    (hM2 : MapOf w2 9 mb (mput db (.pointer (some ⟨w1.heap.size + 1, 0, none⟩)) bases))
    (ht : ((w1.alloc (.map #[] 0)).alloc (.cells #[.int .i64 fl, .map (some w1.heap.size)] 58)).mapTurned w2 mb) :
    ∃ σ', ModIs w2 σ' i pb mb (mput db (.pointer (some ⟨w1.heap.size + 1, 0, none⟩)) bases) { A with l := mput db ⟨fl, []⟩ A.l } ∧ Moved σ i w σ' w2 := by
  have s1 := e1.size
  obtain ⟨h1, h2, h3, h4, h5⟩ := hM
  have hlt := h4.lt
  have l2 := lt_heap h2
  have e3 : Ext w ((w1.alloc (.map #[] 0)).alloc (.cells #[.int .i64 fl, .map (some w1.heap.size)] 58)) := (e1.alloc _).alloc _
  have s2 := mapTurned_size ht
  simp at s2
  have hblk : ∀ k, k < w.heap.size → k ≠ mb → w2.heap[k]? = w.heap[k]? := fun k hk hne => by rw [mapTurned_other ht hne]; exact e3.block k hk
  refine ⟨lay (lay σ w1.heap.size (i, .vals db)) (w1.heap.size + 1) (i, .base db), ?_, fun k hk => by rw [lay_other (by omega), lay_other (by omega)], fun k hk => ?_, ?_⟩
  · have k1 : Keep (fun l => l ≠ (i, .names)) σ w (lay (lay σ w1.heap.size (i, .vals db)) (w1.heap.size + 1) (i, .base db)) w2 := fun k hk hp =>
      ⟨hblk k hk (fun e => hp (by rw [e]; exact h3)), by rw [lay_other (by omega), lay_other (by omega)]⟩
    refine ⟨by rw [(k1 pb l2 (by rw [h1]; simp)).2, h1], by rw [(k1 pb l2 (by rw [h1]; simp)).1, h2], by rw [lay_other (by omega), lay_other (by omega)]; exact h3, hM2, ?_⟩
    refine Beside.put (R := fun n v B => BaseAt w2 (lay (lay σ w1.heap.size (i, .vals db)) (w1.heap.size + 1) (i, .base db)) i n v B) ⟨w1.heap.size + 1, w1.heap.size, [], rfl, ?_, ?_, ?_, ?_, .nil⟩ (h5.imp fun n v B hb => BaseAt.keep hb k1 (by simp) (by simp) (by simp))
    · rw [lay_same]
    · rw [mapTurned_other ht (by omega)]
      have := heap_new (w1.alloc (.map #[] 0)) (.cells #[.int .i64 fl, .map (some w1.heap.size)] 58 (0, 0))
      simpa using this
    · rw [lay_other (by omega), lay_same]
    · have h := (MapOf.made (κ := S) w1 9).ext ((Ext.rfl' _).alloc (.cells #[.int .i64 fl, .map (some w1.heap.size)] 58))
      exact h.same (mapTurned_other ht (by omega))
  · rw [lay_other (by omega), lay_other (by omega)]; exact hn k (by omega)
  · have o := Only.ofMap ht
    exact ⟨by rw [o.os, e3.os], by rw [o.tape, e3.tape], by rw [o.output, e3.output], by omega, fun k hk hp => hblk k hk (fun e => hp (by rw [e, h3]))⟩

theorem find_codes {A : ModA} {db : S} : (findA A db).2 = 0 ∨ (findA A db).2 = 21 ∨ (findA A db).2 = 22 ∨ (findA A db).2 = 23 := by
  unfold findA
  split
  · simp
  · split
    · simp
    · split
      · simp
      · split <;> simp
theorem find_21 {A : ModA} {db : S} (h : (findA A db).2 = 21) : mget db A.l = none := by
  unfold findA at h
  split at h
  · exact absurd (show (0 : Int) = 21 from h) (by decide)
  · split at h
    · exact absurd h (by decide)
    · split at h
      · exact absurd h (by decide)
      · split at h
        · rename_i h4; simpa using h4
        · exact absurd (show (0 : Int) = 21 from h) (by decide)

set_option maxHeartbeats 4000000 in
set_option maxRecDepth 100000 in
theorem name_empty (σ : Sig) (i pb mb : Nat) (bases : List (S × Value)) (A : ModA) (op : OpA) (w : World) (hM : ModIs w σ i pb mb bases A) (hn : Neat w σ) (hmain : (mget ([] : S) A.l).isSome = true) (hdb : op.db.length ≤ maxLen)
    (hd : op.db = []) :
    Calls Tryz.prog 45 #[.pointer (some ⟨pb, 0, none⟩), opV op] w fun e w' => e = .returned (.iface 71 (.int .i64 22)) ∧ Ext w w' := by
  have HM := Lib.hid hM
  obtain ⟨h1, h2, h3, h4, h5⟩ := hM
  have c0 := ((Ext.rfl' w).alloc (.cells (opCells op) 30 (0, 0))).cell (show w.cell? ⟨pb, 0, none⟩ = some (.map (some mb)) by rw [cellAt h2 0]; rfl)
  have hlen := fun ty n => (h4.ext (below_drewN ((Ext.rfl' w).alloc (.cells (opCells op) 30 (0, 0))) n)).len (t := 59) (e := 55) Tryz.underlying59 ty
  unfold opCells at c0 hlen
  clear h1 h2 h3 h4 h5

  unfold opV opCells
  rw [hd] at c0 hlen ⊢
  have E3 := run_eql_nil_errno
  go_enter Tryz.func45, Tryz.ntmps45
  go_wp2
  go_ret
  exact ⟨rfl, by first | exact below_drewN ((Ext.rfl' w).alloc _) _ | exact (Ext.rfl' w).alloc _⟩

set_option maxHeartbeats 4000000 in
set_option maxRecDepth 100000 in
theorem name_same (σ : Sig) (i pb mb : Nat) (bases : List (S × Value)) (A : ModA) (op : OpA) (w : World) (hM : ModIs w σ i pb mb bases A) (hn : Neat w σ) (hmain : (mget ([] : S) A.l).isSome = true) (hdb : op.db.length ≤ maxLen)
    (hne : op.db ≠ []) (B : BaseA) (bb mb' : Nat) (rows : List (S × Value)) (hf : findA A op.db = (some B, 0)) (hg : mget op.db bases = some (.pointer (some ⟨bb, 0, none⟩))) (hB : BaseIs w σ i op.db bb mb' rows B) (hfl : (B.flags == op.flags) = true) :
    Calls Tryz.prog 45 #[.pointer (some ⟨pb, 0, none⟩), opV op] w fun e w' => e = .returned (.nilIface) ∧ Ext w w' := by
  have HC := Lib.hid (find_call hM hmain hdb hf hg)
  obtain ⟨a, r, hdd⟩ : ∃ a r, op.db = a :: r := by cases h : op.db with | nil => exact absurd h hne | cons a r => exact ⟨a, r, rfl⟩
  have cb := ((Ext.rfl' w).alloc (.cells (opCells op) 30 (0, 0))).cell (show w.cell? ⟨bb, 0, none⟩ = some (.int .i64 B.flags) by rw [cellAt hB.2.1 0]; rfl)
  unfold opCells at cb
  clear hf hg hB
  have HM := Lib.hid hM
  obtain ⟨h1, h2, h3, h4, h5⟩ := hM
  have c0 := ((Ext.rfl' w).alloc (.cells (opCells op) 30 (0, 0))).cell (show w.cell? ⟨pb, 0, none⟩ = some (.map (some mb)) by rw [cellAt h2 0]; rfl)
  have hlen := fun ty n => (h4.ext (below_drewN ((Ext.rfl' w).alloc (.cells (opCells op) 30 (0, 0))) n)).len (t := 59) (e := 55) Tryz.underlying59 ty
  unfold opCells at c0 hlen
  clear h1 h2 h3 h4 h5

  unfold opV opCells
  rw [hdd] at c0 hlen HC cb ⊢
  clear hne
  have E1 := run_eql_errno
  have E2 := run_neq_errno
  have E3 := run_eql_nil_errno
  have E4 := run_neq_nil_errno
  go_enter Tryz.func45, Tryz.ntmps45
  go_wp2_with (first | (go_at_call 77; refine (HC.out _).mono ?_; rintro e w' ⟨rfl, rfl⟩) | fail)
  go_quiet (fail)
  go_wp2
  go_ret
  exact ⟨rfl, by first | exact below_drewN ((Ext.rfl' w).alloc _) _ | exact (Ext.rfl' w).alloc _⟩

set_option maxHeartbeats 4000000 in
set_option maxRecDepth 100000 in
theorem name_kind (σ : Sig) (i pb mb : Nat) (bases : List (S × Value)) (A : ModA) (op : OpA) (w : World) (hM : ModIs w σ i pb mb bases A) (hn : Neat w σ) (hmain : (mget ([] : S) A.l).isSome = true) (hdb : op.db.length ≤ maxLen)
    (hne : op.db ≠ []) (B : BaseA) (bb mb' : Nat) (rows : List (S × Value)) (hf : findA A op.db = (some B, 0)) (hg : mget op.db bases = some (.pointer (some ⟨bb, 0, none⟩))) (hB : BaseIs w σ i op.db bb mb' rows B) (hfl : (B.flags == op.flags) = false) :
    Calls Tryz.prog 45 #[.pointer (some ⟨pb, 0, none⟩), opV op] w fun e w' => e = .returned (.iface 71 (.int .i64 23)) ∧ Ext w w' := by
  have HC := Lib.hid (find_call hM hmain hdb hf hg)
  obtain ⟨a, r, hdd⟩ : ∃ a r, op.db = a :: r := by cases h : op.db with | nil => exact absurd h hne | cons a r => exact ⟨a, r, rfl⟩
  have cb := ((Ext.rfl' w).alloc (.cells (opCells op) 30 (0, 0))).cell (show w.cell? ⟨bb, 0, none⟩ = some (.int .i64 B.flags) by rw [cellAt hB.2.1 0]; rfl)
  unfold opCells at cb
  clear hf hg hB
  have HM := Lib.hid hM
  obtain ⟨h1, h2, h3, h4, h5⟩ := hM
  have c0 := ((Ext.rfl' w).alloc (.cells (opCells op) 30 (0, 0))).cell (show w.cell? ⟨pb, 0, none⟩ = some (.map (some mb)) by rw [cellAt h2 0]; rfl)
  have hlen := fun ty n => (h4.ext (below_drewN ((Ext.rfl' w).alloc (.cells (opCells op) 30 (0, 0))) n)).len (t := 59) (e := 55) Tryz.underlying59 ty
  unfold opCells at c0 hlen
  clear h1 h2 h3 h4 h5

  unfold opV opCells
  rw [hdd] at c0 hlen HC cb ⊢
  clear hne
  have E1 := run_eql_errno
  have E2 := run_neq_errno
  have E3 := run_eql_nil_errno
  have E4 := run_neq_nil_errno
  go_enter Tryz.func45, Tryz.ntmps45
  go_wp2_with (first | (go_at_call 77; refine (HC.out _).mono ?_; rintro e w' ⟨rfl, rfl⟩) | fail)
  go_quiet (fail)
  go_wp2
  go_ret
  exact ⟨rfl, by first | exact below_drewN ((Ext.rfl' w).alloc _) _ | exact (Ext.rfl' w).alloc _⟩

set_option maxHeartbeats 4000000 in
set_option maxRecDepth 100000 in
theorem name_find22 (σ : Sig) (i pb mb : Nat) (bases : List (S × Value)) (A : ModA) (op : OpA) (w : World) (hM : ModIs w σ i pb mb bases A) (hn : Neat w σ) (hmain : (mget ([] : S) A.l).isSome = true) (hdb : op.db.length ≤ maxLen)
    (hne : op.db ≠ []) (hc : (findA A op.db).2 = 22) :
    Calls Tryz.prog 45 #[.pointer (some ⟨pb, 0, none⟩), opV op] w fun e w' => e = .returned (.iface 71 (.int .i64 22)) ∧ Ext w w' := by
  have HC : Hid (∀ o, Calls Tryz.prog 77 #[.pointer (some ⟨pb, 0, none⟩), encStr op.db] (w.alloc o) fun e w' => e = .returned (.tuple #[.pointer none, .iface 71 (.int .i64 22)]) ∧ w' = w.alloc o) := fun o => by
    have h := find_any σ i pb mb bases A op.db (w.alloc o) (hM.ext ((Ext.rfl' w).alloc o)) hmain hdb
    unfold findV at h
    rw [find_err (by rw [hc]; decide), hc, errV_ne (by decide)] at h
    exact h
  obtain ⟨a, r, hdd⟩ : ∃ a r, op.db = a :: r := by cases h : op.db with | nil => exact absurd h hne | cons a r => exact ⟨a, r, rfl⟩
  clear hc
  have HM := Lib.hid hM
  obtain ⟨h1, h2, h3, h4, h5⟩ := hM
  have c0 := ((Ext.rfl' w).alloc (.cells (opCells op) 30 (0, 0))).cell (show w.cell? ⟨pb, 0, none⟩ = some (.map (some mb)) by rw [cellAt h2 0]; rfl)
  have hlen := fun ty n => (h4.ext (below_drewN ((Ext.rfl' w).alloc (.cells (opCells op) 30 (0, 0))) n)).len (t := 59) (e := 55) Tryz.underlying59 ty
  unfold opCells at c0 hlen
  clear h1 h2 h3 h4 h5

  unfold opV opCells
  rw [hdd] at c0 hlen HC ⊢
  clear hne
  have E1 := run_eql_errno
  have E2 := run_neq_errno
  have E3 := run_eql_nil_errno
  have E4 := run_neq_nil_errno
  go_enter Tryz.func45, Tryz.ntmps45
  go_wp2_with (first | (go_at_call 77; refine (HC.out _).mono ?_; rintro e w' ⟨rfl, rfl⟩) | fail)
  go_quiet (fail)
  go_wp2
  go_ret
  exact ⟨rfl, by first | exact below_drewN ((Ext.rfl' w).alloc _) _ | exact (Ext.rfl' w).alloc _⟩

set_option maxHeartbeats 4000000 in
set_option maxRecDepth 100000 in
theorem name_find23 (σ : Sig) (i pb mb : Nat) (bases : List (S × Value)) (A : ModA) (op : OpA) (w : World) (hM : ModIs w σ i pb mb bases A) (hn : Neat w σ) (hmain : (mget ([] : S) A.l).isSome = true) (hdb : op.db.length ≤ maxLen)
    (hne : op.db ≠ []) (hc : (findA A op.db).2 = 23) :
    Calls Tryz.prog 45 #[.pointer (some ⟨pb, 0, none⟩), opV op] w fun e w' => e = .returned (.iface 71 (.int .i64 23)) ∧ Ext w w' := by
  have HC : Hid (∀ o, Calls Tryz.prog 77 #[.pointer (some ⟨pb, 0, none⟩), encStr op.db] (w.alloc o) fun e w' => e = .returned (.tuple #[.pointer none, .iface 71 (.int .i64 23)]) ∧ w' = w.alloc o) := fun o => by
    have h := find_any σ i pb mb bases A op.db (w.alloc o) (hM.ext ((Ext.rfl' w).alloc o)) hmain hdb
    unfold findV at h
    rw [find_err (by rw [hc]; decide), hc, errV_ne (by decide)] at h
    exact h
  obtain ⟨a, r, hdd⟩ : ∃ a r, op.db = a :: r := by cases h : op.db with | nil => exact absurd h hne | cons a r => exact ⟨a, r, rfl⟩
  clear hc
  have HM := Lib.hid hM
  obtain ⟨h1, h2, h3, h4, h5⟩ := hM
  have c0 := ((Ext.rfl' w).alloc (.cells (opCells op) 30 (0, 0))).cell (show w.cell? ⟨pb, 0, none⟩ = some (.map (some mb)) by rw [cellAt h2 0]; rfl)
  have hlen := fun ty n => (h4.ext (below_drewN ((Ext.rfl' w).alloc (.cells (opCells op) 30 (0, 0))) n)).len (t := 59) (e := 55) Tryz.underlying59 ty
  unfold opCells at c0 hlen
  clear h1 h2 h3 h4 h5

  unfold opV opCells
  rw [hdd] at c0 hlen HC ⊢
  clear hne
  have E1 := run_eql_errno
  have E2 := run_neq_errno
  have E3 := run_eql_nil_errno
  have E4 := run_neq_nil_errno
  go_enter Tryz.func45, Tryz.ntmps45
  go_wp2_with (first | (go_at_call 77; refine (HC.out _).mono ?_; rintro e w' ⟨rfl, rfl⟩) | fail)
  go_quiet (fail)
  go_wp2
  go_ret
  exact ⟨rfl, by first | exact below_drewN ((Ext.rfl' w).alloc _) _ | exact (Ext.rfl' w).alloc _⟩

set_option maxHeartbeats 4000000 in
set_option maxRecDepth 100000 in
theorem name_flags (σ : Sig) (i pb mb : Nat) (bases : List (S × Value)) (A : ModA) (op : OpA) (w : World) (hM : ModIs w σ i pb mb bases A) (hn : Neat w σ) (hmain : (mget ([] : S) A.l).isSome = true) (hdb : op.db.length ≤ maxLen)
    (hne : op.db ≠ []) (hc : (findA A op.db).2 = 21) (hf0 : (op.flags != 0) = true) (hf1 : (op.flags != 1) = true) :
    Calls Tryz.prog 45 #[.pointer (some ⟨pb, 0, none⟩), opV op] w fun e w' => e = .returned (.iface 71 (.int .i64 23)) ∧ Ext w w' := by
  have HC : Hid (∀ o, Calls Tryz.prog 77 #[.pointer (some ⟨pb, 0, none⟩), encStr op.db] (w.alloc o) fun e w' => e = .returned (.tuple #[.pointer none, .iface 71 (.int .i64 21)]) ∧ w' = w.alloc o) := fun o => by
    have h := find_any σ i pb mb bases A op.db (w.alloc o) (hM.ext ((Ext.rfl' w).alloc o)) hmain hdb
    unfold findV at h
    rw [find_err (by rw [hc]; decide), hc, errV_ne (by decide)] at h
    exact h
  obtain ⟨a, r, hdd⟩ : ∃ a r, op.db = a :: r := by cases h : op.db with | nil => exact absurd h hne | cons a r => exact ⟨a, r, rfl⟩
  have HN := Lib.hid (find_21 hc)
  clear hc
  have HM := Lib.hid hM
  obtain ⟨h1, h2, h3, h4, h5⟩ := hM
  have c0 := ((Ext.rfl' w).alloc (.cells (opCells op) 30 (0, 0))).cell (show w.cell? ⟨pb, 0, none⟩ = some (.map (some mb)) by rw [cellAt h2 0]; rfl)
  have hlen := fun ty n => (h4.ext (below_drewN ((Ext.rfl' w).alloc (.cells (opCells op) 30 (0, 0))) n)).len (t := 59) (e := 55) Tryz.underlying59 ty
  unfold opCells at c0 hlen
  clear h1 h2 h3 h4 h5

  unfold opV opCells
  rw [hdd] at c0 hlen HC ⊢
  clear hne
  have E1 := run_eql_errno
  have E2 := run_neq_errno
  have E3 := run_eql_nil_errno
  have E4 := run_neq_nil_errno
  go_enter Tryz.func45, Tryz.ntmps45
  go_wp2_with (first | (go_at_call 77; refine (HC.out _).mono ?_; rintro e w' ⟨rfl, rfl⟩) | fail)
  go_quiet (fail)
  go_wp2
  go_ret
  exact ⟨rfl, by first | exact below_drewN ((Ext.rfl' w).alloc _) _ | exact (Ext.rfl' w).alloc _⟩

set_option maxHeartbeats 4000000 in
set_option maxRecDepth 100000 in
theorem name_many0 (σ : Sig) (i pb mb : Nat) (bases : List (S × Value)) (A : ModA) (op : OpA) (w : World) (hM : ModIs w σ i pb mb bases A) (hn : Neat w σ) (hmain : (mget ([] : S) A.l).isSome = true) (hdb : op.db.length ≤ maxLen)
    (hne : op.db ≠ []) (hc : (findA A op.db).2 = 21) (hf0 : op.flags = 0) (hl : 4 < bases.length) :
    Calls Tryz.prog 45 #[.pointer (some ⟨pb, 0, none⟩), opV op] w fun e w' => e = .returned (.iface 71 (.int .i64 16)) ∧ Ext w w' := by
  have HC : Hid (∀ o, Calls Tryz.prog 77 #[.pointer (some ⟨pb, 0, none⟩), encStr op.db] (w.alloc o) fun e w' => e = .returned (.tuple #[.pointer none, .iface 71 (.int .i64 21)]) ∧ w' = w.alloc o) := fun o => by
    have h := find_any σ i pb mb bases A op.db (w.alloc o) (hM.ext ((Ext.rfl' w).alloc o)) hmain hdb
    unfold findV at h
    rw [find_err (by rw [hc]; decide), hc, errV_ne (by decide)] at h
    exact h
  obtain ⟨a, r, hdd⟩ : ∃ a r, op.db = a :: r := by cases h : op.db with | nil => exact absurd h hne | cons a r => exact ⟨a, r, rfl⟩
  have HN := Lib.hid (find_21 hc)
  clear hc
  have HM := Lib.hid hM
  obtain ⟨h1, h2, h3, h4, h5⟩ := hM
  have c0 := ((Ext.rfl' w).alloc (.cells (opCells op) 30 (0, 0))).cell (show w.cell? ⟨pb, 0, none⟩ = some (.map (some mb)) by rw [cellAt h2 0]; rfl)
  have hlen := fun ty n => (h4.ext (below_drewN ((Ext.rfl' w).alloc (.cells (opCells op) 30 (0, 0))) n)).len (t := 59) (e := 55) Tryz.underlying59 ty
  unfold opCells at c0 hlen
  clear h1 h2 h3 h4 h5

  unfold opV opCells
  rw [hf0] at c0 hlen ⊢
  rw [hdd] at c0 hlen HC ⊢
  clear hne
  have d4 : decide ((4 : Int) < (bases.length : Int)) = true := by simp; omega
  clear hl
  have E1 := run_eql_errno
  have E2 := run_neq_errno
  have E3 := run_eql_nil_errno
  have E4 := run_neq_nil_errno
  go_enter Tryz.func45, Tryz.ntmps45
  go_wp2_with (first | (go_at_call 77; refine (HC.out _).mono ?_; rintro e w' ⟨rfl, rfl⟩) | fail)
  go_quiet (fail)
  go_wp2
  go_ret
  exact ⟨rfl, by first | exact below_drewN ((Ext.rfl' w).alloc _) _ | exact (Ext.rfl' w).alloc _⟩

set_option maxHeartbeats 4000000 in
set_option maxRecDepth 100000 in
theorem name_made0 (σ : Sig) (i pb mb : Nat) (bases : List (S × Value)) (A : ModA) (op : OpA) (w : World) (hM : ModIs w σ i pb mb bases A) (hn : Neat w σ) (hmain : (mget ([] : S) A.l).isSome = true) (hdb : op.db.length ≤ maxLen)
    (hne : op.db ≠ []) (hc : (findA A op.db).2 = 21) (hf0 : op.flags = 0) (hl : bases.length ≤ 4) :
    Calls Tryz.prog 45 #[.pointer (some ⟨pb, 0, none⟩), opV op] w fun e w' => e = .returned .nilIface ∧ ∃ σ' bases', ModIs w' σ' i pb mb bases' { A with l := mput op.db ⟨op.flags, []⟩ A.l } ∧ Moved σ i w σ' w' := by
  have HC : Hid (∀ o, Calls Tryz.prog 77 #[.pointer (some ⟨pb, 0, none⟩), encStr op.db] (w.alloc o) fun e w' => e = .returned (.tuple #[.pointer none, .iface 71 (.int .i64 21)]) ∧ w' = w.alloc o) := fun o => by
    have h := find_any σ i pb mb bases A op.db (w.alloc o) (hM.ext ((Ext.rfl' w).alloc o)) hmain hdb
    unfold findV at h
    rw [find_err (by rw [hc]; decide), hc, errV_ne (by decide)] at h
    exact h
  obtain ⟨a, r, hdd⟩ : ∃ a r, op.db = a :: r := by cases h : op.db with | nil => exact absurd h hne | cons a r => exact ⟨a, r, rfl⟩
  have HN := Lib.hid (find_21 hc)
  clear hc
  have HM := Lib.hid hM
  obtain ⟨h1, h2, h3, h4, h5⟩ := hM
  have c0 := ((Ext.rfl' w).alloc (.cells (opCells op) 30 (0, 0))).cell (show w.cell? ⟨pb, 0, none⟩ = some (.map (some mb)) by rw [cellAt h2 0]; rfl)
  have hlen := fun ty n => (h4.ext (below_drewN ((Ext.rfl' w).alloc (.cells (opCells op) 30 (0, 0))) n)).len (t := 59) (e := 55) Tryz.underlying59 ty
  unfold opCells at c0 hlen
  clear h1 h2 h3 h4 h5

  unfold opV opCells
  rw [hf0] at c0 hlen ⊢
  rw [hdd] at c0 hlen HC ⊢
  clear hne
  have d4 : decide ((4 : Int) < (bases.length : Int)) = false := by simp; omega
  have hst : ∀ n, ∃ w2, (Instr.mapUpdate 59 (.map (some mb)) (encStr (a :: r)) (.pointer (some ⟨w.heap.size + 1 + 1, 0, none⟩))).run Tryz.prog ((((w.alloc (.cells #[.int .i64 op.kind, encStr (a :: r), encStr op.key, encStr op.val, .int .i64 0, .int .i64 op.n] 30 (0, 0))).drewN n).alloc (.map #[] 0)).alloc (.cells #[.int .i64 0, .map (some (w.heap.size + 1))] 58 (0, 0))) = .ok () w2 ∧
      MapOf w2 9 mb (mput (a :: r) (.pointer (some ⟨w.heap.size + 1 + 1, 0, none⟩)) bases) ∧ (((((w.alloc (.cells #[.int .i64 op.kind, encStr (a :: r), encStr op.key, encStr op.val, .int .i64 0, .int .i64 op.n] 30 (0, 0))).drewN n).alloc (.map #[] 0)).alloc (.cells #[.int .i64 0, .map (some (w.heap.size + 1))] 58 (0, 0)))).mapTurned w2 mb := fun n =>
    (HM.out.2.2.2.1.ext (((below_drewN ((Ext.rfl' w).alloc _) n).alloc (by simp) _).alloc (by simp; omega) _)).store (t := 59) (e := 55) keyedS Tryz.underlying59 (by unfold maxLen; omega) (keyS (by rw [← hdd]; exact hdb)) _
  obtain ⟨W2, h2⟩ := Classical.axiomOfChoice hst
  have hr2 := fun n => (h2 n).1
  have H2 := Lib.hid fun n => (h2 n).2
  have c0n : ∀ n, ((w.alloc (.cells #[.int .i64 op.kind, encStr (a :: r), encStr op.key, encStr op.val, .int .i64 0, .int .i64 op.n] 30 (0, 0))).drewN n).cell? ⟨pb, 0, none⟩ = some (.map (some mb)) := fun n => (Ext.drewN _ n).cell c0
  have c0' := fun n => ((Ext.rfl' _).alloc (.map #[] 0)).cell (c0n n)
  have c0'' := fun n => (((Ext.rfl' _).alloc (.map #[] 0)).alloc (.cells #[.int .i64 0, .map (some (w.heap.size + 1))] 58 (0, 0))).cell (c0n n)
  clear c0n
  have hm2 : ∀ w, (Instr.makeMap 56 none).run Tryz.prog w = .ok (.map (some w.heap.size)) (w.alloc (.map #[] 0)) := fun w => run_makeMap _ w
  clear hst h2
  have E1 := run_eql_errno
  have E2 := run_neq_errno
  have E3 := run_eql_nil_errno
  have E4 := run_neq_nil_errno
  go_enter Tryz.func45, Tryz.ntmps45
  go_wp2_with (first | (go_at_call 77; refine (HC.out _).mono ?_; rintro e w' ⟨rfl, rfl⟩) | fail)
  go_quiet (fail)
  go_wp2
  go_region
  go_wp2
  go_ret
  have HN' : mget (a :: r) A.l = none := by rw [← hdd]; exact HN.out
  have hnn := fun n => name_new (fl := 0) (w1 := ((w.alloc (.cells #[.int .i64 op.kind, encStr (a :: r), encStr op.key, encStr op.val, .int .i64 0, .int .i64 op.n] 30 (0, 0))).drewN n)) hn HM.out HN' (below_drewN ((Ext.rfl' w).alloc _) n) (by have := (H2.out n).1; simpa using this) (by have := (H2.out n).2; simpa using this)
  obtain ⟨σ', h1, h2⟩ := hnn _
  exact ⟨rfl, σ', _, h1, h2⟩

set_option maxHeartbeats 4000000 in
set_option maxRecDepth 100000 in
theorem name_many1 (σ : Sig) (i pb mb : Nat) (bases : List (S × Value)) (A : ModA) (op : OpA) (w : World) (hM : ModIs w σ i pb mb bases A) (hn : Neat w σ) (hmain : (mget ([] : S) A.l).isSome = true) (hdb : op.db.length ≤ maxLen)
    (hne : op.db ≠ []) (hc : (findA A op.db).2 = 21) (hf0 : op.flags = 1) (hl : 4 < bases.length) :
    Calls Tryz.prog 45 #[.pointer (some ⟨pb, 0, none⟩), opV op] w fun e w' => e = .returned (.iface 71 (.int .i64 16)) ∧ Ext w w' := by
  have HC : Hid (∀ o, Calls Tryz.prog 77 #[.pointer (some ⟨pb, 0, none⟩), encStr op.db] (w.alloc o) fun e w' => e = .returned (.tuple #[.pointer none, .iface 71 (.int .i64 21)]) ∧ w' = w.alloc o) := fun o => by
    have h := find_any σ i pb mb bases A op.db (w.alloc o) (hM.ext ((Ext.rfl' w).alloc o)) hmain hdb
    unfold findV at h
    rw [find_err (by rw [hc]; decide), hc, errV_ne (by decide)] at h
    exact h
  obtain ⟨a, r, hdd⟩ : ∃ a r, op.db = a :: r := by cases h : op.db with | nil => exact absurd h hne | cons a r => exact ⟨a, r, rfl⟩
  have HN := Lib.hid (find_21 hc)
  clear hc
  have HM := Lib.hid hM
  obtain ⟨h1, h2, h3, h4, h5⟩ := hM
  have c0 := ((Ext.rfl' w).alloc (.cells (opCells op) 30 (0, 0))).cell (show w.cell? ⟨pb, 0, none⟩ = some (.map (some mb)) by rw [cellAt h2 0]; rfl)
  have hlen := fun ty n => (h4.ext (below_drewN ((Ext.rfl' w).alloc (.cells (opCells op) 30 (0, 0))) n)).len (t := 59) (e := 55) Tryz.underlying59 ty
  unfold opCells at c0 hlen
  clear h1 h2 h3 h4 h5

  unfold opV opCells
  rw [hf0] at c0 hlen ⊢
  rw [hdd] at c0 hlen HC ⊢
  clear hne
  have d4 : decide ((4 : Int) < (bases.length : Int)) = true := by simp; omega
  clear hl
  have E1 := run_eql_errno
  have E2 := run_neq_errno
  have E3 := run_eql_nil_errno
  have E4 := run_neq_nil_errno
  go_enter Tryz.func45, Tryz.ntmps45
  go_wp2_with (first | (go_at_call 77; refine (HC.out _).mono ?_; rintro e w' ⟨rfl, rfl⟩) | fail)
  go_quiet (fail)
  go_wp2
  go_ret
  exact ⟨rfl, by first | exact below_drewN ((Ext.rfl' w).alloc _) _ | exact (Ext.rfl' w).alloc _⟩

set_option maxHeartbeats 4000000 in
set_option maxRecDepth 100000 in
theorem name_made1 (σ : Sig) (i pb mb : Nat) (bases : List (S × Value)) (A : ModA) (op : OpA) (w : World) (hM : ModIs w σ i pb mb bases A) (hn : Neat w σ) (hmain : (mget ([] : S) A.l).isSome = true) (hdb : op.db.length ≤ maxLen)
    (hne : op.db ≠ []) (hc : (findA A op.db).2 = 21) (hf0 : op.flags = 1) (hl : bases.length ≤ 4) :
    Calls Tryz.prog 45 #[.pointer (some ⟨pb, 0, none⟩), opV op] w fun e w' => e = .returned .nilIface ∧ ∃ σ' bases', ModIs w' σ' i pb mb bases' { A with l := mput op.db ⟨op.flags, []⟩ A.l } ∧ Moved σ i w σ' w' := by
  have HC : Hid (∀ o, Calls Tryz.prog 77 #[.pointer (some ⟨pb, 0, none⟩), encStr op.db] (w.alloc o) fun e w' => e = .returned (.tuple #[.pointer none, .iface 71 (.int .i64 21)]) ∧ w' = w.alloc o) := fun o => by
    have h := find_any σ i pb mb bases A op.db (w.alloc o) (hM.ext ((Ext.rfl' w).alloc o)) hmain hdb
    unfold findV at h
    rw [find_err (by rw [hc]; decide), hc, errV_ne (by decide)] at h
    exact h
  obtain ⟨a, r, hdd⟩ : ∃ a r, op.db = a :: r := by cases h : op.db with | nil => exact absurd h hne | cons a r => exact ⟨a, r, rfl⟩
  have HN := Lib.hid (find_21 hc)
  clear hc
  have HM := Lib.hid hM
  obtain ⟨h1, h2, h3, h4, h5⟩ := hM
  have c0 := ((Ext.rfl' w).alloc (.cells (opCells op) 30 (0, 0))).cell (show w.cell? ⟨pb, 0, none⟩ = some (.map (some mb)) by rw [cellAt h2 0]; rfl)
  have hlen := fun ty n => (h4.ext (below_drewN ((Ext.rfl' w).alloc (.cells (opCells op) 30 (0, 0))) n)).len (t := 59) (e := 55) Tryz.underlying59 ty
  unfold opCells at c0 hlen
  clear h1 h2 h3 h4 h5

  unfold opV opCells
  rw [hf0] at c0 hlen ⊢
  rw [hdd] at c0 hlen HC ⊢
  clear hne
  have d4 : decide ((4 : Int) < (bases.length : Int)) = false := by simp; omega
  have hst : ∀ n, ∃ w2, (Instr.mapUpdate 59 (.map (some mb)) (encStr (a :: r)) (.pointer (some ⟨w.heap.size + 1 + 1, 0, none⟩))).run Tryz.prog ((((w.alloc (.cells #[.int .i64 op.kind, encStr (a :: r), encStr op.key, encStr op.val, .int .i64 1, .int .i64 op.n] 30 (0, 0))).drewN n).alloc (.map #[] 0)).alloc (.cells #[.int .i64 1, .map (some (w.heap.size + 1))] 58 (0, 0))) = .ok () w2 ∧
      MapOf w2 9 mb (mput (a :: r) (.pointer (some ⟨w.heap.size + 1 + 1, 0, none⟩)) bases) ∧ (((((w.alloc (.cells #[.int .i64 op.kind, encStr (a :: r), encStr op.key, encStr op.val, .int .i64 1, .int .i64 op.n] 30 (0, 0))).drewN n).alloc (.map #[] 0)).alloc (.cells #[.int .i64 1, .map (some (w.heap.size + 1))] 58 (0, 0)))).mapTurned w2 mb := fun n =>
    (HM.out.2.2.2.1.ext (((below_drewN ((Ext.rfl' w).alloc _) n).alloc (by simp) _).alloc (by simp; omega) _)).store (t := 59) (e := 55) keyedS Tryz.underlying59 (by unfold maxLen; omega) (keyS (by rw [← hdd]; exact hdb)) _
  obtain ⟨W2, h2⟩ := Classical.axiomOfChoice hst
  have hr2 := fun n => (h2 n).1
  have H2 := Lib.hid fun n => (h2 n).2
  have c0n : ∀ n, ((w.alloc (.cells #[.int .i64 op.kind, encStr (a :: r), encStr op.key, encStr op.val, .int .i64 1, .int .i64 op.n] 30 (0, 0))).drewN n).cell? ⟨pb, 0, none⟩ = some (.map (some mb)) := fun n => (Ext.drewN _ n).cell c0
  have c0' := fun n => ((Ext.rfl' _).alloc (.map #[] 0)).cell (c0n n)
  have c0'' := fun n => (((Ext.rfl' _).alloc (.map #[] 0)).alloc (.cells #[.int .i64 1, .map (some (w.heap.size + 1))] 58 (0, 0))).cell (c0n n)
  clear c0n
  have hm2 : ∀ w, (Instr.makeMap 56 none).run Tryz.prog w = .ok (.map (some w.heap.size)) (w.alloc (.map #[] 0)) := fun w => run_makeMap _ w
  clear hst h2
  have E1 := run_eql_errno
  have E2 := run_neq_errno
  have E3 := run_eql_nil_errno
  have E4 := run_neq_nil_errno
  go_enter Tryz.func45, Tryz.ntmps45
  go_wp2_with (first | (go_at_call 77; refine (HC.out _).mono ?_; rintro e w' ⟨rfl, rfl⟩) | fail)
  go_quiet (fail)
  go_wp2
  go_region
  go_wp2
  go_ret
  have HN' : mget (a :: r) A.l = none := by rw [← hdd]; exact HN.out
  have hnn := fun n => name_new (fl := 1) (w1 := ((w.alloc (.cells #[.int .i64 op.kind, encStr (a :: r), encStr op.key, encStr op.val, .int .i64 1, .int .i64 op.n] 30 (0, 0))).drewN n)) hn HM.out HN' (below_drewN ((Ext.rfl' w).alloc _) n) (by have := (H2.out n).1; simpa using this) (by have := (H2.out n).2; simpa using this)
  obtain ⟨σ', h1, h2⟩ := hnn _
  exact ⟨rfl, σ', _, h1, h2⟩

end Go.Proofs.YtmkhjmldncegcaaGreatDoor

/-
  past.Model.name in one contract; WALKS: past.Model.drop.
-/
set_option linter.unusedVariables false
set_option linter.unusedSimpArgs false
namespace Go.Proofs.YtmkhjmldncegcaaGreatDoor
open Go.RowKit Go.Maps Go.ChangeMaps Go.MapKept

theorem quiet_way' {σ : Sig} {i pb mb : Nat} {bases : List (S × Value)} {A : ModA} {w : World} {f : FuncId} {args : Array Value} {v v' : Value} (hM : ModIs w σ i pb mb bases A) (hn : Neat w σ) (hv : v = v')
    (h : Calls Tryz.prog f args w fun e w' => e = .returned v ∧ Ext w w') : Calls Tryz.prog f args w fun e w' => e = .returned v' ∧ ∃ σ' bases', ModIs w' σ' i pb mb bases' A ∧ Moved σ i w σ' w' :=
  h.mono fun e w' ⟨h1, h2⟩ => ⟨by rw [h1, hv], σ, bases, hM.ext h2, Moved.ofExt hn h2 i⟩

theorem name_any (σ : Sig) (i pb mb : Nat) (bases : List (S × Value)) (A : ModA) (op : OpA) (w : World) (m : Nat) (hM : ModIs w σ i pb mb bases A) (hn : Neat w σ) (hs : Sound A m) (hdb : op.db.length ≤ maxLen) :
    Calls Tryz.prog 45 #[.pointer (some ⟨pb, 0, none⟩), opV op] w fun e w' => e = .returned (errV (nameA A op).2) ∧ ∃ σ' bases', ModIs w' σ' i pb mb bases' (nameA A op).1 ∧ Moved σ i w σ' w' := by
  have hlen := hM.2.2.2.2.length
  by_cases hd : op.db = []
  · have hP : nameA A op = (A, 22) := by unfold nameA; rw [if_pos hd]
    rw [hP]
    exact quiet_way' hM hn rfl (name_empty σ i pb mb bases A op w hM hn hs.main hdb hd)
  · have hP : nameA A op = if (findA A op.db).2 = 0 then (A, if ((findA A op.db).1.getD ⟨0, []⟩).flags = op.flags then 0 else 23)
        else if (findA A op.db).2 ≠ 21 then (A, (findA A op.db).2)
        else if op.flags ≠ 0 ∧ op.flags ≠ 1 then (A, 23)
        else if A.l.length > 4 then (A, 16)
        else ({ A with l := mput op.db ⟨op.flags, []⟩ A.l }, 0) := by unfold nameA; rw [if_neg hd]
    rw [hP]
    rcases find_codes (A := A) (db := op.db) with hc | hc | hc | hc
    · obtain ⟨B, bb, mb', rows, hf, hgA, hg, hB⟩ := find_at hM hs.main hc
      rw [if_pos hc, hf]
      show Calls _ _ _ _ fun e w' => e = .returned (errV (if B.flags = op.flags then 0 else 23)) ∧ _
      by_cases he : B.flags = op.flags
      · rw [if_pos he]
        exact quiet_way' hM hn rfl (name_same σ i pb mb bases A op w hM hn hs.main hdb hd B bb mb' rows hf hg hB (by rw [he]; simp))
      · rw [if_neg he]
        exact quiet_way' hM hn rfl (name_kind σ i pb mb bases A op w hM hn hs.main hdb hd B bb mb' rows hf hg hB (by simpa using he))
    · rw [if_neg (by rw [hc]; decide), if_neg (fun h => h hc)]
      by_cases h0 : op.flags = 0
      · rw [if_neg (fun h => h.1 h0)]
        by_cases hl : A.l.length > 4
        · rw [if_pos hl]
          exact quiet_way' hM hn rfl (name_many0 σ i pb mb bases A op w hM hn hs.main hdb hd hc h0 (by omega))
        · rw [if_neg hl]
          exact name_made0 σ i pb mb bases A op w hM hn hs.main hdb hd hc h0 (by omega)
      · by_cases h1 : op.flags = 1
        · rw [if_neg (fun h => h.2 h1)]
          by_cases hl : A.l.length > 4
          · rw [if_pos hl]
            exact quiet_way' hM hn rfl (name_many1 σ i pb mb bases A op w hM hn hs.main hdb hd hc h1 (by omega))
          · rw [if_neg hl]
            exact name_made1 σ i pb mb bases A op w hM hn hs.main hdb hd hc h1 (by omega)
        · rw [if_pos ⟨h0, h1⟩]
          exact quiet_way' hM hn rfl (name_flags σ i pb mb bases A op w hM hn hs.main hdb hd hc (by simpa using h0) (by simpa using h1))
    · rw [if_neg (by rw [hc]; decide), if_pos (by rw [hc]; decide), hc]
      exact quiet_way' hM hn rfl (name_find22 σ i pb mb bases A op w hM hn hs.main hdb hd hc)
    · rw [if_neg (by rw [hc]; decide), if_pos (by rw [hc]; decide), hc]
      exact quiet_way' hM hn rfl (name_find23 σ i pb mb bases A op w hM hn hs.main hdb hd hc)

/-- Behind a database's deletion. -/
theorem drop_base {σ : Sig} {i pb mb : Nat} {bases : List (S × Value)} {A : ModA} {w w1 w2 : World} {db : S} (hn : Neat w σ) (hM : ModIs w σ i pb mb bases A) (e1 : Ext w w1) (hM2 : MapOf w2 9 mb (mdel db bases)) (ht : w1.mapTurned w2 mb) :
    ModIs w2 σ i pb mb (mdel db bases) { A with l := mdel db A.l } ∧ Moved σ i w σ w2 := by
  obtain ⟨h1, h2, h3, h4, h5⟩ := hM
  have k1 : Keep (fun l => l ≠ (i, .names)) σ w σ w2 := (Keep.ofExt e1 _ σ).trans e1.size (Keep.ofOnly (Only.ofMap ht) (by rw [h3]; simp))
  refine ⟨⟨h1, by rw [(k1 pb (lt_heap h2) (by rw [h1]; simp)).1, h2], h3, hM2, (h5.imp fun n v B hb => BaseAt.keep hb k1 (by simp) (by simp) (by simp)).del db⟩, ?_⟩
  exact (Moved.ofExt hn e1 i).trans (Moved.ofMap (hn.ext e1) ht (by rw [h3]))

set_option maxHeartbeats 4000000 in
set_option maxRecDepth 100000 in
theorem drop_empty (σ : Sig) (i pb mb : Nat) (bases : List (S × Value)) (A : ModA) (op : OpA) (w : World) (hd : op.db = []) :
    Calls Tryz.prog 46 #[.pointer (some ⟨pb, 0, none⟩), opV op] w fun e w' => e = .returned (.iface 71 (.int .i64 23)) ∧ Ext w w' := by
  unfold opV opCells
  rw [hd]
  clear hd
  go_enter Tryz.func46, Tryz.ntmps46
  go_wp2
  go_ret
  exact ⟨rfl, (Ext.rfl' w).alloc _⟩

set_option maxHeartbeats 4000000 in
set_option maxRecDepth 100000 in
theorem drop_err (σ : Sig) (i pb mb : Nat) (bases : List (S × Value)) (A : ModA) (op : OpA) (w : World) (hM : ModIs w σ i pb mb bases A) (hmain : (mget ([] : S) A.l).isSome = true) (hdb : op.db.length ≤ maxLen) (hne : op.db ≠ []) (he : (findA A op.db).2 ≠ 0) :
    Calls Tryz.prog 46 #[.pointer (some ⟨pb, 0, none⟩), opV op] w fun e w' => e = .returned (errV (findA A op.db).2) ∧ Ext w w' := by
  have HC : Hid (∀ o, Calls Tryz.prog 77 #[.pointer (some ⟨pb, 0, none⟩), encStr op.db] (w.alloc o) fun e w' => e = .returned (.tuple #[.pointer none, .iface 71 (.int .i64 (findA A op.db).2)]) ∧ w' = w.alloc o) := fun o => by
    have h := find_any σ i pb mb bases A op.db (w.alloc o) (hM.ext ((Ext.rfl' w).alloc o)) hmain hdb
    unfold findV at h
    rw [find_err he, errV_ne he] at h
    exact h
  have HE := Lib.hid (errV_ne he)
  obtain ⟨c, hcc⟩ : ∃ c, (findA A op.db).2 = c := ⟨_, rfl⟩
  rw [hcc] at HC HE ⊢
  obtain ⟨a, r, hdd⟩ : ∃ a r, op.db = a :: r := by cases h : op.db with | nil => exact absurd h hne | cons a r => exact ⟨a, r, rfl⟩
  clear hM hmain he hne hcc
  unfold opV opCells
  rw [hdd] at HC ⊢
  go_enter Tryz.func46, Tryz.ntmps46
  go_wp2_with (first | (go_at_call 77; refine (HC.out _).mono ?_; rintro e w' ⟨rfl, rfl⟩) | fail)
  go_ret
  exact ⟨by rw [HE.out]; rfl, (Ext.rfl' w).alloc _⟩

set_option maxHeartbeats 4000000 in
set_option maxRecDepth 100000 in
theorem drop_ok (σ : Sig) (i pb mb : Nat) (bases : List (S × Value)) (A : ModA) (op : OpA) (w : World) (hM : ModIs w σ i pb mb bases A) (hn : Neat w σ) (hmain : (mget ([] : S) A.l).isSome = true) (hdb : op.db.length ≤ maxLen) (hne : op.db ≠ []) (h0 : (findA A op.db).2 = 0) :
    Calls Tryz.prog 46 #[.pointer (some ⟨pb, 0, none⟩), opV op] w fun e w' => e = .returned .nilIface ∧ ∃ σ' bases', ModIs w' σ' i pb mb bases' (if A.db = op.db then lostA { A with l := mdel op.db A.l } else { A with l := mdel op.db A.l }) ∧ Moved σ i w σ' w' := by
  obtain ⟨B, bb, mb', rows, hf, hgA, hg, hB⟩ := find_at hM hmain h0
  have HC := Lib.hid (find_call hM hmain hdb hf hg)
  obtain ⟨a, r, hdd⟩ : ∃ a r, op.db = a :: r := by cases h : op.db with | nil => exact absurd h hne | cons a r => exact ⟨a, r, rfl⟩
  have HM := Lib.hid hM
  obtain ⟨h1, h2, h3, h4, h5⟩ := hM
  have c0 := ((Ext.rfl' w).alloc (.cells (opCells op) 30 (0, 0))).cell (show w.cell? ⟨pb, 0, none⟩ = some (.map (some mb)) by rw [cellAt h2 0]; rfl)
  obtain ⟨w2, hr, hM2, ht2⟩ := (h4.ext ((Ext.alloc (Ext.rfl' w) (.cells (opCells op) 30 (0, 0))).drew)).drop (t := 59) (e := 55) keyedS Tryz.underlying59 (keyS hdb) 0
  have hdr := drop_base hn HM.out ((Ext.alloc (Ext.rfl' w) (.cells (opCells op) 30 (0, 0))).drew) hM2 ht2
  have c1 : w2.cell? ⟨pb, 1, none⟩ = some (encStr A.db) := by rw [cellAt hdr.1.2.1 1]; rfl
  have b1 : w2.cell? ⟨w.heap.size, 1, none⟩ = some (encStr op.db) := by
    have hlt := h4.lt
    rw [World.cell?_of_block (w := (w.alloc (.cells (opCells op) 30 (0, 0))).drew) (w' := w2) (a := ⟨w.heap.size, 1, none⟩) (mapTurned_other ht2 (by show w.heap.size ≠ mb; omega))]
    exact cellAt (heap_new w _) 1
  have HD := Lib.hid hdr
  unfold opCells at c0 hr
  clear h1 h2 h3 h4 h5 hmain hf hg hB hgA h0 hne hM2 ht2 hdr
  have HL := Lib.hid fun n => lost_any σ i pb mb (mdel op.db bases) { A with l := mdel op.db A.l } (w2.drewN n) (HD.out.1.ext (Ext.drewN w2 n)) (HD.out.2.thenExt (Ext.drewN w2 n)).neat
  have HDD := Lib.hid hdd
  unfold opV opCells
  rw [hdd] at c0 hr b1 HC ⊢
  clear hdd
  by_cases hq : A.db = a :: r
  · have HQ : Hid (A.db = op.db) := by rw [HDD.out]; exact Lib.hid hq
    rw [hq] at c1
    have HQ2 := Lib.hid hq
    clear hq
    go_enter Tryz.func46, Tryz.ntmps46
    go_wp2_with (first | (go_at_call 77; refine (HC.out _).mono ?_; rintro e w' ⟨rfl, rfl⟩) | fail)
    go_region
    go_wp2
    go_quiet (fail)
    go_wp2_with fail
    refine (HL.out _).mono ?_
    rintro e w3 ⟨rfl, hm3, hv3⟩
    have HM3 := Lib.hid hm3
    have HV3 := Lib.hid hv3
    clear hm3 hv3
    go_wp2_with fail
    go_ret
    refine ⟨rfl, σ, ⟨mdel op.db bases, ?_⟩, ((HD.out.2.thenExt (Ext.drewN w2 _)).trans HV3.out)⟩
    have hfin := HM3.out
    rw [HDD.out] at hfin ⊢
    exact hfin
  · have hq2 : (A.db == a :: r) = false := by simpa using hq
    have HQ2 := Lib.hid hq
    clear hq
    go_enter Tryz.func46, Tryz.ntmps46
    go_wp2_with (first | (go_at_call 77; refine (HC.out _).mono ?_; rintro e w' ⟨rfl, rfl⟩) | fail)
    go_region
    go_wp2
    go_quiet (fail)
    go_wp2_with fail
    go_ret
    refine ⟨rfl, σ, ⟨mdel op.db bases, ?_⟩, HD.out.2.thenExt (Ext.drewN w2 _)⟩
    have hfin := fun n => HD.out.1.ext (Ext.drewN w2 n)
    rw [HDD.out] at hfin ⊢
    exact hfin _

theorem drop_any (σ : Sig) (i pb mb : Nat) (bases : List (S × Value)) (A : ModA) (op : OpA) (w : World) (m : Nat) (hM : ModIs w σ i pb mb bases A) (hn : Neat w σ) (hs : Sound A m) (hdb : op.db.length ≤ maxLen) :
    Calls Tryz.prog 46 #[.pointer (some ⟨pb, 0, none⟩), opV op] w fun e w' => e = .returned (errV (dropA A op).2) ∧ ∃ σ' bases', ModIs w' σ' i pb mb bases' (dropA A op).1 ∧ Moved σ i w σ' w' := by
  by_cases hd : op.db = []
  · have hP : dropA A op = (A, 23) := by unfold dropA; rw [if_pos hd]
    rw [hP]
    exact quiet_way' hM hn rfl (drop_empty σ i pb mb bases A op w hd)
  · by_cases h0 : (findA A op.db).2 = 0
    · have hP : dropA A op = (if A.db = op.db then lostA { A with l := mdel op.db A.l } else { A with l := mdel op.db A.l }, 0) := by
        unfold dropA; rw [if_neg hd, if_neg (fun h => h h0)]
      rw [hP]
      exact drop_ok σ i pb mb bases A op w hM hn hs.main hdb hd h0
    · have hP : dropA A op = (A, (findA A op.db).2) := by unfold dropA; rw [if_neg hd, if_pos h0]
      rw [hP]
      exact quiet_way' hM hn rfl (drop_err σ i pb mb bases A op w hM hs.main hdb hd h0)
end Go.Proofs.YtmkhjmldncegcaaGreatDoor

/-
  WALKS: past.Model.seek.
-/
set_option linter.unusedVariables false
set_option linter.unusedSimpArgs false
namespace Go.Proofs.YtmkhjmldncegcaaGreatDoor
open Go.RowKit Go.Maps Go.ChangeMaps Go.MapKept

def entV (e : S × S) : Value := .agg #[encStr e.1, encStr e.2]

theorem find_at_ix {α : Type} (p : α → Bool) : ∀ (l : List α) (j : Nat) (x : α), l[j]? = some x → p x = true → (∀ k y, k < j → l[k]? = some y → p y = false) → l.find? p = some x
  | [], j, x, h, _, _ => by simp at h
  | a :: r, 0, x, h, hp, _ => by simp at h; subst h; simp [hp]
  | a :: r, j + 1, x, h, hp, hn => by
    have ha := hn 0 a (by omega) rfl
    rw [List.find?_cons, ha]
    exact find_at_ix p r j x (by simpa using h) hp fun k y hk hy => hn (k + 1) y (by omega) (by simpa using hy)

theorem ent_cells {w : World} {g : Nat} {base : Nat} {v : Value} {es : List (S × S)} (h : w.ownsRow base 51 2 v es.length (entCells es)) (hg : v.ownBlock = some g) {j : Nat} {k x : S} (hj : es[j]? = some (k, x)) :
    w.cell? ⟨g, j * 2, none⟩ = some (encStr k) ∧ w.cell? ⟨g, j * 2 + 1, none⟩ = some (encStr x) := by
  have hix : ∀ (l : List (S × S)) (j : Nat), l[j]? = some (k, x) → (entCells l)[j * 2]? = some (encStr k) ∧ (entCells l)[j * 2 + 1]? = some (encStr x) := by
    intro l
    induction l with
    | nil => intro j h; simp at h
    | cons a r ih =>
      intro j h
      cases j with
      | zero => simp at h; subst h; exact ⟨rfl, rfl⟩
      | succ j =>
        have := ih j (by simpa using h)
        have e1 : (j + 1) * 2 = j * 2 + 2 := by omega
        rw [e1]
        exact this
  obtain ⟨h1, h2⟩ := hix es j hj
  have c1 := h.cells (g := g) hg _ _ h1
  have c2 := h.cells (g := g) hg _ _ h2
  rw [Addr.add_lit] at c1 c2
  simp only [Nat.zero_add] at c1 c2
  exact ⟨c1, c2⟩

/-- Behind a store into a block that the call itself has made. -/
theorem Moved.fresh {σ : Sig} {i b : Nat} {w w3 w4 : World} (h : Moved σ i w σ w3) (o : Only b w3 w4) (hb : w.heap.size ≤ b) : Moved σ i w σ w4 :=
  ⟨h.ext, fun k hk => h.neat k (by rw [← o.size]; exact hk), ⟨o.os.trans h.turn.os, o.tape.trans h.turn.tape, o.output.trans h.turn.output, by rw [o.size]; exact h.turn.size, fun k hk hp => (o.block k (by omega)).trans (h.turn.block k hk hp)⟩⟩
theorem ModIs.only {σ : Sig} {i pb mb b : Nat} {bases : List (S × Value)} {A : ModA} {w3 w4 : World} (h : ModIs w3 σ i pb mb bases A) (o : Only b w3 w4) (hb : (σ b).1 ≠ i) : ModIs w4 σ i pb mb bases A := h.keep (Keep.ofOnly o hb)

set_option maxHeartbeats 4000000 in
set_option maxRecDepth 100000 in
theorem seek_ok (σ : Sig) (i pb mb : Nat) (bases : List (S × Value)) (A : ModA) (op : OpA) (w : World) (hM : ModIs w σ i pb mb bases A) (hn : Neat w σ) (hmain : (mget ([] : S) A.l).isSome = true) (hdb : op.db.length ≤ maxLen)
    (B : BaseA) (bb mb' : Nat) (rows : List (S × Value)) (hf : findA A op.db = (some B, 0)) (hg : mget op.db bases = some (.pointer (some ⟨bb, 0, none⟩))) (hB : BaseIs w σ i op.db bb mb' rows B) (hm : B.m.length ≤ 1000000) (hx : ∀ p ∈ B.m, p.2.length ≤ 12) (hi : i ≠ 0) :
    Calls Tryz.prog 47 #[.pointer (some ⟨pb, 0, none⟩), opV op] w fun e w' => e = .returned (.tuple #[entV (seekA A op).2.1, errV (seekA A op).2.2]) ∧ ModIs w' σ i pb mb bases (seekA A op).1 ∧ Moved σ i w σ w' := by
  have HC := Lib.hid fun o1 o2 => find_any σ i pb mb bases A op.db ((w.alloc o1).alloc o2) (hM.ext (((Ext.rfl' w).alloc o1).alloc o2)) hmain hdb
  have HC2 : Hid (∀ o1 o2, Calls Tryz.prog 77 #[.pointer (some ⟨pb, 0, none⟩), encStr op.db] ((w.alloc o1).alloc o2) fun e w' => e = .returned (.tuple #[.pointer (some ⟨bb, 0, none⟩), .nilIface]) ∧ w' = (w.alloc o1).alloc o2) := fun o1 o2 => by
    have h := HC.out o1 o2
    unfold findV at h
    rw [hf, hg] at h
    exact h
  have HEN := Lib.hid fun o1 o2 => entries_any σ i op.db bb mb' rows B ((w.alloc o1).alloc o2) (hB.ext (((Ext.rfl' w).alloc o1).alloc o2)) hm hx
  have hel : (entriesA B).length ≤ 12000000 := by have := entsTo_len hx B.m.length; rw [entsTo_all] at this; omega
  have HM := Lib.hid hM
  clear HC hM hmain hB hg
  unfold opV opCells
  go_enter Tryz.func47, Tryz.ntmps47
  go_wp2_with (first | (go_at_call 77; refine (HC2.out _ _).mono ?_; rintro e w' ⟨rfl, rfl⟩) | fail)
  refine (HEN.out _ _).mono ?_
  rintro e w1 ⟨v, rfl, hown, hext⟩
  have HX := Lib.hid hext
  have HO := Lib.hid hown
  obtain ⟨_, p, c, rfl, hc1, hc2, _⟩ := Sl.ofOwns hown
  clear hown hext
  go_wp2_with fail
  have HB0 : Hid (w1.heap[w.heap.size]? = some (.cells (opCells op) 30 (0, 0))) := by
    have h := HX.out.block w.heap.size (by simp; omega)
    rw [h]
    exact (Below.heap_alloc _ _ _ (by simp)).trans (heap_new w _)
  go_loopw [24] (fun i wr => ∃ j : Nat, j ≤ (entriesA B).length ∧ i = .int .i64 j ∧ Ext w1 wr ∧ ∀ k y, k < j → (entriesA B)[k]? = some y → (decide (op.kind = 13) || geS y.1 op.key) = false) (fun i _ => (entriesA B).length - (intOf i).toNat)
  case atStart => exact ⟨0, by omega, rfl, Ext.rfl' _, fun k y hk => by omega⟩
  case round =>
    obtain ⟨j, hj, rfl, hew, hnot⟩ := hrel
    obtain ⟨wr, rfl⟩ : ∃ wr' : World, wr' = wr := ⟨_, rfl⟩
    have HN := Lib.hid hnot
    have HEW := Lib.hid hew
    clear hnot
    by_cases hlt : j < (entriesA B).length
    · obtain ⟨k, x, hkx⟩ : ∃ k x, (entriesA B)[j]? = some (k, x) := ⟨(entriesA B)[j].1, (entriesA B)[j].2, List.getElem?_eq_getElem hlt⟩
      obtain ⟨g, cap, hpv⟩ : ∃ g cap, Value.slice p (entriesA B).length c = .slice (some ⟨g, 0, none⟩) (entriesA B).length cap := by
        rcases HO.out.2 with ⟨_, h⟩ | ⟨g, cap, cur, h, _⟩
        · omega
        · exact ⟨g, cap, h⟩
      injection hpv with hp1 _ hp3
      subst hp1 hp3
      have hec := ent_cells HO.out rfl hkx
      have c1 := hew.cell hec.1
      have c2 := hew.cell hec.2
      have HKX := Lib.hid hkx
      have hbx := hew.block w.heap.size (lt_heap HB0.out)
      rw [HB0.out] at hbx
      have b0 := cellAt hbx 0
      have b1 := cellAt hbx 1
      have b2 := cellAt hbx 2
      simp [opCells] at b0 b1 b2
      have b0' := ((Ext.rfl' wr).alloc (.cells #[encStr k, encStr x] 51)).cell b0
      have b1' := ((Ext.rfl' wr).alloc (.cells #[encStr k, encStr x] 51)).cell b1
      have b2' := ((Ext.rfl' wr).alloc (.cells #[encStr k, encStr x] 51)).cell b2
      clear hkx hec hbx hew b0 b1 b2
      cases hhit : (decide (op.kind = 13) || geS k op.key) with
      | false =>
        have hk' : (op.kind == 13) = false := by simp at hhit; simpa using hhit.1
        have hge : Op.bytesLess k op.key = true := by simp [geS] at hhit; exact hhit.2
        have HGE := Lib.hid hge
        have HHIT := Lib.hid hhit
        clear hhit
        go_wp2_with fail
        go_roundw
        case rel =>
          refine ⟨j + 1, by omega, by go_num, Ext.alloc HEW.out _, fun k' y hk' hy => ?_⟩
          by_cases hkj : k' < j
          · exact HN.out k' y hkj hy
          · obtain rfl : k' = j := by omega
            have hy2 := HKX.out
            rw [hy] at hy2
            injection hy2 with hy2
            subst hy2
            exact HHIT.out
        case measure => simp [intOf]; omega
      | true =>
        have HHIT := Lib.hid hhit
        have ew2 : Ext w (wr.alloc (.cells #[encStr k, encStr x] 51)) := Ext.step (Ext.step (Ext.step (((Ext.rfl' w).alloc _).alloc _) HX.out) HEW.out) ((Ext.rfl' wr).alloc _)
        have hpb := ew2.block pb (lt_heap HM.out.2.1)
        rw [HM.out.2.1] at hpb
        have k1 := cellAt hpb 1
        have k2 := cellAt hpb 2
        have k3 := cellAt hpb 3
        have k4 := cellAt hpb 4
        have f1 := frozenAt hpb 1
        have f2 := frozenAt hpb 2
        have f3 := frozenAt hpb 3
        have f4 := frozenAt hpb 4
        simp at k1 k2 k3 k4
        have HPB := Lib.hid hpb
        have HEW2 := Lib.hid ew2
        have hlt0 := lt_heap HM.out.2.1
        have hsz : w.heap.size ≤ wr.heap.size := (Ext.step (Ext.step (((Ext.rfl' w).alloc _).alloc _) HX.out) HEW.out).size
        have n1 : ¬ pb = wr.heap.size := by omega
        have n2 : ¬ wr.heap.size = pb := by omega
        have n3 : ¬ pb = w.heap.size := by omega
        have n4 : ¬ w.heap.size = pb := by omega
        have hhit2 : (op.kind == 13) = true ∨ ((op.kind == 13) = false ∧ Op.bytesLess k op.key = false) := by
          by_cases hk : op.kind = 13
          · exact .inl (by simpa using hk)
          · simp [hk, geS] at hhit; exact .inr ⟨by simpa using hk, hhit⟩
        clear hpb ew2 hlt0 hsz hhit
        rcases hhit2 with hk' | ⟨hk', hge⟩
        all_goals
          go_wp2_with fail
          generalize hW : wr.alloc (Obj.cells #[Value.string ⟨k.toArray⟩, Value.string ⟨x.toArray⟩] 51) = W
          have z1 : W.cell? ⟨w.heap.size, 1, none⟩ = some (encStr op.db) := by rw [← hW]; exact b1'
          have e0 : W.cell? ⟨wr.heap.size, 0, none⟩ = some (encStr k) := by rw [← hW]; exact cellAt (heap_new _ _) 0
          have e1 : W.cell? ⟨wr.heap.size, 1, none⟩ = some (encStr x) := by rw [← hW]; exact cellAt (heap_new _ _) 1
          have kk1 : W.cell? ⟨pb, 1, none⟩ = some (encStr A.db) := by rw [← hW]; exact k1
          have kk2 : W.cell? ⟨pb, 2, none⟩ = some (encStr A.ek) := by rw [← hW]; exact k2
          have kk3 : W.cell? ⟨pb, 3, none⟩ = some (encStr A.ev) := by rw [← hW]; exact k3
          have kk4 : W.cell? ⟨pb, 4, none⟩ = some (.bool A.on) := by rw [← hW]; exact k4
          have ff1 : W.frozen? ⟨pb, 1, none⟩ = false := by rw [← hW]; exact f1
          have ff2 : W.frozen? ⟨pb, 2, none⟩ = false := by rw [← hW]; exact f2
          have ff3 : W.frozen? ⟨pb, 3, none⟩ = false := by rw [← hW]; exact f3
          have ff4 : W.frozen? ⟨pb, 4, none⟩ = false := by rw [← hW]; exact f4
          have HW := Lib.hid hW
          clear hW c1 c2 b0' b1' b2' k1 k2 k3 k4 f1 f2 f3 f4
          go_big_region
          generalize hV : ((((W.setCell ⟨pb, 1, none⟩ (Value.string ⟨op.db.toArray⟩)).setCell ⟨pb, 2, none⟩ (Value.string ⟨k.toArray⟩)).setCell ⟨pb, 3, none⟩ (Value.string ⟨x.toArray⟩)).setCell ⟨pb, 4, none⟩ (Value.bool true)).drew = V
          have oV : Only pb W V := by rw [← hV]; exact (((((Only.refl pb W).setCell 1 _).setCell 2 _).setCell 3 _).setCell 4 _).drewN 1
          have hVb : V.heap[pb]? = some (.cells #[.map (some mb), encStr op.db, encStr k, encStr x, .bool true] 61 (0, 0)) := by
            rw [← hV]
            have h0 : W.heap[pb]? = some (.cells #[.map (some mb), encStr A.db, encStr A.ek, encStr A.ev, .bool A.on] 61 (0, 0)) := by rw [← HW.out]; exact HPB.out
            exact heap_setCell_row (heap_setCell_row (heap_setCell_row (heap_setCell_row h0 1 _) 2 _) 3 _) 4 _
          have ee0 : V.cell? ⟨wr.heap.size, 0, none⟩ = some (encStr k) := by rw [World.cell?_of_block (w := W) (w' := V) (a := ⟨wr.heap.size, 0, none⟩) (oV.block _ n2)]; exact e0
          have ee1 : V.cell? ⟨wr.heap.size, 1, none⟩ = some (encStr x) := by rw [World.cell?_of_block (w := W) (w' := V) (a := ⟨wr.heap.size, 1, none⟩) (oV.block _ n2)]; exact e1
          have hres : V.heap[w.heap.size + 1]? = some (.cells #[.string ⟨#[]⟩, .string ⟨#[]⟩] 51 (0, 0)) := by
            have hlt0 := lt_heap HM.out.2.1
            rw [oV.block _ (by omega), ← HW.out, ((Ext.rfl' wr).alloc _).block _ (by have := HX.out.size; have := HEW.out.size; simp at *; omega), HEW.out.block _ (by have := HX.out.size; simp at *; omega), HX.out.block _ (by simp)]
            exact (show (w.alloc (.cells (opCells op) 30 (0, 0))).heap.size = w.heap.size + 1 by simp) ▸ heap_new (w.alloc (.cells (opCells op) 30 (0, 0))) (.cells #[.string ⟨#[]⟩, .string ⟨#[]⟩] 51 (0, 0))
          have r0 := cellAt hres 0
          have r1 := cellAt hres 1
          have q0 := frozenAt hres 0
          have q1 := frozenAt hres 1
          simp at r0 r1
          have OV := Lib.hid oV
          have HVB := Lib.hid hVb
          have HV := Lib.hid hV
          clear oV hVb hV hres z1 e0 e1 kk1 kk2 kk3 kk4 ff1 ff2 ff3 ff4
          go_wp2
          have hfound : seekA A op = ({ A with db := op.db, ek := k, ev := x, on := true }, (k, x), 0) := by
            unfold seekA
            rw [hf, if_neg (by simp)]
            show (match (entriesA B).find? (fun e => decide (op.kind = 13) || geS e.1 op.key) with | some e => _ | none => _) = _
            rw [find_at_ix _ _ j (k, x) HKX.out HHIT.out HN.out]
          rw [hfound]
          have o := ((Only.refl (w.heap.size + 1) V).setCell 0 (.string ⟨k.toArray⟩)).setCell 1 (.string ⟨x.toArray⟩)
          refine bodyPost_ret (v := .tuple #[.agg #[encStr k, encStr x], .nilIface]) ?_ rfl ⟨rfl, ?_, ?_⟩
          · rw [results_cell_tmp rfl]
            go_simp
          · refine ModIs.only ?_ o (by rw [hn _ (by omega)]; exact fun e => hi e.symm)
            exact (HM.out.ext HEW2.out).fields (by rw [HW.out]; exact OV.out) _ rfl HVB.out
          · refine Moved.fresh ?_ o (by omega)
            have m1 : Moved σ i w σ W := by rw [← HW.out]; exact Moved.ofExt hn HEW2.out i
            exact m1.trans (Moved.ofOnly m1.neat OV.out (by rw [HM.out.1]))
    · obtain rfl : j = (entriesA B).length := by omega
      have HL := Lib.hid fun (W : World) (hx : Ext w W) => lost_any σ i pb mb bases A W (HM.out.ext hx) (hn.ext hx)
      clear hew
      go_wp2_with fail
      refine (HL.out _ (Ext.step (Ext.step (((Ext.rfl' w).alloc _).alloc _) HX.out) HEW.out)).mono ?_
      rintro e w3 ⟨rfl, hm3, hv3⟩
      have hr3 : w3.heap[w.heap.size + 1]? = some (.cells #[.string ⟨#[]⟩, .string ⟨#[]⟩] 51 (0, 0)) := by
        rw [hv3.turn.block (w.heap.size + 1) (by have := HX.out.size; have := HEW.out.size; simp at *; omega) (by rw [hn _ (by omega)]; exact fun e => hi e.symm), HEW.out.block _ (by have := HX.out.size; simp at *; omega), HX.out.block _ (by simp)]
        exact (show (w.alloc (.cells (opCells op) 30 (0, 0))).heap.size = w.heap.size + 1 by simp) ▸ heap_new (w.alloc (.cells (opCells op) 30 (0, 0))) (.cells #[.string ⟨#[]⟩, .string ⟨#[]⟩] 51 (0, 0))
      have r0 := cellAt hr3 0
      have r1 := cellAt hr3 1
      have q0 := frozenAt hr3 0
      have q1 := frozenAt hr3 1
      simp at r0 r1
      have HM3 := Lib.hid hm3
      have HV3 := Lib.hid hv3
      clear hm3 hv3 hr3
      go_wp2_with fail
      have hnone : seekA A op = (lostA A, ([], []), 21) := by
        unfold seekA
        rw [hf, if_neg (by simp)]
        show (match (entriesA B).find? (fun e => decide (op.kind = 13) || geS e.1 op.key) with | some e => _ | none => _) = _
        rw [List.find?_eq_none.2 (fun y hy => by
          obtain ⟨k, hk⟩ := List.getElem?_of_mem hy
          rw [HN.out k y (List.getElem?_eq_some_iff.1 hk).1 hk]; simp)]
      rw [hnone]
      have o := ((Only.refl (w.heap.size + 1) w3).setCell 0 (.string ⟨#[]⟩)).setCell 1 (.string ⟨#[]⟩)
      refine bodyPost_ret (v := .tuple #[.agg #[encStr [], encStr []], .iface 71 (.int .i64 21)]) ?_ rfl ⟨rfl, HM3.out.only o (by rw [hn _ (by omega)]; exact fun e => hi e.symm), Moved.fresh ((Moved.ofExt hn (Ext.step (Ext.step (((Ext.rfl' w).alloc _).alloc _) HX.out) HEW.out) i).trans HV3.out) o (by omega)⟩
      rw [results_cell_tmp rfl]
      go_simp

set_option maxHeartbeats 4000000 in
set_option maxRecDepth 100000 in
theorem seek_err (σ : Sig) (i pb mb : Nat) (bases : List (S × Value)) (A : ModA) (op : OpA) (w : World) (hM : ModIs w σ i pb mb bases A) (hmain : (mget ([] : S) A.l).isSome = true) (hdb : op.db.length ≤ maxLen) (he : (findA A op.db).2 ≠ 0) :
    Calls Tryz.prog 47 #[.pointer (some ⟨pb, 0, none⟩), opV op] w fun e w' => e = .returned (.tuple #[entV ([], []), errV (findA A op.db).2]) ∧ Ext w w' := by
  have HC : Hid (∀ o1 o2, Calls Tryz.prog 77 #[.pointer (some ⟨pb, 0, none⟩), encStr op.db] ((w.alloc o1).alloc o2) fun e w' => e = .returned (.tuple #[.pointer none, .iface 71 (.int .i64 (findA A op.db).2)]) ∧ w' = (w.alloc o1).alloc o2) := fun o1 o2 => by
    have h := find_any σ i pb mb bases A op.db ((w.alloc o1).alloc o2) (hM.ext (((Ext.rfl' w).alloc o1).alloc o2)) hmain hdb
    unfold findV at h
    rw [find_err he, errV_ne he] at h
    exact h
  have HE := Lib.hid (errV_ne he)
  obtain ⟨c, hcc⟩ : ∃ c, (findA A op.db).2 = c := ⟨_, rfl⟩
  rw [hcc] at HC HE ⊢
  clear hM hmain he hcc
  unfold opV opCells
  go_enter Tryz.func47, Tryz.ntmps47
  go_wp2_with (first | (go_at_call 77; refine (HC.out _ _).mono ?_; rintro e w' ⟨rfl, rfl⟩) | fail)
  rw [HE.out]
  refine bodyPost_ret (v := .tuple #[.agg #[encStr [], encStr []], .iface 71 (.int .i64 c)]) ?_ rfl ⟨rfl, ?_⟩
  · rw [results_cell_tmp rfl]
    go_simp
  · exact ((Ext.rfl' w).alloc _).alloc _

theorem seek_any (σ : Sig) (i pb mb : Nat) (bases : List (S × Value)) (A : ModA) (op : OpA) (w : World) (m : Nat) (hM : ModIs w σ i pb mb bases A) (hn : Neat w σ) (hs : Sound A m) (hm : m ≤ 1000000) (hdb : op.db.length ≤ maxLen) (hi : i ≠ 0) :
    Calls Tryz.prog 47 #[.pointer (some ⟨pb, 0, none⟩), opV op] w fun e w' => e = .returned (.tuple #[entV (seekA A op).2.1, errV (seekA A op).2.2]) ∧ ModIs w' σ i pb mb bases (seekA A op).1 ∧ Moved σ i w σ w' := by
  by_cases h0 : (findA A op.db).2 = 0
  · obtain ⟨B, bb, mb', rows, hf, hgA, hg, hB⟩ := find_at hM hs.main h0
    have hmem := mget_mem hgA
    exact seek_ok σ i pb mb bases A op w hM hn hs.main hdb B bb mb' rows hf hg hB (Nat.le_trans (hs.keys _ _ hmem) hm) (fun p hp => (hs.vals _ _ hmem p hp).2) hi
  · have e1 : seekA A op = (A, ([], []), (findA A op.db).2) := by unfold seekA; rw [if_pos h0]
    rw [e1]
    exact (seek_err σ i pb mb bases A op w hM hs.main hdb h0).mono fun e w' ⟨h1, h2⟩ => ⟨h1, hM.ext h2, Moved.ofExt hn h2 i⟩
end Go.Proofs.YtmkhjmldncegcaaGreatDoor

/-
  WALKS: past.Model.next.
-/
set_option linter.unusedVariables false
set_option linter.unusedSimpArgs false
namespace Go.Proofs.YtmkhjmldncegcaaGreatDoor
open Go.RowKit Go.Maps Go.ChangeMaps Go.MapKept

/-- Is an entry behind the cursor's? -/
def behA (A : ModA) (b : BaseA) (e : S × S) : Bool := gtS e.1 A.ek || (e.1 == A.ek && decide (b.flags = 1) && gtS e.2 A.ev)

set_option maxHeartbeats 4000000 in
set_option maxRecDepth 100000 in
theorem next_off (σ : Sig) (i pb mb : Nat) (bases : List (S × Value)) (A : ModA) (w : World) (hM : ModIs w σ i pb mb bases A) (ho : A.on = false) :
    Calls Tryz.prog 48 #[.pointer (some ⟨pb, 0, none⟩)] w fun e w' => e = .returned (.tuple #[entV ([], []), errV 24]) ∧ Ext w w' := by
  have hc4 := ((Ext.rfl' w).alloc (.cells #[.string ⟨#[]⟩, .string ⟨#[]⟩] 51)).cell (show w.cell? ⟨pb, 4, none⟩ = some (.bool false) by rw [cellAt hM.2.1 4, ← ho]; rfl)
  clear hM ho
  go_enter Tryz.func48, Tryz.ntmps48
  go_wp2
  refine bodyPost_ret (v := .tuple #[.agg #[encStr [], encStr []], .iface 71 (.int .i64 24)]) ?_ rfl ⟨rfl, ?_⟩
  · rw [results_cell_tmp rfl]
    go_simp
  · exact (Ext.rfl' w).alloc _

set_option maxHeartbeats 4000000 in
set_option maxRecDepth 100000 in
theorem next_err (σ : Sig) (i pb mb : Nat) (bases : List (S × Value)) (A : ModA) (w : World) (hM : ModIs w σ i pb mb bases A) (hmain : (mget ([] : S) A.l).isSome = true) (hdb : A.db.length ≤ maxLen) (ho : A.on = true) (he : (findA A A.db).2 ≠ 0) :
    Calls Tryz.prog 48 #[.pointer (some ⟨pb, 0, none⟩)] w fun e w' => e = .returned (.tuple #[entV ([], []), errV (findA A A.db).2]) ∧ Ext w w' := by
  have HC : Hid (∀ o1, Calls Tryz.prog 77 #[.pointer (some ⟨pb, 0, none⟩), encStr A.db] (w.alloc o1) fun e w' => e = .returned (.tuple #[.pointer none, .iface 71 (.int .i64 (findA A A.db).2)]) ∧ w' = (w.alloc o1)) := fun o1 => by
    have h := find_any σ i pb mb bases A A.db (w.alloc o1) (hM.ext ((Ext.rfl' w).alloc o1)) hmain hdb
    unfold findV at h
    rw [find_err he, errV_ne he] at h
    exact h
  have HE := Lib.hid (errV_ne he)
  have hc4 := ((Ext.rfl' w).alloc (.cells #[.string ⟨#[]⟩, .string ⟨#[]⟩] 51)).cell (show w.cell? ⟨pb, 4, none⟩ = some (.bool true) by rw [cellAt hM.2.1 4, ← ho]; rfl)
  have hc1 := ((Ext.rfl' w).alloc (.cells #[.string ⟨#[]⟩, .string ⟨#[]⟩] 51)).cell (show w.cell? ⟨pb, 1, none⟩ = some (encStr A.db) by rw [cellAt hM.2.1 1]; rfl)
  obtain ⟨c, hcc⟩ : ∃ c, (findA A A.db).2 = c := ⟨_, rfl⟩
  rw [hcc] at HC HE ⊢
  clear hM hmain he hcc ho
  go_enter Tryz.func48, Tryz.ntmps48
  go_wp2_with (first | (go_at_call 77; refine (HC.out _).mono ?_; rintro e w' ⟨rfl, rfl⟩) | fail)
  rw [HE.out]
  refine bodyPost_ret (v := .tuple #[.agg #[encStr [], encStr []], .iface 71 (.int .i64 c)]) ?_ rfl ⟨rfl, ?_⟩
  · rw [results_cell_tmp rfl]
    go_simp
  · exact (Ext.rfl' w).alloc _

set_option maxHeartbeats 4000000 in
set_option maxRecDepth 100000 in
theorem next_ok (σ : Sig) (i pb mb : Nat) (bases : List (S × Value)) (A : ModA) (w : World) (hM : ModIs w σ i pb mb bases A) (hn : Neat w σ) (hmain : (mget ([] : S) A.l).isSome = true) (hdb : A.db.length ≤ maxLen) (ho : A.on = true)
    (B : BaseA) (bb mb' : Nat) (rows : List (S × Value)) (hf : findA A A.db = (some B, 0)) (hg : mget A.db bases = some (.pointer (some ⟨bb, 0, none⟩))) (hB : BaseIs w σ i A.db bb mb' rows B) (hm : B.m.length ≤ 1000000) (hx : ∀ p ∈ B.m, p.2.length ≤ 12) (hi : i ≠ 0) :
    Calls Tryz.prog 48 #[.pointer (some ⟨pb, 0, none⟩)] w fun e w' => e = .returned (.tuple #[entV (nextA A).2.1, errV (nextA A).2.2]) ∧ ModIs w' σ i pb mb bases (nextA A).1 ∧ Moved σ i w σ w' := by
  have HC2 : Hid (∀ o1, Calls Tryz.prog 77 #[.pointer (some ⟨pb, 0, none⟩), encStr A.db] (w.alloc o1) fun e w' => e = .returned (.tuple #[.pointer (some ⟨bb, 0, none⟩), .nilIface]) ∧ w' = w.alloc o1) := find_call hM hmain hdb hf hg
  have HEN := Lib.hid fun o1 => entries_any σ i A.db bb mb' rows B (w.alloc o1) (hB.ext ((Ext.rfl' w).alloc o1)) hm hx
  have hel : (entriesA B).length ≤ 12000000 := by have := entsTo_len hx B.m.length; rw [entsTo_all] at this; omega
  have hc4 := ((Ext.rfl' w).alloc (.cells #[.string ⟨#[]⟩, .string ⟨#[]⟩] 51)).cell (show w.cell? ⟨pb, 4, none⟩ = some (.bool true) by rw [cellAt hM.2.1 4, ← ho]; rfl)
  have hc1 := ((Ext.rfl' w).alloc (.cells #[.string ⟨#[]⟩, .string ⟨#[]⟩] 51)).cell (show w.cell? ⟨pb, 1, none⟩ = some (encStr A.db) by rw [cellAt hM.2.1 1]; rfl)
  have hN : nextA A = match (entriesA B).find? (behA A B) with | some e => ({ A with ek := e.1, ev := e.2 }, e, 0) | none => (A, ([], []), 21) := by
    unfold nextA
    rw [hf, if_neg (by rw [ho]; simp), if_neg (by simp)]
    rfl
  have HNX := Lib.hid hN
  have HM := Lib.hid hM
  have HB := Lib.hid hB
  clear hM hmain hB hg hN ho
  go_enter Tryz.func48, Tryz.ntmps48
  go_wp2_with (first | (go_at_call 77; refine (HC2.out _).mono ?_; rintro e w' ⟨rfl, rfl⟩) | fail)
  refine (HEN.out _).mono ?_
  rintro e w1 ⟨v, rfl, hown, hext⟩
  have HX := Lib.hid hext
  have HO := Lib.hid hown
  obtain ⟨_, p, c, rfl, hp1, hp2, _⟩ := Sl.ofOwns hown
  clear hown hext hc1 hc4
  go_wp2_with fail
  go_loopw [31] (fun i wr => ∃ j : Nat, j ≤ (entriesA B).length ∧ i = .int .i64 j ∧ Ext w1 wr ∧ ∀ k y, k < j → (entriesA B)[k]? = some y → behA A B y = false) (fun i _ => (entriesA B).length - (intOf i).toNat)
  case atStart => exact ⟨0, by omega, rfl, Ext.rfl' _, fun k y hk => by omega⟩
  case round =>
    obtain ⟨j, hj, rfl, hew, hnot⟩ := hrel
    obtain ⟨wr, rfl⟩ : ∃ wr' : World, wr' = wr := ⟨_, rfl⟩
    have HN := Lib.hid hnot
    have HEW := Lib.hid hew
    clear hnot
    have EWR : Hid (Ext w wr) := Ext.step (Ext.step ((Ext.rfl' w).alloc _) HX.out) HEW.out
    have hres0 : wr.heap[w.heap.size]? = some (.cells #[.string ⟨#[]⟩, .string ⟨#[]⟩] 51 (0, 0)) := by
      rw [HEW.out.block _ (by have := HX.out.size; simp at *; omega), HX.out.block _ (by simp)]
      exact heap_new _ _
    have hsz0 : w.heap.size < wr.heap.size := lt_heap hres0
    have HR0 := Lib.hid hres0
    clear hres0
    by_cases hlt : j < (entriesA B).length
    · obtain ⟨k, x, hkx⟩ : ∃ k x, (entriesA B)[j]? = some (k, x) := ⟨(entriesA B)[j].1, (entriesA B)[j].2, List.getElem?_eq_getElem hlt⟩
      obtain ⟨g, cap, hpv⟩ : ∃ g cap, Value.slice p (entriesA B).length c = .slice (some ⟨g, 0, none⟩) (entriesA B).length cap := by
        rcases HO.out.2 with ⟨_, h⟩ | ⟨g, cap, cur, h, _⟩
        · omega
        · exact ⟨g, cap, h⟩
      injection hpv with hp1 _ hp3
      subst hp1 hp3
      have hec := ent_cells HO.out rfl hkx
      have c1 := hew.cell hec.1
      have c2 := hew.cell hec.2
      have HKX := Lib.hid hkx
      obtain ⟨W, hW⟩ : ∃ W, W = wr.alloc (.cells #[encStr k, encStr x] 51) := ⟨_, rfl⟩
      have eW : Ext w W := by rw [hW]; exact EWR.out.alloc _
      have hpb := eW.block pb (lt_heap HM.out.2.1)
      rw [HM.out.2.1] at hpb
      have hbb := eW.block bb (lt_heap HB.out.2.1)
      rw [HB.out.2.1] at hbb
      have hres : W.heap[w.heap.size]? = some (.cells #[.string ⟨#[]⟩, .string ⟨#[]⟩] 51 (0, 0)) := by
        rw [hW, ((Ext.rfl' wr).alloc _).block _ hsz0]; exact HR0.out
      have hne : W.heap[wr.heap.size]? = some (.cells #[encStr k, encStr x] 51 (0, 0)) := by rw [hW]; exact heap_new _ _
      have HW := Lib.hid hW
      have EW := Lib.hid eW
      have HPB := Lib.hid hpb
      have HBB := Lib.hid hbb
      have HRES := Lib.hid hres
      have HNE := Lib.hid hne
      clear hkx hec hew hW eW hpb hbb hres hne
      go_wp2_with fail
      rw [← HW.out]
      have k2 := cellAt HPB.out 2
      have k3 := cellAt HPB.out 3
      have g0 := cellAt HBB.out 0
      have e0 := cellAt HNE.out 0
      have e1 := cellAt HNE.out 1
      simp at k2 k3 g0 e0 e1
      have hway : ((((Op.bytesLess k A.ek = false ∧ (k == A.ek) = false) ∨ ((k == A.ek) = true ∧ (B.flags == 1) = true ∧ Op.bytesLess x A.ev = false ∧ (x == A.ev) = false)) ∧ behA A B (k, x) = true) ∨
        (((Op.bytesLess k A.ek = true ∧ (k == A.ek) = false) ∨ ((k == A.ek) = true ∧ (B.flags == 1) = false) ∨ ((k == A.ek) = true ∧ (B.flags == 1) = true ∧ (x == A.ev) = true) ∨ ((k == A.ek) = true ∧ (B.flags == 1) = true ∧ Op.bytesLess x A.ev = true ∧ (x == A.ev) = false)) ∧ behA A B (k, x) = false)) := by
        unfold behA gtS
        simp only [show decide (B.flags = 1) = (B.flags == 1) from rfl]
        cases Op.bytesLess k A.ek <;> cases (k == A.ek) <;> cases (B.flags == 1) <;> cases Op.bytesLess x A.ev <;> cases (x == A.ev) <;> simp
      rcases hway with ⟨hw, hb⟩ | ⟨hw, hb⟩
      · have HH := Lib.hid hb
        clear hb
        rcases hw with ⟨p1, p2⟩ | ⟨p2, p3, p4, p5⟩
        all_goals
          go_quiet (fail)
          generalize hV : W.drewN nq = V
          have eV : Ext W V := by rw [← hV]; exact Ext.drewN W nq
          have hpb := (eV.block pb (lt_heap HPB.out)).trans HPB.out
          have hres := (eV.block _ (lt_heap HRES.out)).trans HRES.out
          have hne := (eV.block _ (lt_heap HNE.out)).trans HNE.out
          have v2 := cellAt hpb 2
          have v3 := cellAt hpb 3
          have f2 := frozenAt hpb 2
          have f3 := frozenAt hpb 3
          have u0 := cellAt hne 0
          have u1 := cellAt hne 1
          have r0 := cellAt hres 0
          have r1 := cellAt hres 1
          have q0 := frozenAt hres 0
          have q1 := frozenAt hres 1
          simp at v2 v3 u0 u1 r0 r1
          have hlt0 := lt_heap HM.out.2.1
          have n1 : ¬ pb = wr.heap.size := by omega
          have n2 : ¬ wr.heap.size = pb := by omega
          have n3 : ¬ pb = w.heap.size := by omega
          have n4 : ¬ w.heap.size = pb := by omega
          have n5 : ¬ w.heap.size = wr.heap.size := by omega
          have n6 : ¬ wr.heap.size = w.heap.size := by omega
          have HP := Lib.hid hpb
          have EV := Lib.hid eV
          clear hV eV hpb hres hne k2 k3 g0 e0 e1 c1 c2
          go_wp2
          rw [HNX.out]
          rw [find_at_ix _ _ j (k, x) HKX.out HH.out HN.out]
          have o1 := ((Only.refl pb V).setCell 2 (.string ⟨k.toArray⟩)).setCell 3 (.string ⟨x.toArray⟩)
          have o := ((Only.refl w.heap.size ((V.setCell ⟨pb, 2, none⟩ (.string ⟨k.toArray⟩)).setCell ⟨pb, 3, none⟩ (.string ⟨x.toArray⟩))).setCell 0 (.string ⟨k.toArray⟩)).setCell 1 (.string ⟨x.toArray⟩)
          refine bodyPost_ret (v := .tuple #[.agg #[encStr k, encStr x], .nilIface]) ?_ rfl ⟨rfl, ?_, ?_⟩
          · rw [results_cell_tmp rfl]
            go_simp
          · refine ModIs.only ?_ o (by rw [hn _ (by omega)]; exact fun e => hi e.symm)
            exact (HM.out.ext (Ext.step EW.out EV.out)).fields o1 _ rfl (heap_setCell_row (heap_setCell_row HP.out 2 _) 3 _)
          · refine Moved.fresh ?_ o (by omega)
            have m1 : Moved σ i w σ V := Moved.ofExt hn (Ext.step EW.out EV.out) i
            exact m1.trans (Moved.ofOnly m1.neat o1 (by rw [HM.out.1]))
      · have HH := Lib.hid hb
        clear hb
        rcases hw with ⟨p1, p2⟩ | ⟨p2, p3⟩ | ⟨p2, p3, p4⟩ | ⟨p2, p3, p4, p5⟩
        all_goals
          go_quiet (fail)
          generalize hV : W.drewN nq = V
          have EV : Hid (Ext wr V) := by
            have e1 : Ext wr W := by rw [HW.out]; exact (Ext.rfl' wr).alloc _
            have e2 : Ext W V := by rw [← hV]; exact Ext.drewN W nq
            exact Ext.step e1 e2
          clear hV c1 c2 k2 k3 g0 e0 e1
          go_wp2
          go_roundw
          case rel =>
            refine ⟨j + 1, by omega, by go_num, Ext.step HEW.out EV.out, fun k' y hk' hy => ?_⟩
            by_cases hkj : k' < j
            · exact HN.out k' y hkj hy
            · obtain rfl : k' = j := by omega
              have hy2 := HKX.out
              rw [hy] at hy2
              injection hy2 with hy2
              subst hy2
              exact HH.out
          case measure => simp [intOf]; omega
    · obtain rfl : j = (entriesA B).length := by omega
      have r0 := cellAt HR0.out 0
      have r1 := cellAt HR0.out 1
      have q0 := frozenAt HR0.out 0
      have q1 := frozenAt HR0.out 1
      simp at r0 r1
      clear hew
      go_wp2
      have hnone : (entriesA B).find? (behA A B) = none := List.find?_eq_none.2 fun y hy => by
        obtain ⟨k, hk⟩ := List.getElem?_of_mem hy
        rw [HN.out k y (List.getElem?_eq_some_iff.1 hk).1 hk]; simp
      rw [HNX.out, hnone]
      have o := ((Only.refl w.heap.size wr).setCell 0 (.string ⟨#[]⟩)).setCell 1 (.string ⟨#[]⟩)
      refine bodyPost_ret (v := .tuple #[.agg #[encStr [], encStr []], .iface 71 (.int .i64 21)]) ?_ rfl ⟨rfl, ?_, ?_⟩
      · rw [results_cell_tmp rfl]
        go_simp
      · exact ModIs.only (HM.out.ext EWR.out) o (by rw [hn _ (by omega)]; exact fun e => hi e.symm)
      · exact Moved.fresh (Moved.ofExt hn EWR.out i) o (by omega)

theorem next_any (σ : Sig) (i pb mb : Nat) (bases : List (S × Value)) (A : ModA) (w : World) (m : Nat) (hM : ModIs w σ i pb mb bases A) (hn : Neat w σ) (hs : Sound A m) (hm : m ≤ 1000000) (hi : i ≠ 0) :
    Calls Tryz.prog 48 #[.pointer (some ⟨pb, 0, none⟩)] w fun e w' => e = .returned (.tuple #[entV (nextA A).2.1, errV (nextA A).2.2]) ∧ ModIs w' σ i pb mb bases (nextA A).1 ∧ Moved σ i w σ w' := by
  cases ho : A.on with
  | false =>
    have e1 : nextA A = (A, ([], []), 24) := by unfold nextA; rw [if_pos ho]
    rw [e1]
    exact (next_off σ i pb mb bases A w hM ho).mono fun e w' ⟨h1, h2⟩ => ⟨h1, hM.ext h2, Moved.ofExt hn h2 i⟩
  | true =>
    by_cases h0 : (findA A A.db).2 = 0
    · obtain ⟨B, bb, mb', rows, hf, hgA, hg, hB⟩ := find_at hM hs.main h0
      have hmem := mget_mem hgA
      exact next_ok σ i pb mb bases A w hM hn hs.main hs.db ho B bb mb' rows hf hg hB (Nat.le_trans (hs.keys _ _ hmem) hm) (fun p hp => (hs.vals _ _ hmem p hp).2) hi
    · have e1 : nextA A = (A, ([], []), (findA A A.db).2) := by unfold nextA; rw [if_neg (by rw [ho]; simp), if_pos h0]
      rw [e1]
      exact (next_err σ i pb mb bases A w hM hs.main hs.db ho h0).mono fun e w' ⟨h1, h2⟩ => ⟨h1, hM.ext h2, Moved.ofExt hn h2 i⟩
end Go.Proofs.YtmkhjmldncegcaaGreatDoor

/-
  errors.As at a nil error, at an api.Errno, with a target of type *api.Errno: Go's own text of errors.As is walked (after the kit's worked example ToyasAs).
-/
set_option linter.unusedVariables false
set_option linter.unusedSimpArgs false
namespace Go.Proofs.YtmkhjmldncegcaaGreatDoor
open Go.RowKit Go.Extern.Stop Go.Stop Go.Extern

theorem as_nil (t : Value) (w : World) :
    Calls Tryz.prog 21 #[.nilIface, t] w fun e w' => e = .returned (.bool false) ∧ w' = w := by
  go_enter Tryz.func21, Tryz.ntmps21
  go_wp2
  go_ret
  exact ⟨rfl, rfl⟩

theorem as_valueOfP (t : Addr) (w : World) : (ReflectliteValue.unpack (.iface 73 (.pointer (some t)))).run Tryz.prog w
    = .ok (.agg #[.pointer (some ⟨1, 73, none⟩), .pointer (some ⟨w.heap.size, 0, none⟩), .int .u64 150]) (w.alloc (.cells #[.pointer (some t)] 73)) := by kernel_rfl
theorem as_typeP (a : Addr) (w : World) : (ReflectliteValue.methodAny (ReflectliteValue.valueError "reflectlite.Value.Type" 0) (fun t _ _ _ => ReflectliteType.toType t) #[.agg #[.pointer (some ⟨1, 73, none⟩), .pointer (some a), .int .u64 150]]).run Tryz.prog w
    = .ok (.iface 148 (.agg #[.pointer (some ⟨1, 73, none⟩)])) w := by kernel_rfl
theorem as_methodKind (h : Value) (w : World) : (Go.method 323 148 (.agg #[h]) "Kind").run Tryz.prog w = .ok (142, h) w := by kernel_rfl
theorem as_kindP (w : World) : ((ReflectliteType.abiMethod fun t => (fun a : Nat => Value.int IntKind.u8 (a : Int)) <$> Rtype.kind t) #[.pointer (some ⟨1, 73, none⟩)]).run Tryz.prog w = .ok (.int .u8 22) w := by kernel_rfl
theorem as_kindE (w : World) : ((ReflectliteType.abiMethod fun t => (fun a : Nat => Value.int IntKind.u8 (a : Int)) <$> Rtype.kind t) #[.pointer (some ⟨1, 71, none⟩)]).run Tryz.prog w = .ok (.int .u8 2) w := by kernel_rfl
theorem as_rlm (z : Sem Value) (f : TypeId → Addr → Nat → Nat → Sem Value) (v : Value) :
    ReflectliteValue.method z f #[v] = (do match ← ReflectliteValue.parts v with | none => z | some (t, a, fl) => f t a fl (fl % 32)) := rfl
theorem as_partsP (a : Addr) (w : World) : (ReflectliteValue.parts (.agg #[.pointer (some ⟨1, 73, none⟩), .pointer (some a), .int .u64 150])).run Tryz.prog w = .ok (some (73, a, 150)) w := by kernel_rfl
theorem as_isNilP (a p : Addr) (W : World) (ha : W.cell? a = some (.pointer (some p))) :
    (ReflectliteValue.method (ReflectliteValue.valueError "reflectlite.Value.IsNil" 0) ReflectliteValue.isNil #[.agg #[.pointer (some ⟨1, 73, none⟩), .pointer (some a), .int .u64 150]]).run Tryz.prog W = .ok (.bool false) W := by
  rw [as_rlm]
  simp only [Sem.run_bind, as_partsP, Result.andThen]
  simp [ReflectliteValue.isNil, loadVar, isAgg, underlying, Tryz.underlying73, ha, Result.andThen]
theorem as_methodElem (h : Value) (w : World) : (Go.method 323 148 (.agg #[h]) "Elem").run Tryz.prog w = .ok (152, .agg #[h]) w := by kernel_rfl
theorem as_methodImplements (h : Value) (w : World) : (Go.method 323 148 (.agg #[h]) "Implements").run Tryz.prog w = .ok (153, .agg #[h]) w := by kernel_rfl
theorem as_methodAssignableTo (h : Value) (w : World) : (Go.method 323 148 (.agg #[h]) "AssignableTo").run Tryz.prog w = .ok (150, .agg #[h]) w := by kernel_rfl
theorem as_elemP (w : World) : (ReflectliteType.method ReflectliteType.elem #[.agg #[.pointer (some ⟨1, 73, none⟩)]]).run Tryz.prog w = .ok (.iface 148 (.agg #[.pointer (some ⟨1, 71, none⟩)])) w := by kernel_rfl
theorem as_implE (w : World) : (ReflectliteType.relation "Implements" ReflectliteType.implements_ #[.agg #[.pointer (some ⟨1, 71, none⟩)], .iface 148 (.agg #[.pointer (some ⟨1, 68, none⟩)])]).run Tryz.prog w = .ok (.bool true) w := by kernel_rfl
theorem as_typeOfE (v : Value) (w : World) : (ReflectliteType.typeOf #[.iface 71 v]).run Tryz.prog w = .ok (.iface 148 (.agg #[.pointer (some ⟨1, 71, none⟩)])) w := by kernel_rfl
theorem as_assignE (w : World) : (ReflectliteType.relation "AssignableTo" ReflectliteType.assignableTo #[.agg #[.pointer (some ⟨1, 71, none⟩)], .iface 148 (.agg #[.pointer (some ⟨1, 71, none⟩)])]).run Tryz.prog w = .ok (.bool true) w := by kernel_rfl
theorem as_valueOfE (n : Int) (w : World) : (ReflectliteValue.unpack (.iface 71 (.int .i64 n))).run Tryz.prog w
    = .ok (.agg #[.pointer (some ⟨1, 71, none⟩), .pointer (some ⟨w.heap.size, 0, none⟩), .int .u64 130]) (w.alloc (.cells #[.int .i64 n] 71)) := by kernel_rfl
theorem as_elemOfP (w : World) : (Rtype.elem? 73).run Tryz.prog w = .ok (some 71) w := by kernel_rfl
theorem as_mkE (p : Addr) (w : World) : (ReflectliteValue.mk 71 p ReflectliteValue.flagAddr).run Tryz.prog w = .ok (.agg #[.pointer (some ⟨1, 71, none⟩), .pointer (some p), .int .u64 386]) w := by kernel_rfl
theorem as_elemVP (a p : Addr) (W : World) (ha : W.cell? a = some (.pointer (some p))) :
    (ReflectliteValue.method (ReflectliteValue.valueError "reflectlite.Value.Elem" 0) ReflectliteValue.elem #[.agg #[.pointer (some ⟨1, 73, none⟩), .pointer (some a), .int .u64 150]]).run Tryz.prog W
      = .ok (.agg #[.pointer (some ⟨1, 71, none⟩), .pointer (some p), .int .u64 386]) W := by
  rw [as_rlm]
  simp only [Sem.run_bind, as_partsP, Result.andThen]
  simp [ReflectliteValue.elem, loadVar, isAgg, underlying, Tryz.underlying73, ha, Result.andThen, as_elemOfP, as_mkE]
theorem as_rls (v x : Value) : ReflectliteValue.set #[v, x] = (do
    let (some (dst, a, fl), some (src, b, _)) := (← ReflectliteValue.parts v, ← ReflectliteValue.parts x)
      | unsupported (.noEntry "extern/(internal/reflectlite.Value).Set.zeroValue")
    if fl / ReflectliteValue.flagAddr % 2 == 0 then unsupported (.noEntry "extern/(internal/reflectlite.Value).Set.unaddressable")
    let val ← loadVar src b
    if ← Rtype.directlyAssignable dst src then storeVar dst a val
    else if ← Rtype.implements dst src then
      if (← Rtype.kind src) == 20 then
        match val with
        | .nilIface => unsupported (.noEntry "extern/reflectlite: a nil value of one interface type handed on as a value of another")
        | _ => storeVar dst a val
      else storeVar dst a (.iface src val)
    else panicString ("reflectlite.Set: value of type " ++ (← Rtype.spelt src) ++ " is not assignable to type " ++ (← Rtype.spelt dst))
    pure (.tuple #[])) := rfl
theorem as_partsEa (a : Addr) (w : World) : (ReflectliteValue.parts (.agg #[.pointer (some ⟨1, 71, none⟩), .pointer (some a), .int .u64 386])).run Tryz.prog w = .ok (some (71, a, 386)) w := by kernel_rfl
theorem as_partsE (a : Addr) (w : World) : (ReflectliteValue.parts (.agg #[.pointer (some ⟨1, 71, none⟩), .pointer (some a), .int .u64 130])).run Tryz.prog w = .ok (some (71, a, 130)) w := by kernel_rfl
theorem as_directE (w : World) : (Rtype.directlyAssignable 71 71).run Tryz.prog w = .ok true w := by kernel_rfl
theorem as_setE (ta b : Addr) (n : Int) (old : Value) (W : World) (hb : W.cell? b = some (.int .i64 n)) (ht : W.cell? ta = some old) (hf : W.frozen? ta = false) :
    (ReflectliteValue.set #[.agg #[.pointer (some ⟨1, 71, none⟩), .pointer (some ta), .int .u64 386], .agg #[.pointer (some ⟨1, 71, none⟩), .pointer (some b), .int .u64 130]]).run Tryz.prog W
      = .ok (.tuple #[]) (W.setCell ta (.int .i64 n)) := by
  rw [as_rls]
  simp only [Sem.run_bind, as_partsEa, as_partsE, Result.andThen]
  simp [ReflectliteValue.flagAddr, loadVar, isAgg, underlying, Tryz.underlying71, hb, Result.andThen, as_directE, storeVar, Value.cells, storeCells, Addr.add]
  rw [run_store Tryz.prog W ta _ _ (by rfl)]
  simp [ht, hf]

/-- What the package-level variable errors.errorType holds. -/
def ErrType (w : World) : Prop := w.cell? ⟨0, 0, none⟩ = some (.iface 148 (.agg #[.pointer (some ⟨1, 68, none⟩)]))

set_option maxHeartbeats 4000000 in
set_option maxRecDepth 100000 in
theorem as_hit0 (n : Int) (t : Addr) (old : Value) (w : World) (hg : w.cell? ⟨0, 0, none⟩ = some (.iface 148 (.agg #[.pointer (some ⟨1, 68, none⟩)]))) (ht0 : w.cell? t = some old) (hf0 : w.frozen? t = false) :
    Calls Tryz.prog 21 #[.iface 71 (.int .i64 n), .iface 73 (.pointer (some t))] w fun ev w' => ev = .returned (.bool true) ∧
      w' = ((((w.alloc (.cells #[.pointer (some t)] 73)).alloc (.cells #[.pointer (some ⟨1, 73, none⟩), .pointer (some ⟨w.heap.size, 0, none⟩), .int .u64 150] 108)).alloc (.cells #[.pointer (some ⟨1, 73, none⟩), .pointer (some ⟨w.heap.size, 0, none⟩), .int .u64 150] 108)).alloc (.cells #[.int .i64 n] 71)).setCell t (.int .i64 n) := by
  have h6 := @run_callFunc_extern Tryz.prog 49 _ (fun args => ReflectliteValue.unpack (args.getD 0 (.tuple #[]))) Tryz.func49 (by kernel_rfl) (by kernel_rfl) (by kernel_rfl) (by kernel_rfl)
  have h7 := @run_callFunc_extern Tryz.prog 50 _ (ReflectliteValue.methodAny (ReflectliteValue.valueError "reflectlite.Value.Type" 0) (fun t _ _ _ => ReflectliteType.toType t)) Tryz.func50 (by kernel_rfl) (by kernel_rfl) (by kernel_rfl) (by kernel_rfl)
  have h8 := @run_callFunc_extern Tryz.prog 51 _ (ReflectliteValue.method (ReflectliteValue.valueError "reflectlite.Value.IsNil" 0) ReflectliteValue.isNil) Tryz.func51 (by kernel_rfl) (by kernel_rfl) (by kernel_rfl) (by kernel_rfl)
  have h27 := @run_callFunc_extern Tryz.prog 142 _ (ReflectliteType.abiMethod fun t => do pure (.int .u8 (← Rtype.kind t))) Tryz.func142 (by kernel_rfl) (by kernel_rfl) (by kernel_rfl) (by kernel_rfl)
  have h37 := @run_callFunc_extern Tryz.prog 152 _ (ReflectliteType.method ReflectliteType.elem) Tryz.func152 (by kernel_rfl) (by kernel_rfl) (by kernel_rfl) (by kernel_rfl)
  have h38 := @run_callFunc_extern Tryz.prog 153 _ (ReflectliteType.relation "Implements" ReflectliteType.implements_) Tryz.func153 (by kernel_rfl) (by kernel_rfl) (by kernel_rfl) (by kernel_rfl)
  have h10 := @run_callFunc_extern Tryz.prog 82 _ ReflectliteType.typeOf Tryz.func82 (by kernel_rfl) (by kernel_rfl) (by kernel_rfl) (by kernel_rfl)
  have h35 := @run_callFunc_extern Tryz.prog 150 _ (ReflectliteType.relation "AssignableTo" ReflectliteType.assignableTo) Tryz.func150 (by kernel_rfl) (by kernel_rfl) (by kernel_rfl) (by kernel_rfl)
  have h11 := @run_callFunc_extern Tryz.prog 83 _ (ReflectliteValue.method (ReflectliteValue.valueError "reflectlite.Value.Elem" 0) ReflectliteValue.elem) Tryz.func83 (by kernel_rfl) (by kernel_rfl) (by kernel_rfl) (by kernel_rfl)
  have h12 := @run_callFunc_extern Tryz.prog 84 _ ReflectliteValue.set Tryz.func84 (by kernel_rfl) (by kernel_rfl) (by kernel_rfl) (by kernel_rfl)
  have tO := as_typeOfE
  have mA := as_methodAssignableTo
  have a25 := as_assignE
  have v25 := as_valueOfE
  have f6 := as_valueOfP
  have f7 := as_typeP
  have mK := as_methodKind
  have mE := as_methodElem
  have mI := as_methodImplements
  have k27 := as_kindP
  have k25 := as_kindE
  have e27 := as_elemP
  have i25 := as_implE
  have n8 := as_isNilP ⟨w.heap.size, 0, none⟩ t ((w.alloc (.cells #[.pointer (some t)] 73)).alloc (.cells #[.pointer (some ⟨1, 73, none⟩), .pointer (some ⟨w.heap.size, 0, none⟩), .int .u64 150] 108)) (by simp)
  have hlt : 0 < w.heap.size := by
    rcases Nat.eq_zero_or_pos w.heap.size with h0 | h
    · simp [World.cell?, h0] at hg
    · exact h
  have hg2 : ((w.alloc (.cells #[.pointer (some t)] 73)).alloc (.cells #[.pointer (some ⟨1, 73, none⟩), .pointer (some ⟨w.heap.size, 0, none⟩), .int .u64 150] 108)).cell? ⟨0, 0, none⟩ = some (.iface 148 (.agg #[.pointer (some ⟨1, 68, none⟩)])) := by
    rw [World.cell?_alloc_lt _ _ ⟨0, 0, none⟩ (by simp), World.cell?_alloc_lt _ _ ⟨0, 0, none⟩ hlt]; exact hg
  have htl : t.block < w.heap.size := by
    rcases Nat.lt_or_ge t.block w.heap.size with h | h
    · exact h
    · simp [World.cell?, Array.getElem?_eq_none h] at ht0
  have el := as_elemVP ⟨w.heap.size, 0, none⟩ t (((w.alloc (.cells #[.pointer (some t)] 73)).alloc (.cells #[.pointer (some ⟨1, 73, none⟩), .pointer (some ⟨w.heap.size, 0, none⟩), .int .u64 150] 108)).alloc (.cells #[.pointer (some ⟨1, 73, none⟩), .pointer (some ⟨w.heap.size, 0, none⟩), .int .u64 150] 108)) (by rw [World.cell?_alloc_lt _ _ ⟨w.heap.size, 0, none⟩ (by simp; omega)]; simp)
  have st := as_setE t ⟨w.heap.size + 1 + 1 + 1, 0, none⟩ n old ((((w.alloc (.cells #[.pointer (some t)] 73)).alloc (.cells #[.pointer (some ⟨1, 73, none⟩), .pointer (some ⟨w.heap.size, 0, none⟩), .int .u64 150] 108)).alloc (.cells #[.pointer (some ⟨1, 73, none⟩), .pointer (some ⟨w.heap.size, 0, none⟩), .int .u64 150] 108)).alloc (.cells #[.int .i64 n] 71))
    (by rw [World.cell?_alloc_at _ _ _ _ (by simp)]; rfl)
    (by rw [World.cell?_alloc_lt _ _ t (by simp; omega), World.cell?_alloc_lt _ _ t (by simp; omega), World.cell?_alloc_lt _ _ t (by simp; omega), World.cell?_alloc_lt _ _ t htl]; exact ht0)
    (by rw [World.frozen?_alloc_old _ _ t (by simp; omega), World.frozen?_alloc_old _ _ t (by simp; omega), World.frozen?_alloc_old _ _ t (by simp; omega), World.frozen?_alloc_old _ _ t (Nat.ne_of_lt htl)]; exact hf0)
  go_enter Tryz.func21, Tryz.ntmps21
  go_wp2
  refine wp_loop_rounds 1 ?_
  rw [rounds_succ]
  go_wp2
  go_ret
  exact ⟨rfl, rfl⟩
end Go.Proofs.YtmkhjmldncegcaaGreatDoor

