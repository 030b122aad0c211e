/-
  WALKS: both of two rows (ids.Both: Concat, Sort, Compact); the law's own far.
-/
import Derived.Test.YtlpkidpkgbjenaaDropW
set_option linter.unusedVariables false
set_option linter.unusedSimpArgs false
namespace Go.Proofs.Ytlpkidpkgbjenaa
open Go.RowKit Go.Lib Go.Sort

theorem grow_nil (n : Nat) (w : World) (hn : n ≤ 1000000) :
    Calls Try.prog 36 #[.slice none 0 0, .int .i64 n] w fun e w' => ∃ v', e = .returned v' ∧ w'.ownsRow w.heap.size 3 1 v' 0 [] ∧ Ext w w' := by
  by_cases h0 : n = 0
  · subst h0
    exact (Any8.slices_Grow_room Try.growI none 0 0 0 w (by omega) (by omega) (by omega) (by omega)).mono fun e w' ⟨h1, h2⟩ => ⟨_, h1, owns_nil _ _ _ _, by subst h2; exact Ext.rfl' _⟩
  · obtain ⟨i0, hi0, hz0, hz1, hz2⟩ := info_parts int_info
    have hcon := Any8.slices_Grow_grow Try.growI i0 (.int .i64 0) hi0 hz0 (by omega) none 0 0 n [] w (by omega) (by omega) (by rw [hz2]; omega) (by omega) (by simp) (fun _ => rfl) (by intro a ha; cases ha)
    refine hcon.mono ?_
    rintro e w' ⟨rfl, rfl⟩
    have et : Try.growI_ren.t 25 = 3 := rfl
    rw [et]
    have hge := grownCap_ge w (0 + n) 0 3
    have hcm2 : grownCap w (0 + n) 0 3 ≤ maxLen := grownCap_le_maxLen w _ 0 3 (by unfold maxLen; omega)
    refine ⟨_, rfl, ⟨rfl, .inr ⟨w.heap.size, _, _, rfl, Nat.le_refl _, heap_alloc_new w.drew _, Nat.zero_le _, hcm2, ?_, by simp⟩⟩, ((Below.refl _ _).drew.alloc (Nat.le_refl _) _)⟩
    rw [Array.size_append, Array.size_append, size_zeros, size_zeros]
    simp only [List.size_toArray, List.length_nil]; omega

set_option maxRecDepth 100000 in
set_option maxHeartbeats 1000000 in
theorem concat_any (b : Nat) (v u : Value) (xs ys : List Int) (w : World) (hx : Ints w v xs) (hy : Ints w u ys) (hsx : xs.length ≤ 100000) (hsy : ys.length ≤ 100000)
    (c0 : w.cell? ⟨b, 0, none⟩ = some v) (c1 : w.cell? ⟨b, 1, none⟩ = some u) :
    Calls Try.prog 27 #[.slice (some ⟨b, 0, none⟩) 2 2] w fun e w' => ∃ v', e = .returned v' ∧ w'.ownsRow w.heap.size 3 1 v' (xs ++ ys).length ((xs ++ ys).map (Value.int .i64)) ∧ Ext w w' := by
  obtain ⟨p, c, rfl, _⟩ := hx.form
  obtain ⟨p', c', rfl, _⟩ := hy.form
  have HX := Lib.hid hx
  have HY := Lib.hid hy
  clear hx hy
  go_enter Try.func27, Try.ntmps27
  go_wp2
  go_loop [3, 11] (fun s i => (s = .int .i64 0 ∧ i = .int .i64 0) ∨ (s = .int .i64 xs.length ∧ i = .int .i64 1) ∨ (s = .int .i64 ((xs.length : Int) + ys.length) ∧ i = .int .i64 2)) (fun _ i => 2 - (intOf i).toNat)
  case atStart => exact .inl ⟨rfl, rfl⟩
  case round =>
    rcases hrel with ⟨rfl, rfl⟩ | ⟨rfl, rfl⟩ | ⟨rfl, rfl⟩
    · go_wp2
      go_round
      case rel => exact .inr (.inl ⟨by first | rfl | simp, rfl⟩)
      case measure => simp [intOf]
    · go_wp2
      go_round
      case rel => exact .inr (.inr ⟨by first | rfl | simp, rfl⟩)
      case measure => simp [intOf]
    · have hg := grow_nil (xs.length + ys.length) w (by omega)
      have e1 : ((xs.length + ys.length : Nat) : Int) = (xs.length : Int) + ys.length := by omega
      rw [e1] at hg
      have HG := Lib.hid hg
      clear hg e1
      go_wp2_with (go_at_call 36; refine HG.out.mono ?_; rintro e w1 ⟨v1, rfl, hown1, hext1⟩)
      have HO1 := Lib.hid hown1
      clear hown1
      go_loopw [6, 27] (fun s i wr => ∃ zs : List Int, wr.ownsRow w.heap.size 3 1 s zs.length (zs.map (Value.int .i64)) ∧ Ext w wr ∧ ((zs = [] ∧ i = .int .i64 0) ∨ (zs = xs ∧ i = .int .i64 1) ∨ (zs = xs ++ ys ∧ i = .int .i64 2))) (fun _ i _ => 2 - (intOf i).toNat)
      case atStart => exact ⟨[], HO1.out, hext1, .inl ⟨rfl, rfl⟩⟩
      case round =>
        obtain ⟨zs, hown, hext, hway⟩ := hrel
        have HO := Lib.hid hown
        clear hown
        rcases hway with ⟨rfl, rfl⟩ | ⟨rfl, rfl⟩ | ⟨rfl, rfl⟩
        · have d0 := hext.cell c0
          go_wp2_with (at_builtin; refine wpList_append_sl _ rfl _ _ _ (by rfl) w.heap.size intsEl _ _ _ (by rfl) HO.out _ xs.length (xs.map (Value.int .i64)) (by rfl) ((Sl.ofInts HX.out).ext hext) (ints_one _) (by unfold maxLen; simp; omega) (by simp; omega) hext.size ?_; intro v2 w2 hown2 hgrow2 hat2)
          have HO2 := Lib.hid hown2
          have HE2 : Hid (Ext w w2) := Lib.hid (below_append hext hext.size HO.out hgrow2)
          clear hown2 hgrow2 hat2
          go_wp2_with fail
          go_roundw
          case rel => exact ⟨xs, by simpa using HO2.out, HE2.out, .inr (.inl ⟨rfl, rfl⟩)⟩
          case measure => simp [intOf]
        · have d0 := hext.cell c1
          go_wp2_with (at_builtin; refine wpList_append_sl _ rfl _ _ _ (by rfl) w.heap.size intsEl _ _ _ (by rfl) HO.out _ ys.length (ys.map (Value.int .i64)) (by rfl) ((Sl.ofInts HY.out).ext hext) (ints_one _) (by unfold maxLen; omega) (by omega) hext.size ?_; intro v2 w2 hown2 hgrow2 hat2)
          have HO2 := Lib.hid hown2
          have HE2 : Hid (Ext w w2) := Lib.hid (below_append hext hext.size HO.out hgrow2)
          clear hown2 hgrow2 hat2
          go_wp2_with fail
          go_roundw
          case rel => exact ⟨_, by simpa using HO2.out, HE2.out, .inr (.inr ⟨rfl, rfl⟩)⟩
          case measure => simp [intOf]
        · go_wp2
          go_ret
          exact ⟨_, rfl, HO.out, hext⟩

theorem sort_own (base : Nat) (v : Value) (zs : List Int) (w : World) (hown : w.ownsRow base 3 1 v zs.length (zs.map (Value.int .i64))) (hsz : zs.length ≤ 1000000) (hbase : base ≤ w.heap.size) :
    Calls Try.prog 28 #[v] w fun e w' => e = .returned (.tuple #[]) ∧ w'.ownsRow base 3 1 v zs.length ((zs.mergeSort fun x y => decide (x ≤ y)).map (Value.int .i64)) ∧ Below base w w' := by
  rcases hown.2 with ⟨rfl, h0⟩ | ⟨g, cap, cur, rfl, hbg, hg, hnc, hcm, hcs, htake⟩
  · have hx0 : zs = [] := List.eq_nil_of_length_eq_zero h0
    subst hx0
    exact (Try.slices_Sort_int_none none 0 w).mono fun e w' ⟨h1, h2⟩ => ⟨h1, by subst h2; simpa using owns_nil _ _ _ _, by subst h2; exact Below.refl _ _⟩
  · have hgs : g < w.heap.size := (Array.getElem?_eq_some_iff.1 hg).1
    have htk : cur.toList.take zs.length = zs.map (Value.int .i64) := by simpa using htake
    have hH := holds_of_blockI (ss := zs) hg htk
    refine (Try.slices_Sort_int g 0 cap zs w hH hgs (by omega)).mono ?_
    rintro e w' ⟨rfl, n, os, rfl⟩
    refine ⟨rfl, ownsRow_sortedI (by simp) hbg hg hnc hcm hcs, ?_⟩
    exact Below.grown (Below.refl _ _) (grownBy_sortedI _) hbase (by intro k hk; cases hk; exact hbg)

theorem compact_len (zs : List Int) : (Lib.compact zs).length ≤ zs.length := by
  unfold Lib.compact Lib.compactUpTo
  rw [List.length_map]
  exact Nat.le_trans (List.length_filter_le _ _) (by simp)

theorem compact_own (base : Nat) (v : Value) (zs : List Int) (w : World) (hown : w.ownsRow base 3 1 v zs.length (zs.map (Value.int .i64))) (hsz : zs.length ≤ 1000000) (hbase : base ≤ w.heap.size) :
    Calls Try.prog 29 #[v] w fun e w' => ∃ v', e = .returned v' ∧ Ints w' v' (Lib.compact zs) ∧ Below base w w' := by
  rcases hown.2 with ⟨rfl, h0⟩ | ⟨g, cap, cur, rfl, hbg, hg, hnc, hcm, hcs, htake⟩
  · have hx0 : zs = [] := List.eq_nil_of_length_eq_zero h0
    subst hx0
    exact (Try.slices_Compact_int_empty none 0 w).mono fun e w' ⟨h1, h2⟩ => ⟨_, h1, Ints.nil _ _ _ (Nat.zero_le _), by subst h2; exact Below.refl _ _⟩
  · have hgs : g < w.heap.size := (Array.getElem?_eq_some_iff.1 hg).1
    have htk : cur.toList.take zs.length = zs.map (Value.int .i64) := by simpa using htake
    have hH := holds_of_blockI (ss := zs) hg htk
    refine (Try.slices_Compact_int g 0 cap zs w hH (by omega) hnc).mono ?_
    rintro e w' ⟨rfl, q, rfl⟩
    have hle := compact_len zs
    have := owns_putRow (w := w) (base := base) (cap := cap) (e := 3) (Lib.compact zs ++ List.replicate (zs.length - (Lib.compact zs).length) 0) (Lib.compact zs).length q hbg hg hcm (by omega) (by simp; omega) (by simp)
    rw [List.take_append_of_le_length (Nat.le_refl _), List.take_length] at this
    exact ⟨_, rfl, Ints.ofOwns this, below_putRow _ hbg hbase⟩

def bothS (xs ys : List Int) : List Int := Lib.compact ((xs ++ ys).mergeSort fun x y => decide (x ≤ y))

set_option maxHeartbeats 1000000 in
theorem both_any (v u : Value) (xs ys : List Int) (w : World) (hx : Ints w v xs) (hy : Ints w u ys) (hsx : xs.length ≤ 100000) (hsy : ys.length ≤ 100000) :
    Calls Try.prog 19 #[v, u] w fun e w' => ∃ v', e = .returned v' ∧ Ints w' v' (bothS xs ys) ∧ Ext w w' := by
  have HC := Lib.hid fun o => concat_any w.heap.size v u xs ys (w.alloc (.cells #[v, u] o)) (hx.ext ((Ext.rfl' w).alloc _)) (hy.ext ((Ext.rfl' w).alloc _)) hsx hsy (by simp) (by simp)
  have hl : (xs ++ ys).length ≤ 1000000 := by simp; omega
  obtain ⟨p, c, rfl, _⟩ := hx.form
  obtain ⟨p', c', rfl, _⟩ := hy.form
  have HZ : Hid (bothS xs ys = Lib.compact ((xs ++ ys).mergeSort fun x y => decide (x ≤ y))) := Lib.hid rfl
  generalize bothS xs ys = r at HZ ⊢
  clear hx hy
  generalize hz : xs ++ ys = zs at HC hl HZ
  clear hz
  go_enter Try.func19, Try.ntmps19
  go_wp2_with fail
  refine (HC.out _).mono ?_
  rintro e w1 ⟨v1, rfl, hown, hext⟩
  have HO := Lib.hid hown
  clear hown
  go_wp2_with fail
  refine (sort_own _ v1 zs w1 HO.out hl (by have := hext.size; simpa using this)).mono ?_
  rintro e w2 ⟨rfl, hown2, hb2⟩
  have HO2 := Lib.hid hown2
  clear hown2
  go_wp2_with fail
  have hml : (zs.mergeSort fun x y => decide (x ≤ y)).length = zs.length := by simp
  refine (compact_own (w.alloc (.cells #[.slice p xs.length c, .slice p' ys.length c'] 22)).heap.size v1 _ w2 (by rw [hml]; exact HO2.out) (by rw [hml]; exact hl) (by have := hext.size; have := hb2.size; simp at *; omega)).mono ?_
  rintro e w3 ⟨v3, rfl, hin, hb3⟩
  have HI := Lib.hid hin
  have HE : Hid (Ext w w3) := Lib.hid (Ext.step ((Ext.rfl' w).alloc _) (Below.trans hext (Below.trans hb2 hb3)))
  clear hin hb3 hb2 hext hml
  go_wp2_with fail
  go_ret
  exact ⟨_, rfl, by rw [HZ.out]; exact HI.out, HE.out⟩
end Go.Proofs.Ytlpkidpkgbjenaa
