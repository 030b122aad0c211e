/-
  WALKS: the library's search, clone and insert at rows of ints in this program's words; ids.Has, ids.With.
-/
import Derived.Test.YtlpkidpkgbjenaaWithW
import Derived.Test.YtlpkidpkgbjenaaIsW
import Derived.Test.YtlpkidpkgbjenaaSameW
import Derived.Test.YtlpkidpkgbjenaaShelfA
import Derived.Test.YtlpkidpkgbjenaaShelfB
set_option linter.unusedVariables false
set_option linter.unusedSimpArgs false
namespace Go.Proofs.Ytlpkidpkgbjenaa
open Go.RowKit

/-! ### memory -/
theorem heap_setCell_row {w : World} {g : Nat} {cur : Array Value} {e : TypeId} {fr : Nat × Nat} (h : w.heap[g]? = some (.cells cur e fr)) (i : Nat) (u : Value) : (w.setCell ⟨g, i, none⟩ u).heap[g]? = some (.cells (cur.setIfInBounds i u) e fr) := by
  simp [World.setCell, Array.getElem?_modify, h]

theorem heap_setCells_row (g : Nat) (e : TypeId) (fr : Nat × Nat) : ∀ (vs : List Value) (o : Nat) (w : World) (cur : Array Value), w.heap[g]? = some (.cells cur e fr) → o + vs.length ≤ cur.size →
    ∃ cur', (w.setCells g o vs).heap[g]? = some (.cells cur' e fr) ∧ cur'.size = cur.size ∧ cur'.toList = cur.toList.take o ++ vs ++ cur.toList.drop (o + vs.length)
  | [], o, w, cur, h, hl => ⟨cur, h, rfl, by simp⟩
  | v :: r, o, w, cur, h, hl => by
    simp at hl
    obtain ⟨cur', h1, h2, h3⟩ := heap_setCells_row g e fr r (o + 1) (w.setCell ⟨g, o, none⟩ v) (cur.setIfInBounds o v) (heap_setCell_row h o v) (by simp; omega)
    refine ⟨cur', h1, by simpa using h2, ?_⟩
    rw [h3]
    have hlen : o < cur.toList.length := by simp; omega
    simp only [Array.toList_setIfInBounds]
    rw [List.take_set, List.take_succ_eq_append_getElem hlen, List.drop_set_of_lt (by omega)]
    rw [List.set_append_right _ _ (by simp; omega)]
    have : o - (cur.toList.take o).length = 0 := by simp; omega
    rw [this]
    simp [Nat.add_assoc, Nat.add_comm 1]

theorem below_setCells' {B g : Nat} (hg : B ≤ g) : ∀ (vs : List Value) (o : Nat) {a w : World}, Below B a w → Below B a (w.setCells g o vs)
  | [], _, _, _, h => h
  | v :: r, o, _, _, h => below_setCells' hg r (o + 1) (h.setCell (p := ⟨g, o, none⟩) hg v)

theorem size_setCells' (g : Nat) : ∀ (vs : List Value) (o : Nat) (w : World), (w.setCells g o vs).heap.size = w.heap.size
  | [], _, _ => rfl
  | v :: r, o, w => by rw [World.setCells, size_setCells' g r]; simp [World.setCell]

theorem pairwise_of_rises (xs : List Int) (h : rises xs = true) : xs.Pairwise (· < ·) := by
  induction xs with
  | nil => exact List.Pairwise.nil
  | cons a r ih =>
    cases r with
    | nil => simp
    | cons b s =>
      simp only [rises, Bool.and_eq_true, decide_eq_true_eq] at h
      have ih := ih h.2
      refine List.Pairwise.cons (fun x hx => ?_) ih
      rcases List.mem_cons.1 hx with rfl | hx
      · exact h.1
      · exact Int.lt_trans h.1 ((List.pairwise_cons.1 ih).1 x hx)

/-! ### slices.BinarySearch -/
theorem bs_any (v : Value) (xs : List Int) (n : Int) (w : World) (h : Ints w v xs) (hr : rises xs = true) (hsz : xs.length ≤ 1000000) :
    Calls Try.prog 24 #[v, .int .i64 n] w fun e w' => e = .returned (.tuple #[.int .i64 (xs.countP (· < n) : Nat), .bool (hasB xs n)]) ∧ ∃ q, w' = w.drewN q := by
  rcases h with ⟨rfl, p, c, rfl, _⟩ | ⟨h0, b, off, c, rfl, _, _, hc⟩
  · exact (Try.slices_BinarySearch_int_empty p c n w).mono fun e w' ⟨h1, h2⟩ => ⟨h1, 0, h2⟩
  · have := Try.slices_BinarySearch_int b off xs.length c xs n w (Nat.le_refl _) (by omega) hc (by rw [List.take_length]; exact (pairwise_of_rises xs hr).imp (fun h => by omega))
    rw [List.take_length] at this
    exact this

/-! ### slices.Clone -/
theorem clone_any (v : Value) (xs : List Int) (w : World) (h : Ints w v xs) (hsz : xs.length ≤ 1000000) :
    Calls Try.prog 25 #[v] w fun e w' => ∃ v', e = .returned v' ∧ w'.ownsRow w.heap.size 3 1 v' xs.length (xs.map (Value.int .i64)) ∧ Ext w w' := by
  rcases h with ⟨rfl, p, c, rfl, _⟩ | ⟨h0, b, off, c, rfl, _, _, hc⟩
  · cases p with
    | none => exact (Try.slices_Clone_int_nil 0 c w).mono fun e w' ⟨h1, h2⟩ => ⟨_, h1, by subst h2; exact owns_nil _ _ _ _, by subst h2; exact Ext.rfl' _⟩
    | some a => exact (Try.slices_Clone_int_zero a c w).mono fun e w' ⟨v', h1, h2, _, h3⟩ => ⟨v', h1, h2, h3⟩
  · have := Try.slices_Clone_int b off xs.length c xs w (Nat.le_refl _) (by omega) hc
    rw [List.take_length] at this
    exact this.mono fun e w' ⟨v', h1, h2, _, h3⟩ => ⟨v', h1, h2, h3⟩

theorem shape_row {w : World} {g : Nat} {cur : Array Value} {e : TypeId} {fr : Nat × Nat} (h : w.heap[g]? = some (.cells cur e fr)) : w.shape? g = some (e, cur.size) := by simp [World.shape?, h]
theorem frozen_row {w : World} {g : Nat} {cur : Array Value} {e : TypeId} (h : w.heap[g]? = some (.cells cur e (0, 0))) (o : Nat) : w.frozen? ⟨g, o, none⟩ = false := by simp [World.frozen?, h]
theorem cell_row {w : World} {g : Nat} {cur : Array Value} {e : TypeId} {fr : Nat × Nat} (h : w.heap[g]? = some (.cells cur e fr)) (o : Nat) : w.cell? ⟨g, o, none⟩ = cur[o]? := by simp [World.cell?, h]

theorem size_zeros (k : Nat) : (Builtin.zeroCells (Value.int .i64 0).cells k).size = k := by simp [size_zeroCells, Value.cells]

/-! ### slices.Insert(s, i, x), s the call's own, x in a block of its own -/
theorem insert_own (base : Nat) (v : Value) (xs : List Int) (i vb : Nat) (x : Int) (eb : TypeId) (w : World) (hown : w.ownsRow base 3 1 v xs.length (xs.map (Value.int .i64))) (hi : i ≤ xs.length) (hsz : xs.length ≤ 1000000) (hbase : base ≤ w.heap.size)
    (hvb : w.heap[vb]? = some (.cells #[.int .i64 x] eb (0, 0))) (hne : v.ownBlock ≠ some vb) :
    Calls Try.prog 26 #[v, .int .i64 i, .slice (some ⟨vb, 0, none⟩) 1 1] w fun e w' => ∃ v', e = .returned v' ∧
      w'.ownsRow base 3 1 v' (xs.length + 1) ((xs.take i ++ x :: xs.drop i).map (Value.int .i64)) ∧ Below base w w' := by
  have hvs : ∀ j u, [Value.int .i64 x][j]? = some u → w.cell? ⟨vb, 0 + j, none⟩ = some u := by
    intro j u hj
    rw [cell_row hvb]
    simpa using hj
  have hlx : (xs.map (Value.int .i64)).length = xs.length := by simp
  have hll : (xs.take i ++ x :: xs.drop i).length = xs.length + 1 := by simp; omega
  have h1v := int_one x
  have h1c := ints_one xs
  rcases hown.2 with ⟨rfl, h0⟩ | ⟨g, cap, cur, rfl, hbg, hg, hnc, hcm, hcs, htake⟩
  · -- nil
    have hx0 : xs = [] := List.eq_nil_of_length_eq_zero h0
    subst hx0
    obtain rfl : i = 0 := by simpa using hi
    have hcon := Any2.slices_Insert_int_end_grow Try.ins21 none 0 0 vb 0 1 1 [] [.int .i64 x] w (by omega) (by omega) (by omega) (by omega) rfl rfl (fun _ => rfl) (by intro a ha; cases ha) hvs h1v
    refine hcon.mono ?_
    rintro e w' ⟨rfl, rfl⟩
    have et : Try.ins21_ren.t 3 = 3 := rfl
    rw [et]
    have hge := grownCap_ge w (0 + 1) 0 3
    have hcm2 : grownCap w (0 + 1) 0 3 ≤ maxLen := grownCap_le_maxLen w (0 + 1) 0 3 (by unfold maxLen; omega)
    refine ⟨_, rfl, ⟨by simp, .inr ⟨w.heap.size, _, _, rfl, hbase, heap_alloc_new w.drew _, hge, hcm2, ?_, by simp⟩⟩, ((Below.refl _ _).drew.alloc hbase _)⟩
    rw [Array.size_append, size_zeros]
    simp only [List.size_toArray, List.length_append, List.length_nil, List.length_singleton]
    omega
  · have hne' : vb ≠ g := fun e => hne (by simp [Value.ownBlock, e])
    have hgs : g < w.heap.size := (Array.getElem?_eq_some_iff.1 hg).1
    have hcells : ∀ j u, (xs.map (Value.int .i64))[j]? = some u → w.cell? ⟨g, 0 + j, none⟩ = some u := by
      intro j u hu
      have := hown.cells (g := g) rfl j u hu
      simpa [Addr.add_lit] using this
    have hcs' : cur.size = cap := by omega
    have htk : cur.toList.take xs.length = xs.map (Value.int .i64) := by simpa using htake
    by_cases hroom : xs.length + 1 ≤ cap
    · by_cases hin : i < xs.length
      · have hcon := Any2.slices_Insert_int_shift Try.ins21 g 0 xs.length cap i vb 0 1 1 (xs.map (Value.int .i64)) [.int .i64 x] w hin (by omega) hroom (by unfold maxLen at hcm; omega) hne' hlx rfl hcells
          (fun j hj => by rw [cell_row hg, Array.getElem?_eq_getElem (by omega)]; rfl) (fun j hj => frozen_row hg _) hvs h1c h1v eb 3 1 cur.size (by rw [shape_row hvb]; rfl) (shape_row hg) (by omega) (frozen_row hvb _) (frozen_row hvb _)
        refine hcon.mono ?_
        rintro e w' ⟨rfl, rfl⟩
        obtain ⟨cur1, g1, s1, l1⟩ := heap_setCells_row g 3 (0, 0) ((xs.map (Value.int .i64)).drop i) (0 + (i + 1)) w.drew cur hg (by simp; omega)
        obtain ⟨cur2, g2, s2, l2⟩ := heap_setCells_row g 3 (0, 0) [.int .i64 x] (0 + i) _ cur1 g1 (by simp; omega)
        refine ⟨_, rfl, ⟨by simp; omega, .inr ⟨g, cap, cur2, rfl, hbg, g2, hroom, hcm, by omega, ?_⟩⟩, below_setCells' hbg _ _ (below_setCells' hbg _ _ ((Below.refl _ _).drew))⟩
        rw [l2, l1]
        have e1 : (cur.toList.take (0 + (i + 1)) ++ (xs.map (Value.int .i64)).drop i ++ cur.toList.drop (0 + (i + 1) + ((xs.map (Value.int .i64)).drop i).length)).take (0 + i) = (xs.map (Value.int .i64)).take i := by
          rw [← htk, List.append_assoc, List.take_append_of_le_length (by simp; omega), List.take_take, List.take_take]
          congr 1; omega
        have e2 : (cur.toList.take (0 + (i + 1)) ++ (xs.map (Value.int .i64)).drop i ++ cur.toList.drop (0 + (i + 1) + ((xs.map (Value.int .i64)).drop i).length)).drop (0 + i + 1) = (xs.map (Value.int .i64)).drop i ++ cur.toList.drop (0 + (i + 1) + ((xs.map (Value.int .i64)).drop i).length) := by
          rw [List.append_assoc, List.drop_append_of_le_length (by simp; omega), List.drop_eq_nil_of_le (by simp; omega), List.nil_append]
        rw [e1]
        simp only [List.length_singleton]
        rw [e2, ← List.append_assoc, List.take_append_of_le_length (by simp; omega), List.take_of_length_le (by simp; omega)]
        simp [List.map_take, List.map_drop]
      · obtain rfl : i = xs.length := by omega
        have hcon := Any2.slices_Insert_int_end_room Try.ins21 g 0 xs.length cap vb 0 1 1 [.int .i64 x] w (by omega) hroom (by unfold maxLen at hcm; omega) rfl
          (fun j hj => by rw [cell_row hg, Array.getElem?_eq_getElem (by omega)]; rfl) (fun j hj => frozen_row hg _) hvs h1v
        refine hcon.mono ?_
        rintro e w' ⟨rfl, rfl⟩
        obtain ⟨cur1, g1, s1, l1⟩ := heap_setCells_row g 3 (0, 0) [.int .i64 x] (0 + xs.length) w cur hg (by simp; omega)
        refine ⟨_, rfl, ⟨by simp, .inr ⟨g, cap, cur1, rfl, hbg, g1, hroom, hcm, by omega, ?_⟩⟩, below_setCells' hbg _ _ (Below.refl _ _)⟩
        rw [l1, Nat.zero_add, htk]
        rw [List.take_append_of_le_length (by simp), List.take_of_length_le (by simp)]
        simp
    · by_cases hin : i < xs.length
      · have hcon := Any2.slices_Insert_int_grow Try.ins21 g 0 xs.length cap i vb 0 1 1 (xs.map (Value.int .i64)) [.int .i64 x] w hin (by omega) hnc (by omega) (by omega) hlx rfl hcells hvs h1c h1v
        refine hcon.mono ?_
        rintro e w' ⟨rfl, rfl⟩
        have et : Try.ins21_ren.t 3 = 3 := rfl
        rw [et]
        have hge := grownCap_ge w (xs.length + 1) cap 3
        have hcm2 : grownCap w (xs.length + 1) cap 3 ≤ maxLen := grownCap_le_maxLen w _ cap 3 (by unfold maxLen; omega)
        generalize grownCap w (xs.length + 1) cap 3 = gc at hge hcm2 ⊢
        have g0 := heap_alloc_new w (.cells (((xs.map (Value.int .i64)).take i).toArray ++ Builtin.zeroCells (Value.int .i64 0).cells (xs.length + 1 - i) ++ Builtin.zeroCells (Value.int .i64 0).cells (gc - (xs.length + 1))) 3 (0, 0))
        have hs0 : (((xs.map (Value.int .i64)).take i).toArray ++ Builtin.zeroCells (Value.int .i64 0).cells (xs.length + 1 - i) ++ Builtin.zeroCells (Value.int .i64 0).cells (gc - (xs.length + 1))).size = gc := by
          rw [Array.size_append, Array.size_append, size_zeros, size_zeros]; simp; omega
        have ht0 : (((xs.map (Value.int .i64)).take i).toArray ++ Builtin.zeroCells (Value.int .i64 0).cells (xs.length + 1 - i) ++ Builtin.zeroCells (Value.int .i64 0).cells (gc - (xs.length + 1))).toList.take i = (xs.map (Value.int .i64)).take i := by
          simp only [Array.toList_append, List.append_assoc]
          rw [List.take_append_of_le_length (by simp; omega), List.take_of_length_le (by simp; omega)]
        generalize (((xs.map (Value.int .i64)).take i).toArray ++ Builtin.zeroCells (Value.int .i64 0).cells (xs.length + 1 - i) ++ Builtin.zeroCells (Value.int .i64 0).cells (gc - (xs.length + 1))) = cur0 at g0 hs0 ht0 ⊢
        obtain ⟨cur1, g1, s1, l1⟩ := heap_setCells_row w.heap.size 3 (0, 0) [.int .i64 x] i (w.alloc (.cells cur0 3 (0, 0))).drew cur0 g0 (by simp; omega)
        obtain ⟨cur2, g2, s2, l2⟩ := heap_setCells_row w.heap.size 3 (0, 0) ((xs.map (Value.int .i64)).drop i) (i + 1) (((w.alloc (.cells cur0 3 (0, 0))).drew.setCells w.heap.size i [.int .i64 x]).drew) cur1 g1 (by simp; omega)
        refine ⟨_, rfl, ⟨by simp; omega, .inr ⟨w.heap.size, gc, cur2, rfl, hbase, g2, by omega, hcm2, by omega, ?_⟩⟩, below_setCells' hbase _ _ (below_setCells' hbase _ _ ((Below.refl _ _).alloc hbase _).drew).drew⟩
        rw [l2, l1]
        have e1 : (cur0.toList.take i ++ [Value.int .i64 x] ++ cur0.toList.drop (i + [Value.int .i64 x].length)).take (i + 1) = (xs.map (Value.int .i64)).take i ++ [.int .i64 x] := by
          rw [ht0, List.take_append_of_le_length (by simp; omega), List.take_of_length_le (by simp; omega)]
        rw [e1, List.take_append_of_le_length (by simp; omega), List.take_of_length_le (by simp; omega)]
        simp [List.map_take, List.map_drop]
      · obtain rfl : i = xs.length := by omega
        have hcon := Any2.slices_Insert_int_end_grow Try.ins21 (some ⟨g, 0, none⟩) xs.length cap vb 0 1 1 (xs.map (Value.int .i64)) [.int .i64 x] w (by omega) hnc (by omega) (by omega) hlx rfl (fun h => by cases h)
          (by intro a ha j u hu; cases ha; exact hown.cells (g := g) rfl j u hu) hvs h1v
        refine hcon.mono ?_
        rintro e w' ⟨rfl, rfl⟩
        have et : Try.ins21_ren.t 3 = 3 := rfl
        rw [et]
        have hge := grownCap_ge w (xs.length + 1) cap 3
        have hcm2 : grownCap w (xs.length + 1) cap 3 ≤ maxLen := grownCap_le_maxLen w _ cap 3 (by unfold maxLen; omega)
        generalize grownCap w (xs.length + 1) cap 3 = gc at hge hcm2 ⊢
        refine ⟨_, rfl, ⟨by simp, .inr ⟨w.heap.size, gc, _, rfl, hbase, heap_alloc_new w.drew _, hge, hcm2, ?_, ?_⟩⟩, ((Below.refl _ _).drew.alloc hbase _)⟩
        · rw [Array.size_append, size_zeros]
          simp; omega
        · simp only [Array.toList_append, List.append_assoc]
          rw [← List.append_assoc, List.take_append_of_le_length (by simp), List.take_of_length_le (by simp)]
          simp

theorem withOf_sorted : ∀ (xs : List Int) (n : Int), xs.Pairwise (· < ·) → n ∉ xs → xs.take (xs.countP (· < n)) ++ n :: xs.drop (xs.countP (· < n)) = withOf xs n
  | [], n, _, _ => rfl
  | a :: r, n, h, hn => by
    have h' := List.pairwise_cons.1 h
    have hne : a ≠ n := fun e => hn (by simp [e])
    by_cases ha : a < n
    · rw [List.countP_cons_of_pos (by simpa using ha), withOf, if_neg hne, if_neg (by omega)]
      rw [List.take_succ_cons, List.drop_succ_cons, List.cons_append, withOf_sorted r n h'.2 (fun h => hn (by simp [h]))]
    · have h0 : (a :: r).countP (· < n) = 0 := by
        rw [List.countP_eq_zero]
        intro x hx
        rcases List.mem_cons.1 hx with rfl | hx
        · simpa using ha
        · have := h'.1 x hx; simp; omega
      rw [h0, withOf, if_neg hne, if_pos (by omega)]; rfl
theorem withOf_mem : ∀ (xs : List Int) (n : Int), xs.Pairwise (· < ·) → n ∈ xs → withOf xs n = xs
  | [], n, _, hn => by simp at hn
  | a :: r, n, h, hn => by
    have h' := List.pairwise_cons.1 h
    by_cases ha : a = n
    · rw [withOf, if_pos ha]
    · have hr : n ∈ r := by
        rcases List.mem_cons.1 hn with e | hr
        · exact absurd e.symm ha
        · exact hr
      rw [withOf, if_neg ha, if_neg (by have := h'.1 n hr; omega), withOf_mem r n h'.2 hr]
theorem withOf_has {xs : List Int} {n : Int} (hr : rises xs = true) (h : hasB xs n = true) : xs = withOf xs n := (withOf_mem xs n (pairwise_of_rises xs hr) (hasB_iff.1 h)).symm
theorem withOf_hasnt {xs : List Int} {n : Int} (hr : rises xs = true) (h : hasB xs n = false) : xs.take (xs.countP (· < n)) ++ n :: xs.drop (xs.countP (· < n)) = withOf xs n :=
  withOf_sorted xs n (pairwise_of_rises xs hr) (fun k => by rw [hasB_iff.2 k] at h; cases h)

/-! ### ids.Has, ids.With -/
set_option maxHeartbeats 400000 in
theorem has_any (v : Value) (xs : List Int) (n : Int) (w : World) (h : Ints w v xs) (hr : rises xs = true) (hsz : xs.length ≤ 1000000) :
    Calls Try.prog 12 #[v, .int .i64 n] w fun e w' => e = .returned (.bool (hasB xs n)) ∧ ∃ q, w' = w.drewN q := by
  have HB := Lib.hid (bs_any v xs n w h hr hsz)
  obtain ⟨p, c, rfl, _⟩ := h.form
  clear h hr
  go_enter Try.func12, Try.ntmps12
  go_wp2_with (go_at_call 24; refine HB.out.mono ?_; rintro e w' ⟨rfl, q, rfl⟩)
  go_ret
  exact ⟨rfl, q, rfl⟩

set_option maxHeartbeats 1000000 in
theorem with_any (v : Value) (xs : List Int) (n : Int) (w : World) (h : Ints w v xs) (hr : rises xs = true) (hsz : xs.length ≤ 1000000) :
    Calls Try.prog 15 #[v, .int .i64 n] w fun e w' => ∃ v', e = .returned v' ∧ Ints w' v' (withOf xs n) ∧ Ext w w' := by
  have HB := Lib.hid (bs_any v xs n w h hr hsz)
  have HC := Lib.hid fun q => clone_any v xs (w.drewN q) (h.drewN q) hsz
  obtain ⟨p, c, rfl, _⟩ := h.form
  clear h
  have hcl := List.countP_le_length (p := fun x => decide (x < n)) (l := xs)
  cases hb : hasB xs n with
  | true =>
    have HW := Lib.hid (withOf_has hr hb)
    rw [hb] at HB
    clear hb hr
    go_enter Try.func15, Try.ntmps15
    go_wp2_with (first
      | (go_at_call 24; refine HB.out.mono ?_; rintro e w' ⟨rfl, q, rfl⟩)
      | (go_at_call 25; refine (HC.out q).mono ?_; rintro e w1 ⟨v1, rfl, hown, hext⟩))
    go_ret
    exact ⟨_, rfl, by rw [← HW.out]; exact Ints.ofOwns hown, Ext.step (Ext.drewN w q) hext⟩
  | false =>
    have HW := Lib.hid (withOf_hasnt hr hb)
    rw [hb] at HB
    clear hb hr
    generalize hk : xs.countP (fun x => decide (x < n)) = k at HB HW hcl
    clear hk
    go_enter Try.func15, Try.ntmps15
    go_wp2_with (first
      | (go_at_call 24; refine HB.out.mono ?_; rintro e w' ⟨rfl, q, rfl⟩)
      | (go_at_call 25; refine (HC.out q).mono ?_; rintro e w1 ⟨v1, rfl, hown, hext⟩)
      | fail)
    refine (insert_own w.heap.size v1 xs k w1.heap.size n 3 _ (hown.alloc _) hcl hsz (by have := hext.size; simp; exact Nat.le_trans this (Nat.le_succ _)) (heap_alloc_new w1 _) (by
      intro e; have := (hown.lt _ e).2; omega)).mono ?_
    rintro e w2 ⟨v2, rfl, hown2, hb2⟩
    have HO := Lib.hid hown2
    have HE : Hid (Ext w w2) := Lib.hid (Below.trans ((Ext.step (Ext.drewN w q) hext).alloc _) hb2)
    clear hown2 hb2 hown hext
    go_wp2_with fail
    go_ret
    exact ⟨_, rfl, by rw [← HW.out]; exact Ints.ofOwns (n := xs.length + 1) HO.out, HE.out⟩
end Go.Proofs.Ytlpkidpkgbjenaa
