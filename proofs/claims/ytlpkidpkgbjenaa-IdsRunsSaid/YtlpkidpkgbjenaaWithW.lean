/-
  WALKS: a row with a number (copyholdref1.With), and both of two rows (copyholdref1.Both).
-/
import Derived.Test.YtlpkidpkgbjenaaFiltW
import Derived.Deep.RegionHeld3
import Derived.Deep.DrawnRows
import Derived.StillTactics
import Derived.Laws.Pointers
set_option linter.unusedVariables false
set_option linter.unusedSimpArgs false
namespace Go.Proofs.Ytlpkidpkgbjenaa
open Go.RowKit
attribute [local go_sem ↓] Go.wp_at_zero Go.wp_at_succ

def withOf : List Int → Int → List Int
  | [], n => [n]
  | a :: r, n => if a = n then a :: r else if n < a then n :: a :: r else a :: withOf r n

theorem withOf_end : ∀ (xs : List Int) (n : Int), (∀ j, j < xs.length → xs.getD j 0 < n) → withOf xs n = xs ++ [n]
  | [], n, _ => rfl
  | a :: r, n, h => by
    have h0 : a < n := by simpa using h 0 (by simp)
    rw [withOf, if_neg (by omega), if_neg (by omega), withOf_end r n (fun j hj => by simpa using h (j + 1) (by simpa using hj))]; rfl
theorem withOf_there : ∀ (xs : List Int) (n : Int) (k : Nat), (∀ j, j < k → xs.getD j 0 < n) → k < xs.length → xs.getD k 0 = n → withOf xs n = xs
  | [], n, k, _, hk, _ => by simp at hk
  | a :: r, n, 0, h, _, he => by simp at he; rw [withOf, if_pos he]
  | a :: r, n, k + 1, h, hk, he => by
    have h0 : a < n := by simpa using h 0 (by omega)
    rw [withOf, if_neg (by omega), if_neg (by omega), withOf_there r n k (fun j hj => by simpa using h (j + 1) (by omega)) (by simpa using hk) (by simpa using he)]
theorem withOf_mid : ∀ (xs : List Int) (n : Int) (k : Nat), (∀ j, j < k → xs.getD j 0 < n) → k < xs.length → n < xs.getD k 0 → withOf xs n = xs.take k ++ [n] ++ xs.drop k
  | [], n, k, _, hk, _ => by simp at hk
  | a :: r, n, 0, h, _, he => by simp at he; rw [withOf, if_neg (by omega), if_pos he]; rfl
  | a :: r, n, k + 1, h, hk, he => by
    have h0 : a < n := by simpa using h 0 (by omega)
    rw [withOf, if_neg (by omega), if_neg (by omega), withOf_mid r n k (fun j hj => by simpa using h (j + 1) (by omega)) (by simpa using hk) (by simpa using he)]; rfl
theorem withOf_len (xs : List Int) (n : Int) : (withOf xs n).length ≤ xs.length + 1 := by
  induction xs with
  | nil => simp [withOf]
  | cons a r ih => unfold withOf; split <;> (try split) <;> simp <;> omega

theorem ext_grown {w w' : World} (h : w.grownBy w' (Value.ownBlock (.slice none 0 0))) : Ext w w' := Below.grown (Below.refl _ _) h (Nat.le_refl _) (by intro k hk; simp [Value.ownBlock] at hk)
theorem Ext.drew' (w : World) : Ext w w.drew := Below.drew (Below.refl _ _)

set_option maxRecDepth 100000 in
set_option maxHeartbeats 2000000 in
theorem refWith_any (v : Value) (xs : List Int) (n : Int) (w : World) (h : Ints w v xs) (hsz : xs.length ≤ 1000000) :
    Calls Try.prog 16 #[v, .int .i64 n] w fun e w' => ∃ v', e = .returned v' ∧ Ints w' v' (withOf xs n) ∧ Ext w w' := by
  obtain ⟨p, c, rfl, hlc, hcm, hc⟩ := h.opened
  have HI := Lib.hid h
  clear h
  have HC := Lib.hid hc
  clear hc
  go_enter Try.func16, Try.ntmps16
  go_wp2
  go_loop [5] (fun i => ∃ k : Nat, k ≤ xs.length ∧ i = .int .i64 k ∧ ∀ j, j < k → xs.getD j 0 < n) (fun i => xs.length - (intOf i).toNat)
  case atStart => exact ⟨0, by omega, rfl, fun j hj => by omega⟩
  case round =>
    obtain ⟨k, hk, rfl, hr⟩ := hrel
    have HR := Lib.hid hr
    clear hr
    by_cases hlt : k < xs.length
    · obtain ⟨b, off, rfl, hc⟩ := HC.out (by omega)
      have c1 : w.cell? ⟨b, off + k, none⟩ = some (.int .i64 (xs.getD k 0)) := hc k hlt
      have HT := Lib.hid (Ints.take (w := w) hc hlc hcm (i := k) hk)
      have HD := Lib.hid (Ints.drop (w := w) hc hlc hcm (i := k) hlt)
      clear hc
      generalize hx : xs.getD k 0 = x at c1
      have HX := Lib.hid hx
      clear hx
      by_cases h1 : x = n
      · subst h1
        go_wp2
        go_ret
        exact ⟨_, rfl, by rw [withOf_there xs x k HR.out hlt HX.out]; exact HI.out, Ext.rfl' _⟩
      · have d1 : (x == n) = false := by simp [h1]
        by_cases h2 : n < x
        · have HW := Lib.hid (withOf_mid xs n k HR.out hlt (by rw [HX.out]; exact h2))
          clear h1
          go_wp2_with fail
          have b1 : (0 : Int) ≤ (k : Int) := by omega
          have b2 : (k : Int) ≤ (c : Int) := by omega
          have b3 : (k : Int) ≤ (xs.length : Int) := by omega
          have b4 : ¬ c = k := by omega
          have HT' : Hid (∀ W, Ext w W → Sl W 1 (.slice (some ⟨b, off, none⟩) k c) k ((xs.take k).map (Value.int .i64))) := Lib.hid fun W e => by
            have := Sl.ofInts (HT.out.ext e); rwa [List.length_take, Nat.min_eq_left hk] at this
          have HD' : Hid (∀ W, Ext w W → Sl W 1 (.slice (some ⟨b, off + k, none⟩) (xs.length - k) (c - k)) (xs.length - k) ((xs.drop k).map (Value.int .i64))) := Lib.hid fun W e => by
            have := Sl.ofInts (HD.out.ext e); rwa [List.length_drop] at this
          go_region_held3 (fun w' => Ext w w') (first | exact ex3 | exact ex2 | exact ex1 | exact Ext.drew' w | exact (Ext.alloc ex1 _) | exact (Ext.alloc (Ext.rfl' w) _).drew | exact Ext.alloc (Ext.drew' w) _)
            (first
              | (refine step_append_sl _ (by rfl) _ _ _ (by rfl) w.heap.size intsEl v2 _ _ (by rfl) hown2 _ (xs.length - k) ((xs.drop k).map (Value.int .i64)) (by rfl) (HD'.out _ ex2) (ints_one _) (by unfold maxLen; omega) (by omega) ex2.size ?_; intro v3 w3 hown3 hgrow3 hat3; have ex3 := below_append ex2 ex2.size hown2 hgrow3)
              | (refine step_append_sl _ (by rfl) _ _ _ (by rfl) w.heap.size intsEl v1 _ _ (by rfl) (by first | exact hown1 | exact hown1.alloc _) _ 1 [.int .i64 n] (by rfl) (by first | exact Sl.new1 _ _ _ | exact ((Sl.new1 w _ _).ext (Ext.drew' _)).ext fx1) (int_one _) (by unfold maxLen; omega) (by omega) (by have := ex1.size; first | exact this | (simp; omega)) ?_; intro v2 w2 hown2 hgrow2 hat2; have ex2 : Ext w w2 := (by first | exact below_append ex1 ex1.size hown1 hgrow2 | exact below_append (Ext.alloc ex1 _) (by have := ex1.size; simp; omega) (hown1.alloc _) hgrow2))
              | (refine step_append_sl _ (by rfl) _ _ _ (by rfl) w.heap.size intsEl (.slice none 0 0) 0 [] (by rfl) (owns_nil _ _ _ _) (.slice (some ⟨b, off, none⟩) k c) k ((xs.take k).map (Value.int .i64)) (by rfl) (by first | exact HT'.out _ (Ext.drew' w) | exact HT'.out _ ((Ext.alloc (Ext.rfl' w) _).drew)) (ints_one _) (by unfold maxLen; omega) (by omega) (by first | exact Nat.le_refl _ | simp) ?_; intro v1 w1 hown1 hgrow1 hat1; have fx1 := ext_grown hgrow1; have ex1 : Ext w w1 := (by first | exact Ext.step (Ext.drew' w) fx1 | exact Ext.step ((Ext.alloc (Ext.rfl' w) _).drew) fx1)))
          all_goals
            have HO3 := Lib.hid hown3
            have HE3 := Lib.hid ex3
            clear hown3 ex3 hown2 hown1 ex1 ex2 fx1 hgrow1 hgrow2 hgrow3 hat1 hat2 hat3
            go_wp2
            go_ret
            exact ⟨_, rfl, by rw [HW.out]; exact Sl.toInts (Sl.ofOwns (by simpa using HO3.out)), HE3.out⟩
        · have h3 : x < n := by omega
          clear h1
          go_wp2
          go_round
          case rel =>
            refine ⟨k + 1, by omega, by go_num, fun j hj => ?_⟩
            by_cases hjk : j < k
            · exact HR.out j hjk
            · obtain rfl : j = k := by omega
              rw [HX.out]; exact h3
          case measure => simp [intOf]; omega
    · have HW := Lib.hid (withOf_end xs n (fun j hj => HR.out j (by omega)))
      go_wp2_with (first
        | (at_builtin; refine wpList_append_sl _ rfl _ _ _ (by rfl) w.heap.size intsEl v1 _ _ (by rfl) (hown1.alloc _) _ 1 [.int .i64 n] (by rfl) (Sl.new1 _ _ _) (int_one _) (by unfold maxLen; omega) (by omega) (by have := ex1.size; simp; omega) ?_; intro v2 w2 hown2 hgrow2 hat2; have ex2 := below_append (Ext.alloc ex1 _) (by have := ex1.size; simp; omega) (hown1.alloc _) hgrow2)
        | (at_builtin; refine wpList_append_sl _ rfl _ _ _ (by rfl) w.heap.size intsEl (.slice none 0 0) 0 [] (by rfl) (owns_nil _ _ _ _) _ xs.length (xs.map (Value.int .i64)) (by rfl) (Sl.ofInts HI.out) (ints_one _) (by unfold maxLen; omega) (by omega) (Nat.le_refl _) ?_; intro v1 w1 hown1 hgrow1 hat1; have ex1 := ext_grown hgrow1))
      have HO3 := Lib.hid hown2
      have HE3 := Lib.hid ex2
      clear hown2 hown1 ex1 ex2 hgrow1 hgrow2 hat1 hat2
      go_ret
      exact ⟨_, rfl, by rw [HW.out]; exact Sl.toInts (Sl.ofOwns (by simpa using HO3.out)), HE3.out⟩

def bothOf (a b : List Int) : List Int := b.foldl withOf a
theorem bothOf_snoc (a b : List Int) (k : Nat) (h : k < b.length) : bothOf a (b.take (k + 1)) = withOf (bothOf a (b.take k)) (b.getD k 0) := by
  unfold bothOf
  rw [List.take_succ_eq_append_getElem h, List.foldl_append, getD_eq h]; rfl
theorem bothOf_len (a b : List Int) : (bothOf a b).length ≤ a.length + b.length := by
  unfold bothOf
  induction b generalizing a with
  | nil => simp
  | cons x r ih => have := ih (withOf a x); have := withOf_len a x; simp; omega

set_option maxHeartbeats 1000000 in
theorem refBoth_any (v u : Value) (xs ys : List Int) (w : World) (h : Ints w v xs) (h' : Ints w u ys) (hsx : xs.length ≤ 100000) (hsy : ys.length ≤ 100000) :
    Calls Try.prog 20 #[v, u] w fun e w' => ∃ v', e = .returned v' ∧ Ints w' v' (bothOf xs ys) ∧ Ext w w' := by
  obtain ⟨p, c, rfl, hlc, hcm, hc⟩ := h'.opened
  obtain ⟨p', c', rfl, _, _⟩ := h.form
  have HI := Lib.hid h
  clear h h'
  have HC := Lib.hid hc
  clear hc
  go_enter Try.func20, Try.ntmps20
  go_wp2_with (at_builtin; refine wpList_append_sl _ rfl _ _ _ (by rfl) w.heap.size intsEl (.slice none 0 0) 0 [] (by rfl) (owns_nil _ _ _ _) _ xs.length (xs.map (Value.int .i64)) (by rfl) (Sl.ofInts HI.out) (ints_one _) (by unfold maxLen; omega) (by omega) (Nat.le_refl _) ?_; intro v1 w1 hown1 hgrow1 hat1)
  have HO : Hid (Ints w1 v1 xs) := Lib.hid (Sl.toInts (Sl.ofOwns (by simpa using hown1)))
  have ex1 := ext_grown hgrow1
  clear hown1 hgrow1 hat1
  go_wp2_with fail
  go_loopw [5, 6] (fun v i wr => ∃ k : Nat, k ≤ ys.length ∧ i = .int .i64 k ∧ Ints wr v (bothOf xs (ys.take k)) ∧ Ext w wr) (fun _ i _ => ys.length - (intOf i).toNat)
  case atStart => exact ⟨0, by omega, rfl, HO.out, ex1⟩
  case round =>
    obtain ⟨k, hk, rfl, hin, hext⟩ := hrel
    by_cases hlt : k < ys.length
    · obtain ⟨b, off, rfl, hc⟩ := HC.out (by omega)
      have c1 : wr.cell? ⟨b, off + k, none⟩ = some (.int .i64 (ys.getD k 0)) := hext.cell (hc k hlt)
      clear hc
      have HB := Lib.hid (bothOf_snoc xs ys k hlt)
      generalize hx : ys.getD k 0 = x at c1 HB
      clear hx
      have hl : (bothOf xs (ys.take k)).length ≤ 1000000 := by
        have := bothOf_len xs (ys.take k); have : (ys.take k).length ≤ ys.length := (by rw [List.length_take]; omega); omega
      have HN := Lib.hid hin
      have HL := Lib.hid hl
      clear hin hl
      go_wp2_with (go_at_call 16; refine (refWith_any _ _ _ _ HN.out HL.out).mono ?_; rintro e w2 ⟨v2, rfl, hin2, hext2⟩)
      have HN2 := Lib.hid hin2
      have HE2 := Lib.hid (Ext.step hext hext2)
      clear hin2 hext2
      go_wp2_with fail
      go_roundw
      case rel => exact ⟨k + 1, by omega, by go_num, by rw [HB.out]; exact HN2.out, HE2.out⟩
      case measure => simp [intOf]; omega
    · go_wp2
      go_ret
      obtain rfl : k = ys.length := by omega
      rw [List.take_length] at hin
      exact ⟨_, rfl, hin, hext⟩
end Go.Proofs.Ytlpkidpkgbjenaa
