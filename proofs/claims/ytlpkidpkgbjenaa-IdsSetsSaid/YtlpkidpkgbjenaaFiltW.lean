/-
  WALKS: what is kept of a row (copyholdref1.Without, copyholdref1.Drop): an own row, filled by append.
-/
import Derived.Test.YtlpkidpkgbjenaaKit
import Derived.Test.YtlpkidpkgbjenaaProg
import Derived.Deep.QuietTactic
import Derived.BigQuiet
set_option linter.unusedVariables false
set_option linter.unusedSimpArgs false
namespace Go.Proofs.Ytlpkidpkgbjenaa
open Go.RowKit

theorem int_info : (Try.prog.info? 3).map (fun i => (i.zero, i.size, i.bytes)) = some (some (.int .i64 0), 1, 8) := by kernel_rfl
theorem intsEl : ElemOf Try.prog 22 3 1 8 := by
  obtain ⟨i0, hi, hz0, hz1, hz2⟩ := info_parts int_info
  exact ⟨Try.underlying22, ⟨i0, _, hi, hz0, hz1, hz2, rfl⟩, by omega⟩

theorem filter_snoc (p : Int → Bool) (xs : List Int) (k : Nat) (h : k < xs.length) : (xs.take (k + 1)).filter p = (xs.take k).filter p ++ (if p (xs.getD k 0) then [xs.getD k 0] else []) := by
  rw [List.take_succ_eq_append_getElem h, List.filter_append, getD_eq h]
  by_cases hp : p xs[k] <;> simp [hp]
theorem filter_len (p : Int → Bool) (xs : List Int) (k : Nat) : ((xs.take k).filter p).length ≤ xs.length :=
  Nat.le_trans (List.length_filter_le _ _) (by rw [List.length_take]; omega)

def ne (n : Int) (x : Int) : Bool := x != n


/-- One more place looked at: the element goes, or stays. -/
theorem filt_drop {p : Int → Bool} {xs : List Int} {k : Nat} {x : Int} (h : k < xs.length) (hx : xs.getD k 0 = x) (hp : p x = false) : (xs.take (k + 1)).filter p = (xs.take k).filter p := by
  rw [filter_snoc p xs k h, hx, hp]; simp
theorem filt_keep {p : Int → Bool} {xs : List Int} {k : Nat} {x : Int} (h : k < xs.length) (hx : xs.getD k 0 = x) (hp : p x = true) : (xs.take (k + 1)).filter p = (xs.take k).filter p ++ [x] := by
  rw [filter_snoc p xs k h, hx, hp]; simp

/-- What the loop holds, at k: the row so far is the call's own. -/
def Kept (w : World) (p : Int → Bool) (xs : List Int) (k : Nat) (v : Value) (wr : World) : Prop :=
  wr.ownsRow w.heap.size 3 1 v ((xs.take k).filter p).length (((xs.take k).filter p).map (Value.int .i64)) ∧ Ext w wr
theorem Kept.start (w : World) (p : Int → Bool) (xs : List Int) : Kept w p xs 0 (.slice none 0 0) w := ⟨owns_nil _ _ _ _, Ext.rfl' _⟩
theorem Kept.drop {w wr : World} {p : Int → Bool} {xs : List Int} {k : Nat} {v : Value} {x : Int} (h : Kept w p xs k v wr) (hk : k < xs.length) (hx : xs.getD k 0 = x) (hp : p x = false) : Kept w p xs (k + 1) v wr := by
  unfold Kept; rw [filt_drop hk hx hp]; exact h
theorem Kept.keep {w wr w1 : World} {p : Int → Bool} {xs : List Int} {k : Nat} {v v' : Value} {x : Int} {e : TypeId} (h : Kept w p xs k v wr) (hk : k < xs.length) (hx : xs.getD k 0 = x) (hp : p x = true)
    (ho : w1.ownsRow w.heap.size 3 1 v' (((xs.take k).filter p).length + 1) (((xs.take k).filter p).map (Value.int .i64) ++ [.int .i64 x])) (hg : (wr.alloc (.cells #[.int .i64 x] e)).grownBy w1 v.ownBlock) : Kept w p xs (k + 1) v' w1 := by
  unfold Kept
  rw [filt_keep hk hx hp]
  refine ⟨by simpa using ho, ?_⟩
  exact below_append (h.2.alloc _) (by have := h.2.size; simp; omega) (h.1.alloc _) hg

set_option maxHeartbeats 400000 in
theorem refWithout_any (v : Value) (xs : List Int) (n : Int) (w : World) (h : Ints w v xs) (hsz : xs.length ≤ 1000000) :
    Calls Try.prog 18 #[v, .int .i64 n] w fun e w' => ∃ v', e = .returned v' ∧ Ints w' v' (xs.filter (ne n)) ∧ Ext w w' := by
  obtain ⟨p, c, rfl, _, _, hc⟩ := h.opened
  clear h
  have HC := Lib.hid hc
  clear hc
  go_enter Try.func18, Try.ntmps18
  go_wp2
  go_loopw [5, 6] (fun v i wr => ∃ k : Nat, k ≤ xs.length ∧ i = .int .i64 k ∧ Kept w (ne n) xs k v wr) (fun _ i _ => xs.length - (intOf i).toNat)
  case atStart => exact ⟨0, by omega, rfl, Kept.start _ _ _⟩
  case round =>
    rename_i vv _
    obtain ⟨k, hk, rfl, hkept⟩ := hrel
    by_cases hlt : k < xs.length
    · obtain ⟨b, off, rfl, hc⟩ := HC.out (by omega)
      have c1 : wr.cell? ⟨b, off + k, none⟩ = some (.int .i64 (xs.getD k 0)) := hkept.2.cell (hc k hlt)
      clear hc
      generalize hx : xs.getD k 0 = x at c1
      have HX := Lib.hid hx
      clear hx
      have hfl := filter_len (ne n) xs k
      by_cases hxn : (x != n) = false
      · have K2 := Lib.hid (hkept.drop hlt HX.out hxn)
        have hkept2 := Lib.hid hkept
        clear hkept
        go_wp2
        go_roundw
        case rel => exact ⟨k + 1, by omega, by go_num, K2.out⟩
        case measure => simp [intOf]; omega
      · have hxn : (x != n) = true := by simpa using hxn
        have hz := hkept.2.size
        have HK := Lib.hid hkept
        clear hkept
        go_wp2_with (at_builtin; refine wpList_append_sl _ rfl _ _ 22 (by rfl) w.heap.size intsEl _ _ _ (by rfl) (HK.out.1.alloc _) _ 1 [.int .i64 x] (by rfl) (Sl.new1 _ _ _) (int_one _) (by unfold maxLen; omega) (by omega) (by simp; omega) ?_; intro v1 w1 hown hgrow hat)
        have K2 := Lib.hid (HK.out.keep hlt HX.out hxn hown hgrow)
        clear hown hgrow hat
        go_wp2
        go_roundw
        case rel => exact ⟨k + 1, by omega, by go_num, K2.out⟩
        case measure => simp [intOf]; omega
    · go_wp2
      go_ret
      obtain rfl : k = xs.length := by omega
      rw [Kept, List.take_length] at hkept
      exact ⟨_, rfl, Ints.ofOwns hkept.1, hkept.2⟩

def outB (f n x : Int) : Bool := decide (0 < n ∧ f ≤ x ∧ x < f + n)
def inB (f n x : Int) : Bool := !outB f n x

set_option maxHeartbeats 1000000 in
theorem refDrop_any (v : Value) (xs : List Int) (f n : Int) (w : World) (h : Ints w v xs) (hsz : xs.length ≤ 1000000)
    (hf0 : -9223372036854775808 ≤ f) (hn0 : -9223372036854775808 ≤ n) (hn : n ≤ 9223372036854775807) (hfar : 0 < n → f + (n - 1) ≤ 9223372036854775807) :
    Calls Try.prog 23 #[v, .int .i64 f, .int .i64 n] w fun e w' => ∃ v', e = .returned v' ∧ Ints w' v' (xs.filter (inB f n)) ∧ Ext w w' := by
  obtain ⟨p, c, rfl, _, _, hc⟩ := h.opened
  clear h
  have HC := Lib.hid hc
  have HFAR := Lib.hid hfar
  clear hc hfar
  go_enter Try.func23, Try.ntmps23
  go_wp2
  go_loopw [7, 8] (fun v i wr => ∃ k : Nat, k ≤ xs.length ∧ i = .int .i64 k ∧ Kept w (inB f n) xs k v wr) (fun _ i _ => xs.length - (intOf i).toNat)
  case atStart => exact ⟨0, by omega, rfl, Kept.start _ _ _⟩
  case round =>
    rename_i vv _
    obtain ⟨k, hk, rfl, hkept⟩ := hrel
    by_cases hlt : k < xs.length
    · obtain ⟨b, off, rfl, hc⟩ := HC.out (by omega)
      have c1 : wr.cell? ⟨b, off + k, none⟩ = some (.int .i64 (xs.getD k 0)) := hkept.2.cell (hc k hlt)
      clear hc
      generalize hx : xs.getD k 0 = x at c1
      have HX := Lib.hid hx
      clear hx
      have hfl := filter_len (inB f n) xs k
      have hz := hkept.2.size
      have HK := Lib.hid hkept
      clear hkept
      have way : (x < f ∨ (f ≤ x ∧ n ≤ 0) ∨ (f ≤ x ∧ 0 < n ∧ f + (n - 1) < x)) ∨ (f ≤ x ∧ 0 < n ∧ x ≤ f + (n - 1)) := by omega
      rcases way with (h1 | ⟨h1, h2⟩ | ⟨h1, h2, h3⟩) | ⟨h1, h2, h3⟩
      · have hp : inB f n x = true := by simp [inB, outB]; omega
        have d1 : decide (x < f) = true := by simp [h1]
        have K2' := fun v1 w1 h1 h2 => HK.out.keep (v' := v1) (w1 := w1) (e := 3) hlt HX.out hp h1 h2
        have K2 := Lib.hid K2'
        clear K2' hp
        go_wp2_with (at_builtin; refine wpList_append_sl _ rfl _ _ 22 (by rfl) w.heap.size intsEl _ _ _ (by rfl) (HK.out.1.alloc _) _ 1 [.int .i64 x] (by rfl) (Sl.new1 _ _ _) (int_one _) (by unfold maxLen; omega) (by omega) (by simp; omega) ?_; intro v1 w1 hown hgrow hat)
        have K3 := Lib.hid (K2.out v1 w1 hown hgrow)
        clear hown hgrow hat
        go_wp2
        go_roundw
        case rel => exact ⟨k + 1, by omega, by go_num, K3.out⟩
        case measure => simp [intOf]; omega
      · have hp : inB f n x = true := by simp [inB, outB]; omega
        have d1 : decide (x < f) = false := by simp; omega
        have d2 : decide (n ≤ 0) = true := by simp [h2]
        have K2' := fun v1 w1 h1 h2 => HK.out.keep (v' := v1) (w1 := w1) (e := 3) hlt HX.out hp h1 h2
        have K2 := Lib.hid K2'
        clear K2' hp
        go_wp2_with (at_builtin; refine wpList_append_sl _ rfl _ _ 22 (by rfl) w.heap.size intsEl _ _ _ (by rfl) (HK.out.1.alloc _) _ 1 [.int .i64 x] (by rfl) (Sl.new1 _ _ _) (int_one _) (by unfold maxLen; omega) (by omega) (by simp; omega) ?_; intro v1 w1 hown hgrow hat)
        have K3 := Lib.hid (K2.out v1 w1 hown hgrow)
        clear hown hgrow hat
        go_wp2
        go_roundw
        case rel => exact ⟨k + 1, by omega, by go_num, K3.out⟩
        case measure => simp [intOf]; omega
      · have hp : inB f n x = true := by simp [inB, outB]; omega
        have d1 : decide (x < f) = false := by simp; omega
        have d2 : decide (n ≤ 0) = false := by simp; omega
        have hfa := HFAR.out h2
        have d3 : decide (f + (n - 1) < x) = true := by simp [h3]
        have d4 : decide (f ≤ f + (n - 1)) = true := by simp; omega
        have K2' := fun v1 w1 h1 h2 => HK.out.keep (v' := v1) (w1 := w1) (e := 3) hlt HX.out hp h1 h2
        have K2 := Lib.hid K2'
        clear K2' hp
        go_wp2_with (at_builtin; refine wpList_append_sl _ rfl _ _ 22 (by rfl) w.heap.size intsEl _ _ _ (by rfl) (HK.out.1.alloc _) _ 1 [.int .i64 x] (by rfl) (Sl.new1 _ _ _) (int_one _) (by unfold maxLen; omega) (by omega) (by simp; omega) ?_; intro v1 w1 hown hgrow hat)
        have K3 := Lib.hid (K2.out v1 w1 hown hgrow)
        clear hown hgrow hat
        go_wp2
        go_roundw
        case rel => exact ⟨k + 1, by omega, by go_num, K3.out⟩
        case measure => simp [intOf]; omega
      · have hp : inB f n x = false := by simp [inB, outB]; omega
        have K2 := Lib.hid (HK.out.drop hlt HX.out hp)
        clear hp
        have d1 : decide (x < f) = false := by simp; omega
        have d2 : decide (n ≤ 0) = false := by simp; omega
        have hfa := HFAR.out h2
        have d3 : decide (f + (n - 1) < x) = false := by simp; omega
        go_wp2
        go_roundw
        case rel => exact ⟨k + 1, by omega, by go_num, K2.out⟩
        case measure => simp [intOf]; omega
    · go_wp2
      go_ret
      obtain rfl : k = xs.length := by omega
      rw [Kept, List.take_length] at hkept
      exact ⟨_, rfl, Ints.ofOwns hkept.1, hkept.2⟩
end Go.Proofs.Ytlpkidpkgbjenaa
