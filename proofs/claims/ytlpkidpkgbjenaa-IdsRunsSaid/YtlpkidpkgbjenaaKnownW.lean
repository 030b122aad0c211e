/-
  WALKS: the law's own known and far.
-/
import Derived.Test.YtlpkidpkgbjenaaIdsLaw
set_option linter.unusedVariables false
set_option linter.unusedSimpArgs false
namespace Go.Proofs.Ytlpkidpkgbjenaa
open Go.RowKit Go.Lib Go.Sort

abbrev L4 : List Int := [2, 4, 5, 9]
theorem l4_wf : Wf L4 := by intro x hx; simp at hx; omega

theorem runIs_42 : RunIs L4 2 4 true := by
  refine .inl ⟨rfl, by omega, 1, by decide, rfl, ?_, ?_⟩
  · intro k hk
    have : k = 0 ∨ k = 1 := by omega
    rcases this with rfl | rfl <;> exact ⟨by decide +kernel, by decide +kernel⟩
  · intro j hj hs
    obtain rfl : j = 0 := by omega
    exact absurd (hs 1 (by decide)).2 (by decide +kernel)
theorem runIs_43 : RunIs L4 3 0 false := by
  refine .inr ⟨rfl, rfl, fun _ j hj hs => ?_⟩
  have : j = 0 ∨ j = 1 ∨ j = 2 ∨ j = 3 := by simp at hj; omega
  rcases this with rfl | rfl | rfl | rfl
  · exact absurd (hs 1 (by decide)).2 (by decide +kernel)
  · exact absurd (hs 2 (by decide)).2 (by decide +kernel)
  · exact absurd (hs 1 (by decide)).2 (by decide +kernel)
  · exact absurd (hs 1 (by decide)).1 (by decide +kernel)

theorem k_run2 (v : Value) (w : World) (h : Ints w v L4) : Calls Try.prog 10 #[v, .int .i64 2] w fun e w' => e = .returned (.tuple #[.int .i64 4, .bool true]) ∧ ∃ q, w' = w.drewN q :=
  (run_any v L4 2 w h).mono fun e w' ⟨x, ok, he, hr, hq⟩ => by
    obtain ⟨rfl, rfl⟩ := hr.same runIs_42; exact ⟨he, hq⟩
theorem k_run3 (v : Value) (w : World) (h : Ints w v L4) : Calls Try.prog 10 #[v, .int .i64 3] w fun e w' => e = .returned (.tuple #[.int .i64 0, .bool false]) ∧ ∃ q, w' = w.drewN q :=
  (run_any v L4 3 w h).mono fun e w' ⟨x, ok, he, hr, hq⟩ => by
    obtain ⟨rfl, rfl⟩ := hr.same runIs_43; exact ⟨he, hq⟩
theorem k_is (v : Value) (w : World) (h : Ints w v L4) : Calls Try.prog 8 #[v] w fun e w' => e = .returned (.bool true) ∧ ∃ q, w' = w.drewN q := is_any v L4 w h
theorem k_is2 (v : Value) (w : World) (h : Ints w v [2, 2]) : Calls Try.prog 8 #[v] w fun e w' => e = .returned (.bool false) ∧ ∃ q, w' = w.drewN q := is_any v [2, 2] w h
theorem k_has (v : Value) (w : World) (h : Ints w v L4) : Calls Try.prog 12 #[v, .int .i64 5] w fun e w' => e = .returned (.bool true) ∧ ∃ q, w' = w.drewN q := has_any v L4 5 w h rfl (by decide)
theorem k_with (v : Value) (w : World) (h : Ints w v L4) : Calls Try.prog 15 #[v, .int .i64 3] w fun e w' => ∃ p c, e = .returned (.slice p 5 c) ∧ Ext w w' :=
  (with_any v L4 3 w h rfl (by decide)).mono fun e w' ⟨v', he, hi, hx⟩ => by
    obtain ⟨p, c, rfl, _⟩ := hi.form; exact ⟨p, c, he, hx⟩
theorem k_without (v : Value) (w : World) (h : Ints w v L4) : Calls Try.prog 17 #[v, .int .i64 4] w fun e w' => ∃ p c, e = .returned (.slice p 3 c) ∧ Ext w w' :=
  (without_any v L4 4 w h (by decide)).mono fun e w' ⟨v', he, hi, hx⟩ => by
    rw [keepB_ne l4_wf (by omega)] at hi
    obtain ⟨p, c, rfl, _⟩ := hi.form; exact ⟨p, c, he, hx⟩
theorem k_both (v u : Value) (w : World) (h : Ints w v L4) (h' : Ints w u [1]) : Calls Try.prog 19 #[v, u] w fun e w' => ∃ p c, e = .returned (.slice p 5 c) ∧ Ext w w' :=
  (both_any v u L4 [1] w h h' (by decide) (by decide)).mono fun e w' ⟨v', he, hi, hx⟩ => by
    rw [bothS_eq L4 [1] (pairwise_of_rises L4 rfl)] at hi
    obtain ⟨p, c, rfl, _⟩ := hi.form; exact ⟨p, c, he, hx⟩
theorem k_drop (v : Value) (w : World) (h : Ints w v L4) : Calls Try.prog 22 #[v, .int .i64 4, .int .i64 2] w fun e w' => ∃ v', e = .returned v' ∧ Ints w' v' [2, 9] ∧ Ext w w' :=
  (drop_any v L4 4 2 w h (by decide)).mono fun e w' ⟨v', he, hi, hx⟩ => by
    rw [keepB_in l4_wf (by omega) (by omega)] at hi
    exact ⟨v', he, hi, hx⟩
theorem k_same (v u : Value) (w : World) (h : Ints w v [2, 9]) (h' : Ints w u [2, 9]) : Calls Try.prog 14 #[v, u] w fun e w' => e = .returned (.bool true) ∧ ∃ q, w' = w.drewN q := same_any v u [2, 9] [2, 9] w h h'

/-- A slice literal, just laid. -/
theorem Ints.lit (w : World) (xs : List Int) (e : TypeId) (h : xs.length ≤ 1000000) : Ints (w.alloc (.cells (xs.map (Value.int .i64)).toArray e)) (.slice (some ⟨w.heap.size, 0, none⟩) xs.length xs.length) xs := by
  by_cases h0 : 0 < xs.length
  · refine .inr ⟨h0, _, 0, _, rfl, Nat.le_refl _, by unfold maxLen; omega, fun j hj => ?_⟩
    rw [cell_row (heap_alloc_new w _)]
    simp [hj]
  · have : xs = [] := by cases xs with | nil => rfl | cons a r => simp at h0
    subst this
    exact .inl ⟨rfl, _, _, rfl, Nat.zero_le _⟩

set_option maxRecDepth 100000 in
set_option maxHeartbeats 2000000 in
theorem known_any (w : World) : Calls Try.prog 7 #[] w fun e w' => e = .returned (.bool true) ∧ Ext w w' := by
  have hl : Ints (w.alloc (.cells #[.int .i64 2, .int .i64 4, .int .i64 5, .int .i64 9] 3)) (.slice (some ⟨w.heap.size, 0, none⟩) 4 4) L4 := Ints.lit w L4 3 (by decide)
  have HL := Lib.hid hl
  have HE0 : Hid (Ext w (w.alloc (.cells #[.int .i64 2, .int .i64 4, .int .i64 5, .int .i64 9] 3))) := Lib.hid ((Ext.rfl' w).alloc _)
  clear hl
  go_enter Try.func7, Try.ntmps7
  go_wp2_with fail
  refine (k_run2 _ _ HL.out).mono ?_
  rintro e w1 ⟨rfl, hq⟩
  have X1 := Lib.hid (Ext.ofDraws hq)
  clear hq
  go_wp2_with fail
  refine (k_run3 _ _ (HL.out.ext X1.out)).mono ?_
  rintro e w2 ⟨rfl, hq⟩
  have X2 := Lib.hid (Ext.step X1.out (Ext.ofDraws hq))
  clear hq X1
  go_wp2_with fail
  refine (k_is _ _ (HL.out.ext X2.out)).mono ?_
  rintro e w3 ⟨rfl, hq⟩
  have X3 := Lib.hid (Ext.step X2.out (Ext.ofDraws hq))
  clear hq X2
  go_wp2_with fail
  refine (k_is2 _ _ (Ints.lit w3 [2, 2] 3 (by decide))).mono ?_
  rintro e w4 ⟨rfl, hq⟩
  have X4 := Lib.hid (Ext.step (X3.out.alloc _) (Ext.ofDraws hq))
  clear hq X3
  go_wp2_with fail
  refine (k_has _ _ (HL.out.ext X4.out)).mono ?_
  rintro e w5 ⟨rfl, hq⟩
  have X5 := Lib.hid (Ext.step X4.out (Ext.ofDraws hq))
  clear hq X4
  go_wp2_with fail
  refine (k_with _ _ (HL.out.ext X5.out)).mono ?_
  rintro e w6 ⟨p6, c6, rfl, hq⟩
  have X6 := Lib.hid (Ext.step X5.out hq)
  clear hq X5
  go_wp2_with fail
  refine (k_without _ _ (HL.out.ext X6.out)).mono ?_
  rintro e w7 ⟨p7, c7, rfl, hq⟩
  have X7 := Lib.hid (Ext.step X6.out hq)
  clear hq X6
  go_wp2_with fail
  refine (k_both _ _ _ (HL.out.ext (X7.out.alloc _)) (Ints.lit w7 [1] 3 (by decide))).mono ?_
  rintro e w8 ⟨p8, c8, rfl, hq⟩
  have X8 := Lib.hid (Ext.step (X7.out.alloc _) hq)
  clear hq X7
  go_wp2_with fail
  refine (k_drop _ _ (HL.out.ext X8.out)).mono ?_
  rintro e w9 ⟨v9, rfl, hi9, hq⟩
  have X9 := Lib.hid (Ext.step X8.out hq)
  have H9 := Lib.hid hi9
  clear hq X8 hi9
  go_wp2_with fail
  refine (k_same _ _ _ (H9.out.ext ((Ext.rfl' w9).alloc _)) (Ints.lit w9 [2, 9] 3 (by decide))).mono ?_
  rintro e w10 ⟨rfl, hq⟩
  have X10 := Lib.hid (Ext.step (X9.out.alloc _) (Ext.ofDraws hq))
  clear hq X9
  go_wp2_with fail
  go_ret
  exact ⟨rfl, Ext.step HE0.out X10.out⟩

def farB (f n : Int) : Bool := decide (0 < n) && decide (0 < f) && decide (wrap64 (f + n) < 0)
set_option maxHeartbeats 400000 in
theorem far_any (f n : Int) (w : World) : Calls Try.prog 21 #[.int .i64 f, .int .i64 n] w fun e w' => e = .returned (.bool (farB f n)) ∧ w = w' := by
  by_cases h1 : 0 < n
  · have d1 : decide (0 < n) = true := by simp [h1]
    by_cases h2 : 0 < f
    · have d2 : decide (0 < f) = true := by simp [h2]
      go_enter Try.func21, Try.ntmps21
      go_wp2
      go_ret
      exact ⟨by unfold farB; rw [d1, d2]; rfl, rfl⟩
    · have d2 : decide (0 < f) = false := by simp [h2]
      go_enter Try.func21, Try.ntmps21
      go_wp2
      go_ret
      exact ⟨by unfold farB; rw [d1, d2]; rfl, rfl⟩
  · have d1 : decide (0 < n) = false := by simp [h1]
    go_enter Try.func21, Try.ntmps21
    go_wp2
    go_ret
    exact ⟨by unfold farB; rw [d1]; rfl, rfl⟩
end Go.Proofs.Ytlpkidpkgbjenaa
