/-
  PLAIN LAWS on rows of numbers: the two ways to both are one; with, without, drop as sets.
-/
import Derived.Test.YtlpkidpkgbjenaaBothW
set_option linter.unusedVariables false
set_option linter.unusedSimpArgs false
namespace Go.Proofs.Ytlpkidpkgbjenaa
open Go.RowKit Go.Lib Go.Sort

abbrev Asc (xs : List Int) : Prop := xs.Pairwise (· < ·)

theorem asc_rises : ∀ {xs : List Int}, Asc xs → rises xs = true
  | [], _ => rfl
  | [_], _ => rfl
  | a :: b :: r, h => by
    have h' := List.pairwise_cons.1 h
    simp only [rises, Bool.and_eq_true, decide_eq_true_eq]
    exact ⟨h'.1 b (by simp), asc_rises h'.2⟩

theorem mem_withOf : ∀ (xs : List Int) (n x : Int), x ∈ withOf xs n ↔ x ∈ xs ∨ x = n
  | [], n, x => by simp [withOf]
  | a :: r, n, x => by
    unfold withOf
    split
    · rename_i h; subst h; simp; intro e; simp [e]
    · split
      · simp only [List.mem_cons]
        constructor
        · rintro (h | h | h)
          · exact .inr h
          · exact .inl (.inl h)
          · exact .inl (.inr h)
        · rintro ((h | h) | h)
          · exact .inr (.inl h)
          · exact .inr (.inr h)
          · exact .inl h
      · simp [mem_withOf r n x, or_assoc]

theorem asc_withOf : ∀ (xs : List Int) (n : Int), Asc xs → Asc (withOf xs n)
  | [], n, _ => by simp [withOf, Asc]
  | a :: r, n, h => by
    have h' := List.pairwise_cons.1 h
    unfold withOf
    split
    · exact h
    · split
      · refine List.Pairwise.cons (fun x hx => ?_) h
        rcases List.mem_cons.1 hx with rfl | hx
        · assumption
        · have := h'.1 x hx; omega
      · refine List.Pairwise.cons (fun x hx => ?_) (asc_withOf r n h'.2)
        rcases (mem_withOf r n x).1 hx with hx | rfl
        · exact h'.1 x hx
        · omega

theorem mem_bothOf (a b : List Int) (x : Int) : x ∈ bothOf a b ↔ x ∈ a ∨ x ∈ b := by
  unfold bothOf
  induction b generalizing a with
  | nil => simp
  | cons y r ih =>
    simp only [List.foldl_cons, ih, mem_withOf, List.mem_cons]
    constructor
    · rintro ((h | h) | h)
      · exact .inl h
      · exact .inr (.inl h)
      · exact .inr (.inr h)
    · rintro (h | h | h)
      · exact .inl (.inl h)
      · exact .inl (.inr h)
      · exact .inr h
theorem asc_bothOf (a b : List Int) (h : Asc a) : Asc (bothOf a b) := by
  unfold bothOf
  induction b generalizing a with
  | nil => exact h
  | cons y r ih => exact ih _ (asc_withOf a y h)

/-- Two rows that rise and hold the same are the same. -/
theorem asc_ext : ∀ (xs ys : List Int), Asc xs → Asc ys → (∀ x, x ∈ xs ↔ x ∈ ys) → xs = ys
  | [], [], _, _, _ => rfl
  | [], b :: s, _, _, h => by have := (h b).2 (by simp); simp at this
  | a :: r, [], _, _, h => by have := (h a).1 (by simp); simp at this
  | a :: r, b :: s, hx, hy, h => by
    have hx' := List.pairwise_cons.1 hx
    have hy' := List.pairwise_cons.1 hy
    have hab : a = b := by
      have h1 := (h a).1 (by simp)
      have h2 := (h b).2 (by simp)
      rcases List.mem_cons.1 h1 with e | h1
      · exact e
      · rcases List.mem_cons.1 h2 with e | h2
        · exact e.symm
        · have := hy'.1 a h1; have := hx'.1 b h2; omega
    subst hab
    rw [asc_ext r s hx'.2 hy'.2 fun x => ?_]
    constructor
    · intro hm
      rcases List.mem_cons.1 ((h x).1 (by simp [hm])) with e | h1
      · have := hx'.1 x hm; omega
      · exact h1
    · intro hm
      rcases List.mem_cons.1 ((h x).2 (by simp [hm])) with e | h1
      · have := hy'.1 x hm; omega
      · exact h1

theorem compact_spec (d : Array Int) (hs : ∀ i j, i ≤ j → j < d.size → d[i]! ≤ d[j]!) : ∀ m, m ≤ d.size →
    Asc (Lib.compactUpTo d m) ∧ (∀ x, x ∈ Lib.compactUpTo d m ↔ ∃ j, j < m ∧ x = d[j]!)
  | 0, _ => ⟨by simp [Lib.compactUpTo, Asc], fun x => by simp [Lib.compactUpTo]⟩
  | m + 1, hm => by
    obtain ⟨h1, h2⟩ := compact_spec d hs m (by omega)
    rw [Lib.compactUpTo_succ]
    by_cases hk : Lib.keeps d m = true
    · rw [if_pos hk]
      have hne : m = 0 ∨ d[m]! ≠ d[m - 1]! := by
        rcases Nat.eq_zero_or_pos m with h0 | h0
        · exact .inl h0
        · refine .inr fun e => ?_
          rw [Lib.keeps_neg h0 e] at hk; cases hk
      refine ⟨?_, fun x => ?_⟩
      · refine List.pairwise_append.2 ⟨h1, by simp, fun x hx y hy => ?_⟩
        simp at hy
        subst hy
        obtain ⟨j, hj, rfl⟩ := (h2 x).1 hx
        rcases hne with h0 | hne
        · omega
        · have e1 := hs j (m - 1) (by omega) (by omega)
          have e2 := hs (m - 1) m (by omega) (by omega)
          omega
      · rw [List.mem_append, h2]
        constructor
        · rintro (⟨j, hj, rfl⟩ | hx)
          · exact ⟨j, by omega, rfl⟩
          · simp at hx; exact ⟨m, by omega, hx⟩
        · rintro ⟨j, hj, rfl⟩
          by_cases hjm : j < m
          · exact .inl ⟨j, hjm, rfl⟩
          · obtain rfl : j = m := by omega
            exact .inr (by simp)
    · rw [if_neg hk, List.append_nil]
      refine ⟨h1, fun x => ?_⟩
      rw [h2]
      have h0 : 0 < m := by
        rcases Nat.eq_zero_or_pos m with h0 | h0
        · subst h0; exact absurd (Lib.keeps_lt_one d 0 (by omega)) hk
        · exact h0
      have he : d[m]! = d[m - 1]! := by
        by_cases e : d[m]! = d[m - 1]!
        · exact e
        · exact absurd (Lib.keeps_pos e) hk
      constructor
      · rintro ⟨j, hj, rfl⟩; exact ⟨j, by omega, rfl⟩
      · rintro ⟨j, hj, rfl⟩
        by_cases hjm : j < m
        · exact ⟨j, hjm, rfl⟩
        · obtain rfl : j = m := by omega
          exact ⟨j - 1, by omega, he⟩

theorem compact_sorted (zs : List Int) (h : zs.Pairwise (· ≤ ·)) : Asc (Lib.compact zs) ∧ ∀ x, x ∈ Lib.compact zs ↔ x ∈ zs := by
  have hs : ∀ i j, i ≤ j → j < zs.toArray.size → zs.toArray[i]! ≤ zs.toArray[j]! := by
    intro i j hij hj
    have hj' : j < zs.length := by simpa using hj
    rw [getElem!_pos zs.toArray i (by simp; omega), getElem!_pos zs.toArray j hj]
    simp only [List.getElem_toArray]
    rcases Nat.lt_or_eq_of_le hij with hlt | rfl
    · exact (List.pairwise_iff_getElem.1 h) i j (by omega) hj' hlt
    · exact Int.le_refl _
  obtain ⟨h1, h2⟩ := compact_spec zs.toArray hs zs.length (by simp)
  refine ⟨h1, fun x => ?_⟩
  unfold Lib.compact
  rw [h2]
  constructor
  · rintro ⟨j, hj, rfl⟩
    rw [getElem!_pos zs.toArray j (by simpa using hj)]
    simp
  · intro hx
    obtain ⟨j, hj, e⟩ := List.getElem_of_mem hx
    exact ⟨j, hj, by rw [getElem!_pos zs.toArray j (by simpa using hj)]; simpa using e.symm⟩

theorem bothS_spec (xs ys : List Int) : Asc (bothS xs ys) ∧ ∀ x, x ∈ bothS xs ys ↔ x ∈ xs ∨ x ∈ ys := by
  unfold bothS
  have hp : ((xs ++ ys).mergeSort fun x y => decide (x ≤ y)).Pairwise (· ≤ ·) := by
    have := List.pairwise_mergeSort (le := fun x y : Int => decide (x ≤ y)) (by intro a b c; simp; omega) (by intro a b; simp; omega) (xs ++ ys)
    exact this.imp (by intro a b h; simpa using h)
  obtain ⟨h1, h2⟩ := compact_sorted _ hp
  refine ⟨h1, fun x => ?_⟩
  rw [h2, List.mem_mergeSort, List.mem_append]

theorem bothS_eq (xs ys : List Int) (h : Asc xs) : bothS xs ys = bothOf xs ys :=
  asc_ext _ _ (bothS_spec xs ys).1 (asc_bothOf xs ys h) fun x => by rw [(bothS_spec xs ys).2, mem_bothOf]

theorem asc_filter {xs : List Int} (p : Int → Bool) (h : Asc xs) : Asc (xs.filter p) := List.Pairwise.filter p h
theorem wf_filter {xs : List Int} (p : Int → Bool) (h : Wf xs) : Wf (xs.filter p) := fun x hx => h x (List.mem_filter.1 hx).1
theorem wf_withOf {xs : List Int} {n : Int} (h : Wf xs) (hn : -9223372036854775808 ≤ n ∧ n ≤ 9223372036854775807) : Wf (withOf xs n) := fun x hx => by
  rcases (mem_withOf xs n x).1 hx with h1 | rfl
  · exact h x h1
  · exact hn
end Go.Proofs.Ytlpkidpkgbjenaa
