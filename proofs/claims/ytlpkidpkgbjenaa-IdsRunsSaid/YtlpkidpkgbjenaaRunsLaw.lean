/-
  PLAIN LAW of copyholdlaw7.IdsRuns: blocks of numbers side by side, parted by gaps: where the first run of as many is, and what is left without it.
-/
import Derived.Test.YtlpkidpkgbjenaaDropsW
set_option linter.unusedVariables false
set_option linter.unusedSimpArgs false
namespace Go.Proofs.Ytlpkidpkgbjenaa
open Go.RowKit Go.Lib Go.Sort

def blk (a : Int) (m : Nat) : List Int := (List.range m).map fun j : Nat => a + j
theorem blk_succ (a : Int) (m : Nat) : blk a (m + 1) = blk a m ++ [a + m] := by simp [blk, List.range_succ]
theorem blk_len (a : Int) (m : Nat) : (blk a m).length = m := by simp [blk]
theorem blk_at (a : Int) (m j : Nat) (h : j < m) : (blk a m).getD j 0 = a + j := by simp [blk, h]

structure RS where
  l : List Int
  a : Int
  want : Int

def rstep (k : Nat) (s : RS) (g : Int) : RS :=
  { l := s.l ++ blk s.a (g % 6).toNat, a := s.a + g % 6 + 1 + g / 64, want := if (k : Int) ≤ g % 6 ∧ s.want < 0 then s.a else s.want }
def rstTo (gs : List Int) (k i : Nat) : RS := (gs.take i).foldl (rstep k) ⟨[], 2, -1⟩
theorem rstTo_succ (gs : List Int) (k i : Nat) (h : i < gs.length) : rstTo gs k (i + 1) = rstep k (rstTo gs k i) (gs.getD i 0) := by
  unfold rstTo
  rw [List.take_succ_eq_append_getElem h, List.foldl_append, getD_eq h]; rfl

/-- Numbers side by side, without wraps. -/
def Run' (xs : List Int) (i k : Nat) : Prop := ∀ t, t < k → i + t < xs.length ∧ xs.getD (i + t) 0 - xs.getD i 0 = (t : Int)
def Small (xs : List Int) : Prop := ∀ x, x ∈ xs → 0 ≤ x ∧ x ≤ 1000000
theorem Small.at_ {xs : List Int} (h : Small xs) {j : Nat} (hj : j < xs.length) : 0 ≤ xs.getD j 0 ∧ xs.getD j 0 ≤ 1000000 := by
  rw [getD_eq hj]; exact h _ (List.getElem_mem hj)
theorem side_iff {xs : List Int} (h : Small xs) (i k : Nat) (hi : i < xs.length) : Side xs i (k : Int) ↔ Run' xs i k := by
  constructor
  · intro hs t ht
    obtain ⟨h1, h2⟩ := hs t (by omega)
    refine ⟨h1, ?_⟩
    have := h.at_ h1; have := h.at_ hi
    unfold wrap64 at h2
    omega
  · intro hr t ht
    obtain ⟨h1, h2⟩ := hr t (by omega)
    refine ⟨h1, ?_⟩
    have := h.at_ h1; have := h.at_ hi
    rw [h2]
    unfold wrap64
    omega

theorem getD_app_left {xs ys : List Int} {j : Nat} (h : j < xs.length) : (xs ++ ys).getD j 0 = xs.getD j 0 := by
  simp [List.getD, List.getElem?_append_left h]
theorem getD_app_right {xs ys : List Int} {j : Nat} (h : xs.length ≤ j) : (xs ++ ys).getD j 0 = ys.getD (j - xs.length) 0 := by
  simp [List.getD, List.getElem?_append_right h]

/-- What holds behind each gap. -/
structure RInv (k : Nat) (s : RS) : Prop where
  asc : Asc s.l
  pos : 2 ≤ s.a
  low : ∀ x, x ∈ s.l → 2 ≤ x ∧ x + 2 ≤ s.a
  wlow : s.want = -1 ∨ 0 ≤ s.want
  no : s.want < 0 → ∀ i, i < s.l.length → ¬ Run' s.l i k
  yes : 0 ≤ s.want → ∃ i, i < s.l.length ∧ s.l.getD i 0 = s.want ∧ Run' s.l i k ∧ ∀ j, j < i → ¬ Run' s.l j k

theorem blk_asc (a : Int) : ∀ m, Asc (blk a m) ∧ ∀ x, x ∈ blk a m → a ≤ x ∧ x < a + m
  | 0 => ⟨List.Pairwise.nil, fun x hx => by simp [blk] at hx⟩
  | m + 1 => by
    obtain ⟨h1, h2⟩ := blk_asc a m
    rw [blk_succ]
    refine ⟨List.pairwise_append.2 ⟨h1, by simp, fun x hx y hy => ?_⟩, fun x hx => ?_⟩
    · simp at hy; have := h2 x hx; omega
    · rcases List.mem_append.1 hx with h | h
      · have := h2 x h; omega
      · simp at h; omega

/-- In front of a block that stands apart the runs are as they were. -/
theorem run_left {l : List Int} {a : Int} {m k i : Nat} (hk : 1 ≤ k) (hlow : ∀ x, x ∈ l → x + 2 ≤ a) (hi : i < l.length) : Run' (l ++ blk a m) i k ↔ Run' l i k := by
  constructor
  · intro h t ht
    by_cases hlt : i + t < l.length
    · obtain ⟨h1, h2⟩ := h t ht
      rw [getD_app_left hlt, getD_app_left hi] at h2
      exact ⟨hlt, h2⟩
    · exfalso
      -- the run would go over the edge
      have e1 : i + (l.length - i) = l.length := by omega
      obtain ⟨g1, g2⟩ := h (l.length - i) (by omega)
      obtain ⟨g3, g4⟩ := h (l.length - 1 - i) (by omega)
      rw [show i + (l.length - 1 - i) = l.length - 1 by omega, getD_app_left (by omega), getD_app_left hi] at g4
      rw [e1, getD_app_right (Nat.le_refl _), getD_app_left hi, Nat.sub_self] at g2
      rw [e1] at g1
      have hm : 0 < m := by simp [blk_len] at g1; omega
      rw [blk_at a m 0 hm] at g2
      have := hlow (l.getD (l.length - 1) 0) (by rw [getD_eq (by omega)]; exact List.getElem_mem _)
      omega
  · intro h t ht
    obtain ⟨h1, h2⟩ := h t ht
    exact ⟨by simp; omega, by rw [getD_app_left h1, getD_app_left hi]; exact h2⟩
theorem run_right {l : List Int} {a : Int} {m k i : Nat} (hi : l.length ≤ i) (hi2 : i < (l ++ blk a m).length) : Run' (l ++ blk a m) i k ↔ i - l.length + k ≤ m ∨ k = 0 := by
  rw [List.length_append, blk_len] at hi2
  constructor
  · intro h
    by_cases hk : k = 0
    · exact .inr hk
    · obtain ⟨h1, _⟩ := h (k - 1) (by omega)
      rw [List.length_append, blk_len] at h1
      exact .inl (by omega)
  · intro h t ht
    have hit : i + t < l.length + m := by omega
    refine ⟨by rw [List.length_append, blk_len]; exact hit, ?_⟩
    rw [getD_app_right (by omega), getD_app_right hi, blk_at _ _ _ (by omega), blk_at _ _ _ (by omega)]
    omega

theorem rinv_start (k : Nat) : RInv k ⟨[], 2, -1⟩ :=
  ⟨List.Pairwise.nil, Int.le_refl _, fun x hx => by simp at hx, .inl rfl, fun _ i hi => by simp at hi, fun h => by simp at h⟩
theorem rinv_step {k : Nat} {s : RS} {g : Int} (hk : 1 ≤ k) (h : RInv k s) (hg : 0 ≤ g ∧ g ≤ 255) : RInv k (rstep k s g) := by
  obtain ⟨m, hm⟩ : ∃ m : Nat, g % 6 = (m : Int) := ⟨(g % 6).toNat, by omega⟩
  have hmt : (g % 6).toNat = m := by omega
  obtain ⟨b1, b2⟩ := blk_asc s.a m
  have hlow : ∀ x, x ∈ s.l → x + 2 ≤ s.a := fun x hx => (h.low x hx).2
  have hpos := h.pos
  have hasc : Asc (s.l ++ blk s.a m) := List.pairwise_append.2 ⟨h.asc, b1, fun x hx y hy => by have := hlow x hx; have := b2 y hy; omega⟩
  have hlw : ∀ x, x ∈ s.l ++ blk s.a m → 2 ≤ x ∧ x + 2 ≤ s.a + m + 1 + g / 64 := fun x hx => by
    rcases List.mem_append.1 hx with h1 | h1
    · have := h.low x h1; omega
    · have := b2 x h1; omega
  unfold rstep
  rw [hmt, hm]
  refine ⟨hasc, by show 2 ≤ s.a + m + 1 + g / 64; omega, hlw, ?_, ?_, ?_⟩
  · show (if (k : Int) ≤ (m : Int) ∧ s.want < 0 then s.a else s.want) = -1 ∨ 0 ≤ (if (k : Int) ≤ (m : Int) ∧ s.want < 0 then s.a else s.want)
    split
    · exact .inr (by omega)
    · exact h.wlow
  · show (if (k : Int) ≤ (m : Int) ∧ s.want < 0 then s.a else s.want) < 0 → _
    split
    · intro h0; omega
    · rename_i hc
      intro h0 i hi hr
      have hmk : ¬ (k : Int) ≤ (m : Int) := fun e => hc ⟨e, h0⟩
      by_cases hil : i < s.l.length
      · exact h.no h0 i hil ((run_left hk hlow hil).1 hr)
      · rcases (run_right (by omega) hi).1 hr with h1 | h1 <;> omega
  · show 0 ≤ (if (k : Int) ≤ (m : Int) ∧ s.want < 0 then s.a else s.want) → ∃ i, i < (s.l ++ blk s.a m).length ∧ (s.l ++ blk s.a m).getD i 0 = (if (k : Int) ≤ (m : Int) ∧ s.want < 0 then s.a else s.want) ∧ Run' (s.l ++ blk s.a m) i k ∧ ∀ j, j < i → ¬ Run' (s.l ++ blk s.a m) j k
    split
    · rename_i hc
      intro _
      have hil : s.l.length < (s.l ++ blk s.a m).length := by rw [List.length_append, blk_len]; omega
      refine ⟨s.l.length, hil, ?_, (run_right (Nat.le_refl _) hil).2 (.inl (by omega)), fun j hj hr => h.no hc.2 j hj ((run_left hk hlow hj).1 hr)⟩
      rw [getD_app_right (Nat.le_refl _), Nat.sub_self, blk_at _ _ _ (by omega)]; omega
    · intro h0
      obtain ⟨i, hi, hw, hr, hn⟩ := h.yes h0
      refine ⟨i, by rw [List.length_append]; omega, by rw [getD_app_left hi]; exact hw, (run_left hk hlow hi).2 hr, fun j hj hr' => hn j hj ((run_left hk hlow (by omega)).1 hr')⟩

theorem rinv_to {gs : List Int} (hu : U8 gs) {k : Nat} (hk : 1 ≤ k) : ∀ i, i ≤ gs.length → RInv k (rstTo gs k i)
  | 0, _ => rinv_start k
  | i + 1, h => by rw [rstTo_succ gs k i (by omega)]; exact rinv_step hk (rinv_to hu hk i (by omega)) (hu.at_ (by omega))
theorem rst_bound {gs : List Int} (hu : U8 gs) (k : Nat) : ∀ i, i ≤ gs.length → (rstTo gs k i).a ≤ 2 + 9 * (i : Int) ∧ (rstTo gs k i).l.length ≤ 5 * i
  | 0, _ => by simp [rstTo]
  | i + 1, h => by
    obtain ⟨h1, h2⟩ := rst_bound hu k i (by omega)
    have hg := hu.at_ (j := i) (by omega)
    rw [rstTo_succ gs k i (by omega)]
    unfold rstep
    refine ⟨?_, ?_⟩
    · show (rstTo gs k i).a + gs.getD i 0 % 6 + 1 + gs.getD i 0 / 64 ≤ _
      omega
    · show ((rstTo gs k i).l ++ blk (rstTo gs k i).a (gs.getD i 0 % 6).toNat).length ≤ _
      rw [List.length_append, blk_len]
      omega

/-- A run cut out of a row that rises. -/
theorem drop_run {l : List Int} (ha : Asc l) {i k : Nat} {x : Int} (hk : 1 ≤ k) (hi : i < l.length) (hx : l.getD i 0 = x) (hr : Run' l i k) : (l.filter (inB x k)).length + k = l.length := by
  have hik : i + k ≤ l.length := by have := (hr (k - 1) (by omega)).1; omega
  have hidx : ∀ j j', j < j' → j' < l.length → l.getD j 0 < l.getD j' 0 := by
    intro j j' h1 h2
    rw [getD_eq (by omega), getD_eq h2]
    exact (List.pairwise_iff_getElem.1 ha) j j' (by omega) h2 h1
  have e : l = l.take i ++ ((l.drop i).take k ++ l.drop (i + k)) := by
    rw [show l.drop (i + k) = (l.drop i).drop k by rw [List.drop_drop], List.take_append_drop, List.take_append_drop]
  have f1 : (l.take i).filter (inB x k) = l.take i := by
    rw [List.filter_eq_self]
    intro y hy
    obtain ⟨j, hj, rfl⟩ := List.getElem_of_mem hy
    rw [List.length_take] at hj
    have := hidx j i (by omega) hi
    rw [getD_eq (by omega), hx] at this
    rw [List.getElem_take]
    simp [inB, outB]; omega
  have f2 : ((l.drop i).take k).filter (inB x k) = [] := by
    rw [List.filter_eq_nil_iff]
    intro y hy
    obtain ⟨j, hj, rfl⟩ := List.getElem_of_mem hy
    simp only [List.length_take, List.length_drop] at hj
    obtain ⟨g1, g2⟩ := hr j (by omega)
    rw [getD_eq g1, hx] at g2
    rw [List.getElem_take, List.getElem_drop]
    simp [inB, outB]; omega
  have f3 : (l.drop (i + k)).filter (inB x k) = l.drop (i + k) := by
    rw [List.filter_eq_self]
    intro y hy
    obtain ⟨j, hj, rfl⟩ := List.getElem_of_mem hy
    simp only [List.length_drop] at hj
    obtain ⟨g1, g2⟩ := hr (k - 1) (by omega)
    have := hidx (i + (k - 1)) (i + k + j) (by omega) (by omega)
    rw [getD_eq (j := i + k + j) (by omega)] at this
    rw [hx] at g2
    rw [List.getElem_drop]
    simp [inB, outB]; omega
  have : l.filter (inB x k) = l.take i ++ l.drop (i + k) := by
    conv => lhs; rw [e]
    rw [List.filter_append, List.filter_append, f1, f2, f3, List.nil_append]
  rw [this]
  simp
  omega
theorem drop_not {l : List Int} {x : Int} {k : Nat} (hk : 1 ≤ k) : hasB (l.filter (inB x k)) x = false := hasB_no fun h => by
  have := (List.mem_filter.1 h).2
  simp [inB, outB] at this
  omega
theorem rinv_small {k : Nat} {s : RS} (h : RInv k s) (hb : s.a ≤ 200) : Small s.l := fun x hx => by have := h.low x hx; omega
theorem small_wf {xs : List Int} (h : Small xs) : Wf xs := fun x hx => by have := h x hx; omega
theorem runIs_no {k : Nat} {s : RS} (h : RInv k s) (hb : s.a ≤ 200) (hw : s.want < 0) : RunIs s.l k 0 false :=
  .inr ⟨rfl, rfl, fun _ j hj hs => h.no hw j hj ((side_iff (rinv_small h hb) j k hj).1 hs)⟩
theorem runIs_yes {k : Nat} {s : RS} (hk : 1 ≤ k) (h : RInv k s) (hb : s.a ≤ 200) (hw : 0 ≤ s.want) : RunIs s.l k s.want true := by
  obtain ⟨i, hi, hx, hr, hn⟩ := h.yes hw
  exact .inl ⟨rfl, by omega, i, hi, hx.symm, (side_iff (rinv_small h hb) i k hi).2 hr, fun j hj hs => hn j hj ((side_iff (rinv_small h hb) j k (by omega)).1 hs)⟩
theorem runs_len {k : Nat} {s : RS} (hk : 1 ≤ k) (h : RInv k s) (hw : 0 ≤ s.want) : (s.l.filter (inB s.want k)).length + k = s.l.length := by
  obtain ⟨i, hi, hx, hr, hn⟩ := h.yes hw
  exact drop_run h.asc hk hi hx hr
end Go.Proofs.Ytlpkidpkgbjenaa
