/-
  PLAIN LEMMAS, NO PROGRAM: the word 'Ints w v xs' (a slice value that reads, in the world w, as the list xs of ints), 'Ext w w'' (nothing that existed has changed), and how the two go together.
-/
import Derived.WalkKit
import Derived.WalkSmall
import Derived.WalkSpells
import Derived.WalkLawsBesides
import Derived.Below
import Derived.Deep.LoopGhost
import Derived.Lib.Hide
import Derived.Maps.AppendAt
import Derived.Deep.AppendLies
import Derived.RegionTactic
import Derived.OwnWalk
set_option linter.unusedVariables false
set_option linter.unusedSimpArgs false
namespace Go.Proofs.YtgjnadligocdkaaGreatDoor
open Go.RowKit
abbrev Ext (w w' : World) : Prop := Below w.heap.size w w'
theorem Ext.rfl' (w : World) : Ext w w := Below.refl _ _
theorem Ext.step {a b c : World} (h : Ext a b) (k : Ext b c) : Ext a c := Below.trans h (k.mono h.size)
theorem Ext.drewN (w : World) (n : Nat) : Ext w (w.drewN n) := below_drewN (Below.refl _ _) n
theorem Ext.alloc {a w : World} (h : Ext a w) (o : Obj) : Ext a (w.alloc o) := Below.alloc h h.size o
theorem lt_of_cell {w : World} {a : Addr} {v : Value} (h : w.cell? a = some v) : a.block < w.heap.size := World.block_lt_of_cell? w a h
theorem Ext.cell {w w' : World} (h : Ext w w') {a : Addr} {v : Value} (hc : w.cell? a = some v) : w'.cell? a = some v := by
  rw [Below.cell h (lt_of_cell hc)]; exact hc
def Ints (w : World) (v : Value) (xs : List Int) : Prop :=
  (xs = [] ∧ ∃ p c, v = .slice p 0 c ∧ c ≤ maxLen) ∨
  (0 < xs.length ∧ ∃ b off c, v = .slice (some ⟨b, off, none⟩) xs.length c ∧ xs.length ≤ c ∧ c ≤ maxLen ∧ ∀ j, j < xs.length → w.cell? ⟨b, off + j, none⟩ = some (.int .i64 (xs.getD j 0)))
theorem Ints.nil (w : World) (p : Option Addr) (c : Nat) (h : c ≤ maxLen) : Ints w (.slice p 0 c) [] := .inl ⟨rfl, p, c, rfl, h⟩
theorem Ints.ext {w w' : World} {v : Value} {xs : List Int} (h : Ints w v xs) (e : Ext w w') : Ints w' v xs := by
  rcases h with h | ⟨h0, b, off, c, h1, h2, h3, h4⟩
  · exact .inl h
  · exact .inr ⟨h0, b, off, c, h1, h2, h3, fun j hj => e.cell (h4 j hj)⟩
theorem Ints.drewN {w : World} {v : Value} {xs : List Int} (h : Ints w v xs) (n : Nat) : Ints (w.drewN n) v xs := h.ext (Ext.drewN w n)
theorem Ints.form {w : World} {v : Value} {xs : List Int} (h : Ints w v xs) : ∃ p c, v = .slice p xs.length c ∧ xs.length ≤ c ∧ c ≤ maxLen := by
  rcases h with ⟨rfl, p, c, rfl, h⟩ | ⟨_, b, off, c, rfl, h2, h3, _⟩
  · exact ⟨p, c, rfl, Nat.zero_le _, h⟩
  · exact ⟨_, c, rfl, h2, h3⟩
theorem Ints.len {w : World} {v : Value} {xs : List Int} (h : Ints w v xs) : xs.length ≤ maxLen := by
  obtain ⟨p, c, _, h1, h2⟩ := h.form; omega
def Sl (w : World) (size : Nat) (v : Value) (n : Nat) (us : List Value) : Prop :=
  us.length = n * size ∧ ∃ p c, v = .slice p n c ∧ n ≤ c ∧ c ≤ maxLen ∧ (0 < n → ∃ b off, p = some ⟨b, off, none⟩ ∧ ∀ j u, us[j]? = some u → w.cell? ⟨b, off + j, none⟩ = some u)
theorem Sl.ext {w w' : World} {size n : Nat} {v : Value} {us : List Value} (h : Sl w size v n us) (e : Ext w w') : Sl w' size v n us := by
  obtain ⟨hl, p, c, hv, h1, h2, h3⟩ := h
  refine ⟨hl, p, c, hv, h1, h2, fun h0 => ?_⟩
  obtain ⟨b, off, hp, hc⟩ := h3 h0
  exact ⟨b, off, hp, fun j u hu => e.cell (hc j u hu)⟩
structure ElemOf (P : Program) (t e : TypeId) (size bytes : Nat) : Prop where
  under : P.underlying t = some (.slice e)
  info : ∃ i z, P.info? e = some i ∧ i.zero = some z ∧ i.size = size ∧ i.bytes = bytes ∧ z.cells.size = size
  pos : 0 < size
section
variable {P : Program} (w : World)
end
theorem Ints.take {w : World} {b off c : Nat} {xs : List Int} (h : ∀ j, j < xs.length → w.cell? ⟨b, off + j, none⟩ = some (.int .i64 (xs.getD j 0))) (h1 : xs.length ≤ c) (h2 : c ≤ maxLen) {i : Nat} (hi : i ≤ xs.length) :
    Ints w (.slice (some ⟨b, off, none⟩) i c) (xs.take i) := by
  have hl : (xs.take i).length = i := by rw [List.length_take]; omega
  by_cases h0 : 0 < i
  · refine .inr ⟨by omega, b, off, c, by rw [hl], by omega, h2, fun j hj => ?_⟩
    rw [h j (by omega)]
    rw [hl] at hj
    simp [List.getD, List.getElem?_take_of_lt hj]
  · obtain rfl : i = 0 := by omega
    exact .inl ⟨by simp, _, c, rfl, h2⟩
theorem Ints.drop {w : World} {b off c : Nat} {xs : List Int} (h : ∀ j, j < xs.length → w.cell? ⟨b, off + j, none⟩ = some (.int .i64 (xs.getD j 0))) (h1 : xs.length ≤ c) (h2 : c ≤ maxLen) {i : Nat} (hi : i < xs.length) :
    Ints w (.slice (some ⟨b, off + i, none⟩) (xs.length - i) (c - i)) (xs.drop i) := by
  have hl : (xs.drop i).length = xs.length - i := List.length_drop
  refine .inr ⟨by omega, b, off + i, c - i, by rw [hl], by omega, by omega, fun j hj => ?_⟩
  rw [Nat.add_assoc, h (i + j) (by omega)]
  simp [List.getD]
end Go.Proofs.YtgjnadligocdkaaGreatDoor
