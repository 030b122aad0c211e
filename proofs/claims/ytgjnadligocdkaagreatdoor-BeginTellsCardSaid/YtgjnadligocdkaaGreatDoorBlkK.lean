/-
  PLAIN LEMMAS, NO PROGRAM: blocks told whole (Blk), and what a call leaves as it was (Turned).
-/
import Derived.Test.YtgjnadligocdkaaGreatDoorChanK
import Derived.Test.YtgjnadligocdkaaGreatDoorProg
import Derived.Test.YtgjnadligocdkaaGreatDoorKit
import Derived.Laws.Rows
set_option linter.unusedVariables false
set_option linter.unusedSimpArgs false
namespace Go.Proofs.YtgjnadligocdkaaGreatDoor
open Go.RowKit
def BlkR (w : World) (B β : Nat) (vs : Array Value) (K : Nat) : Prop := ∃ cells el fz, w.heap[B]? = some (.cells cells el fz) ∧ β + K ≤ cells.size ∧ (fz.2 ≤ fz.1 ∨ fz.2 ≤ β ∨ β + K ≤ fz.1) ∧ vs.size ≤ K ∧ ∀ i (h : i < vs.size), cells[β + i]? = some vs[i]
abbrev Blk (w : World) (B : Nat) (vs : Array Value) : Prop := BlkR w B 0 vs vs.size
section
variable {w w' : World} {B β K : Nat} {vs : Array Value}
theorem BlkR.lt (h : BlkR w B β vs K) : B < w.heap.size := by
  obtain ⟨cells, el, fz, h, _⟩ := h
  exact (Array.getElem?_eq_some_iff.1 h).1
theorem BlkR.keep (h : BlkR w B β vs K) (e : w'.heap[B]? = w.heap[B]?) : BlkR w' B β vs K := by
  obtain ⟨cells, el, fz, h, r⟩ := h
  exact ⟨cells, el, fz, e.trans h, r⟩
theorem BlkR.at_ (h : BlkR w B β vs K) {i : Nat} {v : Value} (hi : vs[i]? = some v) : w.cell? ⟨B, β + i, none⟩ = some v := by
  obtain ⟨cells, el, fz, h, _, _, _, r⟩ := h
  obtain ⟨hlt, e⟩ := Array.getElem?_eq_some_iff.1 hi
  simp only [World.cell?, h]
  rw [← e]; exact r i hlt
theorem BlkR.cell (h : BlkR w B 0 vs K) {i : Nat} {v : Value} (hi : vs[i]? = some v) : w.cell? ⟨B, i, none⟩ = some v := by
  have := h.at_ hi
  rwa [Nat.zero_add] at this
theorem BlkR.fro (h : BlkR w B β vs K) {i : Nat} (hi : i < K) : w.frozen? ⟨B, β + i, none⟩ = false := by
  obtain ⟨cells, el, fz, h, _, r, _⟩ := h
  simp only [World.frozen?, h]
  simp; omega
theorem BlkR.fro0 (h : BlkR w B 0 vs K) {i : Nat} (hi : i < K) : w.frozen? ⟨B, i, none⟩ = false := by
  have := h.fro hi
  rwa [Nat.zero_add] at this
theorem BlkR.setAt (h : BlkR w B β vs K) (i : Nat) (v : Value) : BlkR (w.setCell ⟨B, β + i, none⟩ v) B β (vs.setIfInBounds i v) K := by
  obtain ⟨cells, el, fz, h, a, b, c, q⟩ := h
  refine ⟨cells.setIfInBounds (β + i) v, el, fz, ?_, by simpa using a, b, by simpa using c, fun j hj => ?_⟩
  · simp only [World.setCell]
    rw [Array.getElem?_modify, if_pos rfl, h]; rfl
  · have hj' : j < vs.size := by simpa using hj
    have := q j hj'
    obtain ⟨hlt, e⟩ := Array.getElem?_eq_some_iff.1 this
    by_cases hij : i = j
    · subst hij; simp [hlt]
    · rw [Array.getElem?_setIfInBounds_ne (by omega), this]
      exact congrArg some (Array.getElem_setIfInBounds_ne hj' hij).symm
theorem BlkR.set (h : BlkR w B 0 vs K) (i : Nat) (v : Value) : BlkR (w.setCell ⟨B, i, none⟩ v) B 0 (vs.setIfInBounds i v) K := by
  have := h.setAt i v
  rwa [Nat.zero_add] at this
theorem BlkR.off {B' i : Nat} {v : Value} (h : BlkR w B β vs K) (hne : B ≠ B') : BlkR (w.setCell ⟨B', i, none⟩ v) B β vs K := h.keep (heap_setCell_other w ⟨B', i, none⟩ B v hne)
theorem BlkR.alloc (h : BlkR w B β vs K) (o : Obj) : BlkR (w.alloc o) B β vs K := h.keep (Below.heap_alloc _ _ _ h.lt)
theorem Blk.new (w : World) (vs : Array Value) (t : TypeId) : Blk (w.alloc (.cells vs t)) w.heap.size vs := ⟨vs, t, (0, 0), heap_alloc_new w _, by omega, .inl (Nat.le_refl _), Nat.le_refl _, fun i h => by rw [Nat.zero_add]; exact Array.getElem?_eq_getElem h⟩
theorem BlkR.drewN (h : BlkR w B β vs K) (n : Nat) : BlkR (w.drewN n) B β vs K := h
theorem BlkR.chan {c cap s r : Nat} {buf : Array Value} {cl tm : Bool} (h : BlkR w B β vs K) (hne : c ≠ B) : BlkR (w.setChan c cap buf cl s r tm) B β vs K := h.keep (by simp [World.setChan, Array.getElem?_setIfInBounds_ne hne])
end
structure Turned (Bs : List Nat) (w0 w : World) : Prop where
  size : w0.heap.size ≤ w.heap.size
  os : w.os = w0.os
  out : w.output = w0.output
  same : ∀ k, k < w0.heap.size → k ∉ Bs → w.heap[k]? = w0.heap[k]?
theorem Turned.rfl' (Bs : List Nat) (w : World) : Turned Bs w w := ⟨Nat.le_refl _, rfl, rfl, fun _ _ _ => rfl⟩
theorem Turned.trans {Bs : List Nat} {a b c : World} (h : Turned Bs a b) (k : Turned Bs b c) : Turned Bs a c := ⟨Nat.le_trans h.size k.size, k.os.trans h.os, k.out.trans h.out, fun i hi hn => (k.same i (Nat.lt_of_lt_of_le hi h.size) hn).trans (h.same i hi hn)⟩
theorem Turned.mono {Bs Cs : List Nat} {a b : World} (h : Turned Bs a b) (hs : ∀ x ∈ Bs, x ∈ Cs) : Turned Cs a b := ⟨h.size, h.os, h.out, fun i hi hn => h.same i hi fun q => hn (hs i q)⟩
theorem Turned.ext {Bs : List Nat} {a b : World} (h : Ext a b) : Turned Bs a b := ⟨h.size, h.os, h.output, fun i hi _ => h.block i hi⟩
theorem Turned.alloc {Bs : List Nat} {a b : World} (h : Turned Bs a b) (o : Obj) : Turned Bs a (b.alloc o) := h.trans (Turned.ext ((Ext.rfl' b).alloc o))
theorem Turned.drewN {Bs : List Nat} {a b : World} (h : Turned Bs a b) (n : Nat) : Turned Bs a (b.drewN n) := ⟨h.size, h.os, h.out, h.same⟩
theorem Turned.set {Bs : List Nat} {a b : World} (h : Turned Bs a b) {B i : Nat} {v : Value} (hB : B ∈ Bs) : Turned Bs a (b.setCell ⟨B, i, none⟩ v) :=
  ⟨by rw [World.size_setCell]; exact h.size, h.os, h.out, fun k hk hn => (heap_setCell_other b ⟨B, i, none⟩ k v (fun e => hn (by rw [e]; exact hB))).trans (h.same k hk hn)⟩
theorem Turned.setNew {Bs : List Nat} {a b : World} (h : Turned Bs a b) {B i : Nat} {v : Value} (hB : a.heap.size ≤ B) : Turned Bs a (b.setCell ⟨B, i, none⟩ v) :=
  ⟨by rw [World.size_setCell]; exact h.size, h.os, h.out, fun k hk hn => (heap_setCell_other b ⟨B, i, none⟩ k v (fun e => by simp at e; omega)).trans (h.same k hk hn)⟩
theorem Turned.chan {Bs : List Nat} {a b : World} {c cap s r : Nat} {buf : Array Value} {cl tm : Bool} (h : Turned Bs a b) (hc : a.heap.size ≤ c) : Turned Bs a (b.setChan c cap buf cl s r tm) :=
  ⟨by simpa [World.setChan] using h.size, h.os, h.out, fun k hk hn => by
    rw [← h.same k hk hn]
    simp [World.setChan, Array.getElem?_setIfInBounds_ne (show c ≠ k by omega)]⟩
theorem BlkR.turned {Bs : List Nat} {w w' : World} {B β K : Nat} {vs : Array Value} (h : BlkR w B β vs K) (t : Turned Bs w w') (hB : B ∉ Bs) : BlkR w' B β vs K := h.keep (t.same B h.lt hB)
theorem BlkR.ext {w w' : World} {B β K : Nat} {vs : Array Value} (h : BlkR w B β vs K) (t : Ext w w') : BlkR w' B β vs K := h.keep (t.block B h.lt)
end Go.Proofs.YtgjnadligocdkaaGreatDoor
