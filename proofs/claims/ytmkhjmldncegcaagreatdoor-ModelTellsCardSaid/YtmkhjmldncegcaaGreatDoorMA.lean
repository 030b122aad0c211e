/-
  PLAIN LEMMAS, NO PROGRAM: the word 'Ints w v xs' (a slice value that reads, in the world w, as the list xs of ints), 'Ext w w'' (nothing that existed has changed), and how the two go together.
-/
import Derived.WalkKit
import Derived.WalkSmall
import Derived.WalkSpells
import Derived.WalkLawsBesides
import Derived.Below
import Derived.Deep.LoopGhost
import Derived.Lib.Hide
import Derived.Maps.AppendAt
import Derived.Deep.AppendLies
import Derived.RegionTactic
import Derived.OwnWalk
import Derived.Maps.Views
import Derived.Shelf.Spec.SearchS
import Derived.Sort.KeysCollected
import Derived.Test.YtmkhjmldncegcaaGreatDoorProg
import Derived.Maps.OwnSet
import Derived.Maps.RangeWalk
import Derived.Sort.EncStr
import Derived.Deep.QuietTactic
import Derived.BigQuiet
import Derived.Test.YtmkhjmldncegcaaGreatDoorShelfA
import Derived.Test.YtmkhjmldncegcaaGreatDoorShelfB
import Derived.Test.YtmkhjmldncegcaaGreatDoorIter
import Derived.Maps.Ext
import Derived.WideLaws
set_option linter.unusedVariables false
set_option linter.unusedSimpArgs false
namespace Go.Proofs.YtmkhjmldncegcaaGreatDoor
open Go.RowKit

/-- Nothing that existed has changed: all old blocks are as they were. -/
abbrev Ext (w w' : World) : Prop := Below w.heap.size w w'

theorem Ext.rfl' (w : World) : Ext w w := Below.refl _ _
theorem Ext.step {a b c : World} (h : Ext a b) (k : Ext b c) : Ext a c := Below.trans h (k.mono h.size)
theorem Ext.drewN (w : World) (n : Nat) : Ext w (w.drewN n) := below_drewN (Below.refl _ _) n
theorem Ext.ofDraws {w w' : World} (h : ∃ q, w' = w.drewN q) : Ext w w' := by obtain ⟨q, rfl⟩ := h; exact Ext.drewN w q
theorem Ext.alloc {a w : World} (h : Ext a w) (o : Obj) : Ext a (w.alloc o) := Below.alloc h h.size o

theorem lt_of_cell {w : World} {a : Addr} {v : Value} (h : w.cell? a = some v) : a.block < w.heap.size := World.block_lt_of_cell? w a h
theorem Ext.cell {w w' : World} (h : Ext w w') {a : Addr} {v : Value} (hc : w.cell? a = some v) : w'.cell? a = some v := by
  rw [Below.cell h (lt_of_cell hc)]; exact hc

/-- A slice value of ints: no element (whatever its address), or the cells from an offset on hold the list. -/
def Ints (w : World) (v : Value) (xs : List Int) : Prop :=
  (xs = [] ∧ ∃ p c, v = .slice p 0 c ∧ c ≤ maxLen) ∨
  (0 < xs.length ∧ ∃ b off c, v = .slice (some ⟨b, off, none⟩) xs.length c ∧ xs.length ≤ c ∧ c ≤ maxLen ∧ ∀ j, j < xs.length → w.cell? ⟨b, off + j, none⟩ = some (.int .i64 (xs.getD j 0)))

theorem Ints.nil (w : World) (p : Option Addr) (c : Nat) (h : c ≤ maxLen) : Ints w (.slice p 0 c) [] := .inl ⟨rfl, p, c, rfl, h⟩
theorem Ints.ext {w w' : World} {v : Value} {xs : List Int} (h : Ints w v xs) (e : Ext w w') : Ints w' v xs := by
  rcases h with h | ⟨h0, b, off, c, h1, h2, h3, h4⟩
  · exact .inl h
  · exact .inr ⟨h0, b, off, c, h1, h2, h3, fun j hj => e.cell (h4 j hj)⟩
theorem Ints.drewN {w : World} {v : Value} {xs : List Int} (h : Ints w v xs) (n : Nat) : Ints (w.drewN n) v xs := h.ext (Ext.drewN w n)
theorem Ints.form {w : World} {v : Value} {xs : List Int} (h : Ints w v xs) : ∃ p c, v = .slice p xs.length c ∧ xs.length ≤ c ∧ c ≤ maxLen := by
  rcases h with ⟨rfl, p, c, rfl, h⟩ | ⟨_, b, off, c, rfl, h2, h3, _⟩
  · exact ⟨p, c, rfl, Nat.zero_le _, h⟩
  · exact ⟨_, c, rfl, h2, h3⟩
theorem Ints.opened {w : World} {v : Value} {xs : List Int} (h : Ints w v xs) : ∃ p c, v = .slice p xs.length c ∧ xs.length ≤ c ∧ c ≤ maxLen ∧ (0 < xs.length → ∃ b off, p = some ⟨b, off, none⟩ ∧ ∀ j, j < xs.length → w.cell? ⟨b, off + j, none⟩ = some (.int .i64 (xs.getD j 0))) := by
  rcases h with ⟨rfl, p, c, rfl, h⟩ | ⟨h0, b, off, c, rfl, h2, h3, h4⟩
  · exact ⟨p, c, rfl, Nat.zero_le _, h, fun h => absurd h (by simp)⟩
  · exact ⟨_, c, rfl, h2, h3, fun _ => ⟨b, off, rfl, h4⟩⟩
theorem Ints.len {w : World} {v : Value} {xs : List Int} (h : Ints w v xs) : xs.length ≤ maxLen := by
  obtain ⟨p, c, _, h1, h2⟩ := h.form; omega

/-- What the kit's own rows give: a slice that the call owns reads as its cells. -/
theorem Ints.ofOwns {w : World} {base : Nat} {e : TypeId} {v : Value} {n : Nat} {xs : List Int} (h : w.ownsRow base e 1 v n (xs.map (Value.int .i64))) : Ints w v xs := by
  obtain ⟨hl, h⟩ := h
  simp at hl
  rcases h with ⟨rfl, rfl⟩ | ⟨g, cap, cur, rfl, hb, hg, hn, hcap, hs, ht⟩
  · simp at hl; exact .inl ⟨hl, none, 0, rfl, Nat.zero_le _⟩
  · subst hl
    by_cases h0 : 0 < xs.length
    · refine .inr ⟨h0, g, 0, cap, rfl, hn, hcap, fun j hj => ?_⟩
      have e1 : cur.toList[j]? = some (.int .i64 (xs.getD j 0)) := by
        have : (cur.toList.take (xs.length * 1))[j]? = (xs.map (Value.int .i64))[j]? := by rw [ht]
        rw [List.getElem?_take_of_lt (by omega)] at this
        rw [this]; simp [List.getD, List.getElem?_eq_getElem hj]
      simp [World.cell?, hg]
      simpa using e1
    · have : xs = [] := by cases xs with | nil => rfl | cons a r => simp at h0
      subst this
      exact .inl ⟨rfl, _, _, rfl, hcap⟩

theorem getD_eq {xs : List Int} {j : Nat} (h : j < xs.length) : xs.getD j 0 = xs[j] := by simp [List.getD, List.getElem?_eq_getElem h]


/-! ### Slices of whatever elements, `size` cells each -/
/-- The slice value v has n elements, whose cells are us; nothing is said of where an empty one lies. -/
def Sl (w : World) (size : Nat) (v : Value) (n : Nat) (us : List Value) : Prop :=
  us.length = n * size ∧ ∃ p c, v = .slice p n c ∧ n ≤ c ∧ c ≤ maxLen ∧ (0 < n → ∃ b off, p = some ⟨b, off, none⟩ ∧ ∀ j u, us[j]? = some u → w.cell? ⟨b, off + j, none⟩ = some u)

theorem Sl.ext {w w' : World} {size n : Nat} {v : Value} {us : List Value} (h : Sl w size v n us) (e : Ext w w') : Sl w' size v n us := by
  obtain ⟨hl, p, c, hv, h1, h2, h3⟩ := h
  refine ⟨hl, p, c, hv, h1, h2, fun h0 => ?_⟩
  obtain ⟨b, off, hp, hc⟩ := h3 h0
  exact ⟨b, off, hp, fun j u hu => e.cell (hc j u hu)⟩

theorem Sl.ofOwns {w : World} {base : Nat} {e : TypeId} {size n : Nat} {v : Value} {us : List Value} (h : w.ownsRow base e size v n us) : Sl w size v n us := by
  refine ⟨h.1, ?_⟩
  have hcells : ∀ g, v.ownBlock = some g → ∀ j u, us[j]? = some u → w.cell? ((⟨g, 0, none⟩ : Addr).add j) = some u := fun g hg => h.cells hg
  rcases h.2 with ⟨rfl, rfl⟩ | ⟨g, cap, cur, rfl, hb, hg, hn, hcap, hs, ht⟩
  · exact ⟨none, 0, rfl, Nat.le_refl _, Nat.zero_le _, fun h => absurd h (by omega)⟩
  · refine ⟨_, cap, rfl, hn, hcap, fun _ => ⟨g, 0, rfl, fun j u hu => ?_⟩⟩
    have := hcells g rfl j u hu
    simpa [Addr.add_lit] using this

theorem Sl.ofInts {w : World} {v : Value} {xs : List Int} (h : Ints w v xs) : Sl w 1 v xs.length (xs.map (Value.int .i64)) := by
  refine ⟨by simp, ?_⟩
  rcases h with ⟨rfl, p, c, rfl, h⟩ | ⟨h0, b, off, c, rfl, h2, h3, h4⟩
  · exact ⟨p, c, rfl, Nat.zero_le _, h, fun h => absurd h (by simp)⟩
  · refine ⟨_, c, rfl, h2, h3, fun _ => ⟨b, off, rfl, fun j u hu => ?_⟩⟩
    obtain ⟨hj, e⟩ := List.getElem?_eq_some_iff.1 hu
    simp at hj e
    rw [h4 j hj, getD_eq hj, e]

theorem Sl.toInts {w : World} {v : Value} {xs : List Int} {n : Nat} (h : Sl w 1 v n (xs.map (Value.int .i64))) : Ints w v xs := by
  obtain ⟨hl, p, c, hv, h1, h2, h3⟩ := h
  have hn : n = xs.length := by simpa using hl.symm
  subst hn
  by_cases h0 : 0 < xs.length
  · obtain ⟨b, off, hp, hc⟩ := h3 h0
    refine .inr ⟨h0, b, off, c, by rw [hv, hp], h1, h2, fun j hj => hc j _ ?_⟩
    simp [List.getElem?_eq_getElem hj]
  · have : xs = [] := by cases xs with | nil => rfl | cons a r => simp at h0
    subst this
    exact .inl ⟨rfl, p, c, by simpa using hv, h2⟩

/-- One element, just laid in a block of its own. -/
theorem Sl.new1 (w : World) (u : Value) (e : TypeId) : Sl (w.alloc (.cells #[u] e)) 1 (.slice (some ⟨w.heap.size, 0, none⟩) 1 1) 1 [u] := by
  refine ⟨rfl, _, 1, rfl, Nat.le_refl _, by unfold maxLen; omega, fun _ => ⟨_, _, rfl, fun j x hx => ?_⟩⟩
  obtain ⟨hj, e⟩ := List.getElem?_eq_some_iff.1 hx
  simp at hj
  subst hj
  simp at e
  subst e
  simp

/-- What the type table says of a slice type t over the element type e. -/
structure ElemOf (P : Program) (t e : TypeId) (size bytes : Nat) : Prop where
  under : P.underlying t = some (.slice e)
  info : ∃ i z, P.info? e = some i ∧ i.zero = some z ∧ i.size = size ∧ i.bytes = bytes ∧ z.cells.size = size
  pos : 0 < size

theorem owns_ext {w w' : World} {base : Nat} {e : TypeId} {size n : Nat} {v : Value} {xs : List Value} (h : w.ownsRow base e size v n xs) (x : Ext w w') : w'.ownsRow base e size v n xs := by
  refine ⟨h.1, ?_⟩
  rcases h.2 with hn | ⟨g, cap, cur, rfl, hgb, hgg, rest⟩
  · exact .inl hn
  · refine .inr ⟨g, cap, cur, rfl, hgb, ?_, rest⟩
    rw [x.block g (Array.getElem?_eq_some_iff.1 hgg).1]; exact hgg
theorem owns_nil (w : World) (base : Nat) (e : TypeId) (size : Nat) : w.ownsRow base e size (.slice none 0 0) 0 [] := World.ownsRow_nil w base e size

section
variable {P : Program} (w : World)

theorem run_append_sl (base : Nat) {t e : TypeId} {size bytes : Nat} (EL : ElemOf P t e size bytes) (ty : TypeId)
    (v : Value) (n : Nat) (xs : List Value) (hown : w.ownsRow base e size v n xs)
    (u : Value) (m : Nat) (news : List Value) (hu : Sl w size u m news) (h1 : ∀ u ∈ news, u.oneCell' = true)
    (h63 : n + m ≤ maxLen) (hbytes : (n + m) * bytes ≤ 140737488355328) (hbase : base ≤ w.heap.size) :
    ∃ v' w', (Builtin.append_ #[t, t] ty #[v, u]).run P w = .ok v' w' ∧ w'.ownsRow base e size v' (n + m) (xs ++ news) ∧ w.grownBy w' v.ownBlock ∧
      (v'.ownBlock = v.ownBlock ∨ v'.ownBlock = some w.heap.size) := by
  obtain ⟨ht, ⟨i, z, hi, hz, hsize, hby, hzs⟩, hsz⟩ := EL
  obtain ⟨hl, p, c, rfl, hc1, hc2, hcells⟩ := hu
  cases p with
  | none =>
    have hm : m = 0 := by
      rcases Nat.eq_zero_or_pos m with h0 | h0
      · exact h0
      · obtain ⟨b, off, h, _⟩ := hcells h0; cases h
    subst hm
    have hn : news = [] := List.eq_nil_of_length_eq_zero (by simpa using hl)
    subst hn
    refine ⟨v, w, ?_, by simpa using hown, ⟨rfl, rfl, rfl, Nat.le_refl _, fun _ _ _ => rfl⟩, .inl rfl⟩
    rcases hown.2 with ⟨rfl, rfl⟩ | ⟨g, cap, cur, rfl, _, _, hnc, _⟩
    · simp [Builtin.append_, run_underlying ht, sizeOf, typeInfo, hi, Builtin.lenOf, Builtin.firstCells]
    · simp [Builtin.append_, run_underlying ht, sizeOf, typeInfo, hi, Builtin.lenOf, Builtin.firstCells, hnc, storeCells]
  | some a =>
    have hnews : ∀ j x, news[j]? = some x → w.cell? (a.add j) = some x := by
      intro j x hx
      rcases Nat.eq_zero_or_pos m with h0 | h0
      · subst h0
        have hn : news = [] := List.eq_nil_of_length_eq_zero (by simpa using hl)
        subst hn
        simp at hx
      · obtain ⟨b, off, h, hc⟩ := hcells h0
        injection h with h
        subst h
        rw [Addr.add_lit]
        exact hc j x hx
    obtain ⟨v', w', hr, h2, h3, _, h5⟩ := run_append_own_at (P := P) w base t ty e i z size bytes ht hi hz hsize hby hzs hsz v n xs hown a m c news hl hnews h1 h63 hbytes hbase
    exact ⟨v', w', hr, h2, h3, h5⟩

theorem wp_append_sl {o : Oper} {a : Act} {K : Act → World → Prop} {Q : Exit → Act → World → Prop} (s x : Operand) (t : TypeId)
    (ho : o.op = .call { callee := .builtin .append, args := #[s, x], argTypes := #[t, t] })
    (base : Nat) {e : TypeId} {size bytes : Nat} (EL : ElemOf P t e size bytes)
    (v : Value) (n : Nat) (xs : List Value) (hs : a.eval s = v) (hown : w.ownsRow base e size v n xs)
    (u : Value) (m : Nat) (news : List Value) (hx : a.eval x = u) (hu : Sl w size u m news) (h1 : ∀ u ∈ news, u.oneCell' = true)
    (h63 : n + m ≤ maxLen) (hbytes : (n + m) * bytes ≤ 140737488355328) (hbase : base ≤ w.heap.size)
    (h : ∀ v' w', w'.ownsRow base e size v' (n + m) (xs ++ news) → w.grownBy w' v.ownBlock → (v'.ownBlock = v.ownBlock ∨ v'.ownBlock = some w.heap.size) → K (a.put o.dst v') w') : o.wp P a w K Q := by
  obtain ⟨v', w', hr, h2, h3, h4⟩ := run_append_sl (P := P) w base EL o.type v n xs hown u m news hu h1 h63 hbytes hbase
  unfold Oper.wp execOp
  simp only [ho, resolve, invoke, builtin, Sem.run_bind, Sem.run_pure, Result.andThen_ok, List.map_toArray, List.map_cons, List.map_nil, hs, hx, hr]
  exact h v' w' h2 h3 h4

theorem wpList_append_sl {ops : Array Oper} {rest : List Oper} {o : Oper} {a : Act} {Q : Exit → Act → World → Prop} (hgd : o.guard = none) (s x : Operand) (t : TypeId)
    (ho : o.op = .call { callee := .builtin .append, args := #[s, x], argTypes := #[t, t] })
    (base : Nat) {e : TypeId} {size bytes : Nat} (EL : ElemOf P t e size bytes)
    (v : Value) (n : Nat) (xs : List Value) (hs : a.eval s = v) (hown : w.ownsRow base e size v n xs)
    (u : Value) (m : Nat) (news : List Value) (hx : a.eval x = u) (hu : Sl w size u m news) (h1 : ∀ u ∈ news, u.oneCell' = true)
    (h63 : n + m ≤ maxLen) (hbytes : (n + m) * bytes ≤ 140737488355328) (hbase : base ≤ w.heap.size)
    (h : ∀ v' w', w'.ownsRow base e size v' (n + m) (xs ++ news) → w.grownBy w' v.ownBlock → (v'.ownBlock = v.ownBlock ∨ v'.ownBlock = some w.heap.size) → wpList P ops Q rest (a.put o.dst v') w') : wpList P ops Q (o :: rest) a w :=
  wpList_plain hgd fun _ hK => wp_append_sl w s x t ho base EL v n xs hs hown u m news hx hu h1 h63 hbytes hbase fun v' w' h2 h3 h4 => hK _ _ (h v' w' h2 h3 h4)

theorem step_append_sl {ops : Array Oper} {o : Oper} {a : Act} {K : Act → World → Prop} {Q : Exit → Act → World → Prop} {E : Prop} (hgd : o.guard = none) (s x : Operand) (t : TypeId)
    (ho : o.op = .call { callee := .builtin .append, args := #[s, x], argTypes := #[t, t] })
    (base : Nat) {e : TypeId} {size bytes : Nat} (EL : ElemOf P t e size bytes)
    (v : Value) (n : Nat) (xs : List Value) (hs : a.eval s = v) (hown : w.ownsRow base e size v n xs)
    (u : Value) (m : Nat) (news : List Value) (hx : a.eval x = u) (hu : Sl w size u m news) (h1 : ∀ u ∈ news, u.oneCell' = true)
    (h63 : n + m ≤ maxLen) (hbytes : (n + m) * bytes ≤ 140737488355328) (hbase : base ≤ w.heap.size)
    (h : ∀ v' w', w'.ownsRow base e size v' (n + m) (xs ++ news) → w.grownBy w' v.ownBlock → (v'.ownBlock = v.ownBlock ∨ v'.ownBlock = some w.heap.size) → K (a.put o.dst v') w') :
    if Region.wanted o (yielded ops a.tmps) = true then Oper.wp P o a w K Q else E := by
  have hw : Region.wanted o (yielded ops a.tmps) = true := by simp [Region.wanted, hgd]
  rw [if_pos hw]
  exact wp_append_sl w s x t ho base EL v n xs hs hown u m news hx hu h1 h63 hbytes hbase h
end

/-- Behind an append onto a slice that the call owns from `base` on: what lay below is as it was. -/
theorem below_append {base : Nat} {w0 w w' : World} {e : TypeId} {size n : Nat} {v : Value} {xs : List Value} (h : Below base w0 w) (hb : base ≤ w.heap.size) (hown : w.ownsRow base e size v n xs) (hg : w.grownBy w' v.ownBlock) : Below base w0 w' :=
  Below.grown h hg hb fun k hk => (hown.lt k hk).1

theorem ints_one (xs : List Int) : ∀ u ∈ xs.map (Value.int .i64), u.oneCell' = true := by
  intro u hu; obtain ⟨x, _, rfl⟩ := List.mem_map.1 hu; rfl
theorem int_one (x : Int) : ∀ u ∈ [Value.int .i64 x], u.oneCell' = true := by
  intro u hu; simp at hu; subst hu; rfl

/-- A cut of a slice. -/
theorem Ints.take {w : World} {b off c : Nat} {xs : List Int} (h : ∀ j, j < xs.length → w.cell? ⟨b, off + j, none⟩ = some (.int .i64 (xs.getD j 0))) (h1 : xs.length ≤ c) (h2 : c ≤ maxLen) {i : Nat} (hi : i ≤ xs.length) :
    Ints w (.slice (some ⟨b, off, none⟩) i c) (xs.take i) := by
  have hl : (xs.take i).length = i := by rw [List.length_take]; omega
  by_cases h0 : 0 < i
  · refine .inr ⟨by omega, b, off, c, by rw [hl], by omega, h2, fun j hj => ?_⟩
    rw [h j (by omega)]
    rw [hl] at hj
    simp [List.getD, List.getElem?_take_of_lt hj]
  · obtain rfl : i = 0 := by omega
    exact .inl ⟨by simp, _, c, rfl, h2⟩
theorem Ints.drop {w : World} {b off c : Nat} {xs : List Int} (h : ∀ j, j < xs.length → w.cell? ⟨b, off + j, none⟩ = some (.int .i64 (xs.getD j 0))) (h1 : xs.length ≤ c) (h2 : c ≤ maxLen) {i : Nat} (hi : i < xs.length) :
    Ints w (.slice (some ⟨b, off + i, none⟩) (xs.length - i) (c - i)) (xs.drop i) := by
  have hl : (xs.drop i).length = xs.length - i := List.length_drop
  refine .inr ⟨by omega, b, off + i, c - i, by rw [hl], by omega, by omega, fun j hj => ?_⟩
  rw [Nat.add_assoc, h (i + j) (by omega)]
  simp [List.getD]
end Go.Proofs.YtmkhjmldncegcaaGreatDoor

/-
  PLAIN: what a model of the past (package past) is and does, in Lean, with no program in sight: rows of pairs in place of maps, texts as rows of bytes.
-/
set_option linter.unusedVariables false
set_option linter.unusedSectionVars false
namespace Go.Proofs.YtmkhjmldncegcaaGreatDoor
open Go

/-- Texts. -/
abbrev S := List UInt8

/-- What may be a key of a map, and which key of the model's it is. -/
class Ky (κ : Type) where
  lit : κ → Lit
  inj : ∀ a b, lit a = lit b → a = b
  key : ∀ a, WideAt.IsKeyLit (lit a)
instance : Ky S := ⟨Lit.string, fun a b h => by injection h, fun _ => trivial⟩
instance : Ky Nat := ⟨fun n => Lit.int .u64 n, fun a b h => by injection h; omega, fun _ => trivial⟩
instance : Ky Int := ⟨Lit.int .i64, fun a b h => by injection h, fun _ => trivial⟩

section
variable {κ α β : Type} [Ky κ]
def sameK (a b : κ) : Bool := (Ky.lit a).sameKey (Ky.lit b)
def befK (a b : κ) : Bool := (Ky.lit a).before (Ky.lit b)

theorem sameK_iff (a b : κ) : sameK a b = true ↔ a = b := by
  constructor
  · intro h; exact Ky.inj _ _ (WideAt.sameKey_eq h)
  · rintro rfl; exact WideAt.sameKey_self (Ky.key a)
theorem sameK_self (a : κ) : sameK a a = true := (sameK_iff a a).2 rfl
theorem sameK_ne {a b : κ} (h : a ≠ b) : sameK a b = false := by
  cases e : sameK a b
  · rfl
  · exact absurd ((sameK_iff a b).1 e) h

/-- Rows of keys and values, the keys rising: a map. -/
def mget (k : κ) (l : List (κ × α)) : Option α := (l.find? fun p => sameK p.1 k).map (·.2)
def mins (x : κ × α) : List (κ × α) → List (κ × α)
  | [] => [x]
  | y :: r => if befK x.1 y.1 then x :: y :: r else y :: mins x r
def mdel (k : κ) (l : List (κ × α)) : List (κ × α) := l.filter fun p => !sameK p.1 k
def mput (k : κ) (v : α) (l : List (κ × α)) : List (κ × α) := mins (k, v) (mdel k l)

theorem mget_cons (k : κ) (p : κ × α) (l : List (κ × α)) : mget k (p :: l) = if sameK p.1 k then some p.2 else mget k l := by
  unfold mget
  rw [List.find?_cons]
  cases sameK p.1 k <;> rfl
theorem mget_nil (k : κ) : mget k ([] : List (κ × α)) = none := rfl

theorem mget_mem {k : κ} {l : List (κ × α)} {v : α} (h : mget k l = some v) : (k, v) ∈ l := by
  unfold mget at h
  rw [Option.map_eq_some_iff] at h
  obtain ⟨p, hp, rfl⟩ := h
  have := (sameK_iff _ _).1 (by simpa using List.find?_some hp)
  subst this
  exact List.mem_of_find?_eq_some hp

theorem mget_ins_same {k : κ} {v : α} : ∀ l : List (κ × α), mget k l = none → mget k (mins (k, v) l) = some v
  | [], _ => by simp [mins, mget_cons, sameK_self]
  | y :: r, h => by
    rw [mget_cons] at h
    unfold mins
    split
    · simp [mget_cons, sameK_self]
    · rw [mget_cons]
      split at h
      · cases h
      · rename_i hy
        rw [if_neg hy]; exact mget_ins_same r h
theorem mget_ins_other {k k' : κ} (hne : k' ≠ k) {v : α} : ∀ l : List (κ × α), mget k' (mins (k, v) l) = mget k' l
  | [] => by simp [mins, mget_cons, sameK_ne (Ne.symm hne), mget_nil]
  | y :: r => by
    unfold mins
    split
    · rw [mget_cons, if_neg (by rw [sameK_ne (Ne.symm hne)]; simp)]
    · rw [mget_cons, mget_cons, mget_ins_other hne r]
theorem mget_del_same (k : κ) : ∀ l : List (κ × α), mget k (mdel k l) = none
  | [] => rfl
  | y :: r => by
    unfold mdel
    rw [List.filter_cons]
    split
    · rename_i h
      rw [mget_cons, if_neg (by simpa using h)]; exact mget_del_same k r
    · exact mget_del_same k r
theorem mget_del_other {k k' : κ} (hne : k' ≠ k) : ∀ l : List (κ × α), mget k' (mdel k l) = mget k' l
  | [] => rfl
  | y :: r => by
    have ih := mget_del_other hne r
    unfold mdel at ih ⊢
    rw [List.filter_cons]
    split
    · rw [mget_cons, mget_cons, ih]
    · rename_i h
      rw [ih, mget_cons]
      have : y.1 = k := (sameK_iff _ _).1 (by simpa using h)
      rw [if_neg]
      rw [this, sameK_ne (Ne.symm hne)]; simp
theorem mget_put_same (k : κ) (v : α) (l : List (κ × α)) : mget k (mput k v l) = some v := mget_ins_same _ (mget_del_same k l)
theorem mget_put_other {k k' : κ} (hne : k' ≠ k) (v : α) (l : List (κ × α)) : mget k' (mput k v l) = mget k' l := by
  unfold mput; rw [mget_ins_other hne, mget_del_other hne]

theorem length_mins (x : κ × α) : ∀ l : List (κ × α), (mins x l).length = l.length + 1
  | [] => rfl
  | y :: r => by unfold mins; split <;> simp [length_mins x r]
theorem length_mdel (k : κ) (l : List (κ × α)) : (mdel k l).length ≤ l.length := List.length_filter_le _ _
theorem length_mput (k : κ) (v : α) (l : List (κ × α)) : (mput k v l).length ≤ l.length + 1 := by
  unfold mput; rw [length_mins]; have := length_mdel k l; omega
theorem mem_mins {x y : κ × α} : ∀ {l : List (κ × α)}, y ∈ mins x l ↔ y = x ∨ y ∈ l
  | [] => by simp [mins]
  | z :: r => by
    unfold mins
    split
    · simp
    · simp [mem_mins (l := r)]
      constructor
      · rintro (h | h | h) <;> simp [h]
      · rintro (h | h | h) <;> simp [h]
theorem mem_mput {k : κ} {v : α} {l : List (κ × α)} {y : κ × α} (h : y ∈ mput k v l) : y = (k, v) ∨ y ∈ l := by
  rcases mem_mins.1 h with h | h
  · exact .inl h
  · exact .inr (List.mem_filter.1 h).1
theorem mem_mdel {k : κ} {l : List (κ × α)} {y : κ × α} (h : y ∈ mdel k l) : y ∈ l := (List.mem_filter.1 h).1

/-- Another value at a key that is there. -/
def mset (k : κ) (v : α) (l : List (κ × α)) : List (κ × α) := l.map fun p => if sameK p.1 k then (p.1, v) else p
theorem mget_of_mem {k : κ} {v : α} : ∀ {l : List (κ × α)}, l.Pairwise (fun p q => p.1 ≠ q.1) → (k, v) ∈ l → mget k l = some v
  | [], _, h => by simp at h
  | y :: r, hp, h => by
    obtain ⟨h1, h2⟩ := List.pairwise_cons.1 hp
    rw [mget_cons]
    rcases List.mem_cons.1 h with e | h
    · subst e; rw [if_pos (sameK_self k)]
    · rw [if_neg (by rw [sameK_ne (h1 _ h)]; simp)]; exact mget_of_mem h2 h
theorem mget_set_same {k : κ} {v : α} : ∀ {l : List (κ × α)}, (mget k l).isSome = true → mget k (mset k v l) = some v
  | [], h => by simp [mget_nil] at h
  | y :: r, h => by
    unfold mset
    rw [List.map_cons, mget_cons]
    rw [mget_cons] at h
    cases e : sameK y.1 k
    · rw [e] at h
      simp [e] at h ⊢
      exact mget_set_same h
    · simp [e]
theorem mget_set_other {k k' : κ} (hne : k' ≠ k) (v : α) : ∀ l : List (κ × α), mget k' (mset k v l) = mget k' l
  | [] => rfl
  | y :: r => by
    have ih := mget_set_other hne v r
    unfold mset at ih ⊢
    rw [List.map_cons, mget_cons, mget_cons, ih]
    cases e : sameK y.1 k
    · simp
    · have : y.1 = k := (sameK_iff _ _).1 e
      simp [this, sameK_ne (Ne.symm hne)]
theorem length_mset (k : κ) (v : α) (l : List (κ × α)) : (mset k v l).length = l.length := by simp [mset]
theorem mem_mset {k : κ} {v : α} {l : List (κ × α)} {y : κ × α} (h : y ∈ mset k v l) : y = (k, v) ∨ y ∈ l := by
  obtain ⟨p, hp, rfl⟩ := List.mem_map.1 h
  cases e : sameK p.1 k
  · simp [hp]
  · have : p.1 = k := (sameK_iff _ _).1 e
    simp [this]
theorem keys_mset (k : κ) (v : α) (l : List (κ × α)) : (mset k v l).map (·.1) = l.map (·.1) := by
  unfold mset
  rw [List.map_map]
  congr 1
  funext p
  show (if sameK p.1 k then (p.1, v) else p).1 = p.1
  split <;> rfl

/-! ### two rows side by side -/
inductive Beside (R : κ → α → β → Prop) : List (κ × α) → List (κ × β) → Prop
  | nil : Beside R [] []
  | cons {k : κ} {a : α} {b : β} {l : List (κ × α)} {r : List (κ × β)} : R k a b → Beside R l r → Beside R ((k, a) :: l) ((k, b) :: r)

variable {R R' : κ → α → β → Prop}
theorem Beside.imp (f : ∀ k a b, R k a b → R' k a b) : ∀ {l : List (κ × α)} {r : List (κ × β)}, Beside R l r → Beside R' l r
  | _, _, .nil => .nil
  | _, _, .cons h t => .cons (f _ _ _ h) (Beside.imp f t)
theorem Beside.length : ∀ {l : List (κ × α)} {r : List (κ × β)}, Beside R l r → l.length = r.length
  | _, _, .nil => rfl
  | _, _, .cons _ t => by simp [Beside.length t]
theorem Beside.keys : ∀ {l : List (κ × α)} {r : List (κ × β)}, Beside R l r → l.map (·.1) = r.map (·.1)
  | _, _, .nil => rfl
  | _, _, .cons _ t => by simp [Beside.keys t]
theorem Beside.get_some {k : κ} : ∀ {l : List (κ × α)} {r : List (κ × β)}, Beside R l r → ∀ {b : β}, mget k r = some b → ∃ a, mget k l = some a ∧ R k a b
  | _, _, .nil, b, h => by simp [mget_nil] at h
  | _, _, .cons (k := k') h0 t, b, h => by
    rw [mget_cons] at h ⊢
    by_cases e : sameK k' k = true
    · rw [if_pos e] at h ⊢
      have := (sameK_iff _ _).1 e
      subst this
      cases h
      exact ⟨_, rfl, h0⟩
    · rw [if_neg e] at h ⊢
      exact Beside.get_some t h
theorem Beside.get_none {k : κ} : ∀ {l : List (κ × α)} {r : List (κ × β)}, Beside R l r → mget k r = none → mget k l = none
  | _, _, .nil, h => rfl
  | _, _, .cons (k := k') h0 t, h => by
    rw [mget_cons] at h ⊢
    by_cases e : sameK k' k = true
    · rw [if_pos e] at h; cases h
    · rw [if_neg e] at h ⊢; exact Beside.get_none t h
theorem Beside.has {k : κ} {l : List (κ × α)} {r : List (κ × β)} (h : Beside R l r) : (mget k l).isSome = (mget k r).isSome := by
  cases e : mget k r with
  | none => rw [h.get_none e]; rfl
  | some b => obtain ⟨a, ea, _⟩ := h.get_some e; rw [ea]; rfl
theorem Beside.ins {k : κ} {a : α} {b : β} (h0 : R k a b) : ∀ {l : List (κ × α)} {r : List (κ × β)}, Beside R l r → Beside R (mins (k, a) l) (mins (k, b) r)
  | _, _, .nil => .cons h0 .nil
  | _, _, .cons (k := k') h t => by
    unfold mins
    by_cases e : befK k k' = true
    · rw [if_pos e, if_pos e]; exact .cons h0 (.cons h t)
    · rw [if_neg e, if_neg e]; exact .cons h (Beside.ins h0 t)
theorem Beside.del (k : κ) : ∀ {l : List (κ × α)} {r : List (κ × β)}, Beside R l r → Beside R (mdel k l) (mdel k r)
  | _, _, .nil => .nil
  | _, _, .cons (k := k') h t => by
    have ih := Beside.del k t
    unfold mdel at ih ⊢
    rw [List.filter_cons, List.filter_cons]
    cases e : sameK k' k
    · simpa [e] using Beside.cons h ih
    · simpa [e] using ih
theorem Beside.put {k : κ} {a : α} {b : β} (h0 : R k a b) {l : List (κ × α)} {r : List (κ × β)} (h : Beside R l r) : Beside R (mput k a l) (mput k b r) := Beside.ins h0 (Beside.del k h)
/-- The relation may turn at one key alone, where that key is taken out or written over. -/
theorem Beside.imp_mem {r0 : List (κ × β)} (f : ∀ k a b, (k, b) ∈ r0 → R k a b → R' k a b) : ∀ {l : List (κ × α)} {r : List (κ × β)}, Beside R l r → (∀ p ∈ r, p ∈ r0) → Beside R' l r
  | _, _, .nil, _ => .nil
  | _, _, .cons h t, hm => .cons (f _ _ _ (hm _ (by simp)) h) (Beside.imp_mem f t fun p hp => hm p (by simp [hp]))

theorem Beside.del' {k : κ} (f : ∀ k' a b, k' ≠ k → R k' a b → R' k' a b) : ∀ {l : List (κ × α)} {r : List (κ × β)}, Beside R l r → Beside R' (mdel k l) (mdel k r)
  | _, _, .nil => .nil
  | _, _, .cons (k := k') h t => by
    have ih := Beside.del' f t
    unfold mdel at ih ⊢
    rw [List.filter_cons, List.filter_cons]
    cases e : sameK k' k
    · have hne : k' ≠ k := fun h => by rw [h, sameK_self] at e; cases e
      simpa [e] using Beside.cons (f _ _ _ hne h) ih
    · simpa [e] using ih
theorem Beside.put' {k : κ} {a : α} {b : β} (f : ∀ k' a b, k' ≠ k → R k' a b → R' k' a b) (h0 : R' k a b) {l : List (κ × α)} {r : List (κ × β)} (h : Beside R l r) : Beside R' (mput k a l) (mput k b r) := Beside.ins h0 (Beside.del' f h)
theorem Beside.set {k : κ} {v : β} : ∀ {l : List (κ × α)} {r : List (κ × β)}, Beside R l r → (∀ k' a b, k' ≠ k → R k' a b → R' k' a b) → (∀ a, (k, a) ∈ l → R' k a v) → Beside R' l (mset k v r)
  | _, _, .nil, _, _ => .nil
  | _, _, .cons (k := k') (b := b) h t, f, g => by
    have ih := Beside.set t f fun a ha => g a (by simp [ha])
    unfold mset at ih ⊢
    rw [List.map_cons]
    cases e : sameK k' k
    · have hne : k' ≠ k := fun h => by rw [h, sameK_self] at e; cases e
      simpa [e] using Beside.cons (f _ _ _ hne h) ih
    · have := (sameK_iff _ _).1 e
      subst this
      simpa [e] using Beside.cons (g _ (by simp)) ih

/-- What the kit's own reading of a map is, of such a row. -/
def toD {H : Type} (d : α → DataW H) (l : List (κ × α)) : DataW H := .map (l.map fun p => (Ky.lit p.1, d p.2))

theorem toD_ins {H : Type} (d : α → DataW H) (x : κ × α) : ∀ l : List (κ × α), (mins x l).map (fun p => (Ky.lit p.1, d p.2)) = DataW.insert (Ky.lit x.1, d x.2) (l.map fun p => (Ky.lit p.1, d p.2))
  | [] => rfl
  | y :: r => by
    simp only [List.map_cons]
    unfold mins DataW.insert
    show _ = if befK x.1 y.1 then _ else _
    by_cases e : befK x.1 y.1 = true
    · rw [if_pos e, if_pos e]; rfl
    · rw [if_neg e, if_neg e, List.map_cons, toD_ins d x r]
theorem toD_filter {H : Type} (d : α → DataW H) (k : κ) : ∀ l : List (κ × α), (mdel k l).map (fun p => (Ky.lit p.1, d p.2)) = (l.map fun p => (Ky.lit p.1, d p.2)).filter fun p => !p.1.sameKey (Ky.lit k)
  | [] => rfl
  | y :: r => by
    have ih := toD_filter d k r
    unfold mdel at ih ⊢
    rw [List.filter_cons, List.map_cons, List.filter_cons]
    have : sameK y.1 k = (Ky.lit y.1).sameKey (Ky.lit k) := rfl
    rw [← this]
    cases sameK y.1 k
    · simpa using ih
    · simpa using ih
theorem toD_put {H : Type} (d : α → DataW H) (k : κ) (v : α) (l : List (κ × α)) : (toD d l).put (Ky.lit k) (d v) = toD d (mput k v l) := by
  show DataW.map _ = DataW.map _
  rw [mput, toD_ins, toD_filter]
theorem toD_del {H : Type} (d : α → DataW H) (k : κ) (l : List (κ × α)) : (toD d l).del (Ky.lit k) = toD d (mdel k l) := by
  show DataW.map _ = DataW.map _
  rw [toD_filter]
theorem toD_find {H : Type} (d : α → DataW H) (k : κ) : ∀ l : List (κ × α), (l.map fun p => (Ky.lit p.1, d p.2)).find? (fun p => p.1.sameKey (Ky.lit k)) = (l.find? fun p => sameK p.1 k).map fun p => (Ky.lit p.1, d p.2)
  | [] => rfl
  | y :: r => by
    rw [List.map_cons, List.find?_cons, List.find?_cons]
    have : sameK y.1 k = (Ky.lit y.1).sameKey (Ky.lit k) := rfl
    rw [← this]
    cases sameK y.1 k
    · exact toD_find d k r
    · rfl
theorem toD_at {H : Type} (d : α → DataW H) (k : κ) (l : List (κ × α)) (z : DataW H) : (toD d l).atKey (Ky.lit k) z = ((mget k l).map d).getD z := by
  show (match (l.map fun p => (Ky.lit p.1, d p.2)).find? (fun p => p.1.sameKey (Ky.lit k)) with | some p => p.2 | none => z) = _
  rw [toD_find]
  unfold mget
  cases l.find? (fun p => sameK p.1 k) <;> rfl
theorem toD_has {H : Type} (d : α → DataW H) (k : κ) (l : List (κ × α)) : Maps.has (toD d l) (Ky.lit k) = (mget k l).isSome := by
  show (l.map fun p => (Ky.lit p.1, d p.2)).any (fun p => p.1.sameKey (Ky.lit k)) = _
  induction l with
  | nil => rfl
  | cons y r ih =>
    rw [List.map_cons, List.any_cons, mget_cons, ih]
    show (sameK y.1 k || _) = _
    cases sameK y.1 k <;> rfl
theorem toD_size {H : Type} (d : α → DataW H) (l : List (κ × α)) : Maps.size (toD d l) = l.length := by
  show (l.map _).length = _
  simp
end

/-! ### the model of the past -/
/-- What a process is asked; what it was told. -/
structure OpA where
  kind : Int
  db : S
  key : S
  val : S
  flags : Int
  n : Int
deriving DecidableEq
structure RepA where
  code : Int
  key : S
  val : S
deriving DecidableEq
structure BaseA where
  flags : Int
  m : List (S × List S)
structure ModA where
  l : List (S × BaseA)
  db : S
  ek : S
  ev : S
  on : Bool

def shortB (s : S) : Bool := !(s == []) && decide (s.length ≤ 8)
def mainA (A : ModA) : BaseA := (mget ([] : S) A.l).getD ⟨0, []⟩
/-- A database, an error. -/
def findA (A : ModA) (db : S) : Option BaseA × Int :=
  if db = [] then (mget db A.l, 0)
  else if shortB db = false then (none, 22)
  else if (mget db (mainA A).m).isSome then (none, 23)
  else if (mget db A.l).isNone then (none, 21)
  else (mget db A.l, 0)
/-- A database, a key's values, an error. -/
def valuesA (A : ModA) (op : OpA) : Option BaseA × List S × Int :=
  if (findA A op.db).2 ≠ 0 then (none, [], (findA A op.db).2)
  else if shortB op.key = false then (none, [], 22)
  else if (mget op.key A.l).isSome && decide (op.db = []) then (none, [], 23)
  else match mget op.key ((findA A op.db).1.getD ⟨0, []⟩).m with
    | none => ((findA A op.db).1, [], 21)
    | some l => ((findA A op.db).1, l, 0)

/-- Where a value stands, or would. -/
def placeA (l : List S) (v : S) : Nat := Lib.bsGo (fun t => Op.bytesLess (l.getD t []) v) l.length 0 l.length
def thereA (l : List S) (v : S) : Bool := decide (placeA l v < l.length ∧ l.getD (placeA l v) [] = v)

def setBase (A : ModA) (db : S) (b : BaseA) : ModA := { A with l := mset db b A.l }
def andB (a b : Int) : Bool := bits .and .i64 a b != 0

/-- Each op: the model behind it, the error. -/
def putA (A : ModA) (op : OpA) : ModA × Int :=
  if (findA A op.db).2 ≠ 0 then (A, (findA A op.db).2)
  else
    let b := (findA A op.db).1.getD ⟨0, []⟩
    if b.flags = 0 ∧ op.val.length > 1000 then (A, 22)
    else
      let r := valuesA A op
      if r.2.2 ≠ 21 ∧ r.2.2 ≠ 0 then (A, r.2.2)
      else if r.2.2 = 0 ∧ andB op.flags 1 = true then (A, 20)
      else if b.flags = 0 then (setBase A op.db ⟨b.flags, mput op.key [op.val] b.m⟩, 0)
      else if op.val = [] ∨ op.val.length > 12 then (A, 22)
      else if thereA r.2.1 op.val = true ∧ andB op.flags 2 = true then (A, 20)
      else if thereA r.2.1 op.val = true then (A, 0)
      else if r.2.1.length ≥ 12 then (A, 28)
      else (setBase A op.db ⟨b.flags, mput op.key (r.2.1.take (placeA r.2.1 op.val) ++ op.val :: r.2.1.drop (placeA r.2.1 op.val)) b.m⟩, 0)

def delA (A : ModA) (op : OpA) : ModA × Int :=
  let r := valuesA A op
  if r.2.2 ≠ 0 then (A, r.2.2)
  else
    let b := r.1.getD ⟨0, []⟩
    if op.val = [] then (setBase A op.db ⟨b.flags, mdel op.key b.m⟩, 0)
    else if thereA r.2.1 op.val = false then (A, 21)
    else
      let l := r.2.1.eraseIdx (placeA r.2.1 op.val)
      if l = [] then (setBase A op.db ⟨b.flags, mdel op.key b.m⟩, 0)
      else (setBase A op.db ⟨b.flags, mput op.key l b.m⟩, 0)

def nameA (A : ModA) (op : OpA) : ModA × Int :=
  if op.db = [] then (A, 22)
  else
    let r := findA A op.db
    if r.2 = 0 then (A, if (r.1.getD ⟨0, []⟩).flags = op.flags then 0 else 23)
    else if r.2 ≠ 21 then (A, r.2)
    else if op.flags ≠ 0 ∧ op.flags ≠ 1 then (A, 23)
    else if A.l.length > 4 then (A, 16)
    else ({ A with l := mput op.db ⟨op.flags, []⟩ A.l }, 0)

def lostA (A : ModA) : ModA := { A with db := [], ek := [], ev := [], on := false }
def dropA (A : ModA) (op : OpA) : ModA × Int :=
  if op.db = [] then (A, 23)
  else if (findA A op.db).2 ≠ 0 then (A, (findA A op.db).2)
  else
    let B : ModA := { A with l := mdel op.db A.l }
    (if A.db = op.db then lostA B else B, 0)

/-- All pairs of a database, in order. -/
def entriesA (b : BaseA) : List (S × S) := b.m.flatMap fun p => p.2.map fun v => (p.1, v)

/-- Go's order of texts: below; at least. -/
def ltS (a b : S) : Bool := Op.bytesLess a b
def geS (a b : S) : Bool := !Op.bytesLess a b

def seekA (A : ModA) (op : OpA) : ModA × (S × S) × Int :=
  if (findA A op.db).2 ≠ 0 then (A, ([], []), (findA A op.db).2)
  else match (entriesA ((findA A op.db).1.getD ⟨0, []⟩)).find? fun e => decide (op.kind = 13) || geS e.1 op.key with
    | some e => ({ A with db := op.db, ek := e.1, ev := e.2, on := true }, e, 0)
    | none => (lostA A, ([], []), 21)

def gtS (a b : S) : Bool := !(Op.bytesLess a b || a == b)
def nextA (A : ModA) : ModA × (S × S) × Int :=
  if A.on = false then (A, ([], []), 24)
  else if (findA A A.db).2 ≠ 0 then (A, ([], []), (findA A A.db).2)
  else
    let b := (findA A A.db).1.getD ⟨0, []⟩
    match (entriesA b).find? fun e => gtS e.1 A.ek || (e.1 == A.ek && decide (b.flags = 1) && gtS e.2 A.ev) with
    | some e => ({ A with ek := e.1, ev := e.2 }, e, 0)
    | none => (A, ([], []), 21)

def doesA (A : ModA) (op : OpA) : ModA × (S × S) × Int :=
  if op.kind = 8 then (A, if (valuesA A op).2.2 ≠ 0 then (([], []), (valuesA A op).2.2) else (([], (valuesA A op).2.1.headD []), 0))
  else if op.kind = 9 then ((putA A op).1, ([], []), (putA A op).2)
  else if op.kind = 10 then ((delA A op).1, ([], []), (delA A op).2)
  else if op.kind = 11 then ((nameA A op).1, ([], []), (nameA A op).2)
  else if op.kind = 12 then ((dropA A op).1, ([], []), (dropA A op).2)
  else if op.kind = 13 ∨ op.kind = 15 then seekA A op
  else if op.kind = 14 then nextA A
  else (A, ([], []), 24)

def doA (A : ModA) (op : OpA) : ModA × RepA :=
  let r := doesA A op
  (r.1, if r.2.2 ≠ 0 then ⟨r.2.2, [], []⟩ else ⟨0, r.2.1.1, r.2.1.2⟩)

def newA : ModA := ⟨[([], ⟨0, []⟩)], [], [], [], false⟩
def listA (A : ModA) (db : S) : List (S × S) × Bool := match mget db A.l with | none => ([], false) | some b => (entriesA b, true)
def namesA (A : ModA) : List S := (A.l.map (·.1)).filter fun n => !(n == [])
end Go.Proofs.YtmkhjmldncegcaaGreatDoor

/-
  MEMORY, NO WALK: whose each block is (a ghost), what may turn; maps read as rows of pairs; where a model of the past lies.
-/
set_option linter.unusedVariables false
set_option linter.unusedSimpArgs false
set_option linter.unusedSectionVars false
namespace Go.Proofs.YtmkhjmldncegcaaGreatDoor
open Go.RowKit Go.Maps Go.ChangeMaps Go.MapKept

/-! ### whose a block is -/
inductive Role where
  | top | names | base (n : S) | vals (n : S) | row (n k : S)
deriving DecidableEq
abbrev Lab := Nat × Role
abbrev Sig := Nat → Lab
def other : Lab := (0, .top)

def SigExt (w : World) (σ σ' : Sig) : Prop := ∀ k, k < w.heap.size → σ' k = σ k
def Neat (w : World) (σ : Sig) : Prop := ∀ k, w.heap.size ≤ k → σ k = other
def lay (σ : Sig) (b : Nat) (l : Lab) : Sig := fun k => if k = b then l else σ k
theorem lay_same (σ : Sig) (b : Nat) (l : Lab) : lay σ b l b = l := by simp [lay]
theorem lay_other {σ : Sig} {b k : Nat} {l : Lab} (h : k ≠ b) : lay σ b l k = σ k := by simp [lay, h]

/-- Of the old blocks only those of owner i may have turned. -/
structure Turn (σ : Sig) (i : Nat) (w w' : World) : Prop where
  os : w'.os = w.os
  tape : w'.tape = w.tape
  output : w'.output = w.output
  size : w.heap.size ≤ w'.heap.size
  block : ∀ k, k < w.heap.size → (σ k).1 ≠ i → w'.heap[k]? = w.heap[k]?

theorem Turn.refl (σ : Sig) (i : Nat) (w : World) : Turn σ i w w := ⟨rfl, rfl, rfl, Nat.le_refl _, fun _ _ _ => rfl⟩
theorem Turn.ofExt {w w' : World} (h : Ext w w') (σ : Sig) (i : Nat) : Turn σ i w w' := ⟨h.os, h.tape, h.output, h.size, fun k hk _ => h.block k hk⟩

/-- A step of owner i: the ghost goes on, only his blocks turn. -/
structure Moved (σ : Sig) (i : Nat) (w : World) (σ' : Sig) (w' : World) : Prop where
  ext : SigExt w σ σ'
  neat : Neat w' σ'
  turn : Turn σ i w w'

theorem Moved.refl {σ : Sig} {w : World} (h : Neat w σ) (i : Nat) : Moved σ i w σ w := ⟨fun _ _ => rfl, h, Turn.refl _ _ _⟩
theorem Neat.ext {σ : Sig} {w w' : World} (h : Neat w σ) (e : Ext w w') : Neat w' σ := fun k hk => h k (Nat.le_trans e.size hk)
theorem Moved.ofExt {σ : Sig} {w w' : World} (h : Neat w σ) (e : Ext w w') (i : Nat) : Moved σ i w σ w' := ⟨fun _ _ => rfl, h.ext e, Turn.ofExt e σ i⟩
theorem Moved.trans {σ σ' σ'' : Sig} {i : Nat} {w w' w'' : World} (h : Moved σ i w σ' w') (k : Moved σ' i w' σ'' w'') : Moved σ i w σ'' w'' where
  ext := fun b hb => (k.ext b (Nat.lt_of_lt_of_le hb h.turn.size)).trans (h.ext b hb)
  neat := k.neat
  turn := ⟨k.turn.os.trans h.turn.os, k.turn.tape.trans h.turn.tape, k.turn.output.trans h.turn.output, Nat.le_trans h.turn.size k.turn.size, fun b hb hne =>
    (k.turn.block b (Nat.lt_of_lt_of_le hb h.turn.size) (by rw [h.ext b hb]; exact hne)).trans (h.turn.block b hb hne)⟩
theorem Moved.thenExt {σ σ' : Sig} {i : Nat} {w w' w'' : World} (h : Moved σ i w σ' w') (e : Ext w' w'') : Moved σ i w σ' w'' := h.trans (Moved.ofExt h.neat e i)
theorem Moved.afterExt {σ σ' : Sig} {i : Nat} {w w' w'' : World} (n : Neat w σ) (e : Ext w w') (h : Moved σ i w' σ' w'') : Moved σ i w σ' w'' := (Moved.ofExt n e i).trans h

/-- What keeps things as they are: the blocks with such labels, and the labels. -/
def Keep (p : Lab → Prop) (σ : Sig) (w : World) (σ' : Sig) (w' : World) : Prop := ∀ k, k < w.heap.size → p (σ k) → w'.heap[k]? = w.heap[k]? ∧ σ' k = σ k
theorem Keep.ofExt {w w' : World} (e : Ext w w') (p : Lab → Prop) (σ : Sig) : Keep p σ w σ w' := fun k hk _ => ⟨e.block k hk, rfl⟩
theorem Keep.ofMoved {σ σ' : Sig} {i j : Nat} {w w' : World} (h : Moved σ i w σ' w') (hne : j ≠ i) : Keep (fun l => l.1 = j) σ w σ' w' := fun k hk e => ⟨h.turn.block k hk (by rw [e]; exact hne), h.ext k hk⟩
theorem Keep.weak {p q : Lab → Prop} {σ σ' : Sig} {w w' : World} (h : Keep p σ w σ' w') (f : ∀ l, q l → p l) : Keep q σ w σ' w' := fun k hk e => h k hk (f _ e)
theorem Keep.trans {p : Lab → Prop} {σ σ' σ'' : Sig} {w w' w'' : World} (h : Keep p σ w σ' w') (hs : w.heap.size ≤ w'.heap.size) (h' : Keep p σ' w' σ'' w'') : Keep p σ w σ'' w'' := fun k hk e => by
  obtain ⟨a, b⟩ := h k hk e
  obtain ⟨c, d⟩ := h' k (by omega) (by rw [b]; exact e)
  exact ⟨c.trans a, d.trans b⟩

/-- But for block b nothing has turned. -/
structure Only (b : Nat) (w w' : World) : Prop where
  os : w'.os = w.os
  tape : w'.tape = w.tape
  output : w'.output = w.output
  size : w'.heap.size = w.heap.size
  block : ∀ k, k ≠ b → w'.heap[k]? = w.heap[k]?
theorem Only.refl (b : Nat) (w : World) : Only b w w := ⟨rfl, rfl, rfl, rfl, fun _ _ => rfl⟩
theorem Only.setCell {b : Nat} {a w : World} (h : Only b a w) (o : Nat) (u : Value) : Only b a (w.setCell ⟨b, o, none⟩ u) :=
  ⟨h.os, h.tape, h.output, by rw [← h.size]; simp [World.setCell], fun k hk => (Below.heap_setCell _ _ _ _ hk).trans (h.block k hk)⟩
theorem Only.trans {b : Nat} {a w w' : World} (h : Only b a w) (k : Only b w w') : Only b a w' :=
  ⟨k.os.trans h.os, k.tape.trans h.tape, k.output.trans h.output, k.size.trans h.size, fun j hj => (k.block j hj).trans (h.block j hj)⟩
theorem Only.drewN {b : Nat} {a w : World} (h : Only b a w) (n : Nat) : Only b a (w.drewN n) := by
  have e := below_drewN (Below.refl w.heap.size w) n
  have hs : (w.drewN n).heap = w.heap := by simp
  exact ⟨e.os.trans h.os, e.tape.trans h.tape, e.output.trans h.output, by rw [hs]; exact h.size, fun k hk => by rw [hs]; exact h.block k hk⟩
theorem Moved.ofOnly {σ : Sig} {i b : Nat} {w w' : World} (n : Neat w σ) (h : Only b w w') (hb : (σ b).1 = i) : Moved σ i w σ w' :=
  ⟨fun _ _ => rfl, fun k hk => n k (by rw [← h.size]; exact hk), h.os, h.tape, h.output, by rw [h.size]; exact Nat.le_refl _, fun k hk hne => h.block k (fun e => hne (by rw [e]; exact hb))⟩
theorem Keep.ofOnly {p : Lab → Prop} {σ : Sig} {b : Nat} {w w' : World} (h : Only b w w') (hb : ¬ p (σ b)) : Keep p σ w σ w' := fun k hk e => ⟨h.block k (fun e' => hb (by rw [← e']; exact e)), rfl⟩

theorem heap_setCell_row {w : World} {g : Nat} {cur : Array Value} {e : TypeId} {fr : Nat × Nat} (h : w.heap[g]? = some (.cells cur e fr)) (i : Nat) (u : Value) : (w.setCell ⟨g, i, none⟩ u).heap[g]? = some (.cells (cur.setIfInBounds i u) e fr) := by
  simp [World.setCell, Array.getElem?_modify, h]

/-! ### maps -/
/-- Each element reads as itself. -/
def Rh (v : Value) : Option (DataW Value × List MemPlace) := some (.held v, [])

section
variable {κ : Type} [Ky κ] {w : World} {kt t e : TypeId} {b : Nat} {vs : List (κ × Value)}

def MapOf (w : World) (kt : TypeId) (b : Nat) (vs : List (κ × Value)) : Prop := w.ownsMap Tryz.prog kt Rh b vs.length (toD DataW.held vs)

theorem ownsMap_tight {P : Program} {H : Type} {R : Value → Option (DataW H × List MemPlace)} {n : Nat} {D : DataW H} (h : w.ownsMap P kt R b n D) : w.ownsMap P kt R b (Maps.size D) D := by
  obtain ⟨es, clock, hb, F, hs, rfl⟩ := h
  exact ⟨es, clock, hb, F, by simp [Maps.size, length_sorted], rfl⟩

theorem MapOf.ofOwns {n : Nat} (h : w.ownsMap Tryz.prog kt Rh b n (toD DataW.held vs)) : MapOf w kt b vs := by
  have := ownsMap_tight h
  rw [toD_size] at this
  exact this
theorem MapOf.lt (h : MapOf w kt b vs) : b < w.heap.size := World.ownsMap.lt h
theorem MapOf.same {w' : World} (h : MapOf w kt b vs) (hb : w'.heap[b]? = w.heap[b]?) : MapOf w' kt b vs := by
  obtain ⟨es, clock, hh, r⟩ := h
  exact ⟨es, clock, hb.trans hh, r⟩
theorem MapOf.ext {w' : World} (h : MapOf w kt b vs) (e : Ext w w') : MapOf w' kt b vs := h.same (e.block b h.lt)
theorem MapOf.nodup (h : MapOf w kt b vs) (K : Keyed Tryz.prog kt) : vs.Pairwise (fun p q => p.1 ≠ q.1) := by
  obtain ⟨es, he, hp⟩ := World.ownsMap.tidy h K
  unfold toD at he
  injection he with he
  rw [← he, List.pairwise_map] at hp
  exact hp.imp fun h e => h (by rw [e])
theorem MapOf.made (w : World) (kt : TypeId) : MapOf (κ := κ) (w.alloc (.map #[] 0)) kt w.heap.size [] := World.ownsMap_made w Tryz.prog kt Rh

theorem getD_held {k : κ} {z v : Value} {ps : List MemPlace} {d : DataW Value} (h : Rh v = some (d, ps)) (hd : d = ((mget k vs).map DataW.held).getD (.held z)) : v = (mget k vs).getD z := by
  unfold Rh at h
  injection h with h
  injection h with h1 h2
  rw [hd] at h1
  cases e : mget k vs with
  | none => rw [e] at h1; injection h1
  | some u => rw [e] at h1; injection h1

theorem MapOf.look (h : MapOf w kt b vs) (K : Keyed Tryz.prog kt) (ht : Tryz.prog.underlying t = some (.map kt e)) {z : Value} (hz : (zeroValue e).run Tryz.prog w = .ok z w) {key : Value} {k : κ} (hk : keyOf Tryz.prog kt key = some (Ky.lit k)) :
    (Instr.lookup t (.map (some b)) key true).run Tryz.prog w = .ok (.tuple #[(mget k vs).getD z, .bool (mget k vs).isSome]) w := by
  obtain ⟨v, ps, hr, hv⟩ := World.ownsMap.look_ok h K ht hz (zd := .held z) (zp := []) rfl hk
  rw [toD_has] at hr
  rw [hr, ← getD_held hv (toD_at _ _ _ _)]
theorem MapOf.look1 (h : MapOf w kt b vs) (K : Keyed Tryz.prog kt) (ht : Tryz.prog.underlying t = some (.map kt e)) {z : Value} (hz : (zeroValue e).run Tryz.prog w = .ok z w) {key : Value} {k : κ} (hk : keyOf Tryz.prog kt key = some (Ky.lit k)) :
    (Instr.lookup t (.map (some b)) key false).run Tryz.prog w = .ok ((mget k vs).getD z) w := by
  obtain ⟨v, ps, hr, hv⟩ := World.ownsMap.lookup h K ht hz (zd := .held z) (zp := []) rfl hk
  rw [hr, ← getD_held hv (toD_at _ _ _ _)]
theorem MapOf.len (h : MapOf w kt b vs) (ht : Tryz.prog.underlying t = some (.map kt e)) (ty : TypeId) : (Builtin.len_ #[t] ty #[.map (some b)]).run Tryz.prog w = .ok (.int .i64 vs.length) w := by
  have := World.ownsMap.len h ht ty
  rw [toD_size] at this
  exact this
theorem MapOf.store (h : MapOf w kt b vs) (K : Keyed Tryz.prog kt) (ht : Tryz.prog.underlying t = some (.map kt e)) (hn : vs.length < maxLen) {key : Value} {k : κ} (hk : keyOf Tryz.prog kt key = some (Ky.lit k)) (v : Value) :
    ∃ w', (Instr.mapUpdate t (.map (some b)) key v).run Tryz.prog w = .ok () w' ∧ MapOf w' kt b (mput k v vs) ∧ w.mapTurned w' b := by
  obtain ⟨w', hr, ho, ht⟩ := World.ownsMap.store h K ht hn (d := .held v) (ps := []) hk rfl
  rw [toD_put] at ho
  exact ⟨w', hr, MapOf.ofOwns ho, ht⟩
theorem MapOf.drop (h : MapOf w kt b vs) (K : Keyed Tryz.prog kt) (ht : Tryz.prog.underlying t = some (.map kt e)) {key : Value} {k : κ} (hk : keyOf Tryz.prog kt key = some (Ky.lit k)) (ty : TypeId) :
    ∃ w', (Builtin.delete_ #[t, kt] ty #[.map (some b), key]).run Tryz.prog w = .ok (.tuple #[]) w' ∧ MapOf w' kt b (mdel k vs) ∧ w.mapTurned w' b := by
  obtain ⟨w', hr, ho, ht⟩ := World.ownsMap.drop h K ht hk ty
  rw [toD_del] at ho
  exact ⟨w', hr, MapOf.ofOwns ho, ht⟩
end

theorem keyS {k : S} (h : k.length ≤ maxLen) : keyOf Tryz.prog 9 (encStr k) = some (Ky.lit k) := by
  have hu : Tryz.prog.underlying 9 = some .string := Tryz.underlying9
  have := WideMaps.keyOf_string_mk (P := Tryz.prog) hu (s := ⟨k.toArray⟩) (by simpa [ByteArray.size] using h)
  simp at this
  exact this
theorem keyedS : Keyed Tryz.prog 9 := string_keyed Tryz.underlying9

/-- Behind a store into block b, whose owner is i. -/
theorem Moved.ofMap {σ : Sig} {i : Nat} {w w' : World} {b : Nat} (n : Neat w σ) (h : w.mapTurned w' b) (hb : (σ b).1 = i) : Moved σ i w σ w' := by
  have hg := h.grown
  refine ⟨fun _ _ => rfl, fun k hk => n k (Nat.le_trans hg.size hk), hg.os, hg.tape, hg.output, hg.size, fun k hk hne => hg.block k hk ?_⟩
  intro e
  injection e with e
  exact hne (by rw [e]; exact hb)
theorem Only.ofMap {w w' : World} {b : Nat} (h : w.mapTurned w' b) : Only b w w' := by
  have hg := h.grown
  obtain ⟨es, clock, es', clock', hb, rfl⟩ := h
  exact ⟨hg.os, hg.tape, hg.output, by simp [setBlock], fun k hk => heap_setBlock_other hb _ hk⟩
theorem mapTurned_other {w w' : World} {b k : Nat} (h : w.mapTurned w' b) (hne : k ≠ b) : w'.heap[k]? = w.heap[k]? := by
  obtain ⟨es, clock, es', clock', hb, rfl⟩ := h
  exact heap_setBlock_other hb _ hne

theorem mapTurned_size {w w' : World} {b : Nat} (h : w.mapTurned w' b) : w'.heap.size = w.heap.size := by
  obtain ⟨es, clock, es', clock', hb, rfl⟩ := h
  simp [setBlock]
theorem heap_new (w : World) (o : Obj) : (w.alloc o).heap[w.heap.size]? = some o := (MapKept.heap_alloc w o).1
/-- Behind a store into block b from base on. -/
theorem below_map {base : Nat} {w0 w w' : World} {b : Nat} (h : Below base w0 w) (t : w.mapTurned w' b) (hb : base ≤ b) (hs : base ≤ w.heap.size) : Below base w0 w' :=
  Below.grown h t.grown hs (by intro k hk; injection hk with hk; omega)

/-! ### a model of the past -/
def RowAt (w : World) (σ : Sig) (l : Lab) (v : Value) (xs : List S) : Prop := w.ownsRow 0 9 1 v xs.length (xs.map encStr) ∧ ∀ g, v.ownBlock = some g → σ g = l

def BaseIs (w : World) (σ : Sig) (i : Nat) (n : S) (bb mb : Nat) (rows : List (S × Value)) (B : BaseA) : Prop := σ bb = (i, .base n) ∧
  w.heap[bb]? = some (.cells #[.int .i64 B.flags, .map (some mb)] 58 (0, 0)) ∧ σ mb = (i, .vals n) ∧ MapOf w 9 mb rows ∧ Beside (fun k v xs => RowAt w σ (i, .row n k) v xs) rows B.m
def BaseAt (w : World) (σ : Sig) (i : Nat) (n : S) (bv : Value) (B : BaseA) : Prop := ∃ bb mb rows, bv = .pointer (some ⟨bb, 0, none⟩) ∧ BaseIs w σ i n bb mb rows B

def ModIs (w : World) (σ : Sig) (i : Nat) (pb mb : Nat) (bases : List (S × Value)) (A : ModA) : Prop := σ pb = (i, .top) ∧
  w.heap[pb]? = some (.cells #[.map (some mb), encStr A.db, encStr A.ek, encStr A.ev, .bool A.on] 61 (0, 0)) ∧ σ mb = (i, .names) ∧ MapOf w 9 mb bases ∧ Beside (fun n v B => BaseAt w σ i n v B) bases A.l
def ModAt (w : World) (σ : Sig) (i : Nat) (pv : Value) (A : ModA) : Prop := ∃ pb mb bases, pv = .pointer (some ⟨pb, 0, none⟩) ∧ ModIs w σ i pb mb bases A

theorem lt_heap {w : World} {b : Nat} {o : Obj} (h : w.heap[b]? = some o) : b < w.heap.size := (Array.getElem?_eq_some_iff.1 h).1

theorem RowAt.keep {p : Lab → Prop} {w w' : World} {σ σ' : Sig} {l : Lab} {v : Value} {xs : List S} (h : RowAt w σ l v xs) (k : Keep p σ w σ' w') (hp : p l) : RowAt w' σ' l v xs := by
  obtain ⟨ho, hl⟩ := h
  have hg : ∀ g, v.ownBlock = some g → w'.heap[g]? = w.heap[g]? ∧ σ' g = σ g := fun g e => k g (ho.lt g e).2 (by rw [hl g e]; exact hp)
  refine ⟨⟨ho.1, ?_⟩, fun g e => by rw [(hg g e).2]; exact hl g e⟩
  rcases ho.2 with h | ⟨g, cap, cur, rfl, h1, h2, r⟩
  · exact .inl h
  · exact .inr ⟨g, cap, cur, rfl, h1, by rw [(hg g rfl).1]; exact h2, r⟩
theorem BaseIs.keep {p : Lab → Prop} {w w' : World} {σ σ' : Sig} {i : Nat} {n : S} {bb mb : Nat} {rows : List (S × Value)} {B : BaseA} (h : BaseIs w σ i n bb mb rows B) (k : Keep p σ w σ' w') (p1 : p (i, .base n)) (p2 : p (i, .vals n)) (p3 : ∀ k, p (i, .row n k)) : BaseIs w' σ' i n bb mb rows B := by
  obtain ⟨h1, h2, h3, h4, h5⟩ := h
  have k1 := k bb (lt_heap h2) (by rw [h1]; exact p1)
  have k2 := k mb h4.lt (by rw [h3]; exact p2)
  exact ⟨by rw [k1.2, h1], by rw [k1.1, h2], by rw [k2.2, h3], h4.same k2.1, h5.imp fun _ _ _ h => RowAt.keep h k (p3 _)⟩
theorem BaseAt.keep {p : Lab → Prop} {w w' : World} {σ σ' : Sig} {i : Nat} {n : S} {bv : Value} {B : BaseA} (h : BaseAt w σ i n bv B) (k : Keep p σ w σ' w') (p1 : p (i, .base n)) (p2 : p (i, .vals n)) (p3 : ∀ k, p (i, .row n k)) : BaseAt w' σ' i n bv B := by
  obtain ⟨bb, mb, rows, rfl, h⟩ := h
  exact ⟨bb, mb, rows, rfl, h.keep k p1 p2 p3⟩
theorem ModIs.keep {w w' : World} {σ σ' : Sig} {i pb mb : Nat} {bases : List (S × Value)} {A : ModA} (h : ModIs w σ i pb mb bases A) (k : Keep (fun l => l.1 = i) σ w σ' w') : ModIs w' σ' i pb mb bases A := by
  obtain ⟨h1, h2, h3, h4, h5⟩ := h
  have k1 := k pb (lt_heap h2) (by rw [h1])
  have k2 := k mb h4.lt (by rw [h3])
  exact ⟨by rw [k1.2, h1], by rw [k1.1, h2], by rw [k2.2, h3], h4.same k2.1, h5.imp fun _ _ _ h => BaseAt.keep h k rfl rfl fun _ => rfl⟩
theorem ModAt.keep {w w' : World} {σ σ' : Sig} {i : Nat} {pv : Value} {A : ModA} (h : ModAt w σ i pv A) (k : Keep (fun l => l.1 = i) σ w σ' w') : ModAt w' σ' i pv A := by
  obtain ⟨pb, mb, bases, rfl, h⟩ := h
  exact ⟨pb, mb, bases, rfl, h.keep k⟩
theorem ModIs.ext {w w' : World} {σ : Sig} {i pb mb : Nat} {bases : List (S × Value)} {A : ModA} (h : ModIs w σ i pb mb bases A) (e : Ext w w') : ModIs w' σ i pb mb bases A := h.keep (Keep.ofExt e _ σ)
theorem BaseIs.ext {w w' : World} {σ : Sig} {i : Nat} {n : S} {bb mb : Nat} {rows : List (S × Value)} {B : BaseA} (h : BaseIs w σ i n bb mb rows B) (e : Ext w w') : BaseIs w' σ i n bb mb rows B := h.keep (Keep.ofExt e (fun _ => True) σ) trivial trivial fun _ => trivial
/-- The model's own fields are written over. -/
theorem ModIs.fields {w w' : World} {σ : Sig} {i pb mb : Nat} {bases : List (S × Value)} {A : ModA} (h : ModIs w σ i pb mb bases A) (o : Only pb w w') (A' : ModA) (hl : A'.l = A.l)
    (hh : w'.heap[pb]? = some (.cells #[.map (some mb), encStr A'.db, encStr A'.ek, encStr A'.ev, .bool A'.on] 61 (0, 0))) : ModIs w' σ i pb mb bases A' := by
  obtain ⟨h1, h2, h3, h4, h5⟩ := h
  have k : Keep (fun l => l ≠ (i, .top)) σ w σ w' := Keep.ofOnly o (by rw [h1]; simp)
  refine ⟨h1, hh, h3, h4.same (k mb h4.lt (by rw [h3]; simp)).1, ?_⟩
  rw [hl]
  exact h5.imp fun _ _ _ h => BaseAt.keep h k (by simp) (by simp) (by simp)
theorem ModAt.ext {w w' : World} {σ : Sig} {i : Nat} {pv : Value} {A : ModA} (h : ModAt w σ i pv A) (e : Ext w w') : ModAt w' σ i pv A := h.keep (Keep.ofExt e _ σ)

theorem Moved.new {σ : Sig} {i : Nat} {w : World} (n : Neat w σ) (o : Obj) (l : Lab) : Moved σ i w (lay σ w.heap.size l) (w.alloc o) := by
  refine ⟨fun k hk => lay_other (by omega), fun k hk => ?_, Turn.ofExt ((Ext.rfl' w).alloc o) σ i⟩
  simp at hk
  rw [lay_other (by omega)]
  exact n k (by omega)
theorem Keep.new {p : Lab → Prop} {σ : Sig} {w : World} (o : Obj) (l : Lab) : Keep p σ w (lay σ w.heap.size l) (w.alloc o) := fun k hk _ => ⟨Below.heap_alloc _ _ _ hk, lay_other (by omega)⟩

/-- Behind a turn of one base's map and of one row of it: the model with that base anew. -/
theorem ModIs.rebase {w w' : World} {σ σ' : Sig} {i pb mb : Nat} {bases : List (S × Value)} {A : ModA} (h : ModIs w σ i pb mb bases A) {db key : S} {bb mb' : Nat} {rows rows' : List (S × Value)} {B : BaseA} {m' : List (S × List S)}
    (hg : mget db bases = some (.pointer (some ⟨bb, 0, none⟩))) (hB : BaseIs w σ i db bb mb' rows B) (k : Keep (fun l => l.1 = i ∧ l ≠ (i, .vals db) ∧ l ≠ (i, .row db key)) σ w σ' w')
    (hs : σ' mb' = (i, .vals db)) (hm : MapOf w' 9 mb' rows') (hr : Beside (fun k v xs => RowAt w' σ' (i, .row db k) v xs) rows' m') : ModIs w' σ' i pb mb bases (setBase A db ⟨B.flags, m'⟩) := by
  obtain ⟨h1, h2, h3, h4, h5⟩ := h
  obtain ⟨g1, g2, g3, g4, g5⟩ := hB
  have k1 := k pb (lt_heap h2) (by rw [h1]; simp)
  have k2 := k mb h4.lt (by rw [h3]; simp)
  have k3 := k bb (lt_heap g2) (by rw [g1]; simp)
  refine ⟨by rw [k1.2, h1], by rw [k1.1, h2]; rfl, by rw [k2.2, h3], h4.same k2.1, Beside.set h5 (fun n a b hne hb => BaseAt.keep hb k (by simp) (by simp [hne]) (by simp [hne])) fun a ha => ?_⟩
  have : a = .pointer (some ⟨bb, 0, none⟩) := by
    have := mget_of_mem (h4.nodup keyedS) ha
    rw [hg] at this
    injection this with this
    exact this.symm
  exact ⟨bb, mb', rows', this, by rw [k3.2, g1], by rw [k3.1, g2], hs, hm, hr⟩

/-- An error; an op; a reply, as values. -/
def errV (c : Int) : Value := if c = 0 then .nilIface else .iface 71 (.int .i64 c)
theorem errV_0 : errV 0 = .nilIface := by simp [errV]
theorem errV_ne {c : Int} (h : c ≠ 0) : errV c = .iface 71 (.int .i64 c) := by simp [errV, h]
def opCells (op : OpA) : Array Value := #[.int .i64 op.kind, encStr op.db, encStr op.key, encStr op.val, .int .i64 op.flags, .int .i64 op.n]
def opV (op : OpA) : Value := .agg (opCells op)
def repV (r : RepA) : Value := .agg #[.int .i64 r.code, encStr r.key, encStr r.val]

theorem cellAt {w : World} {b : Nat} {cs : Array Value} {t : TypeId} {fr : Nat × Nat} (h : w.heap[b]? = some (.cells cs t fr)) (o : Nat) : w.cell? ⟨b, o, none⟩ = cs[o]? := by simp [World.cell?, h]
end Go.Proofs.YtmkhjmldncegcaaGreatDoor

/-
  WALKS: past.New, past.short.
-/
set_option linter.unusedVariables false
set_option linter.unusedSimpArgs false
namespace Go.Proofs.YtmkhjmldncegcaaGreatDoor
open Go.RowKit Go.Maps Go.ChangeMaps Go.MapKept

theorem size_str (k : S) : (ByteArray.mk k.toArray).size = k.length := by simp [ByteArray.size]

set_option maxHeartbeats 400000 in
theorem short_any (s : S) (w : World) :
    Calls Tryz.prog 78 #[encStr s] w fun e w' => e = .returned (.bool (shortB s)) ∧ w' = w := by
  cases s with
  | nil =>
    go_enter Tryz.func78, Tryz.ntmps78
    go_wp2
    go_ret
    exact ⟨rfl, rfl⟩
  | cons a r =>
    go_enter Tryz.func78, Tryz.ntmps78
    go_wp2
    go_ret
    refine ⟨?_, rfl⟩
    have : shortB (a :: r) = decide ((r.length : Int) + 1 ≤ 8) := by unfold shortB; simp; omega
    rw [this]
    rfl

set_option maxHeartbeats 400000 in
theorem new_any (σ : Sig) (i : Nat) (w : World) (hn : Neat w σ) :
    Calls Tryz.prog 7 #[] w fun e w' => ∃ pv, e = .returned pv ∧ ∃ σ', ModAt w' σ' i pv newA ∧ Ext w w' ∧ SigExt w σ σ' ∧ Neat w' σ' := by
  have hm1 : ∀ w, (Instr.makeMap 59 none).run Tryz.prog w = .ok (.map (some w.heap.size)) (w.alloc (.map #[] 0)) := fun w => run_makeMap _ w
  have hm2 : ∀ w, (Instr.makeMap 56 none).run Tryz.prog w = .ok (.map (some w.heap.size)) (w.alloc (.map #[] 0)) := fun w => run_makeMap _ w
  obtain ⟨W3, hW3⟩ : ∃ W3, W3 = ((w.alloc (.map #[] 0)).alloc (.map #[] 0)).alloc (.cells #[.int .i64 0, .map (some (w.heap.size + 1))] 58 (0, 0)) := ⟨_, rfl⟩
  have hM : MapOf (κ := S) W3 9 w.heap.size [] := by
    rw [hW3]; exact (MapOf.made w 9).ext (((Ext.rfl' _).alloc _).alloc _)
  obtain ⟨w4, hr, hM4, ht4⟩ := hM.store (t := 59) (e := 55) keyedS Tryz.underlying59 (by simp [maxLen]) (k := []) (key := encStr []) (keyS (by simp)) (.pointer (some ⟨w.heap.size + 2, 0, none⟩))
  rw [hW3] at hr
  clear hM
  have HM := Lib.hid hM4
  have HT := Lib.hid ht4
  have HW := Lib.hid hW3
  clear hM4 ht4 hW3
  go_enter Tryz.func7, Tryz.ntmps7
  go_wp2
  go_ret
  have hM4 := HM.out
  have ht4 := HT.out
  have hW3 := HW.out
  have s3 : W3.heap.size = w.heap.size + 3 := by rw [hW3]; simp
  have s4 : w4.heap.size = w.heap.size + 3 := by rw [mapTurned_size ht4, s3]
  have e3 : Ext w W3 := by rw [hW3]; exact (((Ext.rfl' w).alloc _).alloc _).alloc _
  have e4 : Ext w w4 := below_map e3 ht4 (Nat.le_refl _) (by omega)
  have hb3 : W3.heap[w.heap.size + 2]? = some (.cells #[.int .i64 0, .map (some (w.heap.size + 1))] 58 (0, 0)) := by
    have := heap_new ((w.alloc (.map #[] 0)).alloc (.map #[] 0)) (.cells #[.int .i64 0, .map (some (w.heap.size + 1))] 58 (0, 0))
    rw [hW3]
    simpa using this
  have hm3 : MapOf (κ := S) W3 9 (w.heap.size + 1) [] := by
    have := (MapOf.made (κ := S) (w.alloc (.map #[] 0)) 9).ext ((Ext.rfl' _).alloc (.cells #[.int .i64 0, .map (some (w.heap.size + 1))] 58 (0, 0)))
    rw [hW3]
    simpa using this
  have e5 : ∀ o, Ext w4 (w4.alloc o) := fun o => (Ext.rfl' w4).alloc o
  refine ⟨_, rfl, lay (lay (lay (lay σ w.heap.size (i, .names)) (w.heap.size + 1) (i, .vals [])) (w.heap.size + 2) (i, .base [])) w4.heap.size (i, .top), ⟨w4.heap.size, w.heap.size, _, rfl, lay_same _ _ _, heap_new _ _, ?_, hM4.ext (e5 _), ?_⟩, e4.alloc _, ?_, ?_⟩
  · rw [lay_other (by omega), lay_other (by omega), lay_other (by omega), lay_same]
  · refine Beside.cons ⟨w.heap.size + 2, w.heap.size + 1, [], rfl, ?_, ?_, ?_, ?_, .nil⟩ .nil
    · rw [lay_other (by omega), lay_same]
    · rw [(e5 _).block _ (by omega), mapTurned_other ht4 (by omega)]; exact hb3
    · rw [lay_other (by omega), lay_other (by omega), lay_same]
    · exact (hm3.same (mapTurned_other ht4 (by omega))).ext (e5 _)
  · intro k hk
    rw [lay_other (by omega), lay_other (by omega), lay_other (by omega), lay_other (by omega)]
  · intro k hk
    simp at hk
    rw [lay_other (by omega), lay_other (by omega), lay_other (by omega), lay_other (by omega)]
    exact hn k (by omega)
end Go.Proofs.YtmkhjmldncegcaaGreatDoor

/-
  WALKS: past.Model.find.
-/
set_option linter.unusedVariables false
set_option linter.unusedSimpArgs false
namespace Go.Proofs.YtmkhjmldncegcaaGreatDoor
open Go.RowKit Go.Maps Go.ChangeMaps Go.MapKept

def baseV (o : Option Value) : Value := o.getD (.pointer none)

/-- What a call of find hands back: the database's own pointer, or none; an error. -/
def findV (A : ModA) (bases : List (S × Value)) (db : S) : Value := if (findA A db).1.isSome then baseV (mget db bases) else .pointer none

set_option maxHeartbeats 1000000 in
theorem find_any (σ : Sig) (i pb mb : Nat) (bases : List (S × Value)) (A : ModA) (db : S) (w : World) (hM : ModIs w σ i pb mb bases A) (hmain : (mget ([] : S) A.l).isSome = true) (hdb : db.length ≤ maxLen) :
    Calls Tryz.prog 77 #[.pointer (some ⟨pb, 0, none⟩), encStr db] w fun e w' => e = .returned (.tuple #[findV A bases db, errV (findA A db).2]) ∧ w' = w := by
  obtain ⟨h1, h2, h3, h4, h5⟩ := hM
  have hl1 := h4.look (t := 59) (e := 55) keyedS Tryz.underlying59 (z := .pointer none) (Tryz.zeroValue55 w) (keyS hdb)
  have hl2 := h4.look1 (t := 59) (e := 55) keyedS Tryz.underlying59 (z := .pointer none) (Tryz.zeroValue55 w) (k := []) (key := encStr []) (keyS (by simp))
  obtain ⟨Bm, hBm⟩ := Option.isSome_iff_exists.1 hmain
  obtain ⟨bvm, hgm, bbm, mbm, rowsm, rfl, g1, g2, g3, g4, g5⟩ := h5.get_some hBm
  have hl3 := g4.look (t := 56) (e := 53) keyedS Tryz.underlying56 (z := .slice none 0 0) (Tryz.zeroValue53 w) (keyS hdb)
  have hc0 := cellAt h2 0
  have hcm := cellAt g2 1
  have hmainA : mainA A = Bm := by unfold mainA; rw [hBm]; rfl
  have ho := h5.has (k := db)
  have hm := g5.has (k := db)
  rw [hgm] at hl2
  simp only [Option.getD_some] at hl2
  simp at hc0 hcm
  have HF := Lib.hid (And.intro h1 (And.intro h2 (And.intro h3 (And.intro h4 h5))))
  cases db with
  | nil =>
    clear h1 h2 h3 h4 h5 g1 g2 g3 g4 g5 ho hm hmain hBm
    go_enter Tryz.func77, Tryz.ntmps77
    go_wp2
    go_ret2
    refine ⟨?_, rfl⟩
    obtain ⟨h1, h2, h3, h4, h5⟩ := HF.out
    have e1 : findA A [] = (mget [] A.l, 0) := by unfold findA; rw [if_pos rfl]
    have e2 : (mget ([] : S) A.l).isSome = true := by rw [← h5.has (k := []), hgm]; rfl
    unfold findV
    rw [e1, if_pos e2, hgm]
    rfl
  | cons a r =>
    have HO := Lib.hid ho
    have HN := Lib.hid hm
    have HA := Lib.hid hmainA
    clear ho hm hmainA
    have hne : ¬ (a :: r = ([] : S)) := by simp
    have HNE := Lib.hid hne
    clear hne
    cases hs : shortB (a :: r) with
    | false =>
      clear h1 h2 h3 h4 h5 g1 g2 g3 g4 g5 hmain hBm
      go_enter Tryz.func77, Tryz.ntmps77
      go_wp2_with (first | (go_at_call 78; refine (short_any _ _).mono ?_; rintro e w' ⟨rfl, rfl⟩) | fail)
      go_ret2
      refine ⟨?_, rfl⟩
      have e1 : findA A (a :: r) = (none, 22) := by unfold findA; rw [if_neg HNE.out, if_pos hs]
      unfold findV
      rw [e1]
      rfl
    | true =>
      cases hx : (mget (a :: r) rowsm).isSome with
      | true =>
        clear h1 h2 h3 h4 h5 g1 g2 g3 g4 g5 hmain hBm
        go_enter Tryz.func77, Tryz.ntmps77
        go_wp2_with (first | (go_at_call 78; refine (short_any _ _).mono ?_; rintro e w' ⟨rfl, rfl⟩) | fail)
        go_ret2
        refine ⟨?_, rfl⟩
        have e1 : findA A (a :: r) = (none, 23) := by unfold findA; rw [if_neg HNE.out, if_neg (by rw [hs]; simp), if_pos (by rw [HA.out, ← HN.out]; exact hx)]
        unfold findV
        rw [e1]
        rfl
      | false =>
        cases hy : (mget (a :: r) bases).isSome with
        | false =>
          clear h1 h2 h3 h4 h5 g1 g2 g3 g4 g5 hmain hBm
          go_enter Tryz.func77, Tryz.ntmps77
          go_wp2_with (first | (go_at_call 78; refine (short_any _ _).mono ?_; rintro e w' ⟨rfl, rfl⟩) | fail)
          go_ret2
          refine ⟨?_, rfl⟩
          have e1 : findA A (a :: r) = (none, 21) := by unfold findA; rw [if_neg HNE.out, if_neg (by rw [hs]; simp), if_neg (by rw [HA.out, ← HN.out, hx]; simp), if_pos (by rw [HO.out] at hy; simpa using hy)]
          unfold findV
          rw [e1]
          rfl
        | true =>
          clear h1 h2 h3 h4 h5 g1 g2 g3 g4 g5 hmain hBm
          go_enter Tryz.func77, Tryz.ntmps77
          go_wp2_with (first | (go_at_call 78; refine (short_any _ _).mono ?_; rintro e w' ⟨rfl, rfl⟩) | fail)
          go_ret2
          refine ⟨?_, rfl⟩
          have e2 : (mget (a :: r) A.l).isSome = true := by rw [← HO.out]; exact hy
          have e1 : findA A (a :: r) = (mget (a :: r) A.l, 0) := by
            unfold findA; rw [if_neg HNE.out, if_neg (by rw [hs]; simp), if_neg (by rw [HA.out, ← HN.out, hx]; simp), if_neg]
            intro hz
            rw [Option.isNone_iff_eq_none] at hz
            rw [hz] at e2
            cases e2
          unfold findV
          rw [e1, if_pos e2]
          rfl
end Go.Proofs.YtmkhjmldncegcaaGreatDoor

/-
  go_enter Tryz.func42, Tryz.ntmps42
        go_wp2_with (first | (go_at_call 77; refine (HC.out _).mono ?_; rintro e w' ⟨rfl, rfl⟩) | (go_at_call 78; refine (short_any _ _).mono ?_; rintro e w' ⟨rfl, rfl⟩) | fail)
        go_ret3S: past.Model.values.
-/
set_option linter.unusedVariables false
set_option linter.unusedSimpArgs false
namespace Go.Proofs.YtmkhjmldncegcaaGreatDoor
open Go.RowKit Go.Maps Go.ChangeMaps Go.MapKept

theorem find_err {A : ModA} {db : S} (he : (findA A db).2 ≠ 0) : (findA A db).1 = none := by
  unfold findA at he ⊢
  split
  · rename_i h; rw [if_pos h] at he; exact absurd rfl he
  · rename_i h1
    rw [if_neg h1] at he
    split
    · rfl
    · rename_i h2
      rw [if_neg h2] at he
      split
      · rfl
      · rename_i h3
        rw [if_neg h3] at he
        split
        · rfl
        · rename_i h4; rw [if_neg h4] at he; exact absurd rfl he

set_option maxHeartbeats 1000000 in
theorem values_err (σ : Sig) (i pb mb : Nat) (bases : List (S × Value)) (A : ModA) (op : OpA) (w : World) (hM : ModIs w σ i pb mb bases A) (hmain : (mget ([] : S) A.l).isSome = true) (hdb : op.db.length ≤ maxLen) (he : (findA A op.db).2 ≠ 0) :
    Calls Tryz.prog 42 #[.pointer (some ⟨pb, 0, none⟩), opV op] w fun e w' => e = .returned (.tuple #[.pointer none, .slice none 0 0, errV (findA A op.db).2]) ∧ Ext w w' := by
  have HC : Hid (∀ o, Calls Tryz.prog 77 #[.pointer (some ⟨pb, 0, none⟩), encStr op.db] (w.alloc o) fun e w' => e = .returned (.tuple #[.pointer none, .iface 71 (.int .i64 (findA A op.db).2)]) ∧ w' = w.alloc o) := fun o => by
    have h := find_any σ i pb mb bases A op.db (w.alloc o) (hM.ext ((Ext.rfl' w).alloc o)) hmain hdb
    unfold findV at h
    rw [find_err he, errV_ne he] at h
    exact h
  have HE := Lib.hid (errV_ne he)
  clear hM hmain he
  unfold opV opCells
  go_enter Tryz.func42, Tryz.ntmps42
  go_wp2_with (first | (go_at_call 77; refine (HC.out _).mono ?_; rintro e w' ⟨rfl, rfl⟩) | fail)
  go_ret3
  exact ⟨by rw [HE.out]; rfl, (Ext.rfl' w).alloc _⟩

set_option maxHeartbeats 1000000 in
theorem values_ok (σ : Sig) (i pb mb : Nat) (bases : List (S × Value)) (A : ModA) (op : OpA) (w : World) (hM : ModIs w σ i pb mb bases A) (hmain : (mget ([] : S) A.l).isSome = true) (hdb : op.db.length ≤ maxLen) (hkey : op.key.length ≤ maxLen)
    (B : BaseA) (bb mb' : Nat) (rows : List (S × Value)) (hf : findA A op.db = (some B, 0)) (hg : mget op.db bases = some (.pointer (some ⟨bb, 0, none⟩))) (hB : BaseIs w σ i op.db bb mb' rows B) :
    Calls Tryz.prog 42 #[.pointer (some ⟨pb, 0, none⟩), opV op] w fun e w' => ∃ bv lv, e = .returned (.tuple #[bv, lv, errV (valuesA A op).2.2]) ∧ Ext w w' ∧
      ((valuesA A op).2.2 = 0 → bv = .pointer (some ⟨bb, 0, none⟩) ∧ ∃ xs, mget op.key rows = some lv ∧ mget op.key B.m = some xs ∧ valuesA A op = (some B, xs, 0) ∧ RowAt w σ (i, .row op.db op.key) lv xs) ∧ ((valuesA A op).2.2 = 21 → lv = .slice none 0 0 ∧ (valuesA A op).2.1 = []) := by
  have HC : Hid (∀ o, Calls Tryz.prog 77 #[.pointer (some ⟨pb, 0, none⟩), encStr op.db] (w.alloc o) fun e w' => e = .returned (.tuple #[.pointer (some ⟨bb, 0, none⟩), .nilIface]) ∧ w' = w.alloc o) := fun o => by
    have h := find_any σ i pb mb bases A op.db (w.alloc o) (hM.ext ((Ext.rfl' w).alloc o)) hmain hdb
    unfold findV at h
    rw [hf, hg] at h
    exact h
  have V1 : shortB op.key = false → valuesA A op = (none, [], 22) := fun hs => by unfold valuesA; rw [hf, if_neg (by simp), if_pos hs]
  have V2 : shortB op.key = true → (mget op.key A.l).isSome = true → op.db = [] → valuesA A op = (none, [], 23) := fun hs hm hd => by
    unfold valuesA; rw [hf, if_neg (by simp), if_neg (by rw [hs]; simp), if_pos (by rw [hm, hd]; rfl)]
  have V3 : shortB op.key = true → ((mget op.key A.l).isSome = false ∨ op.db ≠ []) → mget op.key B.m = none → valuesA A op = (some B, [], 21) := fun hs hm hd => by
    unfold valuesA
    rw [hf, if_neg (by simp), if_neg (by rw [hs]; simp), if_neg (by rcases hm with hm | hm <;> simp [hm])]
    simp only [Option.getD_some, hd]
  have V4 : shortB op.key = true → ((mget op.key A.l).isSome = false ∨ op.db ≠ []) → ∀ xs, mget op.key B.m = some xs → valuesA A op = (some B, xs, 0) := fun hs hm xs hd => by
    unfold valuesA
    rw [hf, if_neg (by simp), if_neg (by rw [hs]; simp), if_neg (by rcases hm with hm | hm <;> simp [hm])]
    simp only [Option.getD_some, hd]
  have VV := Lib.hid (And.intro V1 (And.intro V2 (And.intro V3 V4)))
  clear V1 V2 V3 V4
  obtain ⟨h1, h2, h3, h4, h5⟩ := hM
  obtain ⟨g1, g2, g3, g4, g5⟩ := hB
  have HL1 := Lib.hid fun o n => (h4.ext (below_drewN ((Ext.rfl' w).alloc o) n)).look (t := 59) (e := 55) keyedS Tryz.underlying59 (z := .pointer none) (Tryz.zeroValue55 _) (keyS hkey)
  have HL3 := Lib.hid fun o n => (g4.ext (below_drewN ((Ext.rfl' w).alloc o) n)).look (t := 56) (e := 53) keyedS Tryz.underlying56 (z := .slice none 0 0) (Tryz.zeroValue53 _) (keyS hkey)
  have hc0 := cellAt h2 0
  have hcm := cellAt g2 1
  simp at hc0 hcm
  have hlt1 := lt_heap h2
  have hlt2 := lt_heap g2
  have HO := Lib.hid (h5.has (k := op.key))
  have HR := Lib.hid g5
  have hl1 := HL1.out (.cells (opCells op) 30 (0, 0))
  have hl3 := HL3.out (.cells (opCells op) 30 (0, 0))
  have hc0' : (w.alloc (.cells (opCells op) 30 (0, 0))).cell? ⟨pb, 0, none⟩ = some (.map (some mb)) := by rw [((Ext.rfl' w).alloc _).cell hc0]
  have hcm' : (w.alloc (.cells (opCells op) 30 (0, 0))).cell? ⟨bb, 1, none⟩ = some (.map (some mb')) := by rw [((Ext.rfl' w).alloc _).cell hcm]
  clear h1 h2 h3 h4 h5 g1 g2 g3 g4 g5 hmain HL1 HL3 hc0 hcm hf hg
  unfold opCells at hl1 hl3 hc0' hcm'
  unfold opV opCells
  cases hs : shortB op.key with
  | false =>
    go_enter Tryz.func42, Tryz.ntmps42
    go_wp2_with (first | (go_at_call 77; refine (HC.out _).mono ?_; rintro e w' ⟨rfl, rfl⟩) | (go_at_call 78; refine (short_any _ _).mono ?_; rintro e w' ⟨rfl, rfl⟩) | fail)
    go_ret3
    rw [VV.out.1 hs]
    exact ⟨_, _, rfl, (Ext.rfl' w).alloc _, fun h => absurd h (by decide), fun h => absurd h (by decide)⟩
  | true =>
    cases hx : (mget op.key bases).isSome with
    | true =>
      by_cases hd : op.db = []
      · generalize hdd : op.db = d at *
        subst hd
        go_enter Tryz.func42, Tryz.ntmps42
        go_wp2_with (first | (go_at_call 77; refine (HC.out _).mono ?_; rintro e w' ⟨rfl, rfl⟩) | (go_at_call 78; refine (short_any _ _).mono ?_; rintro e w' ⟨rfl, rfl⟩) | fail)
        go_quiet (fail)
        go_wp2
        go_ret3
        rw [VV.out.2.1 hs (by rw [← HO.out]; exact hx) (by first | trivial | exact hdd)]
        exact ⟨_, _, rfl, below_drewN ((Ext.rfl' w).alloc _) _, fun h => absurd h (by decide), fun h => absurd h (by decide)⟩
      · obtain ⟨a, r, hdd⟩ : ∃ a r, op.db = a :: r := by cases h : op.db with | nil => exact absurd h hd | cons a r => exact ⟨a, r, rfl⟩
        have HD := Lib.hid hd
        clear hd
        rw [hdd] at hl1 hl3 hc0' hcm' ⊢
        rw [hdd] at HC HR
        cases hy : mget op.key B.m with
        | none =>
          have hz : mget op.key rows = none := HR.out.get_none hy
          rw [hz] at hl3
          go_enter Tryz.func42, Tryz.ntmps42
          go_wp2_with (first | (go_at_call 77; refine (HC.out _).mono ?_; rintro e w' ⟨rfl, rfl⟩) | (go_at_call 78; refine (short_any _ _).mono ?_; rintro e w' ⟨rfl, rfl⟩) | fail)
          go_quiet (fail)
          go_wp2
          go_quiet (fail)
          go_wp2
          go_ret3
          rw [VV.out.2.2.1 hs (.inr HD.out) hy]
          exact ⟨_, _, rfl, below_drewN ((Ext.rfl' w).alloc _) _, fun h => absurd (show (21 : Int) = 0 from h) (by decide), fun _ => ⟨rfl, rfl⟩⟩
        | some xs =>
          obtain ⟨lv, hz, hrow⟩ := HR.out.get_some hy
          rw [hz] at hl3
          have HROW := Lib.hid hrow
          clear hrow
          go_enter Tryz.func42, Tryz.ntmps42
          go_wp2_with (first | (go_at_call 77; refine (HC.out _).mono ?_; rintro e w' ⟨rfl, rfl⟩) | (go_at_call 78; refine (short_any _ _).mono ?_; rintro e w' ⟨rfl, rfl⟩) | fail)
          go_quiet (fail)
          go_wp2
          go_quiet (fail)
          go_wp2
          go_ret3
          rw [VV.out.2.2.2 hs (.inr HD.out) xs hy]
          exact ⟨_, _, rfl, below_drewN ((Ext.rfl' w).alloc _) _, fun _ => ⟨rfl, xs, hz, rfl, rfl, HROW.out⟩, fun h => absurd (show (0 : Int) = 21 from h) (by decide)⟩
    | false =>
      cases hy : mget op.key B.m with
      | none =>
        have hz : mget op.key rows = none := HR.out.get_none hy
        rw [hz] at hl3
        go_enter Tryz.func42, Tryz.ntmps42
        go_wp2_with (first | (go_at_call 77; refine (HC.out _).mono ?_; rintro e w' ⟨rfl, rfl⟩) | (go_at_call 78; refine (short_any _ _).mono ?_; rintro e w' ⟨rfl, rfl⟩) | fail)
        go_quiet (fail)
        go_wp2
        go_quiet (fail)
        go_wp2
        go_ret3
        rw [VV.out.2.2.1 hs (.inl (by rw [← HO.out]; exact hx)) hy]
        exact ⟨_, _, rfl, below_drewN ((Ext.rfl' w).alloc _) _, fun h => absurd (show (21 : Int) = 0 from h) (by decide), fun _ => ⟨rfl, rfl⟩⟩
      | some xs =>
        obtain ⟨lv, hz, hrow⟩ := HR.out.get_some hy
        rw [hz] at hl3
        have HROW := Lib.hid hrow
        clear hrow
        go_enter Tryz.func42, Tryz.ntmps42
        go_wp2_with (first | (go_at_call 77; refine (HC.out _).mono ?_; rintro e w' ⟨rfl, rfl⟩) | (go_at_call 78; refine (short_any _ _).mono ?_; rintro e w' ⟨rfl, rfl⟩) | fail)
        go_quiet (fail)
        go_wp2
        go_quiet (fail)
        go_wp2
        go_ret3
        rw [VV.out.2.2.2 hs (.inl (by rw [← HO.out]; exact hx)) xs hy]
        exact ⟨_, _, rfl, below_drewN ((Ext.rfl' w).alloc _) _, fun _ => ⟨rfl, xs, hz, rfl, rfl, HROW.out⟩, fun h => absurd (show (0 : Int) = 21 from h) (by decide)⟩
end Go.Proofs.YtmkhjmldncegcaaGreatDoor

/-
  WALKS: past.Model.lost.
-/
set_option linter.unusedVariables false
set_option linter.unusedSimpArgs false
namespace Go.Proofs.YtmkhjmldncegcaaGreatDoor
open Go.RowKit Go.Maps Go.ChangeMaps Go.MapKept

theorem frozenAt {w : World} {b : Nat} {cs : Array Value} {t : TypeId} (h : w.heap[b]? = some (.cells cs t (0, 0))) (o : Nat) : w.frozen? ⟨b, o, none⟩ = false := by simp [World.frozen?, h]

set_option maxHeartbeats 1000000 in
theorem lost_any (σ : Sig) (i pb mb : Nat) (bases : List (S × Value)) (A : ModA) (w : World) (hM : ModIs w σ i pb mb bases A) (hn : Neat w σ) :
    Calls Tryz.prog 36 #[.pointer (some ⟨pb, 0, none⟩)] w fun e w' => e = .returned (.tuple #[]) ∧ ModIs w' σ i pb mb bases (lostA A) ∧ Moved σ i w σ w' := by
  obtain ⟨h1, h2, h3, h4, h5⟩ := hM
  have hc1 := cellAt h2 1
  have hc2 := cellAt h2 2
  have hc3 := cellAt h2 3
  have hc4 := cellAt h2 4
  have hf1 := frozenAt h2 1
  have hf2 := frozenAt h2 2
  have hf3 := frozenAt h2 3
  have hf4 := frozenAt h2 4
  simp at hc1 hc2 hc3 hc4
  have HH := Lib.hid (And.intro h1 (And.intro h2 (And.intro h3 (And.intro h4 h5))))
  clear h1 h2 h3 h4 h5
  go_enter Tryz.func36, Tryz.ntmps36
  go_wp2
  go_end0
  obtain ⟨h1, h2, h3, h4, h5⟩ := HH.out
  have o := ((((Only.refl pb w).setCell 1 (.string ⟨#[]⟩)).setCell 2 (.string ⟨#[]⟩)).setCell 3 (.string ⟨#[]⟩)).setCell 4 (.bool false)
  exact ⟨rfl, ModIs.fields ⟨h1, h2, h3, h4, h5⟩ o (lostA A) rfl (heap_setCell_row (heap_setCell_row (heap_setCell_row (heap_setCell_row h2 1 _) 2 _) 3 _) 4 _), Moved.ofOnly hn o (by rw [h1])⟩
end Go.Proofs.YtmkhjmldncegcaaGreatDoor

/-
  WALKS: the library's search, clone, insert and delete at rows of texts, in this program's words.
-/
set_option linter.unusedVariables false
set_option linter.unusedSimpArgs false
namespace Go.Proofs.YtmkhjmldncegcaaGreatDoor
open Go.RowKit Go.Maps Go.ChangeMaps Go.MapKept

theorem heap_setCells_row (g : Nat) (e : TypeId) (fr : Nat × Nat) : ∀ (vs : List Value) (o : Nat) (w : World) (cur : Array Value), w.heap[g]? = some (.cells cur e fr) → o + vs.length ≤ cur.size →
    ∃ cur', (w.setCells g o vs).heap[g]? = some (.cells cur' e fr) ∧ cur'.size = cur.size ∧ cur'.toList = cur.toList.take o ++ vs ++ cur.toList.drop (o + vs.length)
  | [], o, w, cur, h, hl => ⟨cur, h, rfl, by simp⟩
  | v :: r, o, w, cur, h, hl => by
    simp at hl
    obtain ⟨cur', h1, h2, h3⟩ := heap_setCells_row g e fr r (o + 1) (w.setCell ⟨g, o, none⟩ v) (cur.setIfInBounds o v) (heap_setCell_row h o v) (by simp; omega)
    refine ⟨cur', h1, by simpa using h2, ?_⟩
    rw [h3]
    have hlen : o < cur.toList.length := by simp; omega
    simp only [Array.toList_setIfInBounds]
    rw [List.take_set, List.take_succ_eq_append_getElem hlen, List.drop_set_of_lt (by omega)]
    rw [List.set_append_right _ _ (by simp; omega)]
    have : o - (cur.toList.take o).length = 0 := by simp; omega
    rw [this]
    simp [Nat.add_assoc, Nat.add_comm 1]

theorem below_setCells' {B g : Nat} (hg : B ≤ g) : ∀ (vs : List Value) (o : Nat) {a w : World}, Below B a w → Below B a (w.setCells g o vs)
  | [], _, _, _, h => h
  | v :: r, o, _, _, h => below_setCells' hg r (o + 1) (h.setCell (p := ⟨g, o, none⟩) hg v)

theorem size_setCells' (g : Nat) : ∀ (vs : List Value) (o : Nat) (w : World), (w.setCells g o vs).heap.size = w.heap.size
  | [], _, _ => rfl
  | v :: r, o, w => by rw [World.setCells, size_setCells' g r]; simp [World.setCell]

theorem shape_row {w : World} {g : Nat} {cur : Array Value} {e : TypeId} {fr : Nat × Nat} (h : w.heap[g]? = some (.cells cur e fr)) : w.shape? g = some (e, cur.size) := by simp [World.shape?, h]
theorem frozen_row {w : World} {g : Nat} {cur : Array Value} {e : TypeId} (h : w.heap[g]? = some (.cells cur e (0, 0))) (o : Nat) : w.frozen? ⟨g, o, none⟩ = false := by simp [World.frozen?, h]
theorem cell_row {w : World} {g : Nat} {cur : Array Value} {e : TypeId} {fr : Nat × Nat} (h : w.heap[g]? = some (.cells cur e fr)) (o : Nat) : w.cell? ⟨g, o, none⟩ = cur[o]? := by simp [World.cell?, h]

theorem _root_.Go.World.ownsRow.base {w : World} {base base' : Nat} {e : TypeId} {size n : Nat} {v : Value} {xs : List Value} (h : w.ownsRow base e size v n xs) (hb : base' ≤ base) : w.ownsRow base' e size v n xs := by
  refine ⟨h.1, ?_⟩
  rcases h.2 with h | ⟨g, cap, cur, hv, hg, r⟩
  · exact .inl h
  · exact .inr ⟨g, cap, cur, hv, Nat.le_trans hb hg, r⟩
theorem size_zerosS (k : Nat) : (Builtin.zeroCells (Value.string ⟨#[]⟩).cells k).size = k := by simp [size_zeroCells, Value.cells]
theorem strs_one (xs : List S) : ∀ u ∈ xs.map encStr, u.oneCell' = true := by
  intro u hu; obtain ⟨x, _, rfl⟩ := List.mem_map.1 hu; rfl
theorem str_one (x : S) : ∀ u ∈ [encStr x], u.oneCell' = true := by
  intro u hu; simp at hu; subst hu; rfl
theorem Only.setCells {b : Nat} {a : World} (vs : List Value) : ∀ (o : Nat) {w : World}, Only b a w → Only b a (w.setCells b o vs) := by
  induction vs with
  | nil => intro o w h; exact h
  | cons v r ih => intro o w h; exact ih (o + 1) (h.setCell o v)
theorem Only.drew' {b : Nat} {a w : World} (h : Only b a w) : Only b a w.drew := ⟨h.os, h.tape, h.output, h.size, h.block⟩
theorem grown_ext {w w' : World} (e : Ext w w') (row : Option Nat) : w.grownBy w' row := ⟨e.os, e.tape, e.output, e.size, fun k hk _ => e.block k hk⟩
theorem grown_only {g : Nat} {w w' : World} (o : Only g w w') : w.grownBy w' (some g) := ⟨o.os, o.tape, o.output, by rw [o.size]; exact Nat.le_refl _, fun k _ hne => o.block k (fun e => hne (by rw [e]))⟩
theorem Ext.drew' {a w : World} (h : Ext a w) : Ext a w.drew := Below.drew h

/-! ### slices.Insert(s, i, x), s the call's own, x in a block of its own -/
theorem insertS_own (v : Value) (xs : List S) (i vb : Nat) (x : S) (eb : TypeId) (w : World) (hown : w.ownsRow 0 9 1 v xs.length (xs.map encStr)) (hi : i ≤ xs.length) (hsz : xs.length ≤ 1000000)
    (hvb : w.heap[vb]? = some (.cells #[encStr x] eb (0, 0))) (hne : v.ownBlock ≠ some vb) :
    Calls Tryz.prog 80 #[v, .int .i64 i, .slice (some ⟨vb, 0, none⟩) 1 1] w fun e w' => ∃ v', e = .returned v' ∧
      w'.ownsRow 0 9 1 v' (xs.length + 1) ((xs.take i ++ x :: xs.drop i).map encStr) ∧ w.grownBy w' v.ownBlock ∧ (v'.ownBlock = v.ownBlock ∨ v'.ownBlock = some w.heap.size) := by
  have hvs : ∀ j u, [encStr x][j]? = some u → w.cell? ⟨vb, 0 + j, none⟩ = some u := by
    intro j u hj
    rw [cell_row hvb]
    simpa using hj
  have hlx : (xs.map encStr).length = xs.length := by simp
  have hll : (xs.take i ++ x :: xs.drop i).length = xs.length + 1 := by simp; omega
  have h1v := str_one x
  have h1c := strs_one xs
  rcases hown.2 with ⟨rfl, h0⟩ | ⟨g, cap, cur, rfl, hbg, hg, hnc, hcm, hcs, htake⟩
  · -- nil
    have hx0 : xs = [] := List.eq_nil_of_length_eq_zero h0
    subst hx0
    obtain rfl : i = 0 := by simpa using hi
    have hcon := Any2.slices_Insert_string_end_grow Tryz.insS none 0 0 vb 0 1 1 [] [encStr x] w (by omega) (by omega) (by omega) (by omega) rfl rfl (fun _ => rfl) (by intro a ha; cases ha) hvs h1v
    refine hcon.mono ?_
    rintro e w' ⟨rfl, rfl⟩
    have et : Tryz.insS_ren.t 9 = 9 := rfl
    rw [et]
    have hge := grownCap_ge w (0 + 1) 0 9
    have hcm2 : grownCap w (0 + 1) 0 9 ≤ maxLen := grownCap_le_maxLen w (0 + 1) 0 9 (by unfold maxLen; omega)
    refine ⟨_, rfl, ⟨by simp, .inr ⟨w.heap.size, _, _, rfl, Nat.zero_le _, heap_alloc_new w.drew _, hge, hcm2, ?_, by simp⟩⟩, grown_ext (Ext.alloc (Ext.rfl' w).drew _) _, .inr rfl⟩
    rw [Array.size_append, size_zerosS]
    simp only [List.size_toArray, List.length_append, List.length_nil, List.length_singleton]
    omega
  · have hne' : vb ≠ g := fun e => hne (by simp [Value.ownBlock, e])
    have hgs : g < w.heap.size := (Array.getElem?_eq_some_iff.1 hg).1
    have hcells : ∀ j u, (xs.map encStr)[j]? = some u → w.cell? ⟨g, 0 + j, none⟩ = some u := by
      intro j u hu
      have := hown.cells (g := g) rfl j u hu
      simpa [Addr.add_lit] using this
    have hcs' : cur.size = cap := by omega
    have htk : cur.toList.take xs.length = xs.map encStr := by simpa using htake
    by_cases hroom : xs.length + 1 ≤ cap
    · by_cases hin : i < xs.length
      · have hcon := Any2.slices_Insert_string_shift Tryz.insS g 0 xs.length cap i vb 0 1 1 (xs.map encStr) [encStr x] w hin (by omega) hroom (by unfold maxLen at hcm; omega) hne' hlx rfl hcells
          (fun j hj => by rw [cell_row hg, Array.getElem?_eq_getElem (by omega)]; rfl) (fun j hj => frozen_row hg _) hvs h1c h1v eb 9 1 cur.size (by rw [shape_row hvb]; rfl) (shape_row hg) (by omega) (frozen_row hvb _) (frozen_row hvb _)
        refine hcon.mono ?_
        rintro e w' ⟨rfl, rfl⟩
        obtain ⟨cur1, g1, s1, l1⟩ := heap_setCells_row g 9 (0, 0) ((xs.map encStr).drop i) (0 + (i + 1)) w.drew cur hg (by simp; omega)
        obtain ⟨cur2, g2, s2, l2⟩ := heap_setCells_row g 9 (0, 0) [encStr x] (0 + i) _ cur1 g1 (by simp; omega)
        refine ⟨_, rfl, ⟨by simp; omega, .inr ⟨g, cap, cur2, rfl, hbg, g2, hroom, hcm, by omega, ?_⟩⟩, grown_only (((Only.refl g w).drew').setCells _ _ |>.setCells _ _), .inl rfl⟩
        rw [l2, l1]
        have e1 : (cur.toList.take (0 + (i + 1)) ++ (xs.map encStr).drop i ++ cur.toList.drop (0 + (i + 1) + ((xs.map encStr).drop i).length)).take (0 + i) = (xs.map encStr).take i := by
          rw [← htk, List.append_assoc, List.take_append_of_le_length (by simp; omega), List.take_take, List.take_take]
          congr 1; omega
        have e2 : (cur.toList.take (0 + (i + 1)) ++ (xs.map encStr).drop i ++ cur.toList.drop (0 + (i + 1) + ((xs.map encStr).drop i).length)).drop (0 + i + 1) = (xs.map encStr).drop i ++ cur.toList.drop (0 + (i + 1) + ((xs.map encStr).drop i).length) := by
          rw [List.append_assoc, List.drop_append_of_le_length (by simp; omega), List.drop_eq_nil_of_le (by simp; omega), List.nil_append]
        rw [e1]
        simp only [List.length_singleton]
        rw [e2, ← List.append_assoc, List.take_append_of_le_length (by simp; omega), List.take_of_length_le (by simp; omega)]
        simp [List.map_take, List.map_drop]
      · obtain rfl : i = xs.length := by omega
        have hcon := Any2.slices_Insert_string_end_room Tryz.insS g 0 xs.length cap vb 0 1 1 [encStr x] w (by omega) hroom (by unfold maxLen at hcm; omega) rfl
          (fun j hj => by rw [cell_row hg, Array.getElem?_eq_getElem (by omega)]; rfl) (fun j hj => frozen_row hg _) hvs h1v
        refine hcon.mono ?_
        rintro e w' ⟨rfl, rfl⟩
        obtain ⟨cur1, g1, s1, l1⟩ := heap_setCells_row g 9 (0, 0) [encStr x] (0 + xs.length) w cur hg (by simp; omega)
        refine ⟨_, rfl, ⟨by simp, .inr ⟨g, cap, cur1, rfl, hbg, g1, hroom, hcm, by omega, ?_⟩⟩, grown_only ((Only.refl g w).setCells _ _), .inl rfl⟩
        rw [l1, Nat.zero_add, htk]
        rw [List.take_append_of_le_length (by simp), List.take_of_length_le (by simp)]
        simp
    · by_cases hin : i < xs.length
      · have hcon := Any2.slices_Insert_string_grow Tryz.insS g 0 xs.length cap i vb 0 1 1 (xs.map encStr) [encStr x] w hin (by omega) hnc (by omega) (by omega) hlx rfl hcells hvs h1c h1v
        refine hcon.mono ?_
        rintro e w' ⟨rfl, rfl⟩
        have et : Tryz.insS_ren.t 9 = 9 := rfl
        rw [et]
        have hge := grownCap_ge w (xs.length + 1) cap 9
        have hcm2 : grownCap w (xs.length + 1) cap 9 ≤ maxLen := grownCap_le_maxLen w _ cap 9 (by unfold maxLen; omega)
        generalize grownCap w (xs.length + 1) cap 9 = gc at hge hcm2 ⊢
        have g0 := heap_alloc_new w (.cells (((xs.map encStr).take i).toArray ++ Builtin.zeroCells (Value.string ⟨#[]⟩).cells (xs.length + 1 - i) ++ Builtin.zeroCells (Value.string ⟨#[]⟩).cells (gc - (xs.length + 1))) 9 (0, 0))
        have hs0 : (((xs.map encStr).take i).toArray ++ Builtin.zeroCells (Value.string ⟨#[]⟩).cells (xs.length + 1 - i) ++ Builtin.zeroCells (Value.string ⟨#[]⟩).cells (gc - (xs.length + 1))).size = gc := by
          rw [Array.size_append, Array.size_append, size_zerosS, size_zerosS]; simp; omega
        have ht0 : (((xs.map encStr).take i).toArray ++ Builtin.zeroCells (Value.string ⟨#[]⟩).cells (xs.length + 1 - i) ++ Builtin.zeroCells (Value.string ⟨#[]⟩).cells (gc - (xs.length + 1))).toList.take i = (xs.map encStr).take i := by
          simp only [Array.toList_append, List.append_assoc]
          rw [List.take_append_of_le_length (by simp; omega), List.take_of_length_le (by simp; omega)]
        generalize (((xs.map encStr).take i).toArray ++ Builtin.zeroCells (Value.string ⟨#[]⟩).cells (xs.length + 1 - i) ++ Builtin.zeroCells (Value.string ⟨#[]⟩).cells (gc - (xs.length + 1))) = cur0 at g0 hs0 ht0 ⊢
        obtain ⟨cur1, g1, s1, l1⟩ := heap_setCells_row w.heap.size 9 (0, 0) [encStr x] i (w.alloc (.cells cur0 9 (0, 0))).drew cur0 g0 (by simp; omega)
        obtain ⟨cur2, g2, s2, l2⟩ := heap_setCells_row w.heap.size 9 (0, 0) ((xs.map encStr).drop i) (i + 1) (((w.alloc (.cells cur0 9 (0, 0))).drew.setCells w.heap.size i [encStr x]).drew) cur1 g1 (by simp; omega)
        refine ⟨_, rfl, ⟨by simp; omega, .inr ⟨w.heap.size, gc, cur2, rfl, Nat.zero_le _, g2, by omega, hcm2, by omega, ?_⟩⟩, grown_ext (below_setCells' (Nat.le_refl _) _ _ (below_setCells' (Nat.le_refl _) _ _ ((Below.refl _ _).alloc (Nat.le_refl _) _).drew).drew) _, .inr rfl⟩
        rw [l2, l1]
        have e1 : (cur0.toList.take i ++ [encStr x] ++ cur0.toList.drop (i + [encStr x].length)).take (i + 1) = (xs.map encStr).take i ++ [encStr x] := by
          rw [ht0, List.take_append_of_le_length (by simp; omega), List.take_of_length_le (by simp; omega)]
        rw [e1, List.take_append_of_le_length (by simp; omega), List.take_of_length_le (by simp; omega)]
        simp [List.map_take, List.map_drop]
      · obtain rfl : i = xs.length := by omega
        have hcon := Any2.slices_Insert_string_end_grow Tryz.insS (some ⟨g, 0, none⟩) xs.length cap vb 0 1 1 (xs.map encStr) [encStr x] w (by omega) hnc (by omega) (by omega) hlx rfl (fun h => by cases h)
          (by intro a ha j u hu; cases ha; exact hown.cells (g := g) rfl j u hu) hvs h1v
        refine hcon.mono ?_
        rintro e w' ⟨rfl, rfl⟩
        have et : Tryz.insS_ren.t 9 = 9 := rfl
        rw [et]
        have hge := grownCap_ge w (xs.length + 1) cap 9
        have hcm2 : grownCap w (xs.length + 1) cap 9 ≤ maxLen := grownCap_le_maxLen w _ cap 9 (by unfold maxLen; omega)
        generalize grownCap w (xs.length + 1) cap 9 = gc at hge hcm2 ⊢
        refine ⟨_, rfl, ⟨by simp, .inr ⟨w.heap.size, gc, _, rfl, Nat.zero_le _, heap_alloc_new w.drew _, hge, hcm2, ?_, ?_⟩⟩, grown_ext (Ext.alloc (Ext.rfl' w).drew _) _, .inr rfl⟩
        · rw [Array.size_append, size_zerosS]
          simp; omega
        · simp only [Array.toList_append, List.append_assoc]
          rw [← List.append_assoc, List.take_append_of_le_length (by simp), List.take_of_length_le (by simp)]
          simp


/-! ### slices.Delete(s, i, i + 1) -/
theorem strsOf_eq (xs : List S) : Lib.strsOf (fun j => ⟨(xs.getD j []).toArray⟩) xs.length = xs := by
  apply List.ext_getElem
  · simp [Lib.strsOf]
  · intro j h1 h2
    simp [Lib.strsOf, List.getD, List.getElem?_eq_getElem h2]

theorem cells_own {w : World} {v : Value} {xs : List S} {g : Nat} (h : w.ownsRow 0 9 1 v xs.length (xs.map encStr)) (hg : v.ownBlock = some g) : ∀ j, j < xs.length → w.cell? ⟨g, 0 + j, none⟩ = some (.string ⟨(xs.getD j []).toArray⟩) := by
  intro j hj
  have := h.cells (g := g) hg j (encStr (xs.getD j [])) (by simp [List.getD, List.getElem?_eq_getElem hj])
  simpa [Addr.add_lit] using this

theorem deleteS_own (v : Value) (xs : List S) (i : Nat) (w : World) (hown : w.ownsRow 0 9 1 v xs.length (xs.map encStr)) (hi : i < xs.length) :
    Calls Tryz.prog 81 #[v, .int .i64 i, .int .i64 ((i + 1 : Nat) : Int)] w fun e w' => ∃ v', e = .returned v' ∧
      w'.ownsRow 0 9 1 v' (xs.length - 1) ((xs.eraseIdx i).map encStr) ∧ w.grownBy w' v.ownBlock ∧ v'.ownBlock = v.ownBlock := by
  rcases hown.2 with ⟨rfl, h0⟩ | ⟨g, cap, cur, rfl, hbg, hg, hnc, hcm, hcs, htake⟩
  · omega
  · have hc := cells_own hown rfl
    have hcon := Tryz.slices_Delete_string_cells g 0 xs.length cap i (i + 1) (fun j => ⟨(xs.getD j []).toArray⟩) w hnc (by unfold maxLen at hcm; omega) (by omega) (by omega) hc (fun j _ => frozen_row hg _)
    rw [strsOf_eq] at hcon
    refine hcon.mono ?_
    rintro e w' ⟨rfl, q, rfl⟩
    have hg' : (w.drewN q).heap[g]? = some (.cells cur 9 (0, 0)) := by simpa using hg
    obtain ⟨cur1, g1, s1, l1⟩ := heap_setCells_row g 9 (0, 0) ((xs.take i ++ xs.drop (i + 1) ++ List.replicate (i + 1 - i) []).map encStr) 0 (w.drewN q) cur hg' (by simp; omega)
    have e1 : i + 1 - i = 1 := by omega
    have hlen : (xs.take i ++ xs.drop (i + 1)).length = xs.length - 1 := by simp; omega
    refine ⟨_, rfl, ⟨by simp [List.length_eraseIdx, hi], .inr ⟨g, cap, cur1, by rw [e1], hbg, g1, by omega, hcm, by omega, ?_⟩⟩, grown_only (((Only.refl g w).drewN q).setCells _ _), rfl⟩
    rw [l1, List.eraseIdx_eq_take_drop_succ]
    simp only [List.take_zero, List.nil_append, List.map_append]
    rw [List.append_assoc, List.append_assoc, ← List.append_assoc, ← List.map_append, List.take_append_of_le_length (by simp; omega), List.take_of_length_le (by simp; omega)]

/-! ### slices.BinarySearch -/
theorem bytes_toList (s : S) : (ByteArray.mk s.toArray).toList = s := by simp
theorem bsS_any (v : Value) (xs : List S) (x : S) (w : World) (hown : w.ownsRow 0 9 1 v xs.length (xs.map encStr)) (hsz : xs.length ≤ 1000000) :
    Calls Tryz.prog 79 #[v, encStr x] w fun e w' => e = .returned (.tuple #[.int .i64 (placeA xs x : Nat), .bool (thereA xs x)]) ∧ ∃ q, w' = w.drewN q := by
  rcases hown.2 with ⟨rfl, h0⟩ | ⟨g, cap, cur, rfl, hbg, hg, hnc, hcm, hcs, htake⟩
  · have hx0 : xs = [] := List.eq_nil_of_length_eq_zero h0
    subst hx0
    refine (Any2.slices_BinarySearch_string_empty Tryz.searchS none 0 ⟨x.toArray⟩ w).mono ?_
    rintro e w' ⟨rfl, rfl⟩
    exact ⟨by simp [placeA, thereA, Lib.bsGo], 0, rfl⟩
  · have hcon := Any2.slices_BinarySearch_string Tryz.searchS g 0 xs.length cap (fun j => ⟨(xs.getD j []).toArray⟩) ⟨x.toArray⟩ w (by omega) (cells_own hown rfl)
    refine hcon.mono ?_
    rintro e w' ⟨rfl, hq⟩
    refine ⟨?_, hq⟩
    have e1 : (fun t => Op.bytesLess ((fun j => (⟨(xs.getD j []).toArray⟩ : ByteArray)) t).toList (⟨x.toArray⟩ : ByteArray).toList) = fun t => Op.bytesLess (xs.getD t []) x := by
      funext t
      show Op.bytesLess (ByteArray.mk (xs.getD t []).toArray).toList (ByteArray.mk x.toArray).toList = _
      rw [bytes_toList, bytes_toList]
    rw [e1]
    show _ = Ending.returned (.tuple #[.int .i64 (placeA xs x : Nat), .bool (thereA xs x)])
    congr 6
    unfold thereA
    congr 1
    show (placeA xs x < xs.length ∧ (⟨(xs.getD (placeA xs x) []).toArray⟩ : ByteArray) = ⟨x.toArray⟩) = _
    simp
theorem cloneS_any (v : Value) (xs : List S) (w : World) (hown : w.ownsRow 0 9 1 v xs.length (xs.map encStr)) (hsz : xs.length ≤ 1000000) :
    Calls Tryz.prog 34 #[v] w fun e w' => ∃ v', e = .returned v' ∧ w'.ownsRow w.heap.size 9 1 v' xs.length (xs.map encStr) ∧ Ext w w' := by
  rcases hown.2 with ⟨rfl, h0⟩ | ⟨g, cap, cur, rfl, hbg, hg, hnc, hcm, hcs, htake⟩
  · have hx0 : xs = [] := List.eq_nil_of_length_eq_zero h0
    subst hx0
    exact (Tryz.slices_Clone_string_nil 0 0 w).mono fun e w' ⟨h1, h2⟩ => ⟨_, h1, by subst h2; exact owns_nil _ _ _ _, by subst h2; exact Ext.rfl' _⟩
  · have hcon := Tryz.slices_Clone_string g 0 xs.length cap (xs.map fun s => ⟨s.toArray⟩) w (by simp) (by omega) (by
      intro j hj
      simp at hj
      have := cells_own hown rfl j hj
      rw [this]
      simp [List.getD, List.getElem?_eq_getElem hj])
    refine hcon.mono ?_
    rintro e w' ⟨v', h1, h2, _, h3⟩
    refine ⟨v', h1, ?_, h3⟩
    have : (xs.map fun s => (⟨s.toArray⟩ : ByteArray)).take xs.length = xs.map fun s => ⟨s.toArray⟩ := by rw [List.take_of_length_le (by simp)]
    rw [this, List.map_map] at h2
    exact h2
end Go.Proofs.YtmkhjmldncegcaaGreatDoor

/-
  A map's keys, sorted: the library's contracts in the words of rows of pairs.
-/
set_option linter.unusedVariables false
set_option linter.unusedSimpArgs false
set_option linter.unusedSectionVars false
namespace Go.Proofs.YtmkhjmldncegcaaGreatDoor
open Go.RowKit Go.Maps Go.ChangeMaps Go.MapKept

theorem before_lt : ∀ a b : S, bytesBefore a b = true → a < b
  | [], [], h => by simp [bytesBefore] at h
  | [], _ :: _, _ => List.nil_lt_cons _ _
  | _ :: _, [], h => by simp [bytesBefore] at h
  | x :: r, y :: s, h => by
    simp only [bytesBefore, Bool.or_eq_true, Bool.and_eq_true, decide_eq_true_eq, beq_iff_eq] at h
    rw [List.cons_lt_cons_iff]
    rcases h with h | ⟨h1, h2⟩
    · exact .inl h
    · exact .inr ⟨h1, before_lt r s h2⟩

theorem MapOf.rises {w : World} {kt : TypeId} {b : Nat} {vs : List (S × Value)} (h : MapOf w kt b vs) (K : Keyed Tryz.prog kt) : vs.Pairwise (fun p q => p.1 < q.1) := by
  obtain ⟨es, he, hp, _⟩ := World.ownsMap.canon h K
  unfold toD at he
  injection he with he
  rw [← he, List.pairwise_map] at hp
  exact hp.imp fun h => before_lt _ _ h
theorem MapOf.keyLen {w : World} {b : Nat} {vs : List (S × Value)} (h : MapOf w 9 b vs) : ∀ p ∈ vs, p.1.length ≤ maxLen := by
  obtain ⟨es, he, hk⟩ := World.ownsMap.keysOf h
  unfold toD at he
  injection he with he
  intro p hp
  obtain ⟨v, hv⟩ := hk (Ky.lit p.1, .held p.2) (by rw [← he]; exact List.mem_map.2 ⟨p, hp, rfl⟩)
  obtain ⟨x, _, hx, hl⟩ := Maps.keyOf_str Tryz.underlying9 hv
  have : p.1 = x := by injection hx
  rw [this]; exact hl

theorem strKeys_toD (vs : List (S × Value)) : strKeys (toD DataW.held vs) = vs.map (·.1) := by
  show (vs.map fun p => (Ky.lit p.1, DataW.held p.2)).map (fun p => strOf p.1) = _
  rw [List.map_map]
  rfl
theorem sorted_keys {vs : List (S × Value)} (hr : vs.Pairwise (fun p q => p.1 < q.1)) {ss : List S} (h : ss.Perm (strKeys (toD DataW.held vs))) : (ss.mergeSort fun x y => decide (x ≤ y)) = vs.map (·.1) := by
  rw [strKeys_toD] at h
  have e1 : ss.mergeSort leB = (vs.map (·.1)).mergeSort leB := mergeSort_of_perm h
  have e2 : (vs.map (·.1)).mergeSort leB = vs.map (·.1) := by
    apply List.mergeSort_of_pairwise
    rw [List.pairwise_map]
    exact hr.imp fun h => by simp only [leB, decide_eq_true_eq]; exact List.le_of_lt h
  exact e1.trans e2

set_option maxHeartbeats 400000 in
theorem keysV_any (b : Nat) (vs : List (S × Value)) (w : World) (h : MapOf w 9 b vs) (hsz : vs.length ≤ 1000000) :
    Calls Tryz.prog 73 #[.map (some b)] w fun e w' => e = .returned (.func (.func 92) #[] #[.pointer (some ⟨w.heap.size, 0, none⟩)]) ∧ w' = w.alloc (.cells #[.map (some b)] 56) :=
  callsIn_wide.1 (Tryz.maps_Keys_73 (some b) w)
set_option maxHeartbeats 400000 in
theorem sortedV_any (b : Nat) (vs : List (S × Value)) (w : World) (h : MapOf w 9 b vs) (hsz : vs.length ≤ 1000000) :
    Calls Tryz.prog 40 #[.func (.func 92) #[] #[.pointer (some ⟨w.heap.size, 0, none⟩)]] (w.alloc (.cells #[.map (some b)] 56)) fun e w' => ∃ v, e = .returned v ∧
      w'.ownsRow 0 9 1 v vs.length ((vs.map (·.1)).map encStr) ∧ Ext w w' := by
  have hs : Maps.size (toD (H := Value) DataW.held vs) = vs.length := toD_size _ _
  have hc := callsIn_wide.1 (Tryz.slices_Sorted_keys_40_73 b vs.length (toD DataW.held vs) Rh w h (by rw [hs]; unfold maxLen; omega) (by rw [hs]; omega))
  refine hc.mono ?_
  rintro e w' ⟨v, ss, rfl, hp, ho, _, hb⟩
  have hl : ss.length = vs.length := by rw [hp.length_eq, strKeys_toD, List.length_map]
  rw [sorted_keys (MapOf.rises h keyedS) hp, hl] at ho
  exact ⟨v, rfl, ho.base (Nat.zero_le _), Below.trans ((Ext.rfl' w).alloc _) (hb.mono (by simp))⟩
set_option maxHeartbeats 400000 in
theorem keysB_any (b : Nat) (vs : List (S × Value)) (w : World) (h : MapOf w 9 b vs) (hsz : vs.length ≤ 1000000) :
    Calls Tryz.prog 41 #[.map (some b)] w fun e w' => e = .returned (.func (.func 76) #[] #[.pointer (some ⟨w.heap.size, 0, none⟩)]) ∧ w' = w.alloc (.cells #[.map (some b)] 59) :=
  callsIn_wide.1 (Tryz.maps_Keys_41 (some b) w)
set_option maxHeartbeats 400000 in
theorem sortedB_any (b : Nat) (vs : List (S × Value)) (w : World) (h : MapOf w 9 b vs) (hsz : vs.length ≤ 1000000) :
    Calls Tryz.prog 40 #[.func (.func 76) #[] #[.pointer (some ⟨w.heap.size, 0, none⟩)]] (w.alloc (.cells #[.map (some b)] 59)) fun e w' => ∃ v, e = .returned v ∧
      w'.ownsRow 0 9 1 v vs.length ((vs.map (·.1)).map encStr) ∧ Ext w w' := by
  have hs : Maps.size (toD (H := Value) DataW.held vs) = vs.length := toD_size _ _
  have hc := callsIn_wide.1 (Tryz.slices_Sorted_keys_40_41 b vs.length (toD DataW.held vs) Rh w h (by rw [hs]; unfold maxLen; omega) (by rw [hs]; omega))
  refine hc.mono ?_
  rintro e w' ⟨v, ss, rfl, hp, ho, _, hb⟩
  have hl : ss.length = vs.length := by rw [hp.length_eq, strKeys_toD, List.length_map]
  rw [sorted_keys (MapOf.rises h keyedS) hp, hl] at ho
  exact ⟨v, rfl, ho.base (Nat.zero_le _), Below.trans ((Ext.rfl' w).alloc _) (hb.mono (by simp))⟩
end Go.Proofs.YtmkhjmldncegcaaGreatDoor

/-
  WALKS: past.base.entries.
-/
set_option linter.unusedVariables false
set_option linter.unusedSimpArgs false
namespace Go.Proofs.YtmkhjmldncegcaaGreatDoor
open Go.RowKit Go.Maps Go.ChangeMaps Go.MapKept

theorem entry_info : (Tryz.prog.info? 51).map (fun i => (i.zero, i.size, i.bytes)) = some (some (.agg #[.string ⟨#[]⟩, .string ⟨#[]⟩]), 2, 32) := by kernel_rfl
theorem entriesEl : ElemOf Tryz.prog 47 51 2 32 := by
  obtain ⟨i0, hi, hz0, hz1, hz2⟩ := info_parts entry_info
  exact ⟨Tryz.underlying47, ⟨i0, _, hi, hz0, hz1, hz2, rfl⟩, by omega⟩

def entCells (l : List (S × S)) : List Value := l.flatMap fun e => [encStr e.1, encStr e.2]
theorem entCells_append (l m : List (S × S)) : entCells (l ++ m) = entCells l ++ entCells m := List.flatMap_append
theorem entCells_length (l : List (S × S)) : (entCells l).length = l.length * 2 := by
  induction l with
  | nil => rfl
  | cons a r ih => show ([_, _] ++ entCells r).length = _; rw [List.length_append, ih]; simp; omega
theorem ent_one (e : S × S) : ∀ u ∈ entCells [e], u.oneCell' = true := by
  intro u hu; simp [entCells] at hu; rcases hu with rfl | rfl <;> rfl

theorem Sl.newN (w : World) (us : List Value) (size : Nat) (e : TypeId) (hl : us.length = size) (hs : 0 < size) : Sl (w.alloc (.cells us.toArray e)) size (.slice (some ⟨w.heap.size, 0, none⟩) 1 1) 1 us := by
  refine ⟨by omega, _, 1, rfl, Nat.le_refl _, by unfold maxLen; omega, fun _ => ⟨_, _, rfl, fun j x hx => ?_⟩⟩
  obtain ⟨hj, e⟩ := List.getElem?_eq_some_iff.1 hx
  subst e
  simp [hj]

/-- What the loops hold: the row so far is the call's own. -/
def EntRel (w1 : World) (l : List (S × S)) (v : Value) (wr : World) : Prop := wr.ownsRow w1.heap.size 51 2 v l.length (entCells l) ∧ Ext w1 wr
theorem EntRel.start (w1 : World) : EntRel w1 [] (.slice none 0 0) w1 := ⟨owns_nil _ _ _ _, Ext.rfl' _⟩
theorem EntRel.more {w1 wr w2 : World} {l : List (S × S)} {k x : S} {v v' : Value} {e : TypeId} (h : EntRel w1 l v wr)
    (ho : w2.ownsRow w1.heap.size 51 2 v' (l.length + 1) (entCells l ++ entCells [(k, x)])) (hg : (wr.alloc (.cells #[encStr k, encStr x] e)).grownBy w2 v.ownBlock) : EntRel w1 (l ++ [(k, x)]) v' w2 := by
  refine ⟨by rw [entCells_append]; simpa using ho, ?_⟩
  exact below_append (h.2.alloc _) (by have := h.2.size; simp; omega) (h.1.alloc _) hg

def entsTo (B : BaseA) (j : Nat) : List (S × S) := (B.m.take j).flatMap fun p => p.2.map fun v => (p.1, v)
theorem entsTo_succ {B : BaseA} {j : Nat} {k : S} {xs : List S} (h : B.m[j]? = some (k, xs)) : entsTo B (j + 1) = entsTo B j ++ xs.map fun v => (k, v) := by
  obtain ⟨hj, e⟩ := List.getElem?_eq_some_iff.1 h
  unfold entsTo
  rw [List.take_succ_eq_append_getElem hj, List.flatMap_append, e]
  simp
theorem entsTo_all (B : BaseA) : entsTo B B.m.length = entriesA B := by unfold entsTo entriesA; rw [List.take_length]
theorem entsTo_len {B : BaseA} (hx : ∀ p ∈ B.m, p.2.length ≤ 12) : ∀ j, (entsTo B j).length ≤ 12 * j
  | 0 => by simp [entsTo]
  | j + 1 => by
    have ih := entsTo_len hx j
    cases h : B.m[j]? with
    | none =>
      have := List.getElem?_eq_none_iff.1 h
      have e : entsTo B (j + 1) = entsTo B j := by unfold entsTo; rw [List.take_of_length_le (by omega), List.take_of_length_le (by omega)]
      rw [e]; omega
    | some p =>
      rw [entsTo_succ (k := p.1) (xs := p.2) h, List.length_append, List.length_map]
      have := hx p (List.mem_of_getElem? h)
      omega

theorem Beside.at {κ α β : Type} [Ky κ] {R : κ → α → β → Prop} : ∀ {l : List (κ × α)} {r : List (κ × β)}, Beside R l r → ∀ {j : Nat} {k : κ} {b : β}, r[j]? = some (k, b) → ∃ a, l[j]? = some (k, a) ∧ R k a b
  | _, _, .nil, j, k, b, h => by simp at h
  | _, _, .cons h0 t, 0, k, b, h => by simp at h; obtain ⟨rfl, rfl⟩ := h; exact ⟨_, rfl, h0⟩
  | _, _, .cons h0 t, j + 1, k, b, h => by simpa using Beside.at t (by simpa using h)

set_option maxHeartbeats 4000000 in
theorem entries_any (σ : Sig) (i : Nat) (n : S) (bb mb : Nat) (rows : List (S × Value)) (B : BaseA) (w : World) (hB : BaseIs w σ i n bb mb rows B) (hm : B.m.length ≤ 1000000) (hx : ∀ p ∈ B.m, p.2.length ≤ 12) :
    Calls Tryz.prog 39 #[.pointer (some ⟨bb, 0, none⟩)] w fun e w' => ∃ v, e = .returned v ∧ w'.ownsRow w.heap.size 51 2 v (entriesA B).length (entCells (entriesA B)) ∧ Ext w w' := by
  obtain ⟨g1, g2, g3, g4, g5⟩ := hB
  have hlen := g5.length
  have hcm := cellAt g2 1
  simp at hcm
  have HK := Lib.hid (keysV_any mb rows w g4 (by omega))
  have HS := Lib.hid (sortedV_any mb rows w g4 (by omega))
  have HM := Lib.hid g4
  have HR := Lib.hid g5
  have HX := Lib.hid hx
  have HC := Lib.hid hcm
  clear g1 g2 g3 g4 g5 hx
  go_enter Tryz.func39, Tryz.ntmps39
  go_wp2_with (first | (go_at_call 73; refine HK.out.mono ?_; rintro e w' ⟨rfl, rfl⟩) | fail)
  refine HS.out.mono ?_
  rintro e w1 ⟨kv, rfl, hkeys, hext⟩
  have HE := Lib.hid hext
  have HKS := Lib.hid hkeys
  have hkf := Sl.ofOwns hkeys
  obtain ⟨_, kp, kc, rfl, hk1, hk2, hkc⟩ := hkf
  have HKC := Lib.hid hkc
  clear hkc hkeys hext
  go_wp2_with fail
  go_loopw [3, 15] (fun v i wr => ∃ j : Nat, j ≤ B.m.length ∧ i = .int .i64 j ∧ EntRel w1 (entsTo B j) v wr) (fun _ i _ => B.m.length - (intOf i).toNat)
  case atStart => exact ⟨0, by omega, rfl, EntRel.start w1⟩
  case round =>
    obtain ⟨j, hj, rfl, hrr⟩ := hrel
    obtain ⟨wo, rfl⟩ : ∃ wo : World, wo = wr := ⟨_, rfl⟩
    by_cases hlt : j < B.m.length
    · obtain ⟨kb, koff, rfl, hkc⟩ := HKC.out (by omega)
      obtain ⟨k, xs, hkx⟩ : ∃ k xs, B.m[j]? = some (k, xs) := ⟨B.m[j].1, B.m[j].2, List.getElem?_eq_getElem hlt⟩
      obtain ⟨rv, hrj, hrow⟩ := HR.out.at hkx
      have hmem : (k, rv) ∈ rows := List.mem_of_getElem? hrj
      have ewo : Ext w wo := Ext.step HE.out hrr.2
      have c1 : wo.cell? ⟨kb, koff + j, none⟩ = some (encStr k) := hrr.2.cell (hkc j (encStr k) (by simp [hrj]))
      have hlk := (HM.out.ext ewo).look1 (t := 56) (e := 53) keyedS Tryz.underlying56 (z := .slice none 0 0) (Tryz.zeroValue53 _) (keyS (HM.out.keyLen _ hmem))
      rw [mget_of_mem (HM.out.nodup keyedS) hmem] at hlk
      have c2 : wo.cell? ⟨bb, 1, none⟩ = some (.map (some mb)) := ewo.cell HC.out
      obtain ⟨_, rp, rc, rfl, hr1, hr2, hrc⟩ := Sl.ofOwns hrow.1
      have HRC := Lib.hid hrc
      have HKX := Lib.hid hkx
      have HRR := Lib.hid hrr
      have HEW := Lib.hid ewo
      have hxl : xs.length ≤ 12 := HX.out _ (List.mem_of_getElem? hkx)
      have hel := entsTo_len HX.out j
      clear hkc hmem hrow hrc hkx hrr hrj
      simp only [Option.getD_some] at hlk
      go_wp2_with fail
      go_loopw [3, 26] (fun v t wr2 => ∃ t' : Nat, t' ≤ xs.length ∧ t = .int .i64 t' ∧ EntRel w1 (entsTo B j ++ (xs.take t').map fun v => (k, v)) v wr2) (fun _ t _ => xs.length - (intOf t).toNat)
      case atStart => exact ⟨0, by omega, rfl, by simpa using HRR.out⟩
      case round =>
        obtain ⟨t, ht, rfl, hin⟩ := hrel
        have hew2 : Ext w wr := Ext.step HE.out hin.2
        obtain ⟨wr2, rfl⟩ : ∃ wr2 : World, wr2 = wr := ⟨_, rfl⟩
        by_cases htl : t < xs.length
        · obtain ⟨rb, roff, rfl, hrc⟩ := HRC.out (by omega)
          have c3 : wr2.cell? ⟨rb, roff + t, none⟩ = some (encStr (xs.getD t [])) := hew2.cell (hrc t _ (by simp [List.getD, List.getElem?_eq_getElem htl]))
          clear hrc
          have hsn : (xs.take (t + 1)).map (fun v => (k, v)) = (xs.take t).map (fun v => (k, v)) ++ [(k, xs.getD t [])] := by
            rw [List.take_succ_eq_append_getElem htl, List.map_append]; simp [List.getD, List.getElem?_eq_getElem htl]
          generalize xs.getD t [] = x at c3 hsn
          have HSN := Lib.hid hsn
          have hz := hin.2.size
          have hll : (entsTo B j ++ (xs.take t).map fun v => (k, v)).length ≤ 12 * j + 12 := by
            rw [List.length_append, List.length_map, List.length_take]; omega
          have HIN := Lib.hid hin
          have HW2 := Lib.hid hew2
          have HLL := Lib.hid hll
          clear hsn hin hew2 hll hel
          go_wp2_with (at_builtin; refine wpList_append_sl _ rfl _ _ 47 (by rfl) w1.heap.size entriesEl _ _ _ (by rfl) (HIN.out.1.alloc _) _ 1 (entCells [(k, x)]) (by rfl) (Sl.newN _ _ _ _ rfl (by omega)) (ent_one _) (by have := HLL.out; unfold maxLen; omega) (by have := HLL.out; omega) (by simp; omega) ?_; intro v1 w2 hown hgrow hat; have K2 := Lib.hid (HIN.out.more hown hgrow); clear hown hgrow hat)
          go_roundw
          case rel => exact ⟨t + 1, by omega, by go_num, by rw [HSN.out, ← List.append_assoc]; exact K2.out⟩
          case measure => simp [intOf]; omega
        · obtain rfl : t = xs.length := by omega
          have HIN := Lib.hid hin
          clear hin hew2
          go_wp2_with fail
          go_roundw
          case rel => exact ⟨j + 1, by omega, by go_num, by rw [entsTo_succ HKX.out]; have := HIN.out; rw [List.take_length] at this; exact this⟩
          case measure => simp [intOf]; omega
    · obtain rfl : j = B.m.length := by omega
      have HRR := Lib.hid hrr
      clear hrr
      go_wp2_with fail
      go_ret
      have h := HRR.out
      rw [entsTo_all] at h
      exact ⟨_, rfl, h.1.base HE.out.size, Ext.step HE.out h.2⟩
end Go.Proofs.YtmkhjmldncegcaaGreatDoor

/-
  Two error numbers, compared.
-/
set_option linter.unusedVariables false
set_option linter.unusedSimpArgs false
namespace Go.Proofs.YtmkhjmldncegcaaGreatDoor
open Go.RowKit Go.Maps Go.ChangeMaps Go.MapKept

theorem errno_comp : (Tryz.prog.info? 71).map (·.comparable) = some true := by kernel_rfl

theorem run_equalIn_errno (d : Nat) (a b : Int) (w : World) : (Op.equalIn (d + 2) 68 (.iface 71 (.int .i64 a)) (.iface 71 (.int .i64 b))).run Tryz.prog w = .ok (a == b) w := by
  have hu := run_underlying (w := w) Tryz.underlying71
  have hi := run_underlying (w := w) Tryz.underlying68
  cases hc : Tryz.prog.info? 71 with
  | none => have := errno_comp; rw [hc] at this; cases this
  | some info =>
    have h1 : info.comparable = true := by have := errno_comp; rw [hc] at this; simpa using this
    have h2 : (Op.equalIn (d + 1) 71 (.int .i64 a) (.int .i64 b)).run Tryz.prog w = .ok (a == b) w := by simp [Op.equalIn, hu]
    rw [Op.equalIn]
    simp [hi, typeInfo, hc, h1, h2]
theorem run_equal_errno (a b : Int) (w : World) : (Op.equal 68 (.iface 71 (.int .i64 a)) (.iface 71 (.int .i64 b))).run Tryz.prog w = .ok (a == b) w := run_equalIn_errno 9998 a b w
theorem run_eql_errno (a b : Int) (w : World) : (binOp .eql 68 (.iface 71 (.int .i64 a)) (.iface 71 (.int .i64 b))).run Tryz.prog w = .ok (.bool (a == b)) w := by
  simp only [binOp]
  simp [run_equal_errno]
theorem run_neq_errno (a b : Int) (w : World) : (binOp .neq 68 (.iface 71 (.int .i64 a)) (.iface 71 (.int .i64 b))).run Tryz.prog w = .ok (.bool (!(a == b))) w := by
  simp only [binOp]
  simp [run_equal_errno]
theorem run_equalIn_nil_errno (d : Nat) (b : Int) (w : World) : (Op.equalIn (d + 1) 68 .nilIface (.iface 71 (.int .i64 b))).run Tryz.prog w = .ok false w := by
  have hi := run_underlying (w := w) Tryz.underlying68
  rw [Op.equalIn]
  simp [hi]
theorem run_eql_nil_errno (b : Int) (w : World) : (binOp .eql 68 .nilIface (.iface 71 (.int .i64 b))).run Tryz.prog w = .ok (.bool false) w := by
  have h : (Op.equal 68 .nilIface (.iface 71 (.int .i64 b))).run Tryz.prog w = .ok false w := run_equalIn_nil_errno 9999 b w
  simp only [binOp]
  simp [h]
theorem run_neq_nil_errno (b : Int) (w : World) : (binOp .neq 68 .nilIface (.iface 71 (.int .i64 b))).run Tryz.prog w = .ok (.bool true) w := by
  have h : (Op.equal 68 .nilIface (.iface 71 (.int .i64 b))).run Tryz.prog w = .ok false w := run_equalIn_nil_errno 9999 b w
  simp only [binOp]
  simp [h]
end Go.Proofs.YtmkhjmldncegcaaGreatDoor

