/-
  PLAIN LEMMAS, NO PROGRAM: the word 'Ints w v xs' (a slice value that reads, in the world w, as the list xs of ints), 'Ext w w'' (nothing that existed has changed), and how the two go together.
-/
import Derived.WalkKit
import Derived.WalkSmall
import Derived.WalkSpells
import Derived.WalkLawsBesides
import Derived.Below
import Derived.Deep.LoopGhost
import Derived.Lib.Hide
import Derived.Maps.AppendAt
import Derived.Deep.AppendLies
import Derived.RegionTactic
import Derived.OwnWalk
set_option linter.unusedVariables false
set_option linter.unusedSimpArgs false
namespace Go.Proofs.YtkcffdanhklphaaGreatDoor
open Go.RowKit

/-- Nothing that existed has changed: all old blocks are as they were. -/
abbrev Ext (w w' : World) : Prop := Below w.heap.size w w'

theorem Ext.rfl' (w : World) : Ext w w := Below.refl _ _
theorem Ext.step {a b c : World} (h : Ext a b) (k : Ext b c) : Ext a c := Below.trans h (k.mono h.size)
theorem Ext.drewN (w : World) (n : Nat) : Ext w (w.drewN n) := below_drewN (Below.refl _ _) n
theorem Ext.ofDraws {w w' : World} (h : ∃ q, w' = w.drewN q) : Ext w w' := by obtain ⟨q, rfl⟩ := h; exact Ext.drewN w q
theorem Ext.alloc {a w : World} (h : Ext a w) (o : Obj) : Ext a (w.alloc o) := Below.alloc h h.size o

theorem lt_of_cell {w : World} {a : Addr} {v : Value} (h : w.cell? a = some v) : a.block < w.heap.size := World.block_lt_of_cell? w a h
theorem Ext.cell {w w' : World} (h : Ext w w') {a : Addr} {v : Value} (hc : w.cell? a = some v) : w'.cell? a = some v := by
  rw [Below.cell h (lt_of_cell hc)]; exact hc

/-- A slice value of ints: no element (whatever its address), or the cells from an offset on hold the list. -/
def Ints (w : World) (v : Value) (xs : List Int) : Prop :=
  (xs = [] ∧ ∃ p c, v = .slice p 0 c ∧ c ≤ maxLen) ∨
  (0 < xs.length ∧ ∃ b off c, v = .slice (some ⟨b, off, none⟩) xs.length c ∧ xs.length ≤ c ∧ c ≤ maxLen ∧ ∀ j, j < xs.length → w.cell? ⟨b, off + j, none⟩ = some (.int .i64 (xs.getD j 0)))

theorem Ints.nil (w : World) (p : Option Addr) (c : Nat) (h : c ≤ maxLen) : Ints w (.slice p 0 c) [] := .inl ⟨rfl, p, c, rfl, h⟩
theorem Ints.ext {w w' : World} {v : Value} {xs : List Int} (h : Ints w v xs) (e : Ext w w') : Ints w' v xs := by
  rcases h with h | ⟨h0, b, off, c, h1, h2, h3, h4⟩
  · exact .inl h
  · exact .inr ⟨h0, b, off, c, h1, h2, h3, fun j hj => e.cell (h4 j hj)⟩
theorem Ints.drewN {w : World} {v : Value} {xs : List Int} (h : Ints w v xs) (n : Nat) : Ints (w.drewN n) v xs := h.ext (Ext.drewN w n)
theorem Ints.form {w : World} {v : Value} {xs : List Int} (h : Ints w v xs) : ∃ p c, v = .slice p xs.length c ∧ xs.length ≤ c ∧ c ≤ maxLen := by
  rcases h with ⟨rfl, p, c, rfl, h⟩ | ⟨_, b, off, c, rfl, h2, h3, _⟩
  · exact ⟨p, c, rfl, Nat.zero_le _, h⟩
  · exact ⟨_, c, rfl, h2, h3⟩
theorem Ints.opened {w : World} {v : Value} {xs : List Int} (h : Ints w v xs) : ∃ p c, v = .slice p xs.length c ∧ xs.length ≤ c ∧ c ≤ maxLen ∧ (0 < xs.length → ∃ b off, p = some ⟨b, off, none⟩ ∧ ∀ j, j < xs.length → w.cell? ⟨b, off + j, none⟩ = some (.int .i64 (xs.getD j 0))) := by
  rcases h with ⟨rfl, p, c, rfl, h⟩ | ⟨h0, b, off, c, rfl, h2, h3, h4⟩
  · exact ⟨p, c, rfl, Nat.zero_le _, h, fun h => absurd h (by simp)⟩
  · exact ⟨_, c, rfl, h2, h3, fun _ => ⟨b, off, rfl, h4⟩⟩
theorem Ints.len {w : World} {v : Value} {xs : List Int} (h : Ints w v xs) : xs.length ≤ maxLen := by
  obtain ⟨p, c, _, h1, h2⟩ := h.form; omega

/-- What the kit's own rows give: a slice that the call owns reads as its cells. -/
theorem Ints.ofOwns {w : World} {base : Nat} {e : TypeId} {v : Value} {n : Nat} {xs : List Int} (h : w.ownsRow base e 1 v n (xs.map (Value.int .i64))) : Ints w v xs := by
  obtain ⟨hl, h⟩ := h
  simp at hl
  rcases h with ⟨rfl, rfl⟩ | ⟨g, cap, cur, rfl, hb, hg, hn, hcap, hs, ht⟩
  · simp at hl; exact .inl ⟨hl, none, 0, rfl, Nat.zero_le _⟩
  · subst hl
    by_cases h0 : 0 < xs.length
    · refine .inr ⟨h0, g, 0, cap, rfl, hn, hcap, fun j hj => ?_⟩
      have e1 : cur.toList[j]? = some (.int .i64 (xs.getD j 0)) := by
        have : (cur.toList.take (xs.length * 1))[j]? = (xs.map (Value.int .i64))[j]? := by rw [ht]
        rw [List.getElem?_take_of_lt (by omega)] at this
        rw [this]; simp [List.getD, List.getElem?_eq_getElem hj]
      simp [World.cell?, hg]
      simpa using e1
    · have : xs = [] := by cases xs with | nil => rfl | cons a r => simp at h0
      subst this
      exact .inl ⟨rfl, _, _, rfl, hcap⟩

theorem getD_eq {xs : List Int} {j : Nat} (h : j < xs.length) : xs.getD j 0 = xs[j] := by simp [List.getD, List.getElem?_eq_getElem h]


/-! ### Slices of whatever elements, `size` cells each -/
/-- The slice value v has n elements, whose cells are us; nothing is said of where an empty one lies. -/
def Sl (w : World) (size : Nat) (v : Value) (n : Nat) (us : List Value) : Prop :=
  us.length = n * size ∧ ∃ p c, v = .slice p n c ∧ n ≤ c ∧ c ≤ maxLen ∧ (0 < n → ∃ b off, p = some ⟨b, off, none⟩ ∧ ∀ j u, us[j]? = some u → w.cell? ⟨b, off + j, none⟩ = some u)

theorem Sl.ext {w w' : World} {size n : Nat} {v : Value} {us : List Value} (h : Sl w size v n us) (e : Ext w w') : Sl w' size v n us := by
  obtain ⟨hl, p, c, hv, h1, h2, h3⟩ := h
  refine ⟨hl, p, c, hv, h1, h2, fun h0 => ?_⟩
  obtain ⟨b, off, hp, hc⟩ := h3 h0
  exact ⟨b, off, hp, fun j u hu => e.cell (hc j u hu)⟩

theorem Sl.ofOwns {w : World} {base : Nat} {e : TypeId} {size n : Nat} {v : Value} {us : List Value} (h : w.ownsRow base e size v n us) : Sl w size v n us := by
  refine ⟨h.1, ?_⟩
  have hcells : ∀ g, v.ownBlock = some g → ∀ j u, us[j]? = some u → w.cell? ((⟨g, 0, none⟩ : Addr).add j) = some u := fun g hg => h.cells hg
  rcases h.2 with ⟨rfl, rfl⟩ | ⟨g, cap, cur, rfl, hb, hg, hn, hcap, hs, ht⟩
  · exact ⟨none, 0, rfl, Nat.le_refl _, Nat.zero_le _, fun h => absurd h (by omega)⟩
  · refine ⟨_, cap, rfl, hn, hcap, fun _ => ⟨g, 0, rfl, fun j u hu => ?_⟩⟩
    have := hcells g rfl j u hu
    simpa [Addr.add_lit] using this

theorem Sl.ofInts {w : World} {v : Value} {xs : List Int} (h : Ints w v xs) : Sl w 1 v xs.length (xs.map (Value.int .i64)) := by
  refine ⟨by simp, ?_⟩
  rcases h with ⟨rfl, p, c, rfl, h⟩ | ⟨h0, b, off, c, rfl, h2, h3, h4⟩
  · exact ⟨p, c, rfl, Nat.zero_le _, h, fun h => absurd h (by simp)⟩
  · refine ⟨_, c, rfl, h2, h3, fun _ => ⟨b, off, rfl, fun j u hu => ?_⟩⟩
    obtain ⟨hj, e⟩ := List.getElem?_eq_some_iff.1 hu
    simp at hj e
    rw [h4 j hj, getD_eq hj, e]

theorem Sl.toInts {w : World} {v : Value} {xs : List Int} {n : Nat} (h : Sl w 1 v n (xs.map (Value.int .i64))) : Ints w v xs := by
  obtain ⟨hl, p, c, hv, h1, h2, h3⟩ := h
  have hn : n = xs.length := by simpa using hl.symm
  subst hn
  by_cases h0 : 0 < xs.length
  · obtain ⟨b, off, hp, hc⟩ := h3 h0
    refine .inr ⟨h0, b, off, c, by rw [hv, hp], h1, h2, fun j hj => hc j _ ?_⟩
    simp [List.getElem?_eq_getElem hj]
  · have : xs = [] := by cases xs with | nil => rfl | cons a r => simp at h0
    subst this
    exact .inl ⟨rfl, p, c, by simpa using hv, h2⟩

/-- One element, just laid in a block of its own. -/
theorem Sl.new1 (w : World) (u : Value) (e : TypeId) : Sl (w.alloc (.cells #[u] e)) 1 (.slice (some ⟨w.heap.size, 0, none⟩) 1 1) 1 [u] := by
  refine ⟨rfl, _, 1, rfl, Nat.le_refl _, by unfold maxLen; omega, fun _ => ⟨_, _, rfl, fun j x hx => ?_⟩⟩
  obtain ⟨hj, e⟩ := List.getElem?_eq_some_iff.1 hx
  simp at hj
  subst hj
  simp at e
  subst e
  simp

/-- What the type table says of a slice type t over the element type e. -/
structure ElemOf (P : Program) (t e : TypeId) (size bytes : Nat) : Prop where
  under : P.underlying t = some (.slice e)
  info : ∃ i z, P.info? e = some i ∧ i.zero = some z ∧ i.size = size ∧ i.bytes = bytes ∧ z.cells.size = size
  pos : 0 < size

theorem owns_ext {w w' : World} {base : Nat} {e : TypeId} {size n : Nat} {v : Value} {xs : List Value} (h : w.ownsRow base e size v n xs) (x : Ext w w') : w'.ownsRow base e size v n xs := by
  refine ⟨h.1, ?_⟩
  rcases h.2 with hn | ⟨g, cap, cur, rfl, hgb, hgg, rest⟩
  · exact .inl hn
  · refine .inr ⟨g, cap, cur, rfl, hgb, ?_, rest⟩
    rw [x.block g (Array.getElem?_eq_some_iff.1 hgg).1]; exact hgg
theorem owns_nil (w : World) (base : Nat) (e : TypeId) (size : Nat) : w.ownsRow base e size (.slice none 0 0) 0 [] := World.ownsRow_nil w base e size

section
variable {P : Program} (w : World)

theorem run_append_sl (base : Nat) {t e : TypeId} {size bytes : Nat} (EL : ElemOf P t e size bytes) (ty : TypeId)
    (v : Value) (n : Nat) (xs : List Value) (hown : w.ownsRow base e size v n xs)
    (u : Value) (m : Nat) (news : List Value) (hu : Sl w size u m news) (h1 : ∀ u ∈ news, u.oneCell' = true)
    (h63 : n + m ≤ maxLen) (hbytes : (n + m) * bytes ≤ 140737488355328) (hbase : base ≤ w.heap.size) :
    ∃ v' w', (Builtin.append_ #[t, t] ty #[v, u]).run P w = .ok v' w' ∧ w'.ownsRow base e size v' (n + m) (xs ++ news) ∧ w.grownBy w' v.ownBlock ∧
      (v'.ownBlock = v.ownBlock ∨ v'.ownBlock = some w.heap.size) := by
  obtain ⟨ht, ⟨i, z, hi, hz, hsize, hby, hzs⟩, hsz⟩ := EL
  obtain ⟨hl, p, c, rfl, hc1, hc2, hcells⟩ := hu
  cases p with
  | none =>
    have hm : m = 0 := by
      rcases Nat.eq_zero_or_pos m with h0 | h0
      · exact h0
      · obtain ⟨b, off, h, _⟩ := hcells h0; cases h
    subst hm
    have hn : news = [] := List.eq_nil_of_length_eq_zero (by simpa using hl)
    subst hn
    refine ⟨v, w, ?_, by simpa using hown, ⟨rfl, rfl, rfl, Nat.le_refl _, fun _ _ _ => rfl⟩, .inl rfl⟩
    rcases hown.2 with ⟨rfl, rfl⟩ | ⟨g, cap, cur, rfl, _, _, hnc, _⟩
    · simp [Builtin.append_, run_underlying ht, sizeOf, typeInfo, hi, Builtin.lenOf, Builtin.firstCells]
    · simp [Builtin.append_, run_underlying ht, sizeOf, typeInfo, hi, Builtin.lenOf, Builtin.firstCells, hnc, storeCells]
  | some a =>
    have hnews : ∀ j x, news[j]? = some x → w.cell? (a.add j) = some x := by
      intro j x hx
      rcases Nat.eq_zero_or_pos m with h0 | h0
      · subst h0
        have hn : news = [] := List.eq_nil_of_length_eq_zero (by simpa using hl)
        subst hn
        simp at hx
      · obtain ⟨b, off, h, hc⟩ := hcells h0
        injection h with h
        subst h
        rw [Addr.add_lit]
        exact hc j x hx
    obtain ⟨v', w', hr, h2, h3, _, h5⟩ := run_append_own_at (P := P) w base t ty e i z size bytes ht hi hz hsize hby hzs hsz v n xs hown a m c news hl hnews h1 h63 hbytes hbase
    exact ⟨v', w', hr, h2, h3, h5⟩

theorem wp_append_sl {o : Oper} {a : Act} {K : Act → World → Prop} {Q : Exit → Act → World → Prop} (s x : Operand) (t : TypeId)
    (ho : o.op = .call { callee := .builtin .append, args := #[s, x], argTypes := #[t, t] })
    (base : Nat) {e : TypeId} {size bytes : Nat} (EL : ElemOf P t e size bytes)
    (v : Value) (n : Nat) (xs : List Value) (hs : a.eval s = v) (hown : w.ownsRow base e size v n xs)
    (u : Value) (m : Nat) (news : List Value) (hx : a.eval x = u) (hu : Sl w size u m news) (h1 : ∀ u ∈ news, u.oneCell' = true)
    (h63 : n + m ≤ maxLen) (hbytes : (n + m) * bytes ≤ 140737488355328) (hbase : base ≤ w.heap.size)
    (h : ∀ v' w', w'.ownsRow base e size v' (n + m) (xs ++ news) → w.grownBy w' v.ownBlock → (v'.ownBlock = v.ownBlock ∨ v'.ownBlock = some w.heap.size) → K (a.put o.dst v') w') : o.wp P a w K Q := by
  obtain ⟨v', w', hr, h2, h3, h4⟩ := run_append_sl (P := P) w base EL o.type v n xs hown u m news hu h1 h63 hbytes hbase
  unfold Oper.wp execOp
  simp only [ho, resolve, invoke, builtin, Sem.run_bind, Sem.run_pure, Result.andThen_ok, List.map_toArray, List.map_cons, List.map_nil, hs, hx, hr]
  exact h v' w' h2 h3 h4

theorem wpList_append_sl {ops : Array Oper} {rest : List Oper} {o : Oper} {a : Act} {Q : Exit → Act → World → Prop} (hgd : o.guard = none) (s x : Operand) (t : TypeId)
    (ho : o.op = .call { callee := .builtin .append, args := #[s, x], argTypes := #[t, t] })
    (base : Nat) {e : TypeId} {size bytes : Nat} (EL : ElemOf P t e size bytes)
    (v : Value) (n : Nat) (xs : List Value) (hs : a.eval s = v) (hown : w.ownsRow base e size v n xs)
    (u : Value) (m : Nat) (news : List Value) (hx : a.eval x = u) (hu : Sl w size u m news) (h1 : ∀ u ∈ news, u.oneCell' = true)
    (h63 : n + m ≤ maxLen) (hbytes : (n + m) * bytes ≤ 140737488355328) (hbase : base ≤ w.heap.size)
    (h : ∀ v' w', w'.ownsRow base e size v' (n + m) (xs ++ news) → w.grownBy w' v.ownBlock → (v'.ownBlock = v.ownBlock ∨ v'.ownBlock = some w.heap.size) → wpList P ops Q rest (a.put o.dst v') w') : wpList P ops Q (o :: rest) a w :=
  wpList_plain hgd fun _ hK => wp_append_sl w s x t ho base EL v n xs hs hown u m news hx hu h1 h63 hbytes hbase fun v' w' h2 h3 h4 => hK _ _ (h v' w' h2 h3 h4)

theorem step_append_sl {ops : Array Oper} {o : Oper} {a : Act} {K : Act → World → Prop} {Q : Exit → Act → World → Prop} {E : Prop} (hgd : o.guard = none) (s x : Operand) (t : TypeId)
    (ho : o.op = .call { callee := .builtin .append, args := #[s, x], argTypes := #[t, t] })
    (base : Nat) {e : TypeId} {size bytes : Nat} (EL : ElemOf P t e size bytes)
    (v : Value) (n : Nat) (xs : List Value) (hs : a.eval s = v) (hown : w.ownsRow base e size v n xs)
    (u : Value) (m : Nat) (news : List Value) (hx : a.eval x = u) (hu : Sl w size u m news) (h1 : ∀ u ∈ news, u.oneCell' = true)
    (h63 : n + m ≤ maxLen) (hbytes : (n + m) * bytes ≤ 140737488355328) (hbase : base ≤ w.heap.size)
    (h : ∀ v' w', w'.ownsRow base e size v' (n + m) (xs ++ news) → w.grownBy w' v.ownBlock → (v'.ownBlock = v.ownBlock ∨ v'.ownBlock = some w.heap.size) → K (a.put o.dst v') w') :
    if Region.wanted o (yielded ops a.tmps) = true then Oper.wp P o a w K Q else E := by
  have hw : Region.wanted o (yielded ops a.tmps) = true := by simp [Region.wanted, hgd]
  rw [if_pos hw]
  exact wp_append_sl w s x t ho base EL v n xs hs hown u m news hx hu h1 h63 hbytes hbase h
end

/-- Behind an append onto a slice that the call owns from `base` on: what lay below is as it was. -/
theorem below_append {base : Nat} {w0 w w' : World} {e : TypeId} {size n : Nat} {v : Value} {xs : List Value} (h : Below base w0 w) (hb : base ≤ w.heap.size) (hown : w.ownsRow base e size v n xs) (hg : w.grownBy w' v.ownBlock) : Below base w0 w' :=
  Below.grown h hg hb fun k hk => (hown.lt k hk).1

theorem ints_one (xs : List Int) : ∀ u ∈ xs.map (Value.int .i64), u.oneCell' = true := by
  intro u hu; obtain ⟨x, _, rfl⟩ := List.mem_map.1 hu; rfl
theorem int_one (x : Int) : ∀ u ∈ [Value.int .i64 x], u.oneCell' = true := by
  intro u hu; simp at hu; subst hu; rfl

/-- A cut of a slice. -/
theorem Ints.take {w : World} {b off c : Nat} {xs : List Int} (h : ∀ j, j < xs.length → w.cell? ⟨b, off + j, none⟩ = some (.int .i64 (xs.getD j 0))) (h1 : xs.length ≤ c) (h2 : c ≤ maxLen) {i : Nat} (hi : i ≤ xs.length) :
    Ints w (.slice (some ⟨b, off, none⟩) i c) (xs.take i) := by
  have hl : (xs.take i).length = i := by rw [List.length_take]; omega
  by_cases h0 : 0 < i
  · refine .inr ⟨by omega, b, off, c, by rw [hl], by omega, h2, fun j hj => ?_⟩
    rw [h j (by omega)]
    rw [hl] at hj
    simp [List.getD, List.getElem?_take_of_lt hj]
  · obtain rfl : i = 0 := by omega
    exact .inl ⟨by simp, _, c, rfl, h2⟩
theorem Ints.drop {w : World} {b off c : Nat} {xs : List Int} (h : ∀ j, j < xs.length → w.cell? ⟨b, off + j, none⟩ = some (.int .i64 (xs.getD j 0))) (h1 : xs.length ≤ c) (h2 : c ≤ maxLen) {i : Nat} (hi : i < xs.length) :
    Ints w (.slice (some ⟨b, off + i, none⟩) (xs.length - i) (c - i)) (xs.drop i) := by
  have hl : (xs.drop i).length = xs.length - i := List.length_drop
  refine .inr ⟨by omega, b, off + i, c - i, by rw [hl], by omega, by omega, fun j hj => ?_⟩
  rw [Nat.add_assoc, h (i + j) (by omega)]
  simp [List.getD]
end Go.Proofs.YtkcffdanhklphaaGreatDoor
