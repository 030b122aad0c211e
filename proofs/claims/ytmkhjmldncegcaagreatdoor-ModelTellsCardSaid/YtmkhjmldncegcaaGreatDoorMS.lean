/-
  PLAIN: bounds of the document's model, by those of the program's.
-/
import Derived.Test.YtmkhjmldncegcaaGreatDoorMR
import Derived.Test.YtmkhjmldncegcaaGreatDoorMB
import Derived.Test.YtmkhjmldncegcaaGreatDoorMD
import Derived.Laws.StructEq
set_option linter.unusedVariables false
namespace Go.Proofs.YtmkhjmldncegcaaGreatDoor
open Go

theorem flat_len : ∀ {m : List (S × List S)} {c : Nat}, (∀ p ∈ m, p.2.length ≤ c) → (flat m).length ≤ c * m.length
  | [], c, _ => by simp [flat]
  | p :: r, c, h => by
    rw [flat_cons, List.length_append, List.length_map, List.length_cons]
    have h1 := h p (by simp)
    have h2 := flat_len (m := r) (c := c) fun q hq => h q (by simp [hq])
    rw [Nat.mul_add, Nat.mul_one]
    omega
theorem ref_bounds {A : ModA} {R : RefA} {m : Nat} (h : Eqv A R) (hs : Sound A m) : 0 < R.l.length ∧ R.l.length ≤ 5 ∧ ∀ k, k < R.l.length → (atR R k).e.length ≤ 12 * m := by
  refine ⟨?_, ?_, fun k hk => ?_⟩
  · obtain ⟨d, hd, _⟩ := place_at h.head
    exact (List.getElem?_eq_some_iff.1 hd).1
  · rw [← h.len]; exact hs.names
  · obtain ⟨d, hd⟩ : ∃ d, R.l[k]? = some d := ⟨_, List.getElem?_eq_getElem hk⟩
    have hp := place_iff h.nd hd
    rcases h.look d.name with ⟨q1, q2⟩ | ⟨B, k', q1, q2, q3, q4⟩
    · rw [hp] at q2; cases q2
    · rw [hp] at q2
      injection q2 with q2
      subst q2
      rw [q4.ents]
      have h1 := flat_len (m := B.m) (c := 12) fun p hp => (hs.vals _ _ (mget_mem q1) p hp).2
      have h2 := hs.keys _ _ (mget_mem q1)
      have h3 : 12 * B.m.length ≤ 12 * m := Nat.mul_le_mul_left _ h2
      omega
end Go.Proofs.YtmkhjmldncegcaaGreatDoor

/-
  MEMORY and WALKS: the document's model: where it lies; Short, place, key.
-/
set_option linter.unusedVariables false
set_option linter.unusedSimpArgs false
namespace Go.Proofs.YtmkhjmldncegcaaGreatDoor
open Go.RowKit Go.Maps Go.ChangeMaps Go.MapKept

/-- A row of cells of nobody's. -/
def SlF (w : World) (σ : Sig) (size : Nat) (v : Value) (n : Nat) (us : List Value) : Prop := Sl w size v n us ∧ ∀ b, v.ownBlock = some b → (σ b).1 = 0 ∧ b < w.heap.size
theorem SlF.keep {w w' : World} {σ σ' : Sig} {size n : Nat} {v : Value} {us : List Value} (h : SlF w σ size v n us) (k : Keep (fun l => l.1 = 0) σ w σ' w') : SlF w' σ' size v n us := by
  obtain ⟨⟨hl, p, c, rfl, h1, h2, h3⟩, hf⟩ := h
  refine ⟨⟨hl, p, c, rfl, h1, h2, fun h0 => ?_⟩, fun b e => ?_⟩
  · obtain ⟨b, off, rfl, hc⟩ := h3 h0
    refine ⟨b, off, rfl, fun j u hu => ?_⟩
    have hcu := hc j u hu
    rw [World.cell?_of_block (w := w) (k b (lt_of_cell hcu) (hf b rfl).1).1]
    exact hcu
  · obtain ⟨h4, hlt⟩ := hf b e
    obtain ⟨k1, k2⟩ := k b hlt h4
    refine ⟨by rw [k2]; exact h4, ?_⟩
    rcases Nat.lt_or_ge b w'.heap.size with h | h
    · exact h
    · exfalso
      rw [Array.getElem?_eq_none h, Array.getElem?_eq_getElem hlt] at k1
      cases k1
theorem SlF.ext {w w' : World} {σ : Sig} {size n : Nat} {v : Value} {us : List Value} (h : SlF w σ size v n us) (e : Ext w w') : SlF w' σ size v n us :=
  ⟨h.1.ext e, fun b hb => ⟨(h.2 b hb).1, Nat.lt_of_lt_of_le (h.2 b hb).2 e.size⟩⟩
theorem SlF.nil (w : World) (σ : Sig) (size : Nat) : SlF w σ size (.slice none 0 0) 0 [] := ⟨⟨by simp, none, 0, rfl, Nat.le_refl _, Nat.zero_le _, fun h => absurd h (Nat.lt_irrefl 0)⟩, (fun b (h : none = some b) => by cases h)⟩
theorem SlF.ofOwns {w : World} {σ : Sig} {base : Nat} {e : TypeId} {size n : Nat} {v : Value} {us : List Value} (h : w.ownsRow base e size v n us) (hσ : ∀ b, base ≤ b → (σ b).1 = 0) : SlF w σ size v n us :=
  ⟨Sl.ofOwns h, fun b hb => ⟨hσ b (h.lt b hb).1, (h.lt b hb).2⟩⟩

def EntAt (w : World) (σ : Sig) (v : Value) (e : List (S × S)) : Prop := SlF w σ 2 v e.length (entCells e)
def dbCells (L : List (DBA × Value)) : List Value := L.flatMap fun p => [encStr p.1.name, .int .i64 p.1.flags, p.2]
theorem dbCells_append (l m : List (DBA × Value)) : dbCells (l ++ m) = dbCells l ++ dbCells m := List.flatMap_append
theorem dbCells_at (L : List (DBA × Value)) : ∀ {j : Nat} {p : DBA × Value}, L[j]? = some p → (dbCells L)[j * 3]? = some (encStr p.1.name) ∧ (dbCells L)[j * 3 + 1]? = some (.int .i64 p.1.flags) ∧ (dbCells L)[j * 3 + 2]? = some p.2 := by
  induction L with
  | nil => intro j p h; simp at h
  | cons q r ih =>
    intro j p h
    have e : dbCells (q :: r) = encStr q.1.name :: .int .i64 q.1.flags :: q.2 :: dbCells r := rfl
    cases j with
    | zero => simp at h; subst h; rw [e]; simp
    | succ j =>
      have := ih (j := j) (p := p) (by simpa using h)
      rw [e, show (j + 1) * 3 = j * 3 + 1 + 1 + 1 by omega]
      simpa using this
theorem entCells_at (l : List (S × S)) : ∀ {j : Nat} {p : S × S}, l[j]? = some p → (entCells l)[j * 2]? = some (encStr p.1) ∧ (entCells l)[j * 2 + 1]? = some (encStr p.2) := by
  induction l with
  | nil => intro j p h; simp at h
  | cons q r ih =>
    intro j p h
    have e : entCells (q :: r) = encStr q.1 :: encStr q.2 :: entCells r := rfl
    cases j with
    | zero => simp at h; subst h; rw [e]; simp
    | succ j =>
      have := ih (j := j) (p := p) (by simpa using h)
      rw [e, show (j + 1) * 2 = j * 2 + 1 + 1 by omega]
      simpa using this
def DbsAt (w : World) (σ : Sig) (v : Value) (L : List (DBA × Value)) : Prop := SlF w σ 3 v L.length (dbCells L) ∧ ∀ p ∈ L, EntAt w σ p.2 p.1.e
def refCells (Lv : Value) (R : RefA) : Array Value := #[Lv, .bool R.on, encStr R.name, encStr R.ek, encStr R.ev]
structure RefIs (w : World) (σ : Sig) (i rb : Nat) (L : List (DBA × Value)) (Lv : Value) (R : RefA) : Prop where
  lab : σ rb = (i, .top)
  heap : w.heap[rb]? = some (.cells (refCells Lv R) 66 (0, 0))
  dbs : DbsAt w σ Lv L
  eq : L.map (·.1) = R.l
def RefAt (w : World) (σ : Sig) (i rb : Nat) (R : RefA) : Prop := ∃ L Lv, RefIs w σ i rb L Lv R
theorem DbsAt.keep {w w' : World} {σ σ' : Sig} {v : Value} {L : List (DBA × Value)} (h : DbsAt w σ v L) (k : Keep (fun l => l.1 = 0) σ w σ' w') : DbsAt w' σ' v L :=
  ⟨h.1.keep k, fun p hp => (h.2 p hp).keep k⟩
theorem RefIs.ext {w w' : World} {σ : Sig} {i rb : Nat} {L : List (DBA × Value)} {Lv : Value} {R : RefA} (h : RefIs w σ i rb L Lv R) (e : Ext w w') : RefIs w' σ i rb L Lv R :=
  ⟨h.lab, by rw [e.block rb (lt_heap h.heap)]; exact h.heap, h.dbs.keep (Keep.ofExt e _ σ), h.eq⟩

set_option maxHeartbeats 400000 in
theorem short1_any (s : S) (w : World) :
    Calls Tryz.prog 54 #[encStr s] w fun e w' => e = .returned (.bool (shortR s)) ∧ w' = w := by
  rw [short_eq]
  cases s with
  | nil =>
    go_enter Tryz.func54, Tryz.ntmps54
    go_wp2
    go_ret
    exact ⟨rfl, rfl⟩
  | cons a r =>
    go_enter Tryz.func54, Tryz.ntmps54
    go_wp2
    go_ret
    refine ⟨?_, rfl⟩
    have : shortB (a :: r) = decide ((r.length : Int) + 1 ≤ 8) := by unfold shortB; simp; omega
    rw [this]; rfl

/-- A place as the program tells it. -/
def plI : Option Nat → Int | some k => k | none => -1
theorem find_step {α : Type} {p : α → Bool} {l : List α} {j : Nat} (hn : ∀ k x, k < j → l[k]? = some x → p x = false) {x : α} (h : l[j]? = some x) (hp : p x = true) : l.findIdx? p = some j := by
  obtain ⟨hj, e⟩ := List.getElem?_eq_some_iff.1 h
  rw [List.findIdx?_eq_some_iff_getElem]
  refine ⟨hj, by rw [e]; exact hp, fun k hk => ?_⟩
  have := hn k l[k] hk (List.getElem?_eq_getElem (by omega))
  rw [this]; decide
theorem find_end {α : Type} {p : α → Bool} {l : List α} (hn : ∀ k x, k < l.length → l[k]? = some x → p x = false) : l.findIdx? p = none := by
  rw [List.findIdx?_eq_none_iff]
  intro x hx
  obtain ⟨k, hk, e⟩ := List.mem_iff_getElem.1 hx
  exact hn k x hk (by rw [List.getElem?_eq_getElem hk, e])
theorem not_step {α : Type} {p : α → Bool} {l : List α} {j : Nat} (hn : ∀ k x, k < j → l[k]? = some x → p x = false) {x : α} (h : l[j]? = some x) (hp : p x = false) : ∀ k y, k < j + 1 → l[k]? = some y → p y = false := by
  intro k y hk hy
  by_cases e : k = j
  · subst e; rw [h] at hy; injection hy with hy; subst hy; exact hp
  · exact hn k y (by omega) hy

set_option maxHeartbeats 4000000 in
theorem place_any (σ : Sig) (i rb : Nat) (L : List (DBA × Value)) (Lv : Value) (R : RefA) (n : S) (w : World) (hR : RefIs w σ i rb L Lv R) :
    Calls Tryz.prog 53 #[.pointer (some ⟨rb, 0, none⟩), encStr n] w fun e w' => e = .returned (.int .i64 (plI (placeR R.l n))) ∧ w' = w := by
  obtain ⟨_, hh, ⟨⟨⟨hl, p, c, rfl, h1, h2, h3⟩, _⟩, _⟩, he⟩ := hR
  have c0 := cellAt hh 0
  simp [refCells] at c0
  have HL := Lib.hid h3
  have hlen : R.l.length = L.length := by rw [← he]; simp
  have HE := Lib.hid he
  clear hh h3 he hl
  have hcap : L.length ≤ 9223372036854775807 := by unfold maxLen at h2; omega
  go_enter Tryz.func53, Tryz.ntmps53
  go_wp2_with fail
  go_loopw [5] (fun i wr => ∃ j : Nat, j ≤ L.length ∧ i = .int .i64 j ∧ wr = w ∧ ∀ k y, k < j → R.l[k]? = some y → (y.name == n) = false) (fun i _ => L.length - (intOf i).toNat)
  case atStart => exact ⟨0, by omega, rfl, rfl, fun k y hk => by omega⟩
  case round =>
    obtain ⟨j, hj, rfl, hww, hnot⟩ := hrel
    subst hww
    have HN := Lib.hid hnot
    clear hnot
    by_cases hlt : j < L.length
    · obtain ⟨b, off, rfl, hcells⟩ := HL.out (by omega)
      obtain ⟨q, hq⟩ : ∃ q, L[j]? = some q := ⟨_, List.getElem?_eq_getElem hlt⟩
      have hRq : R.l[j]? = some q.1 := by rw [← HE.out, List.getElem?_map, hq]; rfl
      have c1 := hcells _ _ (dbCells_at L hq).1
      have HQ := Lib.hid hRq
      clear hcells hq hRq
      cases ht : (q.1.name == n) with
      | true =>
        go_wp2_with fail
        go_ret
        exact ⟨by rw [show placeR R.l n = some j from find_step HN.out HQ.out ht]; rfl, rfl⟩
      | false =>
        go_wp2_with fail
        go_roundw
        case rel => exact ⟨j + 1, by omega, by go_num, by first | rfl | trivial, not_step HN.out HQ.out ht⟩
        case measure => simp [intOf]; omega
    · obtain rfl : j = L.length := by omega
      go_wp2_with fail
      go_ret
      exact ⟨by rw [show placeR R.l n = none from find_end (fun k x hk => HN.out k x (by omega))]; rfl, rfl⟩

/-- A database of the model, read: its cells; its entries. -/
theorem RefIs.db {w : World} {σ : Sig} {i rb : Nat} {L : List (DBA × Value)} {Lv : Value} {R : RefA} (h : RefIs w σ i rb L Lv R) {k : Nat} (hk : k < R.l.length) :
    ∃ ev b off c, Lv = .slice (some ⟨b, off, none⟩) R.l.length c ∧ L[k]? = some (atR R k, ev) ∧ R.l.length ≤ c ∧ c ≤ maxLen ∧ w.cell? ⟨rb, 0, none⟩ = some (.slice (some ⟨b, off, none⟩) R.l.length c) ∧
      w.cell? ⟨b, off + k * 3, none⟩ = some (encStr (atR R k).name) ∧ w.cell? ⟨b, off + k * 3 + 1, none⟩ = some (.int .i64 (atR R k).flags) ∧ w.cell? ⟨b, off + k * 3 + 2, none⟩ = some ev ∧ EntAt w σ ev (atR R k).e := by
  obtain ⟨_, hh, ⟨⟨⟨hl, p, c, rfl, h1, h2, h3⟩, _⟩, h4⟩, he⟩ := h
  have hlen : R.l.length = L.length := by rw [← he]; simp
  obtain ⟨b, off, rfl, hc⟩ := h3 (by omega)
  obtain ⟨q, hq⟩ : ∃ q, L[k]? = some q := ⟨_, List.getElem?_eq_getElem (by omega)⟩
  have hRq : R.l[k]? = some q.1 := by rw [← he, List.getElem?_map, hq]; rfl
  have ha := at_some hRq
  have hcs := dbCells_at L hq
  have c0 := cellAt hh 0
  simp [refCells] at c0
  rw [ha, hlen]
  exact ⟨q.2, b, off, c, rfl, hq, h1, h2, c0, hc _ _ hcs.1, by rw [Nat.add_assoc]; exact hc _ _ hcs.2.1, by rw [Nat.add_assoc]; exact hc _ _ hcs.2.2, h4 q (List.mem_of_getElem? hq)⟩

set_option maxHeartbeats 4000000 in
theorem key_any (σ : Sig) (i rb : Nat) (L : List (DBA × Value)) (Lv : Value) (R : RefA) (k : Nat) (key : S) (w : World) (hR : RefIs w σ i rb L Lv R) (hk : k < R.l.length) :
    Calls Tryz.prog 55 #[.pointer (some ⟨rb, 0, none⟩), .int .i64 k, encStr key] w fun e w' => e = .returned (.int .i64 (plI (keyR (atR R k).e key))) ∧ w' = w := by
  obtain ⟨ev, b, off, c, rfl, _, h1, h2, c0, c1, c2, c3, ⟨⟨hl, p, c', rfl, g1, g2, g3⟩, _⟩⟩ := hR.db hk
  generalize hEe : (atR R k).e = E at *
  generalize hn : R.l.length = m at *
  have HL := Lib.hid g3
  clear hR g3 hl c1 c2 hEe hn
  have hcap : E.length ≤ 9223372036854775807 := by unfold maxLen at g2; omega
  go_enter Tryz.func55, Tryz.ntmps55
  go_wp2_with fail
  go_loopw [7] (fun i wr => ∃ j : Nat, j ≤ E.length ∧ i = .int .i64 j ∧ wr = w ∧ ∀ k y, k < j → E[k]? = some y → (y.1 == key) = false) (fun i _ => E.length - (intOf i).toNat)
  case atStart => exact ⟨0, by omega, rfl, rfl, fun k y hk => by omega⟩
  case round =>
    obtain ⟨j, hj, rfl, hww, hnot⟩ := hrel
    subst hww
    have HN := Lib.hid hnot
    clear hnot
    by_cases hlt : j < E.length
    · obtain ⟨b2, off2, rfl, hcells⟩ := HL.out (by omega)
      obtain ⟨q, hq⟩ : ∃ q, E[j]? = some q := ⟨_, List.getElem?_eq_getElem hlt⟩
      have d1 := hcells _ _ (entCells_at E hq).1
      have HQ := Lib.hid hq
      clear hcells hq
      cases ht : (q.1 == key) with
      | true =>
        go_wp2_with fail
        go_ret
        exact ⟨by rw [show keyR E key = some j from find_step HN.out HQ.out ht]; rfl, rfl⟩
      | false =>
        go_wp2_with fail
        go_roundw
        case rel => exact ⟨j + 1, by omega, by go_num, by first | rfl | trivial, not_step HN.out HQ.out ht⟩
        case measure => simp [intOf]; omega
    · obtain rfl : j = E.length := by omega
      go_wp2_with fail
      go_ret
      exact ⟨by rw [show keyR E key = none from find_end (fun k x hk => HN.out k x (by omega))]; rfl, rfl⟩
end Go.Proofs.YtmkhjmldncegcaaGreatDoor

/-
  WALKS: the document's model: find, named, get.
-/
set_option linter.unusedVariables false
set_option linter.unusedSimpArgs false
namespace Go.Proofs.YtmkhjmldncegcaaGreatDoor
open Go.RowKit Go.Maps Go.ChangeMaps Go.MapKept

theorem findR_some {R : RefA} {n : S} {k : Nat} (h : placeR R.l n = some k) : findR R n = (some k, 0) := by unfold findR; rw [h]
theorem findR_none {R : RefA} {n : S} (h : placeR R.l n = none) : findR R n = if shortR n = false then (none, 22) else if (keyR (atR R 0).e n).isSome then (none, 23) else (none, 21) := by unfold findR; rw [h]
theorem plI_ge (k : Nat) : decide ((0 : Int) ≤ ((k : Nat) : Int)) = true := decide_eq_true (by omega)

set_option maxHeartbeats 4000000 in
theorem findr_any (σ : Sig) (i rb : Nat) (L : List (DBA × Value)) (Lv : Value) (R : RefA) (n : S) (w : World) (hR : RefIs w σ i rb L Lv R) (hl : 0 < R.l.length) :
    Calls Tryz.prog 25 #[.pointer (some ⟨rb, 0, none⟩), encStr n] w fun e w' => e = .returned (.tuple #[.int .i64 (plI (findR R n).1), .int .i64 (findR R n).2]) ∧ w' = w := by
  have HP := Lib.hid (place_any σ i rb L Lv R n w hR)
  have HK := Lib.hid (key_any σ i rb L Lv R 0 n w hR hl)
  clear hR hl
  cases hp : placeR R.l n with
  | some k =>
    rw [findR_some hp]
    have hk := plI_ge k
    rw [hp] at HP
    simp only [plI] at HP ⊢
    go_enter Tryz.func25, Tryz.ntmps25
    go_wp2_with (first | (go_at_call 53; refine HP.out.mono ?_; rintro e w' ⟨rfl, rfl⟩) | fail)
    go_ret2
    exact ⟨rfl, rfl⟩
  | none =>
    rw [findR_none hp]
    rw [hp] at HP
    have HS := Lib.hid (short1_any n w)
    cases hs : shortR n with
    | false =>
      rw [hs] at HS
      simp only [plI] at HP ⊢
      go_enter Tryz.func25, Tryz.ntmps25
      go_wp2_with (first | (go_at_call 53; refine HP.out.mono ?_; rintro e w' ⟨rfl, rfl⟩) | (go_at_call 54; refine HS.out.mono ?_; rintro e w' ⟨rfl, rfl⟩) | fail)
      go_ret2
      exact ⟨rfl, rfl⟩
    | true =>
      rw [hs] at HS
      cases hq : keyR (atR R 0).e n with
      | some k =>
        have hk := plI_ge k
        rw [hq] at HK
        simp only [plI] at HP HK ⊢
        go_enter Tryz.func25, Tryz.ntmps25
        go_wp2_with (first | (go_at_call 53; refine HP.out.mono ?_; rintro e w' ⟨rfl, rfl⟩) | (go_at_call 54; refine HS.out.mono ?_; rintro e w' ⟨rfl, rfl⟩) | (go_at_call 55; refine HK.out.mono ?_; rintro e w' ⟨rfl, rfl⟩) | fail)
        go_ret2
        exact ⟨rfl, rfl⟩
      | none =>
        rw [hq] at HK
        simp only [plI] at HP HK ⊢
        go_enter Tryz.func25, Tryz.ntmps25
        go_wp2_with (first | (go_at_call 53; refine HP.out.mono ?_; rintro e w' ⟨rfl, rfl⟩) | (go_at_call 54; refine HS.out.mono ?_; rintro e w' ⟨rfl, rfl⟩) | (go_at_call 55; refine HK.out.mono ?_; rintro e w' ⟨rfl, rfl⟩) | fail)
        go_ret2
        exact ⟨rfl, rfl⟩

set_option maxHeartbeats 4000000 in
theorem named_any (σ : Sig) (i rb : Nat) (L : List (DBA × Value)) (Lv : Value) (R : RefA) (k : Nat) (key : S) (w : World) (hR : RefIs w σ i rb L Lv R) :
    Calls Tryz.prog 56 #[.pointer (some ⟨rb, 0, none⟩), .int .i64 k, encStr key] w fun e w' => e = .returned (.bool (namedR R k key)) ∧ w' = w := by
  have HP := Lib.hid (place_any σ i rb L Lv R key w hR)
  clear hR
  cases k with
  | succ k =>
    have hk : (((k + 1 : Nat) : Int) == 0) = false := by simp; omega
    rw [show namedR R (k + 1) key = false from by unfold namedR; simp]
    go_enter Tryz.func56, Tryz.ntmps56
    go_wp2_with fail
    go_ret
    exact ⟨rfl, rfl⟩
  | zero =>
    cases key with
    | nil =>
      rw [show namedR R 0 [] = false from by unfold namedR; simp]
      go_enter Tryz.func56, Tryz.ntmps56
      go_wp2_with fail
      go_ret
      exact ⟨rfl, rfl⟩
    | cons a r =>
      cases hp : placeR R.l (a :: r) with
      | none =>
        rw [hp] at HP
        simp only [plI] at HP
        rw [show namedR R 0 (a :: r) = false from by unfold namedR; rw [hp]; simp]
        go_enter Tryz.func56, Tryz.ntmps56
        go_wp2_with (first | (go_at_call 53; refine HP.out.mono ?_; rintro e w' ⟨rfl, rfl⟩) | fail)
        go_ret
        exact ⟨rfl, rfl⟩
      | some j =>
        rw [hp] at HP
        simp only [plI] at HP
        have HJ : Hid (namedR R 0 (a :: r) = decide ((0 : Int) < ((j : Nat) : Int))) := by show _ = _; unfold namedR; rw [hp]; simp
        rw [HJ.out]
        go_enter Tryz.func56, Tryz.ntmps56
        go_wp2_with (first | (go_at_call 53; refine HP.out.mono ?_; rintro e w' ⟨rfl, rfl⟩) | fail)
        go_ret
        exact ⟨by first | rfl | (congr 2; simp), rfl⟩

theorem keyR_lt {e : List (S × S)} {k : S} {i : Nat} (h : keyR e k = some i) : i < e.length ∧ (e.getD i ([], [])).1 = k := by
  unfold keyR at h
  rw [List.findIdx?_eq_some_iff_getElem] at h
  obtain ⟨h1, h2, _⟩ := h
  refine ⟨h1, ?_⟩
  simpa [List.getD, List.getElem?_eq_getElem h1] using h2

set_option maxHeartbeats 4000000 in
set_option maxRecDepth 100000 in
theorem getr_any (σ : Sig) (i rb : Nat) (L : List (DBA × Value)) (Lv : Value) (R : RefA) (k : Nat) (key : S) (w : World) (hR : RefIs w σ i rb L Lv R) (hk : k < R.l.length) :
    Calls Tryz.prog 26 #[.pointer (some ⟨rb, 0, none⟩), .int .i64 k, encStr key] w fun e w' => e = .returned (repV (getR R k key)) ∧ Ext w w' := by
  have e0 : ∀ o, Ext w (w.alloc o) := fun o => (Ext.rfl' w).alloc o
  have HK := Lib.hid fun o => key_any σ i rb L Lv R k key (w.alloc o) (hR.ext (e0 o)) hk
  have HS := Lib.hid fun o => short1_any key (w.alloc o)
  have HN := Lib.hid fun o => named_any σ i rb L Lv R k key (w.alloc o) (hR.ext (e0 o))
  have hrow : ∀ a b c, (w.alloc (.cells #[a, b, c] 32)).heap[w.heap.size]? = some (.cells #[a, b, c] 32 (0, 0)) := fun a b c => heap_new w _
  obtain ⟨ev, b, off, c, rfl, _, h1, h2, c0, c1, c2, c3, hE⟩ := hR.db hk
  have HEN := Lib.hid hE
  have HROW := Lib.hid hrow
  have HE0 := Lib.hid e0
  clear hR hE hrow e0
  cases hs : shortR key with
  | false =>
    rw [show getR R k key = ⟨22, [], []⟩ from by unfold getR; rw [if_pos hs]]
    rw [hs] at HS
    clear c0 c1 c2 c3
    go_enter Tryz.func26, Tryz.ntmps26
    go_wp2_with (first | (go_at_call 55; refine (HK.out _).mono ?_; rintro e w' ⟨rfl, rfl⟩) | (go_at_call 54; refine (HS.out _).mono ?_; rintro e w' ⟨rfl, rfl⟩) | fail)
    exact bodyPost_ret (results_cell_row rfl _ _ _ _ _ _ _ rfl (HROW.out _ _ _) Tryz.underlying32 rfl reply_size) rfl ⟨rfl, HE0.out _⟩
  | true =>
    rw [hs] at HS
    cases hn : namedR R k key with
    | true =>
      rw [show getR R k key = ⟨23, [], []⟩ from by unfold getR; rw [if_neg (by rw [hs]; simp), if_pos hn]]
      rw [hn] at HN
      clear c0 c1 c2 c3
      go_enter Tryz.func26, Tryz.ntmps26
      go_wp2_with (first | (go_at_call 55; refine (HK.out _).mono ?_; rintro e w' ⟨rfl, rfl⟩) | (go_at_call 54; refine (HS.out _).mono ?_; rintro e w' ⟨rfl, rfl⟩) | (go_at_call 56; refine (HN.out _).mono ?_; rintro e w' ⟨rfl, rfl⟩) | fail)
      exact bodyPost_ret (results_cell_row rfl _ _ _ _ _ _ _ rfl (HROW.out _ _ _) Tryz.underlying32 rfl reply_size) rfl ⟨rfl, HE0.out _⟩
    | false =>
      rw [hn] at HN
      cases hq : keyR (atR R k).e key with
      | none =>
        rw [show getR R k key = ⟨21, [], []⟩ from by unfold getR; rw [if_neg (by rw [hs]; simp), if_neg (by rw [hn]; simp), hq]]
        rw [hq] at HK
        simp only [plI] at HK
        clear c0 c1 c2 c3
        go_enter Tryz.func26, Tryz.ntmps26
        go_wp2_with (first | (go_at_call 55; refine (HK.out _).mono ?_; rintro e w' ⟨rfl, rfl⟩) | (go_at_call 54; refine (HS.out _).mono ?_; rintro e w' ⟨rfl, rfl⟩) | (go_at_call 56; refine (HN.out _).mono ?_; rintro e w' ⟨rfl, rfl⟩) | fail)
        exact bodyPost_ret (results_cell_row rfl _ _ _ _ _ _ _ rfl (HROW.out _ _ _) Tryz.underlying32 rfl reply_size) rfl ⟨rfl, HE0.out _⟩
      | some i =>
        rw [show getR R k key = ⟨0, [], ((atR R k).e.getD i ([], [])).2⟩ from by unfold getR; rw [if_neg (by rw [hs]; simp), if_neg (by rw [hn]; simp), hq]]
        rw [hq] at HK
        simp only [plI] at HK
        have hi := keyR_lt hq
        have hEn := HEN.out
        generalize hEe : (atR R k).e = E at *
        generalize hm : R.l.length = m at *
        obtain ⟨⟨hl, p, c', rfl, g1, g2, g3⟩, _⟩ := hEn
        obtain ⟨b2, off2, rfl, hcells⟩ := g3 (by omega)
        obtain ⟨q, hq2⟩ : ∃ q, E[i]? = some q := ⟨_, List.getElem?_eq_getElem hi.1⟩
        have hqe : E.getD i ([], []) = q := by simp [List.getD, hq2]
        rw [hqe]
        have d1 := (HE0.out (.cells #[.int .i64 0, .string ⟨#[]⟩, .string ⟨#[]⟩] 32)).cell (hcells _ _ (entCells_at E hq2).2)
        have c0' := (HE0.out (.cells #[.int .i64 0, .string ⟨#[]⟩, .string ⟨#[]⟩] 32)).cell c0
        have c3' := (HE0.out (.cells #[.int .i64 0, .string ⟨#[]⟩, .string ⟨#[]⟩] 32)).cell c3
        have hi1 := hi.1
        have hik : ¬ ((i : Int) < 0) := by omega
        clear hi hq hqe hEe hm hcells g3 hl HEN c0 c1 c2 c3 hq2
        rw [← Nat.add_assoc] at d1
        go_enter Tryz.func26, Tryz.ntmps26
        go_wp2_with (first | (go_at_call 55; refine (HK.out _).mono ?_; rintro e w' ⟨rfl, rfl⟩) | (go_at_call 54; refine (HS.out _).mono ?_; rintro e w' ⟨rfl, rfl⟩) | (go_at_call 56; refine (HN.out _).mono ?_; rintro e w' ⟨rfl, rfl⟩) | fail)
        exact bodyPost_ret (results_cell_row rfl _ _ _ _ _ _ _ rfl (HROW.out _ _ _) Tryz.underlying32 rfl reply_size) rfl ⟨rfl, HE0.out _⟩
end Go.Proofs.YtmkhjmldncegcaaGreatDoor

/-
  WALKS: the document's model: New, Copy, set.
-/
set_option linter.unusedVariables false
set_option linter.unusedSimpArgs false
namespace Go.Proofs.YtmkhjmldncegcaaGreatDoor
open Go.RowKit Go.Maps Go.ChangeMaps Go.MapKept

theorem dbsEl : ElemOf Tryz.prog 64 63 3 48 := by
  obtain ⟨i0, hi, hz0, hz1, hz2⟩ := info_parts (show (Tryz.prog.info? 63).map (fun i => (i.zero, i.size, i.bytes)) = some (some (.agg #[.string ⟨#[]⟩, .int .i64 0, .slice none 0 0]), 3, 48) by kernel_rfl)
  exact ⟨Tryz.underlying64, ⟨i0, _, hi, hz0, hz1, hz2, rfl⟩, by omega⟩
theorem dbCells_length (L : List (DBA × Value)) : (dbCells L).length = L.length * 3 := by
  induction L with
  | nil => rfl
  | cons a r ih => show ([_, _, _] ++ dbCells r).length = _; rw [List.length_append, ih]; simp; omega
theorem db_one {w : World} {σ : Sig} {v : Value} {L : List (DBA × Value)} (h : DbsAt w σ v L) : ∀ u ∈ dbCells L, u.oneCell' = true := by
  intro u hu
  unfold dbCells at hu
  rw [List.mem_flatMap] at hu
  obtain ⟨p, hp, hu⟩ := hu
  obtain ⟨_, a, c, e, _⟩ := (h.2 p hp).1
  simp at hu
  rcases hu with rfl | rfl | rfl
  · rfl
  · rfl
  · rw [e]; rfl
theorem dbCells_set (d : DBA) (e : List (S × S)) (v : Value) : ∀ (L : List (DBA × Value)) {k : Nat} {u : Value}, L[k]? = some (d, u) → (dbCells L).set (k * 3 + 2) v = dbCells (L.set k (⟨d.name, d.flags, e⟩, v))
  | [], k, u, h => by simp at h
  | q :: r, 0, u, h => by simp at h; subst h; rfl
  | q :: r, k + 1, u, h => by
    have := dbCells_set d e v r (k := k) (u := u) (by simpa using h)
    show (encStr q.1.name :: .int .i64 q.1.flags :: q.2 :: dbCells r).set ((k + 1) * 3 + 2) v = encStr q.1.name :: .int .i64 q.1.flags :: q.2 :: dbCells (r.set k _)
    rw [← this, show (k + 1) * 3 + 2 = k * 3 + 2 + 1 + 1 + 1 by omega]
    rfl

/-- The model's own block is written: what it holds lies where it lay. -/
theorem RefIs.only {w w' : World} {σ : Sig} {i rb : Nat} {L : List (DBA × Value)} {Lv : Value} {R R' : RefA} (h : RefIs w σ i rb L Lv R) (hi : i ≠ 0) (o : Only rb w w') (hl : R'.l = R.l) (hh : w'.heap[rb]? = some (.cells (refCells Lv R') 66 (0, 0))) : RefIs w' σ i rb L Lv R' :=
  ⟨h.lab, hh, h.dbs.keep (Keep.ofOnly o (by rw [h.lab]; exact hi)), by rw [hl]; exact h.eq⟩
/-- Another owner's step. -/
theorem RefIs.moved {w w' : World} {σ σ' : Sig} {i j rb : Nat} {L : List (DBA × Value)} {Lv : Value} {R : RefA} (h : RefIs w σ i rb L Lv R) (hij : i ≠ j) (hj : j ≠ 0) (m : Moved σ j w σ' w') : RefIs w' σ' i rb L Lv R :=
  ⟨by rw [m.ext rb (lt_heap h.heap)]; exact h.lab, by rw [m.turn.block rb (lt_heap h.heap) (by rw [h.lab]; exact hij)]; exact h.heap, h.dbs.keep (Keep.ofMoved m (fun e => hj e.symm)), h.eq⟩

theorem set_row {w w1 : World} {v1 : Value} {L : List (DBA × Value)} {k : Nat} {d : DBA} {ev0 : Value} (u : Value) (hown : w1.ownsRow w.heap.size 63 3 v1 (0 + L.length) ([] ++ dbCells L)) (hgrow : w.grownBy w1 (Value.slice none 0 0).ownBlock) (hk : L[k]? = some (d, ev0)) :
    ∃ g cap, v1 = .slice (some ⟨g, 0, none⟩) L.length cap ∧ L.length ≤ cap ∧ Sl (w1.setCell ⟨g, k * 3 + 2, none⟩ u) 3 v1 L.length ((dbCells L).set (k * 3 + 2) u) ∧ Ext w (w1.setCell ⟨g, k * 3 + 2, none⟩ u) ∧ w1.cell? ⟨g, k * 3 + 2, none⟩ = some ev0 ∧ w1.frozen? ⟨g, k * 3 + 2, none⟩ = false ∧ w.heap.size ≤ g ∧ g < (w1.setCell ⟨g, k * 3 + 2, none⟩ u).heap.size := by
  rw [Nat.zero_add, List.nil_append] at hown
  have hkl : k < L.length := (List.getElem?_eq_some_iff.1 hk).1
  have hx1 : Ext w w1 := below_append (Ext.rfl' w) (Nat.le_refl _) (owns_nil w w.heap.size 63 3) hgrow
  rcases hown.2 with ⟨_, h⟩ | ⟨g, cap, cur, rfl, h1, h2, h3, _⟩
  · omega
  · obtain ⟨s1, s2, s3, s4⟩ := owns_set (w0 := w) hown (i := k * 3 + 2) (by rw [dbCells_length]; omega) u hx1 (Nat.le_refl _)
    rw [(dbCells_at L hk).2.2] at s3
    exact ⟨g, cap, rfl, h3, s1, s2, s3, s4, h1, by have := lt_heap h2; simpa [World.setCell] using this⟩

set_option maxHeartbeats 4000000 in
set_option maxRecDepth 100000 in
theorem setr_any (σ : Sig) (i rb : Nat) (L : List (DBA × Value)) (Lv : Value) (R : RefA) (k : Nat) (ev : Value) (e : List (S × S)) (w : World) (hR : RefIs w σ i rb L Lv R) (hn : Neat w σ) (hi : i ≠ 0) (hk : k < R.l.length) (hl : R.l.length ≤ 1000) (hE : EntAt w σ ev e) :
    Calls Tryz.prog 57 #[.pointer (some ⟨rb, 0, none⟩), .int .i64 k, ev] w fun r w' => r = .returned (.tuple #[]) ∧ RefAt w' σ i rb (setR R k e) ∧ Moved σ i w σ w' := by
  have HR := Lib.hid hR
  have HN := Lib.hid hn
  have HE := Lib.hid hE
  have hlen : R.l.length = L.length := by rw [← hR.eq]; simp
  obtain ⟨ev0, b, off, c, rfl, hLk, h1, h2, c0, c1, c2, c3, _⟩ := hR.db hk
  rw [hlen] at hk hl h1 c0 HR
  obtain ⟨_, p, cc, rfl, _⟩ := hE.1
  have HLK := Lib.hid hLk
  have HSL : Hid (Sl w 3 (.slice (some ⟨b, off, none⟩) L.length c) L.length (dbCells L)) := by have := hR.dbs.1.1; rw [hlen] at this; exact this
  have HON := Lib.hid (db_one hR.dbs)
  clear hR hn hE c1 c2 c3 hLk hlen
  go_enter Tryz.func57, Tryz.ntmps57
  have HRH : Hid (w.heap[rb]? = some (.cells (refCells (.slice (some ⟨b, off, none⟩) L.length c) R) 66 (0, 0))) := HR.out.heap
  have HC0 := Lib.hid c0
  go_wp2_with (at_builtin; go_loud (refine wpList_append_sl _ rfl _ _ 64 (by rfl) w.heap.size dbsEl _ 0 [] (by rfl) (owns_nil _ _ _ _) _ L.length (dbCells L) (by rfl) HSL.out HON.out (by unfold maxLen; omega) (by omega) (Nat.le_refl _) ?_; intro v1 w1 hown hgrow hat; obtain ⟨g, cap, rfl, s0, s1, s2, s3, s4, s8, s9⟩ := set_row (.slice p e.length cc) hown hgrow HLK.out; have s5 := s2.cell HC0.out; have s6 := s2.block rb (lt_heap HRH.out); rw [HRH.out] at s6; have s7 := frozenAt s6 0; have HS1 := Lib.hid s1; have HS2 := Lib.hid s2; have HS6 := Lib.hid s6; have HGB := Lib.hid s8; have HGL := Lib.hid s9; clear hown hgrow hat s1 s2 s6 s8 s9 c0))
  go_end0
  have o : Only rb (w1.setCell ⟨g, k * 3 + 2, none⟩ (.slice p e.length cc)) ((w1.setCell ⟨g, k * 3 + 2, none⟩ (.slice p e.length cc)).setCell ⟨rb, 0, none⟩ (.slice (some ⟨g, 0, none⟩) L.length cap)) := (Only.refl _ _).setCell 0 _
  have hne : (σ rb).1 ≠ 0 := by rw [HR.out.lab]; exact hi
  refine ⟨rfl, ⟨L.set k (⟨(atR R k).name, (atR R k).flags, e⟩, .slice p e.length cc), .slice (some ⟨g, 0, none⟩) L.length cap, HR.out.lab, heap_setCell_row HS6.out 0 _, ?_, ?_⟩, ?_⟩
  · refine DbsAt.keep (w := w1.setCell ⟨g, k * 3 + 2, none⟩ (.slice p e.length cc)) (σ := σ) ⟨⟨?_, ?_⟩, ?_⟩ (Keep.ofOnly o hne)
    · rw [List.length_set, ← dbCells_set _ _ _ _ HLK.out]; exact HS1.out
    · intro b' hb'
      injection hb' with hb'
      subst hb'
      exact ⟨by rw [HN.out _ HGB.out]; rfl, HGL.out⟩
    · intro q hq
      rcases List.mem_or_eq_of_mem_set hq with hq | rfl
      · exact (HR.out.dbs.2 q hq).ext HS2.out
      · exact SlF.ext HE.out HS2.out
  · show List.map _ _ = R.l.set k _
    rw [List.map_set, HR.out.eq]
  · exact (Moved.ofExt HN.out HS2.out i).trans (Moved.ofOnly (HN.out.ext HS2.out) o (by rw [HR.out.lab]))

set_option maxHeartbeats 1000000 in
theorem newr_any (σ : Sig) (i : Nat) (w : World) (hn : Neat w σ) :
    Calls Tryz.prog 8 #[] w fun r w' => ∃ rb, r = .returned (.pointer (some ⟨rb, 0, none⟩)) ∧ Ext w w' ∧ w.heap.size ≤ rb ∧ rb < w'.heap.size ∧ RefAt w' (lay σ rb (i, .top)) i rb newR := by
  go_enter Tryz.func8, Tryz.ntmps8
  go_wp2
  go_ret
  have e1 : Ext w (w.alloc (.cells #[.string ⟨#[]⟩, .int .i64 0, .slice none 0 0] 63)) := (Ext.rfl' w).alloc _
  have hs := Sl.newN w [.string ⟨#[]⟩, .int .i64 0, .slice none 0 0] 3 63 rfl (by omega)
  generalize hW : w.alloc (.cells #[.string ⟨#[]⟩, .int .i64 0, .slice none 0 0] 63) = W at *
  have hsz : W.heap.size = w.heap.size + 1 := by rw [← hW]; simp
  have e2 : Ext W (W.alloc (.cells #[.slice (some ⟨w.heap.size, 0, none⟩) 1 1, .bool false, .string ⟨#[]⟩, .string ⟨#[]⟩, .string ⟨#[]⟩] 66)) := (Ext.rfl' W).alloc _
  refine ⟨w.heap.size + 1, rfl, Ext.step e1 e2, by omega, by simp; omega, [(⟨[], 0, []⟩, .slice none 0 0)], .slice (some ⟨w.heap.size, 0, none⟩) 1 1, lay_same _ _ _, ?_, ⟨⟨?_, ?_⟩, ?_⟩, rfl⟩
  · have := heap_new W (.cells #[.slice (some ⟨w.heap.size, 0, none⟩) 1 1, .bool false, .string ⟨#[]⟩, .string ⟨#[]⟩, .string ⟨#[]⟩] 66)
    rw [hsz] at this
    exact this
  · exact hs.ext e2
  · intro b hb
    injection hb with hb
    subst hb
    have e3 : lay σ (w.heap.size + 1) (i, .top) w.heap.size = other := by rw [lay_other (by omega), hn _ (Nat.le_refl _)]
    exact ⟨by show (lay σ (w.heap.size + 1) (i, .top) w.heap.size).1 = 0; rw [e3]; rfl, by show w.heap.size < _; simp; omega⟩
  · intro q hq
    rw [List.mem_singleton] at hq
    subst hq
    exact SlF.nil _ _ _

theorem Sl.shape {w : World} {size n : Nat} {v : Value} {us : List Value} (h : Sl w size v n us) : ∃ p c, v = .slice p n c := by
  obtain ⟨_, p, c, h, _⟩ := h; exact ⟨p, c, h⟩
theorem grown_nil {w w1 : World} {o : Obj} (hg : (w.alloc o).grownBy w1 (Value.slice none 0 0).ownBlock) : Ext (w.alloc o) w1 ∧ w1.heap[w.heap.size]? = some o := by
  have hx : Ext (w.alloc o) w1 := below_append (Ext.rfl' _) (Nat.le_refl _) (owns_nil (w.alloc o) (w.alloc o).heap.size 0 1) hg
  refine ⟨hx, ?_⟩
  rw [hx.block w.heap.size (by simp)]
  exact heap_new w o
theorem copy_end {w w1 : World} {σ : Sig} {i j rb : Nat} {L : List (DBA × Value)} {Lv v1 : Value} {R : RefA} {o : Obj} (hj : j ≠ 0) (hR : RefIs w σ i rb L Lv R) (hn : Neat w σ) (ho : w1.ownsRow (w.heap.size + 1) 63 3 v1 L.length (dbCells L)) (hx : Ext (w.alloc o) w1)
    (hb : w1.heap[w.heap.size]? = some (.cells (refCells Lv R) 66 (0, 0))) :
    ∃ rc, Ending.returned (.pointer (some ⟨w.heap.size, 0, none⟩)) = .returned (.pointer (some ⟨rc, 0, none⟩)) ∧ Ext w (w1.setCell ⟨w.heap.size, 0, none⟩ v1) ∧ w.heap.size ≤ rc ∧ rc < (w1.setCell ⟨w.heap.size, 0, none⟩ v1).heap.size ∧ RefAt (w1.setCell ⟨w.heap.size, 0, none⟩ v1) (lay σ rc (j, .top)) j rc R := by
  have hx1 : Ext w w1 := Ext.step ((Ext.rfl' w).alloc o) hx
  have o2 : Only w.heap.size w1 (w1.setCell ⟨w.heap.size, 0, none⟩ v1) := (Only.refl _ _).setCell 0 _
  have hx2 : Ext w (w1.setCell ⟨w.heap.size, 0, none⟩ v1) := Ext.only hx1 o2 (Nat.le_refl _)
  refine ⟨w.heap.size, rfl, hx2, Nat.le_refl _, by rw [o2.size]; exact lt_heap hb, L, v1, lay_same _ _ _, heap_setCell_row hb 0 _, ⟨?_, fun p hp => ?_⟩, hR.eq⟩
  · refine (SlF.ofOwns ho (σ := lay σ w.heap.size (j, .top)) fun b hb => ?_).keep (Keep.ofOnly o2 (by rw [lay_same]; exact hj))
    rw [lay_other (by omega), hn _ (by omega)]; rfl
  · refine SlF.keep (hR.dbs.2 p hp) fun k hk _ => ⟨hx2.block k hk, lay_other (by omega)⟩

set_option maxHeartbeats 1000000 in
theorem copyr_any (σ : Sig) (i j rb : Nat) (R : RefA) (w : World) (hR : RefAt w σ i rb R) (hn : Neat w σ) (hj : j ≠ 0) (hl : R.l.length ≤ 1000) :
    Calls Tryz.prog 14 #[.pointer (some ⟨rb, 0, none⟩)] w fun r w' => ∃ rc, r = .returned (.pointer (some ⟨rc, 0, none⟩)) ∧ Ext w w' ∧ w.heap.size ≤ rc ∧ rc < w'.heap.size ∧ RefAt w' (lay σ rc (j, .top)) j rc R := by
  obtain ⟨L, Lv, hR⟩ := hR
  have h0 := cellAt hR.heap 0
  have h1 := cellAt hR.heap 1
  have h2 := cellAt hR.heap 2
  have h3 := cellAt hR.heap 3
  have h4 := cellAt hR.heap 4
  simp [refCells] at h0 h1 h2 h3 h4
  have hlen : R.l.length = L.length := by rw [← hR.eq]; simp
  rw [hlen] at hl
  obtain ⟨⟨_, p, c, rfl, _⟩, _⟩ := hR.dbs.1
  have HSL := Lib.hid hR.dbs.1.1
  have HON := Lib.hid (db_one hR.dbs)
  have HR := Lib.hid hR
  have HN := Lib.hid hn
  clear hR hlen hn
  go_enter Tryz.func14, Tryz.ntmps14
  have h0' : ∀ o, (w.alloc o).cell? ⟨rb, 0, none⟩ = some (.slice p L.length c) := fun o => ((Ext.rfl' w).alloc o).cell h0
  have HH1 := Lib.hid hj
  go_wp2_with (at_builtin; go_loud (refine wpList_append_sl _ rfl _ _ 64 (by rfl) (w.heap.size + 1) dbsEl _ 0 [] (by rfl) (owns_nil _ _ _ _) _ L.length (dbCells L) (by rfl) (HSL.out.ext ((Ext.rfl' w).alloc _)) HON.out (by unfold maxLen; omega) (by omega) (by simp) ?_; intro v1 w1 hown hgrow hat; rw [Nat.zero_add, List.nil_append] at hown; obtain ⟨p1, cc1, rfl⟩ := (Sl.ofOwns hown).shape; obtain ⟨hx1, hb⟩ := grown_nil hgrow; have c5 := cellAt hb 0; have f5 := frozenAt hb 0; have HO := Lib.hid hown; have HX := Lib.hid hx1; have HB := Lib.hid hb; simp at c5; clear hown hgrow hat hx1 hb))
  go_ret
  refine copy_end hj HR.out HN.out HO.out HX.out HB.out
end Go.Proofs.YtmkhjmldncegcaaGreatDoor

/-
  WALKS: SameTexts, SameEntries (of equal rows), long.
-/
set_option linter.unusedVariables false
set_option linter.unusedSimpArgs false
namespace Go.Proofs.YtmkhjmldncegcaaGreatDoor
open Go.RowKit Go.Maps Go.ChangeMaps Go.MapKept

set_option maxHeartbeats 4000000 in
set_option maxRecDepth 100000 in
theorem texts_any (xs : List S) (va vb : Value) (w : World) (ha : Sl w 1 va xs.length (xs.map encStr)) (hb : Sl w 1 vb xs.length (xs.map encStr)) :
    Calls Tryz.prog 31 #[va, vb] w fun e w' => e = .returned (.bool true) ∧ Ext w w' := by
  obtain ⟨_, p, c, rfl, h1, h2, h3⟩ := ha
  obtain ⟨_, p2, c2, rfl, g1, g2, g3⟩ := hb
  have HA := Lib.hid h3
  have HB := Lib.hid g3
  have hcap : xs.length ≤ 9223372036854775807 := by unfold maxLen at h2; omega
  clear h3 g3
  go_enter Tryz.func31, Tryz.ntmps31
  go_wp2_with fail
  go_loopw [5] (fun i wr => ∃ j : Nat, j ≤ xs.length ∧ i = .int .i64 j ∧ Ext w wr) (fun i _ => xs.length - (intOf i).toNat)
  case atStart => exact ⟨0, by omega, rfl, Ext.rfl' _⟩
  case round =>
    obtain ⟨j, hj, rfl, hew⟩ := hrel
    obtain ⟨wr, rfl⟩ : ∃ wr' : World, wr' = wr := ⟨_, rfl⟩
    have HEW := Lib.hid hew
    by_cases hlt : j < xs.length
    · obtain ⟨b, off, rfl, hc⟩ := HA.out (by omega)
      obtain ⟨b2, off2, rfl, hc2⟩ := HB.out (by omega)
      obtain ⟨x, hx⟩ : ∃ x, xs[j]? = some x := ⟨_, List.getElem?_eq_getElem hlt⟩
      have d1 := hew.cell (hc j (encStr x) (by rw [List.getElem?_map, hx]; rfl))
      have d2 := hew.cell (hc2 j (encStr x) (by rw [List.getElem?_map, hx]; rfl))
      clear hc hc2 hew
      go_wp2_with fail
      go_quiet (fail)
      have HX : Hid (Ext w (wr.drewN nq)) := Ext.step HEW.out (Ext.drewN _ _)
      go_wp2_with fail
      go_roundw
      case rel => exact ⟨j + 1, by omega, by go_num, HX.out⟩
      case measure => simp [intOf]; omega
    · obtain rfl : j = xs.length := by omega
      clear hew
      go_wp2_with fail
      go_ret
      exact ⟨rfl, HEW.out⟩

theorem ent_fields : Tryz.prog.underlying 51 = some (.struct (Tryz.prog.fieldsOf 51)) := by kernel_rfl
theorem ent_held : Tryz.prog.stoodInHeld 51 = false := by kernel_rfl
theorem run_neq_ent (x y : S) (w : World) : (binOp .neq 51 (.agg #[encStr x, encStr y]) (.agg #[encStr x, encStr y])).run Tryz.prog w = .ok (.bool false) w := by
  rw [run_neq_struct, run_equalIn_agg w 9999 _ _ _ ent_fields ent_held]
  have h3 := Tryz.underlying9
  simp [Program.fieldsOf, Tryz.underlying51, Op.eqFields, go_sem]

set_option maxHeartbeats 4000000 in
set_option maxRecDepth 100000 in
theorem ents_any (xs : List (S × S)) (va vb : Value) (w : World) (ha : Sl w 2 va xs.length (entCells xs)) (hb : Sl w 2 vb xs.length (entCells xs)) :
    Calls Tryz.prog 33 #[va, vb] w fun e w' => e = .returned (.bool true) ∧ Ext w w' := by
  obtain ⟨_, p, c, rfl, h1, h2, h3⟩ := ha
  obtain ⟨_, p2, c2, rfl, g1, g2, g3⟩ := hb
  have HA := Lib.hid h3
  have HB := Lib.hid g3
  have hcap : xs.length ≤ 9223372036854775807 := by unfold maxLen at h2; omega
  clear h3 g3
  go_enter Tryz.func33, Tryz.ntmps33
  go_wp2_with fail
  go_loopw [5] (fun i wr => ∃ j : Nat, j ≤ xs.length ∧ i = .int .i64 j ∧ Ext w wr) (fun i _ => xs.length - (intOf i).toNat)
  case atStart => exact ⟨0, by omega, rfl, Ext.rfl' _⟩
  case round =>
    obtain ⟨j, hj, rfl, hew⟩ := hrel
    obtain ⟨wr, rfl⟩ : ∃ wr' : World, wr' = wr := ⟨_, rfl⟩
    have HEW := Lib.hid hew
    by_cases hlt : j < xs.length
    · obtain ⟨b, off, rfl, hc⟩ := HA.out (by omega)
      obtain ⟨b2, off2, rfl, hc2⟩ := HB.out (by omega)
      obtain ⟨x, y, hx⟩ : ∃ x y, xs[j]? = some (x, y) := ⟨xs[j].1, xs[j].2, List.getElem?_eq_getElem hlt⟩
      have d1 := hew.cell (hc _ _ (entCells_at xs hx).1)
      have d2 := hew.cell (hc _ _ (entCells_at xs hx).2)
      have d3 := hew.cell (hc2 _ _ (entCells_at xs hx).1)
      have d4 := hew.cell (hc2 _ _ (entCells_at xs hx).2)
      rw [← Nat.add_assoc] at d2 d4
      have hne := run_neq_ent x y
      clear hc hc2 hew hx
      go_wp2_with fail
      go_quiet (fail)
      have HX : Hid (Ext w (wr.drewN nq)) := Ext.step HEW.out (Ext.drewN _ _)
      go_wp2_with fail
      go_roundw
      case rel => exact ⟨j + 1, by omega, by go_num, HX.out⟩
      case measure => simp [intOf]; omega
    · obtain rfl : j = xs.length := by omega
      clear hew
      go_wp2_with fail
      go_ret
      exact ⟨rfl, HEW.out⟩

/-- An op too long to be spoken of. -/
def longB (op : OpA) : Bool := decide (op.val.length > 1100) || (decide (op.key.length > 20) || decide (op.db.length > 20))
set_option maxHeartbeats 4000000 in
theorem long_any (op : OpA) (w : World) : Calls Tryz.prog 9 #[opV op] w fun e w' => e = .returned (.bool (longB op)) ∧ Ext w w' := by
  have hL : Hid (longB op = (decide ((1100 : Int) < (op.val.length : Int)) || (decide ((20 : Int) < (op.key.length : Int)) || decide ((20 : Int) < (op.db.length : Int))))) := by
    show _ = _
    have e : ∀ a b : Nat, decide (a > b) = decide ((b : Int) < (a : Int)) := fun a b => by rw [decide_eq_decide]; omega
    unfold longB
    rw [e, e, e]
    rfl
  unfold opV opCells
  cases k1 : decide ((1100 : Int) < (op.val.length : Int)) <;> cases k2 : decide ((20 : Int) < (op.key.length : Int)) <;> cases k3 : decide ((20 : Int) < (op.db.length : Int))
  all_goals
    rw [hL.out, k1, k2, k3]
    go_enter Tryz.func9, Tryz.ntmps9
    go_wp2
    go_ret
    exact ⟨rfl, (Ext.rfl' w).alloc _⟩
end Go.Proofs.YtmkhjmldncegcaaGreatDoor

/-
  WALKS: the document's model: del.
-/
set_option linter.unusedVariables false
set_option linter.unusedSimpArgs false
namespace Go.Proofs.YtmkhjmldncegcaaGreatDoor
open Go.RowKit Go.Maps Go.ChangeMaps Go.MapKept

/-- What a change that tells a number leaves. -/
def ChgPost (σ : Sig) (i rb : Nat) (R' : RefA) (c : Int) (w : World) (e : Ending) (w' : World) : Prop := e = .returned (.int .i64 c) ∧ RefAt w' σ i rb R' ∧ Moved σ i w σ w'
theorem chg_same {σ : Sig} {i rb : Nat} {L : List (DBA × Value)} {Lv : Value} {R : RefA} {w w' : World} {c : Int} (hR : RefIs w σ i rb L Lv R) (hn : Neat w σ) (e : Ext w w') : ChgPost σ i rb R c w (.returned (.int .i64 c)) w' :=
  ⟨rfl, ⟨L, Lv, hR.ext e⟩, Moved.ofExt hn e i⟩

def keepD (d : Bool) (key val : S) (y : S × S) : Bool := !(y.1 == key) || (d && (!(val == []) && !(y.2 == val)))
def delTo (d : Bool) (key val : S) (E : List (S × S)) (j : Nat) : List (S × S) := (E.take j).filter (keepD d key val)
theorem delTo_0 (d : Bool) (key val : S) (E : List (S × S)) : delTo d key val E 0 = [] := rfl
theorem delTo_in {d : Bool} {key val : S} {E : List (S × S)} {j : Nat} {x : S × S} (h : E[j]? = some x) (k : keepD d key val x = true) : delTo d key val E (j + 1) = delTo d key val E j ++ [x] := by
  obtain ⟨hj, e⟩ := List.getElem?_eq_some_iff.1 h
  unfold delTo
  rw [List.take_succ_eq_append_getElem hj, List.filter_append, e]
  simp [k]
theorem delTo_out {d : Bool} {key val : S} {E : List (S × S)} {j : Nat} {x : S × S} (h : E[j]? = some x) (k : keepD d key val x = false) : delTo d key val E (j + 1) = delTo d key val E j := by
  obtain ⟨hj, e⟩ := List.getElem?_eq_some_iff.1 h
  unfold delTo
  rw [List.take_succ_eq_append_getElem hj, List.filter_append, e]
  simp [k]
theorem delTo_all (d : Bool) (key val : S) (E : List (S × S)) : delTo d key val E E.length = delE d key val E := by unfold delTo; rw [List.take_length]; rfl
theorem delTo_len (d : Bool) (key val : S) (E : List (S × S)) (j : Nat) : (delTo d key val E j).length ≤ E.length := by
  unfold delTo
  exact Nat.le_trans (List.length_filter_le _ _) (by rw [List.length_take]; omega)
theorem Sl.newG (w : World) (us : List Value) (size : Nat) (e : TypeId) (g : Nat) (hl : us.length = size) (hs : 0 < size) (hg : w.heap.size = g) : Sl (w.alloc (.cells us.toArray e)) size (.slice (some ⟨g, 0, none⟩) 1 1) 1 us := by
  subst hg; exact Sl.newN w us size e hl hs
theorem EntRel.at {w1 wr : World} {σ : Sig} {l : List (S × S)} {v : Value} (h : EntRel w1 l v wr) (hn : Neat w1 σ) : EntAt wr σ v l :=
  SlF.ofOwns h.1 fun b hb => by rw [hn b hb]; rfl
theorem EntRel.more2 {w1 wr w2 : World} {l : List (S × S)} {k x : S} {v v' : Value} {o : Obj} {e : TypeId} (h : EntRel w1 l v wr)
    (ho : w2.ownsRow w1.heap.size 51 2 v' (l.length + 1) (entCells l ++ entCells [(k, x)])) (hg : ((wr.alloc o).alloc (.cells #[encStr k, encStr x] e)).grownBy w2 v.ownBlock) : EntRel w1 (l ++ [(k, x)]) v' w2 := by
  refine ⟨by rw [entCells_append]; simpa using ho, ?_⟩
  exact below_append ((h.2.alloc _).alloc _) (by have := h.2.size; simp; omega) ((h.1.alloc _).alloc _) hg


set_option maxHeartbeats 8000000 in
set_option maxRecDepth 100000 in
theorem delr_err (σ : Sig) (i rb : Nat) (L : List (DBA × Value)) (Lv : Value) (R : RefA) (k : Nat) (op : OpA) (w : World) (hR : RefIs w σ i rb L Lv R) (hn : Neat w σ) (hi : i ≠ 0) (hk : k < R.l.length) (hl : R.l.length ≤ 1000) (he : (atR R k).e.length ≤ 100000) (hbad : shortR op.key = false ∨ (shortR op.key = true ∧ (namedR R k op.key = true ∨ (namedR R k op.key = false ∧ keyR (atR R k).e op.key = none)))) :
    Calls Tryz.prog 28 #[.pointer (some ⟨rb, 0, none⟩), .int .i64 k, opV op] w (ChgPost σ i rb (delR R k op).1 (delR R k op).2 w) := by
  have e0 : ∀ o, Ext w (w.alloc o) := fun o => (Ext.rfl' w).alloc o
  have HK := Lib.hid fun o => key_any σ i rb L Lv R k op.key (w.alloc o) (hR.ext (e0 o)) hk
  have HS := Lib.hid fun o => short1_any op.key (w.alloc o)
  have HN := Lib.hid fun o => named_any σ i rb L Lv R k op.key (w.alloc o) (hR.ext (e0 o))
  have HRW := Lib.hid hR
  have HNT := Lib.hid hn
  have HE0 := Lib.hid e0
  obtain ⟨ev, b, off, c, rfl, _, h1, h2, c0, c1, c2, c3, hE⟩ := hR.db hk
  have HEN := Lib.hid hE
  obtain ⟨pe, ce, rfl⟩ := hE.1.shape
  have c0' := (HE0.out (.cells (opCells op) 30)).cell c0
  have c2' := (HE0.out (.cells (opCells op) 30)).cell c2
  unfold opCells at c0' c2'
  unfold opV opCells
  clear hR hn hE e0 c0 c1 c2 c3
  have HD : Hid (delR R k op = (R, (delR R k op).2)) := by
    show _ = _
    unfold delR
    rcases hbad with hs | ⟨hs, hn | ⟨hn, hq⟩⟩
    · simp only [hs, if_true]
    · simp only [hs, hn, if_true, if_false, Bool.true_eq_false]
    · simp only [hs, hn, hq, if_true, if_false, Bool.true_eq_false, Bool.false_eq_true]
  rw [HD.out]
  rcases hbad with hs | ⟨hs, hn | ⟨hn, hq⟩⟩
  · rw [show (delR R k op).2 = 22 from by unfold delR; simp only [hs, if_true]]
    rw [hs] at HS
    go_enter Tryz.func28, Tryz.ntmps28
    go_wp2_with (first | (go_at_call 55; refine (HK.out _).mono ?_; rintro e w' ⟨rfl, rfl⟩) | (go_at_call 54; refine (HS.out _).mono ?_; rintro e w' ⟨rfl, rfl⟩) | (go_at_call 56; refine (HN.out _).mono ?_; rintro e w' ⟨rfl, rfl⟩) | fail)
    go_ret
    exact chg_same HRW.out HNT.out (HE0.out _)
  · rw [show (delR R k op).2 = 23 from by unfold delR; simp only [hs, hn, if_true, if_false, Bool.true_eq_false]]
    rw [hs] at HS
    rw [hn] at HN
    go_enter Tryz.func28, Tryz.ntmps28
    go_wp2_with (first | (go_at_call 55; refine (HK.out _).mono ?_; rintro e w' ⟨rfl, rfl⟩) | (go_at_call 54; refine (HS.out _).mono ?_; rintro e w' ⟨rfl, rfl⟩) | (go_at_call 56; refine (HN.out _).mono ?_; rintro e w' ⟨rfl, rfl⟩) | fail)
    go_ret
    exact chg_same HRW.out HNT.out (HE0.out _)
  · rw [show (delR R k op).2 = 21 from by unfold delR; simp only [hs, hn, hq, if_true, if_false, Bool.true_eq_false, Bool.false_eq_true]]
    rw [hs] at HS
    rw [hn] at HN
    rw [hq] at HK
    simp only [plI] at HK
    go_enter Tryz.func28, Tryz.ntmps28
    go_wp2_with (first | (go_at_call 55; refine (HK.out _).mono ?_; rintro e w' ⟨rfl, rfl⟩) | (go_at_call 54; refine (HS.out _).mono ?_; rintro e w' ⟨rfl, rfl⟩) | (go_at_call 56; refine (HN.out _).mono ?_; rintro e w' ⟨rfl, rfl⟩) | fail)
    go_quiet (fail)
    go_wp2_with fail
    go_ret
    exact chg_same HRW.out HNT.out (Ext.step (HE0.out _) (Ext.drewN _ _))


set_option maxHeartbeats 8000000 in
set_option maxRecDepth 100000 in
theorem delr_c1 (σ : Sig) (i rb : Nat) (L : List (DBA × Value)) (Lv : Value) (R : RefA) (k : Nat) (kind : Int) (db key : S) (flags nn : Int) (w : World) (hR : RefIs w σ i rb L Lv R) (hn : Neat w σ) (hi : i ≠ 0) (hk : k < R.l.length) (hl : R.l.length ≤ 1000) (he : (atR R k).e.length ≤ 100000) (i0 : Nat) (hs : shortR key = true) (hnm : namedR R k key = false) (hq : keyR (atR R k).e key = some i0) (hd : ((atR R k).flags == 1) = true) :
    Calls Tryz.prog 28 #[.pointer (some ⟨rb, 0, none⟩), .int .i64 k, opV ⟨kind, db, key, [], flags, nn⟩] w (ChgPost σ i rb (delR R k ⟨kind, db, key, [], flags, nn⟩).1 (delR R k ⟨kind, db, key, [], flags, nn⟩).2 w) := by
  have e0 : ∀ o, Ext w (w.alloc o) := fun o => (Ext.rfl' w).alloc o
  have HK := Lib.hid fun o => key_any σ i rb L Lv R k key (w.alloc o) (hR.ext (e0 o)) hk
  have HS := Lib.hid fun o => short1_any key (w.alloc o)
  have HN := Lib.hid fun o => named_any σ i rb L Lv R k key (w.alloc o) (hR.ext (e0 o))
  have HRW := Lib.hid hR
  have HNT := Lib.hid hn
  obtain ⟨ev, b, off, c, rfl, _, h1, h2, c0, c1, c2, c3, hE⟩ := hR.db hk
  rw [hs] at HS
  rw [hnm] at HN
  rw [hq] at HK
  simp only [plI] at HK
  have hi0 := keyR_lt hq
  have HDR : Hid (delR R k ⟨kind, db, key, [], flags, nn⟩ = if (delE true key [] (atR R k).e).length = (atR R k).e.length then (R, 21) else (setR R k (delE true key [] (atR R k).e), 0)) := by
    show _ = _
    unfold delR
    have hdd : decide ((atR R k).flags = 1) = true := hd
    simp only [hs, hnm, hq, if_false, Bool.true_eq_false, Bool.false_eq_true, hdd]
    rw [if_neg (by rintro ⟨h1, h2, h3⟩; exact absurd h1 (by simp))]
  generalize delR R k ⟨kind, db, key, [], flags, nn⟩ = Z at *
  unfold opV opCells
  have HLL := Lib.hid (And.intro hk (And.intro hl he))
  generalize hEe : (atR R k).e = E at *
  generalize hFl : (atR R k).flags = fl at *
  obtain ⟨⟨hle, p0, c0x, rfl, g1, g2, g3⟩, _⟩ := hE
  obtain ⟨b2, off2, rfl, hcells⟩ := g3 (by omega)
  obtain ⟨q, hq2⟩ : ∃ q, E[i0]? = some q := ⟨_, List.getElem?_eq_getElem hi0.1⟩
  have hqe : E.getD i0 ([], []) = q := by simp [List.getD, hq2]
  try rw [hqe] at hv
  obtain ⟨q1, q2⟩ := q
  generalize hm : R.l.length = m at *
  have HX0 := Lib.hid (e0 (.cells #[.int .i64 kind, encStr db, encStr key, encStr [], .int .i64 flags, .int .i64 nn] 30))
  have d1 := HX0.out.cell (hcells _ _ (entCells_at E hq2).2)
  rw [← Nat.add_assoc] at d1
  have c0' := HX0.out.cell c0
  have c2' := HX0.out.cell c2
  have c3' := HX0.out.cell c3
  have HBX := Lib.hid (heap_new w (.cells #[.int .i64 kind, encStr db, encStr key, encStr [], .int .i64 flags, .int .i64 nn] 30))
  have HCL := Lib.hid hcells
  have hi1 := hi0.1
  have hik : decide ((i0 : Int) < 0) = false := decide_eq_false (by omega)
  have hcap : E.length ≤ 9223372036854775807 := by unfold maxLen at g2; omega
  have hb1 : (0 : Int) ≤ (i0 : Int) := by omega
  have hb2 : (i0 : Int) < (E.length : Int) := by omega
  have hb3 : (0 : Int) ≤ (k : Int) := by omega
  have hb4 : (k : Int) < (m : Int) := by omega
  have HI := Lib.hid hi
  have HC := Lib.hid (And.intro c0' c3')
  clear hR hn e0 c0 c1 c2 c3 hq hq2 hqe hnm hs hcells g3 hle hi0 he hl hi hFl hEe
  go_enter Tryz.func28, Tryz.ntmps28
  go_wp2_with (first | (go_at_call 55; refine (HK.out _).mono ?_; rintro e w' ⟨rfl, rfl⟩) | (go_at_call 54; refine (HS.out _).mono ?_; rintro e w' ⟨rfl, rfl⟩) | (go_at_call 56; refine (HN.out _).mono ?_; rintro e w' ⟨rfl, rfl⟩) | fail)
  go_quiet (fail)
  generalize hW : (World.alloc w _).drewN nq = W
  have hxw : Ext w W := by rw [← hW]; exact Ext.step HX0.out (Ext.drewN _ _)
  have hyw : Ext (w.alloc (.cells #[.int .i64 kind, encStr db, encStr key, encStr [], .int .i64 flags, .int .i64 nn] 30)) W := by rw [← hW]; exact Ext.drewN _ _
  have hbx := (hyw.block _ (lt_heap HBX.out)).trans HBX.out
  have HBX := Lib.hid hbx
  have HC := Lib.hid (And.intro (hyw.cell HC.out.1) (hyw.cell HC.out.2))
  have HXW := Lib.hid hxw
  have HNW := Lib.hid (HNT.out.ext hxw)
  clear hW HX0 hyw hbx hxw HK HS HN d1 c0' c2' c3'
  go_wp2_with fail
  go_loopw [9, 10] (fun v t wr => ∃ j : Nat, j ≤ E.length ∧ t = .int .i64 j ∧ EntRel W (delTo true key [] E j) v wr) (fun _ t _ => E.length - (intOf t).toNat)
  case atStart => exact ⟨0, by omega, rfl, EntRel.start W⟩
  case round =>
    obtain ⟨j, hj, rfl, hrr⟩ := hrel
    obtain ⟨wr, rfl⟩ : ∃ wr' : World, wr' = wr := ⟨_, rfl⟩
    have hew := hrr.2
    have a0 := hew.cell HC.out.1
    have a3 := hew.cell HC.out.2
    have HRR := Lib.hid hrr
    have HPL := Lib.hid (And.intro (delTo_len true key [] E j) HLL.out.2.2)
    clear hrr
    by_cases hlt : j < E.length
    · obtain ⟨x, y, hxy⟩ : ∃ x y, E[j]? = some (x, y) := ⟨E[j].1, E[j].2, List.getElem?_eq_getElem hlt⟩
      have d0 := (Ext.step HXW.out hew).cell (HCL.out _ _ (entCells_at E hxy).1)
      have d1 := (Ext.step HXW.out hew).cell (HCL.out _ _ (entCells_at E hxy).2)
      rw [← Nat.add_assoc] at d1
      have eal := Ext.step hew ((Ext.rfl' wr).alloc (.cells #[encStr x, encStr y] 51))
      have k2 := eal.cell ((cellAt HBX.out 2).trans rfl)
      have k3 := eal.cell ((cellAt HBX.out 3).trans rfl)
      have HXY := Lib.hid hxy
      clear hxy hew eal
      cases t1 : (x == key) with
      | false =>
        have HKP : Hid (keepD true key [] (x, y) = true) := by show _ = _; unfold keepD; simp [t1]
        have HST := Lib.hid (delTo_in HXY.out HKP.out)
        go_wp2_with (at_builtin; go_loud (refine wpList_append_sl _ rfl _ _ 47 (by rfl) W.heap.size entriesEl _ _ _ (by rfl) ((HRR.out.1.alloc _).alloc _) (.slice (some ⟨wr.heap.size + 1, 0, none⟩) 1 1) 1 (entCells [(x, y)]) (by rfl) (Sl.newG _ _ _ _ _ rfl (by omega) (by simp)) (ent_one _) (by have := HPL.out; unfold maxLen; omega) (by have := HPL.out; omega) (by have := HRR.out.2.size; simp; omega) ?_; intro v1 w2 hown hgrow hat; have K2 := Lib.hid (HRR.out.more2 hown hgrow); clear hown hgrow hat))
        go_roundw
        case rel => exact ⟨j + 1, by omega, by go_num, by rw [HST.out]; exact K2.out⟩
        case measure => simp [intOf]; omega
      | true =>
        have HKP : Hid (keepD true key [] (x, y) = false) := by show _ = _; unfold keepD; simp [t1]
        have HST := Lib.hid (delTo_out HXY.out HKP.out)
        go_wp2_with fail
        go_roundw
        case rel => exact ⟨j + 1, by omega, by go_num, by rw [HST.out]; exact ⟨owns_ext HRR.out.1 ((Ext.rfl' wr).alloc _), HRR.out.2.alloc _⟩⟩
        case measure => simp [intOf]; omega
    · obtain rfl : j = E.length := by omega
      obtain ⟨pv, cv, rfl⟩ := (Sl.ofOwns HRR.out.1).shape
      have HSET := Lib.hid (setr_any σ i rb L _ R k (.slice pv (delTo true key [] E E.length).length cv) (delTo true key [] E E.length) wr (HRW.out.ext (Ext.step HXW.out hew)) (HNT.out.ext (Ext.step HXW.out hew)) HI.out (by rw [hm]; exact HLL.out.1) (by rw [hm]; exact HLL.out.2.1) (HRR.out.at HNW.out))
      have HEX := Lib.hid (Ext.step HXW.out hew)
      rw [delTo_all] at *
      clear hew
      by_cases hln : (delE true key [] E).length = E.length
      · have HZ : Hid (Z = (R, 21)) := by show _ = _; rw [HDR.out, if_pos hln]
        have hq : (((delE true key [] E).length : Int) == (E.length : Int)) = true := by simp [hln]
        clear hln
        go_wp2_with fail
        go_ret
        rw [HZ.out]
        exact chg_same HRW.out HNT.out HEX.out
      · have HZ : Hid (Z = (setR R k (delE true key [] E), 0)) := by show _ = _; rw [HDR.out, if_neg hln]
        have hq : (((delE true key [] E).length : Int) == (E.length : Int)) = false := by rw [beq_eq_false_iff_ne]; omega
        clear hln
        go_wp2_with (first | (go_at_call 57; refine HSET.out.mono ?_; rintro e w' ⟨rfl, hA, hM⟩; have HA := Lib.hid hA; have HMV := Lib.hid hM; clear hA hM) | fail)
        go_ret
        rw [HZ.out]
        exact ⟨rfl, HA.out, Moved.afterExt HNT.out HEX.out HMV.out⟩


set_option maxHeartbeats 8000000 in
set_option maxRecDepth 100000 in
theorem delr_c2 (σ : Sig) (i rb : Nat) (L : List (DBA × Value)) (Lv : Value) (R : RefA) (k : Nat) (kind : Int) (db key : S) (flags nn : Int) (a : UInt8) (r : S) (w : World) (hR : RefIs w σ i rb L Lv R) (hn : Neat w σ) (hi : i ≠ 0) (hk : k < R.l.length) (hl : R.l.length ≤ 1000) (he : (atR R k).e.length ≤ 100000) (i0 : Nat) (hs : shortR key = true) (hnm : namedR R k key = false) (hq : keyR (atR R k).e key = some i0) (hd : ((atR R k).flags == 1) = true) :
    Calls Tryz.prog 28 #[.pointer (some ⟨rb, 0, none⟩), .int .i64 k, opV ⟨kind, db, key, a :: r, flags, nn⟩] w (ChgPost σ i rb (delR R k ⟨kind, db, key, a :: r, flags, nn⟩).1 (delR R k ⟨kind, db, key, a :: r, flags, nn⟩).2 w) := by
  have e0 : ∀ o, Ext w (w.alloc o) := fun o => (Ext.rfl' w).alloc o
  have HK := Lib.hid fun o => key_any σ i rb L Lv R k key (w.alloc o) (hR.ext (e0 o)) hk
  have HS := Lib.hid fun o => short1_any key (w.alloc o)
  have HN := Lib.hid fun o => named_any σ i rb L Lv R k key (w.alloc o) (hR.ext (e0 o))
  have HRW := Lib.hid hR
  have HNT := Lib.hid hn
  obtain ⟨ev, b, off, c, rfl, _, h1, h2, c0, c1, c2, c3, hE⟩ := hR.db hk
  rw [hs] at HS
  rw [hnm] at HN
  rw [hq] at HK
  simp only [plI] at HK
  have hi0 := keyR_lt hq
  have HDR : Hid (delR R k ⟨kind, db, key, a :: r, flags, nn⟩ = if (delE true key (a :: r) (atR R k).e).length = (atR R k).e.length then (R, 21) else (setR R k (delE true key (a :: r) (atR R k).e), 0)) := by
    show _ = _
    unfold delR
    have hdd : decide ((atR R k).flags = 1) = true := hd
    simp only [hs, hnm, hq, if_false, Bool.true_eq_false, Bool.false_eq_true, hdd]
    rw [if_neg (by rintro ⟨h1, h2, h3⟩; exact absurd h1 (by simp))]
  generalize delR R k ⟨kind, db, key, a :: r, flags, nn⟩ = Z at *
  unfold opV opCells
  have HLL := Lib.hid (And.intro hk (And.intro hl he))
  generalize hEe : (atR R k).e = E at *
  generalize hFl : (atR R k).flags = fl at *
  obtain ⟨⟨hle, p0, c0x, rfl, g1, g2, g3⟩, _⟩ := hE
  obtain ⟨b2, off2, rfl, hcells⟩ := g3 (by omega)
  obtain ⟨q, hq2⟩ : ∃ q, E[i0]? = some q := ⟨_, List.getElem?_eq_getElem hi0.1⟩
  have hqe : E.getD i0 ([], []) = q := by simp [List.getD, hq2]
  try rw [hqe] at hv
  obtain ⟨q1, q2⟩ := q
  generalize hm : R.l.length = m at *
  have HX0 := Lib.hid (e0 (.cells #[.int .i64 kind, encStr db, encStr key, encStr (a :: r), .int .i64 flags, .int .i64 nn] 30))
  have d1 := HX0.out.cell (hcells _ _ (entCells_at E hq2).2)
  rw [← Nat.add_assoc] at d1
  have c0' := HX0.out.cell c0
  have c2' := HX0.out.cell c2
  have c3' := HX0.out.cell c3
  have HBX := Lib.hid (heap_new w (.cells #[.int .i64 kind, encStr db, encStr key, encStr (a :: r), .int .i64 flags, .int .i64 nn] 30))
  have HCL := Lib.hid hcells
  have hi1 := hi0.1
  have hik : decide ((i0 : Int) < 0) = false := decide_eq_false (by omega)
  have hcap : E.length ≤ 9223372036854775807 := by unfold maxLen at g2; omega
  have hb1 : (0 : Int) ≤ (i0 : Int) := by omega
  have hb2 : (i0 : Int) < (E.length : Int) := by omega
  have hb3 : (0 : Int) ≤ (k : Int) := by omega
  have hb4 : (k : Int) < (m : Int) := by omega
  have HI := Lib.hid hi
  have HC := Lib.hid (And.intro c0' c3')
  clear hR hn e0 c0 c1 c2 c3 hq hq2 hqe hnm hs hcells g3 hle hi0 he hl hi hFl hEe
  go_enter Tryz.func28, Tryz.ntmps28
  go_wp2_with (first | (go_at_call 55; refine (HK.out _).mono ?_; rintro e w' ⟨rfl, rfl⟩) | (go_at_call 54; refine (HS.out _).mono ?_; rintro e w' ⟨rfl, rfl⟩) | (go_at_call 56; refine (HN.out _).mono ?_; rintro e w' ⟨rfl, rfl⟩) | fail)
  go_quiet (fail)
  generalize hW : (World.alloc w _).drewN nq = W
  have hxw : Ext w W := by rw [← hW]; exact Ext.step HX0.out (Ext.drewN _ _)
  have hyw : Ext (w.alloc (.cells #[.int .i64 kind, encStr db, encStr key, encStr (a :: r), .int .i64 flags, .int .i64 nn] 30)) W := by rw [← hW]; exact Ext.drewN _ _
  have hbx := (hyw.block _ (lt_heap HBX.out)).trans HBX.out
  have HBX := Lib.hid hbx
  have HC := Lib.hid (And.intro (hyw.cell HC.out.1) (hyw.cell HC.out.2))
  have HXW := Lib.hid hxw
  have HNW := Lib.hid (HNT.out.ext hxw)
  clear hW HX0 hyw hbx hxw HK HS HN d1 c0' c2' c3'
  go_wp2_with fail
  go_loopw [9, 10] (fun v t wr => ∃ j : Nat, j ≤ E.length ∧ t = .int .i64 j ∧ EntRel W (delTo true key (a :: r) E j) v wr) (fun _ t _ => E.length - (intOf t).toNat)
  case atStart => exact ⟨0, by omega, rfl, EntRel.start W⟩
  case round =>
    obtain ⟨j, hj, rfl, hrr⟩ := hrel
    obtain ⟨wr, rfl⟩ : ∃ wr' : World, wr' = wr := ⟨_, rfl⟩
    have hew := hrr.2
    have a0 := hew.cell HC.out.1
    have a3 := hew.cell HC.out.2
    have HRR := Lib.hid hrr
    have HPL := Lib.hid (And.intro (delTo_len true key (a :: r) E j) HLL.out.2.2)
    clear hrr
    by_cases hlt : j < E.length
    · obtain ⟨x, y, hxy⟩ : ∃ x y, E[j]? = some (x, y) := ⟨E[j].1, E[j].2, List.getElem?_eq_getElem hlt⟩
      have d0 := (Ext.step HXW.out hew).cell (HCL.out _ _ (entCells_at E hxy).1)
      have d1 := (Ext.step HXW.out hew).cell (HCL.out _ _ (entCells_at E hxy).2)
      rw [← Nat.add_assoc] at d1
      have eal := Ext.step hew ((Ext.rfl' wr).alloc (.cells #[encStr x, encStr y] 51))
      have k2 := eal.cell ((cellAt HBX.out 2).trans rfl)
      have k3 := eal.cell ((cellAt HBX.out 3).trans rfl)
      have HXY := Lib.hid hxy
      clear hxy hew eal
      cases t1 : (x == key) with
      | false =>
        have HKP : Hid (keepD true key (a :: r) (x, y) = true) := by show _ = _; unfold keepD; simp [t1]
        have HST := Lib.hid (delTo_in HXY.out HKP.out)
        go_wp2_with (at_builtin; go_loud (refine wpList_append_sl _ rfl _ _ 47 (by rfl) W.heap.size entriesEl _ _ _ (by rfl) ((HRR.out.1.alloc _).alloc _) (.slice (some ⟨wr.heap.size + 1, 0, none⟩) 1 1) 1 (entCells [(x, y)]) (by rfl) (Sl.newG _ _ _ _ _ rfl (by omega) (by simp)) (ent_one _) (by have := HPL.out; unfold maxLen; omega) (by have := HPL.out; omega) (by have := HRR.out.2.size; simp; omega) ?_; intro v1 w2 hown hgrow hat; have K2 := Lib.hid (HRR.out.more2 hown hgrow); clear hown hgrow hat))
        go_roundw
        case rel => exact ⟨j + 1, by omega, by go_num, by rw [HST.out]; exact K2.out⟩
        case measure => simp [intOf]; omega
      | true =>
        cases t2 : (y == a :: r) with
        | false =>
          have HKP : Hid (keepD true key (a :: r) (x, y) = true) := by show _ = _; unfold keepD; simp [t1, t2]
          have HST := Lib.hid (delTo_in HXY.out HKP.out)
          go_wp2_with (at_builtin; go_loud (refine wpList_append_sl _ rfl _ _ 47 (by rfl) W.heap.size entriesEl _ _ _ (by rfl) ((HRR.out.1.alloc _).alloc _) (.slice (some ⟨wr.heap.size + 1, 0, none⟩) 1 1) 1 (entCells [(x, y)]) (by rfl) (Sl.newG _ _ _ _ _ rfl (by omega) (by simp)) (ent_one _) (by have := HPL.out; unfold maxLen; omega) (by have := HPL.out; omega) (by have := HRR.out.2.size; simp; omega) ?_; intro v1 w2 hown hgrow hat; have K2 := Lib.hid (HRR.out.more2 hown hgrow); clear hown hgrow hat))
          go_roundw
          case rel => exact ⟨j + 1, by omega, by go_num, by rw [HST.out]; exact K2.out⟩
          case measure => simp [intOf]; omega
        | true =>
          have HKP : Hid (keepD true key (a :: r) (x, y) = false) := by show _ = _; unfold keepD; simp [t1, t2]
          have HST := Lib.hid (delTo_out HXY.out HKP.out)
          go_wp2_with fail
          go_roundw
          case rel => exact ⟨j + 1, by omega, by go_num, by rw [HST.out]; exact ⟨owns_ext HRR.out.1 ((Ext.rfl' wr).alloc _), HRR.out.2.alloc _⟩⟩
          case measure => simp [intOf]; omega
    · obtain rfl : j = E.length := by omega
      obtain ⟨pv, cv, rfl⟩ := (Sl.ofOwns HRR.out.1).shape
      have HSET := Lib.hid (setr_any σ i rb L _ R k (.slice pv (delTo true key (a :: r) E E.length).length cv) (delTo true key (a :: r) E E.length) wr (HRW.out.ext (Ext.step HXW.out hew)) (HNT.out.ext (Ext.step HXW.out hew)) HI.out (by rw [hm]; exact HLL.out.1) (by rw [hm]; exact HLL.out.2.1) (HRR.out.at HNW.out))
      have HEX := Lib.hid (Ext.step HXW.out hew)
      rw [delTo_all] at *
      clear hew
      by_cases hln : (delE true key (a :: r) E).length = E.length
      · have HZ : Hid (Z = (R, 21)) := by show _ = _; rw [HDR.out, if_pos hln]
        have hq : (((delE true key (a :: r) E).length : Int) == (E.length : Int)) = true := by simp [hln]
        clear hln
        go_wp2_with fail
        go_ret
        rw [HZ.out]
        exact chg_same HRW.out HNT.out HEX.out
      · have HZ : Hid (Z = (setR R k (delE true key (a :: r) E), 0)) := by show _ = _; rw [HDR.out, if_neg hln]
        have hq : (((delE true key (a :: r) E).length : Int) == (E.length : Int)) = false := by rw [beq_eq_false_iff_ne]; omega
        clear hln
        go_wp2_with (first | (go_at_call 57; refine HSET.out.mono ?_; rintro e w' ⟨rfl, hA, hM⟩; have HA := Lib.hid hA; have HMV := Lib.hid hM; clear hA hM) | fail)
        go_ret
        rw [HZ.out]
        exact ⟨rfl, HA.out, Moved.afterExt HNT.out HEX.out HMV.out⟩


set_option maxHeartbeats 8000000 in
set_option maxRecDepth 100000 in
theorem delr_c3 (σ : Sig) (i rb : Nat) (L : List (DBA × Value)) (Lv : Value) (R : RefA) (k : Nat) (kind : Int) (db key : S) (flags nn : Int) (w : World) (hR : RefIs w σ i rb L Lv R) (hn : Neat w σ) (hi : i ≠ 0) (hk : k < R.l.length) (hl : R.l.length ≤ 1000) (he : (atR R k).e.length ≤ 100000) (i0 : Nat) (hs : shortR key = true) (hnm : namedR R k key = false) (hq : keyR (atR R k).e key = some i0) (hd : ((atR R k).flags == 1) = false) :
    Calls Tryz.prog 28 #[.pointer (some ⟨rb, 0, none⟩), .int .i64 k, opV ⟨kind, db, key, [], flags, nn⟩] w (ChgPost σ i rb (delR R k ⟨kind, db, key, [], flags, nn⟩).1 (delR R k ⟨kind, db, key, [], flags, nn⟩).2 w) := by
  have e0 : ∀ o, Ext w (w.alloc o) := fun o => (Ext.rfl' w).alloc o
  have HK := Lib.hid fun o => key_any σ i rb L Lv R k key (w.alloc o) (hR.ext (e0 o)) hk
  have HS := Lib.hid fun o => short1_any key (w.alloc o)
  have HN := Lib.hid fun o => named_any σ i rb L Lv R k key (w.alloc o) (hR.ext (e0 o))
  have HRW := Lib.hid hR
  have HNT := Lib.hid hn
  obtain ⟨ev, b, off, c, rfl, _, h1, h2, c0, c1, c2, c3, hE⟩ := hR.db hk
  rw [hs] at HS
  rw [hnm] at HN
  rw [hq] at HK
  simp only [plI] at HK
  have hi0 := keyR_lt hq
  have HDR : Hid (delR R k ⟨kind, db, key, [], flags, nn⟩ = if (delE false key [] (atR R k).e).length = (atR R k).e.length then (R, 21) else (setR R k (delE false key [] (atR R k).e), 0)) := by
    show _ = _
    unfold delR
    have hdd : decide ((atR R k).flags = 1) = false := hd
    simp only [hs, hnm, hq, if_false, Bool.true_eq_false, Bool.false_eq_true, hdd]
    rw [if_neg (by rintro ⟨h1, h2, h3⟩; exact h2 rfl)]
  generalize delR R k ⟨kind, db, key, [], flags, nn⟩ = Z at *
  unfold opV opCells
  have HLL := Lib.hid (And.intro hk (And.intro hl he))
  generalize hEe : (atR R k).e = E at *
  generalize hFl : (atR R k).flags = fl at *
  obtain ⟨⟨hle, p0, c0x, rfl, g1, g2, g3⟩, _⟩ := hE
  obtain ⟨b2, off2, rfl, hcells⟩ := g3 (by omega)
  obtain ⟨q, hq2⟩ : ∃ q, E[i0]? = some q := ⟨_, List.getElem?_eq_getElem hi0.1⟩
  have hqe : E.getD i0 ([], []) = q := by simp [List.getD, hq2]
  try rw [hqe] at hv
  obtain ⟨q1, q2⟩ := q
  generalize hm : R.l.length = m at *
  have HX0 := Lib.hid (e0 (.cells #[.int .i64 kind, encStr db, encStr key, encStr [], .int .i64 flags, .int .i64 nn] 30))
  have d1 := HX0.out.cell (hcells _ _ (entCells_at E hq2).2)
  rw [← Nat.add_assoc] at d1
  have c0' := HX0.out.cell c0
  have c2' := HX0.out.cell c2
  have c3' := HX0.out.cell c3
  have HBX := Lib.hid (heap_new w (.cells #[.int .i64 kind, encStr db, encStr key, encStr [], .int .i64 flags, .int .i64 nn] 30))
  have HCL := Lib.hid hcells
  have hi1 := hi0.1
  have hik : decide ((i0 : Int) < 0) = false := decide_eq_false (by omega)
  have hcap : E.length ≤ 9223372036854775807 := by unfold maxLen at g2; omega
  have hb1 : (0 : Int) ≤ (i0 : Int) := by omega
  have hb2 : (i0 : Int) < (E.length : Int) := by omega
  have hb3 : (0 : Int) ≤ (k : Int) := by omega
  have hb4 : (k : Int) < (m : Int) := by omega
  have HI := Lib.hid hi
  have HC := Lib.hid (And.intro c0' c3')
  clear hR hn e0 c0 c1 c2 c3 hq hq2 hqe hnm hs hcells g3 hle hi0 he hl hi hFl hEe
  go_enter Tryz.func28, Tryz.ntmps28
  go_wp2_with (first | (go_at_call 55; refine (HK.out _).mono ?_; rintro e w' ⟨rfl, rfl⟩) | (go_at_call 54; refine (HS.out _).mono ?_; rintro e w' ⟨rfl, rfl⟩) | (go_at_call 56; refine (HN.out _).mono ?_; rintro e w' ⟨rfl, rfl⟩) | fail)
  go_quiet (fail)
  generalize hW : (World.alloc w _).drewN nq = W
  have hxw : Ext w W := by rw [← hW]; exact Ext.step HX0.out (Ext.drewN _ _)
  have hyw : Ext (w.alloc (.cells #[.int .i64 kind, encStr db, encStr key, encStr [], .int .i64 flags, .int .i64 nn] 30)) W := by rw [← hW]; exact Ext.drewN _ _
  have hbx := (hyw.block _ (lt_heap HBX.out)).trans HBX.out
  have HBX := Lib.hid hbx
  have HC := Lib.hid (And.intro (hyw.cell HC.out.1) (hyw.cell HC.out.2))
  have HXW := Lib.hid hxw
  have HNW := Lib.hid (HNT.out.ext hxw)
  clear hW HX0 hyw hbx hxw HK HS HN d1 c0' c2' c3'
  go_wp2_with fail
  go_loopw [9, 10] (fun v t wr => ∃ j : Nat, j ≤ E.length ∧ t = .int .i64 j ∧ EntRel W (delTo false key [] E j) v wr) (fun _ t _ => E.length - (intOf t).toNat)
  case atStart => exact ⟨0, by omega, rfl, EntRel.start W⟩
  case round =>
    obtain ⟨j, hj, rfl, hrr⟩ := hrel
    obtain ⟨wr, rfl⟩ : ∃ wr' : World, wr' = wr := ⟨_, rfl⟩
    have hew := hrr.2
    have a0 := hew.cell HC.out.1
    have a3 := hew.cell HC.out.2
    have HRR := Lib.hid hrr
    have HPL := Lib.hid (And.intro (delTo_len false key [] E j) HLL.out.2.2)
    clear hrr
    by_cases hlt : j < E.length
    · obtain ⟨x, y, hxy⟩ : ∃ x y, E[j]? = some (x, y) := ⟨E[j].1, E[j].2, List.getElem?_eq_getElem hlt⟩
      have d0 := (Ext.step HXW.out hew).cell (HCL.out _ _ (entCells_at E hxy).1)
      have d1 := (Ext.step HXW.out hew).cell (HCL.out _ _ (entCells_at E hxy).2)
      rw [← Nat.add_assoc] at d1
      have eal := Ext.step hew ((Ext.rfl' wr).alloc (.cells #[encStr x, encStr y] 51))
      have k2 := eal.cell ((cellAt HBX.out 2).trans rfl)
      have k3 := eal.cell ((cellAt HBX.out 3).trans rfl)
      have HXY := Lib.hid hxy
      clear hxy hew eal
      cases t1 : (x == key) with
      | false =>
        have HKP : Hid (keepD false key [] (x, y) = true) := by show _ = _; unfold keepD; simp [t1]
        have HST := Lib.hid (delTo_in HXY.out HKP.out)
        go_wp2_with (at_builtin; go_loud (refine wpList_append_sl _ rfl _ _ 47 (by rfl) W.heap.size entriesEl _ _ _ (by rfl) ((HRR.out.1.alloc _).alloc _) (.slice (some ⟨wr.heap.size + 1, 0, none⟩) 1 1) 1 (entCells [(x, y)]) (by rfl) (Sl.newG _ _ _ _ _ rfl (by omega) (by simp)) (ent_one _) (by have := HPL.out; unfold maxLen; omega) (by have := HPL.out; omega) (by have := HRR.out.2.size; simp; omega) ?_; intro v1 w2 hown hgrow hat; have K2 := Lib.hid (HRR.out.more2 hown hgrow); clear hown hgrow hat))
        go_roundw
        case rel => exact ⟨j + 1, by omega, by go_num, by rw [HST.out]; exact K2.out⟩
        case measure => simp [intOf]; omega
      | true =>
        have HKP : Hid (keepD false key [] (x, y) = false) := by show _ = _; unfold keepD; simp [t1]
        have HST := Lib.hid (delTo_out HXY.out HKP.out)
        go_wp2_with fail
        go_roundw
        case rel => exact ⟨j + 1, by omega, by go_num, by rw [HST.out]; exact ⟨owns_ext HRR.out.1 ((Ext.rfl' wr).alloc _), HRR.out.2.alloc _⟩⟩
        case measure => simp [intOf]; omega
    · obtain rfl : j = E.length := by omega
      obtain ⟨pv, cv, rfl⟩ := (Sl.ofOwns HRR.out.1).shape
      have HSET := Lib.hid (setr_any σ i rb L _ R k (.slice pv (delTo false key [] E E.length).length cv) (delTo false key [] E E.length) wr (HRW.out.ext (Ext.step HXW.out hew)) (HNT.out.ext (Ext.step HXW.out hew)) HI.out (by rw [hm]; exact HLL.out.1) (by rw [hm]; exact HLL.out.2.1) (HRR.out.at HNW.out))
      have HEX := Lib.hid (Ext.step HXW.out hew)
      rw [delTo_all] at *
      clear hew
      by_cases hln : (delE false key [] E).length = E.length
      · have HZ : Hid (Z = (R, 21)) := by show _ = _; rw [HDR.out, if_pos hln]
        have hq : (((delE false key [] E).length : Int) == (E.length : Int)) = true := by simp [hln]
        clear hln
        go_wp2_with fail
        go_ret
        rw [HZ.out]
        exact chg_same HRW.out HNT.out HEX.out
      · have HZ : Hid (Z = (setR R k (delE false key [] E), 0)) := by show _ = _; rw [HDR.out, if_neg hln]
        have hq : (((delE false key [] E).length : Int) == (E.length : Int)) = false := by rw [beq_eq_false_iff_ne]; omega
        clear hln
        go_wp2_with (first | (go_at_call 57; refine HSET.out.mono ?_; rintro e w' ⟨rfl, hA, hM⟩; have HA := Lib.hid hA; have HMV := Lib.hid hM; clear hA hM) | fail)
        go_ret
        rw [HZ.out]
        exact ⟨rfl, HA.out, Moved.afterExt HNT.out HEX.out HMV.out⟩


set_option maxHeartbeats 8000000 in
set_option maxRecDepth 100000 in
theorem delr_c4 (σ : Sig) (i rb : Nat) (L : List (DBA × Value)) (Lv : Value) (R : RefA) (k : Nat) (kind : Int) (db key : S) (flags nn : Int) (a : UInt8) (r : S) (w : World) (hR : RefIs w σ i rb L Lv R) (hn : Neat w σ) (hi : i ≠ 0) (hk : k < R.l.length) (hl : R.l.length ≤ 1000) (he : (atR R k).e.length ≤ 100000) (i0 : Nat) (hs : shortR key = true) (hnm : namedR R k key = false) (hq : keyR (atR R k).e key = some i0) (hd : ((atR R k).flags == 1) = false) (hv : (a :: r == ((atR R k).e.getD i0 ([], [])).2) = true) :
    Calls Tryz.prog 28 #[.pointer (some ⟨rb, 0, none⟩), .int .i64 k, opV ⟨kind, db, key, a :: r, flags, nn⟩] w (ChgPost σ i rb (delR R k ⟨kind, db, key, a :: r, flags, nn⟩).1 (delR R k ⟨kind, db, key, a :: r, flags, nn⟩).2 w) := by
  have e0 : ∀ o, Ext w (w.alloc o) := fun o => (Ext.rfl' w).alloc o
  have HK := Lib.hid fun o => key_any σ i rb L Lv R k key (w.alloc o) (hR.ext (e0 o)) hk
  have HS := Lib.hid fun o => short1_any key (w.alloc o)
  have HN := Lib.hid fun o => named_any σ i rb L Lv R k key (w.alloc o) (hR.ext (e0 o))
  have HRW := Lib.hid hR
  have HNT := Lib.hid hn
  obtain ⟨ev, b, off, c, rfl, _, h1, h2, c0, c1, c2, c3, hE⟩ := hR.db hk
  rw [hs] at HS
  rw [hnm] at HN
  rw [hq] at HK
  simp only [plI] at HK
  have hi0 := keyR_lt hq
  have HDR : Hid (delR R k ⟨kind, db, key, a :: r, flags, nn⟩ = if (delE false key (a :: r) (atR R k).e).length = (atR R k).e.length then (R, 21) else (setR R k (delE false key (a :: r) (atR R k).e), 0)) := by
    show _ = _
    unfold delR
    have hdd : decide ((atR R k).flags = 1) = false := hd
    simp only [hs, hnm, hq, if_false, Bool.true_eq_false, Bool.false_eq_true, hdd]
    rw [if_neg (by rintro ⟨h1, h2, h3⟩; apply h3; simpa using hv)]
  generalize delR R k ⟨kind, db, key, a :: r, flags, nn⟩ = Z at *
  unfold opV opCells
  have HLL := Lib.hid (And.intro hk (And.intro hl he))
  generalize hEe : (atR R k).e = E at *
  generalize hFl : (atR R k).flags = fl at *
  obtain ⟨⟨hle, p0, c0x, rfl, g1, g2, g3⟩, _⟩ := hE
  obtain ⟨b2, off2, rfl, hcells⟩ := g3 (by omega)
  obtain ⟨q, hq2⟩ : ∃ q, E[i0]? = some q := ⟨_, List.getElem?_eq_getElem hi0.1⟩
  have hqe : E.getD i0 ([], []) = q := by simp [List.getD, hq2]
  try rw [hqe] at hv
  obtain ⟨q1, q2⟩ := q
  generalize hm : R.l.length = m at *
  have HX0 := Lib.hid (e0 (.cells #[.int .i64 kind, encStr db, encStr key, encStr (a :: r), .int .i64 flags, .int .i64 nn] 30))
  have d1 := HX0.out.cell (hcells _ _ (entCells_at E hq2).2)
  rw [← Nat.add_assoc] at d1
  have c0' := HX0.out.cell c0
  have c2' := HX0.out.cell c2
  have c3' := HX0.out.cell c3
  have HBX := Lib.hid (heap_new w (.cells #[.int .i64 kind, encStr db, encStr key, encStr (a :: r), .int .i64 flags, .int .i64 nn] 30))
  have HCL := Lib.hid hcells
  have hi1 := hi0.1
  have hik : decide ((i0 : Int) < 0) = false := decide_eq_false (by omega)
  have hcap : E.length ≤ 9223372036854775807 := by unfold maxLen at g2; omega
  have hb1 : (0 : Int) ≤ (i0 : Int) := by omega
  have hb2 : (i0 : Int) < (E.length : Int) := by omega
  have hb3 : (0 : Int) ≤ (k : Int) := by omega
  have hb4 : (k : Int) < (m : Int) := by omega
  have HI := Lib.hid hi
  have HC := Lib.hid (And.intro c0' c3')
  clear hR hn e0 c0 c1 c2 c3 hq hq2 hqe hnm hs hcells g3 hle hi0 he hl hi hFl hEe
  go_enter Tryz.func28, Tryz.ntmps28
  go_wp2_with (first | (go_at_call 55; refine (HK.out _).mono ?_; rintro e w' ⟨rfl, rfl⟩) | (go_at_call 54; refine (HS.out _).mono ?_; rintro e w' ⟨rfl, rfl⟩) | (go_at_call 56; refine (HN.out _).mono ?_; rintro e w' ⟨rfl, rfl⟩) | fail)
  go_quiet (fail)
  generalize hW : (World.alloc w _).drewN nq = W
  have hxw : Ext w W := by rw [← hW]; exact Ext.step HX0.out (Ext.drewN _ _)
  have hyw : Ext (w.alloc (.cells #[.int .i64 kind, encStr db, encStr key, encStr (a :: r), .int .i64 flags, .int .i64 nn] 30)) W := by rw [← hW]; exact Ext.drewN _ _
  have hbx := (hyw.block _ (lt_heap HBX.out)).trans HBX.out
  have HBX := Lib.hid hbx
  have HC := Lib.hid (And.intro (hyw.cell HC.out.1) (hyw.cell HC.out.2))
  have HXW := Lib.hid hxw
  have HNW := Lib.hid (HNT.out.ext hxw)
  clear hW HX0 hyw hbx hxw HK HS HN d1 c0' c2' c3'
  go_wp2_with fail
  go_loopw [9, 10] (fun v t wr => ∃ j : Nat, j ≤ E.length ∧ t = .int .i64 j ∧ EntRel W (delTo false key (a :: r) E j) v wr) (fun _ t _ => E.length - (intOf t).toNat)
  case atStart => exact ⟨0, by omega, rfl, EntRel.start W⟩
  case round =>
    obtain ⟨j, hj, rfl, hrr⟩ := hrel
    obtain ⟨wr, rfl⟩ : ∃ wr' : World, wr' = wr := ⟨_, rfl⟩
    have hew := hrr.2
    have a0 := hew.cell HC.out.1
    have a3 := hew.cell HC.out.2
    have HRR := Lib.hid hrr
    have HPL := Lib.hid (And.intro (delTo_len false key (a :: r) E j) HLL.out.2.2)
    clear hrr
    by_cases hlt : j < E.length
    · obtain ⟨x, y, hxy⟩ : ∃ x y, E[j]? = some (x, y) := ⟨E[j].1, E[j].2, List.getElem?_eq_getElem hlt⟩
      have d0 := (Ext.step HXW.out hew).cell (HCL.out _ _ (entCells_at E hxy).1)
      have d1 := (Ext.step HXW.out hew).cell (HCL.out _ _ (entCells_at E hxy).2)
      rw [← Nat.add_assoc] at d1
      have eal := Ext.step hew ((Ext.rfl' wr).alloc (.cells #[encStr x, encStr y] 51))
      have k2 := eal.cell ((cellAt HBX.out 2).trans rfl)
      have k3 := eal.cell ((cellAt HBX.out 3).trans rfl)
      have HXY := Lib.hid hxy
      clear hxy hew eal
      cases t1 : (x == key) with
      | false =>
        have HKP : Hid (keepD false key (a :: r) (x, y) = true) := by show _ = _; unfold keepD; simp [t1]
        have HST := Lib.hid (delTo_in HXY.out HKP.out)
        go_wp2_with (at_builtin; go_loud (refine wpList_append_sl _ rfl _ _ 47 (by rfl) W.heap.size entriesEl _ _ _ (by rfl) ((HRR.out.1.alloc _).alloc _) (.slice (some ⟨wr.heap.size + 1, 0, none⟩) 1 1) 1 (entCells [(x, y)]) (by rfl) (Sl.newG _ _ _ _ _ rfl (by omega) (by simp)) (ent_one _) (by have := HPL.out; unfold maxLen; omega) (by have := HPL.out; omega) (by have := HRR.out.2.size; simp; omega) ?_; intro v1 w2 hown hgrow hat; have K2 := Lib.hid (HRR.out.more2 hown hgrow); clear hown hgrow hat))
        go_roundw
        case rel => exact ⟨j + 1, by omega, by go_num, by rw [HST.out]; exact K2.out⟩
        case measure => simp [intOf]; omega
      | true =>
        have HKP : Hid (keepD false key (a :: r) (x, y) = false) := by show _ = _; unfold keepD; simp [t1]
        have HST := Lib.hid (delTo_out HXY.out HKP.out)
        go_wp2_with fail
        go_roundw
        case rel => exact ⟨j + 1, by omega, by go_num, by rw [HST.out]; exact ⟨owns_ext HRR.out.1 ((Ext.rfl' wr).alloc _), HRR.out.2.alloc _⟩⟩
        case measure => simp [intOf]; omega
    · obtain rfl : j = E.length := by omega
      obtain ⟨pv, cv, rfl⟩ := (Sl.ofOwns HRR.out.1).shape
      have HSET := Lib.hid (setr_any σ i rb L _ R k (.slice pv (delTo false key (a :: r) E E.length).length cv) (delTo false key (a :: r) E E.length) wr (HRW.out.ext (Ext.step HXW.out hew)) (HNT.out.ext (Ext.step HXW.out hew)) HI.out (by rw [hm]; exact HLL.out.1) (by rw [hm]; exact HLL.out.2.1) (HRR.out.at HNW.out))
      have HEX := Lib.hid (Ext.step HXW.out hew)
      rw [delTo_all] at *
      clear hew
      by_cases hln : (delE false key (a :: r) E).length = E.length
      · have HZ : Hid (Z = (R, 21)) := by show _ = _; rw [HDR.out, if_pos hln]
        have hq : (((delE false key (a :: r) E).length : Int) == (E.length : Int)) = true := by simp [hln]
        clear hln
        go_wp2_with fail
        go_ret
        rw [HZ.out]
        exact chg_same HRW.out HNT.out HEX.out
      · have HZ : Hid (Z = (setR R k (delE false key (a :: r) E), 0)) := by show _ = _; rw [HDR.out, if_neg hln]
        have hq : (((delE false key (a :: r) E).length : Int) == (E.length : Int)) = false := by rw [beq_eq_false_iff_ne]; omega
        clear hln
        go_wp2_with (first | (go_at_call 57; refine HSET.out.mono ?_; rintro e w' ⟨rfl, hA, hM⟩; have HA := Lib.hid hA; have HMV := Lib.hid hM; clear hA hM) | fail)
        go_ret
        rw [HZ.out]
        exact ⟨rfl, HA.out, Moved.afterExt HNT.out HEX.out HMV.out⟩


set_option maxHeartbeats 8000000 in
set_option maxRecDepth 100000 in
theorem delr_c5 (σ : Sig) (i rb : Nat) (L : List (DBA × Value)) (Lv : Value) (R : RefA) (k : Nat) (kind : Int) (db key : S) (flags nn : Int) (a : UInt8) (r : S) (w : World) (hR : RefIs w σ i rb L Lv R) (hn : Neat w σ) (hi : i ≠ 0) (hk : k < R.l.length) (hl : R.l.length ≤ 1000) (he : (atR R k).e.length ≤ 100000) (i0 : Nat) (hs : shortR key = true) (hnm : namedR R k key = false) (hq : keyR (atR R k).e key = some i0) (hd : ((atR R k).flags == 1) = false) (hv : (a :: r == ((atR R k).e.getD i0 ([], [])).2) = false) :
    Calls Tryz.prog 28 #[.pointer (some ⟨rb, 0, none⟩), .int .i64 k, opV ⟨kind, db, key, a :: r, flags, nn⟩] w (ChgPost σ i rb (delR R k ⟨kind, db, key, a :: r, flags, nn⟩).1 (delR R k ⟨kind, db, key, a :: r, flags, nn⟩).2 w) := by
  have e0 : ∀ o, Ext w (w.alloc o) := fun o => (Ext.rfl' w).alloc o
  have HK := Lib.hid fun o => key_any σ i rb L Lv R k key (w.alloc o) (hR.ext (e0 o)) hk
  have HS := Lib.hid fun o => short1_any key (w.alloc o)
  have HN := Lib.hid fun o => named_any σ i rb L Lv R k key (w.alloc o) (hR.ext (e0 o))
  have HRW := Lib.hid hR
  have HNT := Lib.hid hn
  obtain ⟨ev, b, off, c, rfl, _, h1, h2, c0, c1, c2, c3, hE⟩ := hR.db hk
  rw [hs] at HS
  rw [hnm] at HN
  rw [hq] at HK
  simp only [plI] at HK
  have hi0 := keyR_lt hq
  have HDR : Hid (delR R k ⟨kind, db, key, a :: r, flags, nn⟩ = (R, 21)) := by
    show _ = _
    unfold delR
    simp only [hs, hnm, hq, if_false, Bool.true_eq_false, Bool.false_eq_true]
    rw [if_pos ⟨hd, by simp, fun e => by rw [e] at hv; simp at hv⟩]
  rw [HDR.out]
  unfold opV opCells
  have HLL := Lib.hid (And.intro hk (And.intro hl he))
  generalize hEe : (atR R k).e = E at *
  generalize hFl : (atR R k).flags = fl at *
  obtain ⟨⟨hle, p0, c0x, rfl, g1, g2, g3⟩, _⟩ := hE
  obtain ⟨b2, off2, rfl, hcells⟩ := g3 (by omega)
  obtain ⟨q, hq2⟩ : ∃ q, E[i0]? = some q := ⟨_, List.getElem?_eq_getElem hi0.1⟩
  have hqe : E.getD i0 ([], []) = q := by simp [List.getD, hq2]
  try rw [hqe] at hv
  obtain ⟨q1, q2⟩ := q
  generalize hm : R.l.length = m at *
  have HX0 := Lib.hid (e0 (.cells #[.int .i64 kind, encStr db, encStr key, encStr (a :: r), .int .i64 flags, .int .i64 nn] 30))
  have d1 := HX0.out.cell (hcells _ _ (entCells_at E hq2).2)
  rw [← Nat.add_assoc] at d1
  have c0' := HX0.out.cell c0
  have c2' := HX0.out.cell c2
  have c3' := HX0.out.cell c3
  have HBX := Lib.hid (heap_new w (.cells #[.int .i64 kind, encStr db, encStr key, encStr (a :: r), .int .i64 flags, .int .i64 nn] 30))
  have HCL := Lib.hid hcells
  have hi1 := hi0.1
  have hik : decide ((i0 : Int) < 0) = false := decide_eq_false (by omega)
  have hcap : E.length ≤ 9223372036854775807 := by unfold maxLen at g2; omega
  have hb1 : (0 : Int) ≤ (i0 : Int) := by omega
  have hb2 : (i0 : Int) < (E.length : Int) := by omega
  have hb3 : (0 : Int) ≤ (k : Int) := by omega
  have hb4 : (k : Int) < (m : Int) := by omega
  have HI := Lib.hid hi
  have HC := Lib.hid (And.intro c0' c3')
  clear hR hn e0 c0 c1 c2 c3 hq hq2 hqe hnm hs hcells g3 hle hi0 he hl hi hFl hEe
  go_enter Tryz.func28, Tryz.ntmps28
  go_wp2_with (first | (go_at_call 55; refine (HK.out _).mono ?_; rintro e w' ⟨rfl, rfl⟩) | (go_at_call 54; refine (HS.out _).mono ?_; rintro e w' ⟨rfl, rfl⟩) | (go_at_call 56; refine (HN.out _).mono ?_; rintro e w' ⟨rfl, rfl⟩) | fail)
  go_quiet (fail)
  go_wp2_with fail
  go_ret
  exact chg_same HRW.out HNT.out (Ext.step HX0.out (Ext.drewN _ _))


theorem delr_any (σ : Sig) (i rb : Nat) (L : List (DBA × Value)) (Lv : Value) (R : RefA) (k : Nat) (op : OpA) (w : World) (hR : RefIs w σ i rb L Lv R) (hn : Neat w σ) (hi : i ≠ 0) (hk : k < R.l.length) (hl : R.l.length ≤ 1000) (he : (atR R k).e.length ≤ 100000) :
    Calls Tryz.prog 28 #[.pointer (some ⟨rb, 0, none⟩), .int .i64 k, opV op] w (ChgPost σ i rb (delR R k op).1 (delR R k op).2 w) := by
  cases hs : shortR op.key with
  | false => exact delr_err σ i rb L Lv R k op w hR hn hi hk hl he (.inl hs)
  | true =>
    cases hnm : namedR R k op.key with
    | true => exact delr_err σ i rb L Lv R k op w hR hn hi hk hl he (.inr ⟨hs, .inl hnm⟩)
    | false =>
      cases hq : keyR (atR R k).e op.key with
      | none => exact delr_err σ i rb L Lv R k op w hR hn hi hk hl he (.inr ⟨hs, .inr ⟨hnm, hq⟩⟩)
      | some i0 =>
        obtain ⟨kind, db, key, val, flags, nn⟩ := op
        cases hd : ((atR R k).flags == 1) with
        | true =>
          cases val with
          | nil => exact delr_c1 σ i rb L Lv R k kind db key flags nn w hR hn hi hk hl he i0 hs hnm hq hd
          | cons a r => exact delr_c2 σ i rb L Lv R k kind db key flags nn a r w hR hn hi hk hl he i0 hs hnm hq hd
        | false =>
          cases val with
          | nil => exact delr_c3 σ i rb L Lv R k kind db key flags nn w hR hn hi hk hl he i0 hs hnm hq hd
          | cons a r =>
            cases hv : (a :: r == ((atR R k).e.getD i0 ([], [])).2) with
            | true => exact delr_c4 σ i rb L Lv R k kind db key flags nn a r w hR hn hi hk hl he i0 hs hnm hq hd hv
            | false => exact delr_c5 σ i rb L Lv R k kind db key flags nn a r w hR hn hi hk hl he i0 hs hnm hq hd hv

end Go.Proofs.YtmkhjmldncegcaaGreatDoor

