/-
  WALKS: the document's model: put.
-/
import Derived.Test.YtmkhjmldncegcaaGreatDoorMS
set_option linter.unusedVariables false
set_option linter.unusedSimpArgs false
namespace Go.Proofs.YtmkhjmldncegcaaGreatDoor
open Go.RowKit Go.Maps Go.ChangeMaps Go.MapKept

theorem run_eql_ent (a b c d : S) (w : World) : (binOp .eql 51 (.agg #[encStr a, encStr b]) (.agg #[encStr c, encStr d])).run Tryz.prog w = .ok (.bool ((a == c) && (b == d))) w := by
  rw [run_eql_struct, run_equalIn_agg w 9999 _ _ _ ent_fields ent_held]
  have h3 := Tryz.underlying9
  simp [Program.fieldsOf, Tryz.underlying51, Op.eqFields, go_sem]
  by_cases h : a = c <;> by_cases k : b = d <;> simp [h, k]
def cntTo (E : List (S × S)) (key : S) (j : Nat) : Nat := ((E.take j).filter fun x => x.1 == key).length
theorem cntTo_in {E : List (S × S)} {key : S} {j : Nat} {x : S × S} (h : E[j]? = some x) (k : (x.1 == key) = true) : cntTo E key (j + 1) = cntTo E key j + 1 := by
  obtain ⟨hj, e⟩ := List.getElem?_eq_some_iff.1 h
  unfold cntTo
  rw [List.take_succ_eq_append_getElem hj, List.filter_append, e]
  simp [k]
theorem cntTo_out {E : List (S × S)} {key : S} {j : Nat} {x : S × S} (h : E[j]? = some x) (k : (x.1 == key) = false) : cntTo E key (j + 1) = cntTo E key j := by
  obtain ⟨hj, e⟩ := List.getElem?_eq_some_iff.1 h
  unfold cntTo
  rw [List.take_succ_eq_append_getElem hj, List.filter_append, e]
  simp [k]
theorem cntTo_le (E : List (S × S)) (key : S) (j : Nat) : cntTo E key j ≤ E.length := Nat.le_trans (List.length_filter_le _ _) (by rw [List.length_take]; omega)
theorem cntTo_all (E : List (S × S)) (key : S) : cntTo E key E.length = cntR E key := by unfold cntTo cntR; rw [List.take_length]
def putTo (d : Bool) (x : S × S) (E : List (S × S)) (j : Nat) : List (S × S) × Bool := (E.take j).foldl (putF d x) ([], false)
theorem putTo_step {d : Bool} {x : S × S} {E : List (S × S)} {j : Nat} {y : S × S} (h : E[j]? = some y) : putTo d x E (j + 1) = putF d x (putTo d x E j) y := by
  obtain ⟨hj, e⟩ := List.getElem?_eq_some_iff.1 h
  unfold putTo
  rw [List.take_succ_eq_append_getElem hj, List.foldl_append, e]
  rfl
theorem putTo_len (d : Bool) (x : S × S) (E : List (S × S)) : ∀ j, (putTo d x E j).1.length ≤ 2 * j
  | 0 => by simp [putTo]
  | j + 1 => by
    have ih := putTo_len d x E j
    cases h : E[j]? with
    | none =>
      have := List.getElem?_eq_none_iff.1 h
      have e : putTo d x E (j + 1) = putTo d x E j := by unfold putTo; rw [List.take_of_length_le (by omega), List.take_of_length_le (by omega)]
      rw [e]; omega
    | some y =>
      rw [putTo_step h]
      unfold putF
      simp only [List.length_append]
      have h1 : (if (!(putTo d x E j).2 && cP d x y) = true then [x] else []).length ≤ 1 := by split <;> simp
      have h2 : (if (!d && y.1 == x.1) = true then [] else [y]).length ≤ 1 := by split <;> simp
      omega
theorem putTo_all (d : Bool) (x : S × S) (E : List (S × S)) : putE d x E = if (putTo d x E E.length).2 = true then (putTo d x E E.length).1 else (putTo d x E E.length).1 ++ [x] := by
  unfold putE putTo; rw [List.take_length]
theorem notx_step {E : List (S × S)} {key val : S} {j : Nat} {x y : S} (h : true = true → ∀ t y, t < j → E[t]? = some y → ((y.1 == key) && (y.2 == val)) = false) (hx : E[j]? = some (x, y)) (hn : ((x == key) && (y == val)) = false) : ∀ t y, t < j + 1 → E[t]? = some y → ((y.1 == key) && (y.2 == val)) = false := by
  intro t z ht hz
  by_cases e : t = j
  · subst e; rw [hx] at hz; injection hz with hz; subst hz; exact hn
  · exact h rfl t z (by omega) hz
theorem EntRel.moreG {w1 wr wa w2 : World} {l : List (S × S)} {k x : S} {v v' : Value} (h : EntRel w1 l v wr) (ea : Ext wr wa)
    (ho : w2.ownsRow w1.heap.size 51 2 v' (l.length + 1) (entCells l ++ entCells [(k, x)])) (hg : wa.grownBy w2 v.ownBlock) : EntRel w1 (l ++ [(k, x)]) v' w2 := by
  refine ⟨by rw [entCells_append]; simpa using ho, ?_⟩
  exact below_append (Ext.step h.2 ea) (Nat.le_trans h.2.size ea.size) (owns_ext h.1 ea) hg
theorem grown_at {w w2 : World} {base n size : Nat} {e : TypeId} {v : Value} {xs : List Value} (hown : w.ownsRow base e size v n xs) {o o' : Obj} (hg : ((w.alloc o).alloc o').grownBy w2 v.ownBlock) : w2.heap[w.heap.size]? = some o := by
  have e1 : ((w.alloc o).alloc o').heap[w.heap.size]? = some o := (((Ext.rfl' (w.alloc o)).alloc o').block w.heap.size (by simp)).trans (heap_new w o)
  rw [hg.block w.heap.size (by simp; omega) (fun e => by have := (hown.lt w.heap.size e.symm).2; omega)]
  exact e1

set_option maxHeartbeats 16000000 in
set_option maxRecDepth 100000 in
theorem putr_early (σ : Sig) (i rb : Nat) (L : List (DBA × Value)) (Lv : Value) (R : RefA) (k : Nat) (kind : Int) (db key val : S) (flags nn : Int) (w : World) (hR : RefIs w σ i rb L Lv R) (hn : Neat w σ) (hi : i ≠ 0) (hk : k < R.l.length) (hl : R.l.length ≤ 1000) (he : (atR R k).e.length ≤ 100000) (c : Int) (hc : (putR R k ⟨kind, db, key, val, flags, nn⟩) = (R, c))
    (hbad : (shortR key = false ∧ c = 22) ∨ (shortR key = true ∧ ((atR R k).flags == 1) = false ∧ decide ((1000 : Int) < (val.length : Int)) = true ∧ c = 22) ∨
      (shortR key = true ∧ ((atR R k).flags == 1) = false ∧ decide ((1000 : Int) < (val.length : Int)) = false ∧ namedR R k key = true ∧ c = 23) ∨
      (shortR key = true ∧ ((atR R k).flags == 1) = true ∧ namedR R k key = true ∧ c = 23) ∨
      (shortR key = true ∧ ((atR R k).flags == 1) = false ∧ decide ((1000 : Int) < (val.length : Int)) = false ∧ namedR R k key = false ∧ decide ((0 : Int) ≤ plI (keyR (atR R k).e key)) = true ∧ (bits .and .i64 flags 1 != 0) = true ∧ c = 20) ∨
      (shortR key = true ∧ ((atR R k).flags == 1) = true ∧ namedR R k key = false ∧ decide ((0 : Int) ≤ plI (keyR (atR R k).e key)) = true ∧ (bits .and .i64 flags 1 != 0) = true ∧ c = 20) ∨
      (shortR key = true ∧ ((atR R k).flags == 1) = true ∧ namedR R k key = false ∧ decide ((0 : Int) ≤ plI (keyR (atR R k).e key)) = false ∧ decide ((val.length : Int) < 1) = true ∧ c = 22) ∨
      (shortR key = true ∧ ((atR R k).flags == 1) = true ∧ namedR R k key = false ∧ decide ((0 : Int) ≤ plI (keyR (atR R k).e key)) = true ∧ (bits .and .i64 flags 1 != 0) = false ∧ decide ((val.length : Int) < 1) = true ∧ c = 22) ∨
      (shortR key = true ∧ ((atR R k).flags == 1) = true ∧ namedR R k key = false ∧ decide ((0 : Int) ≤ plI (keyR (atR R k).e key)) = false ∧ decide ((val.length : Int) < 1) = false ∧ decide ((12 : Int) < (val.length : Int)) = true ∧ c = 22) ∨
      (shortR key = true ∧ ((atR R k).flags == 1) = true ∧ namedR R k key = false ∧ decide ((0 : Int) ≤ plI (keyR (atR R k).e key)) = true ∧ (bits .and .i64 flags 1 != 0) = false ∧ decide ((val.length : Int) < 1) = false ∧ decide ((12 : Int) < (val.length : Int)) = true ∧ c = 22)) :
    Calls Tryz.prog 27 #[.pointer (some ⟨rb, 0, none⟩), .int .i64 k, opV ⟨kind, db, key, val, flags, nn⟩] w (ChgPost σ i rb (putR R k ⟨kind, db, key, val, flags, nn⟩).1 (putR R k ⟨kind, db, key, val, flags, nn⟩).2 w) := by
  have e0 : ∀ o, Ext w (w.alloc o) := fun o => (Ext.rfl' w).alloc o
  have HK := Lib.hid fun o => key_any σ i rb L Lv R k key (w.alloc o) (hR.ext (e0 o)) hk
  have HS := Lib.hid fun w' => short1_any key w'
  have HN := Lib.hid fun w' (e : Ext w w') => named_any σ i rb L Lv R k key w' (hR.ext e)
  have HRW := Lib.hid hR
  have HNT := Lib.hid hn
  obtain ⟨ev, b, off, c, rfl, _, h1, h2, c0, c1, c2, c3, hE⟩ := hR.db hk
  rw [hc]
  have HBAD := Lib.hid hbad
  clear hbad hc
  unfold opV opCells
  have HLL := Lib.hid (And.intro hk (And.intro hl he))
  generalize hPI : plI (keyR (atR R k).e key) = pi at *
  generalize hSH : shortR key = sh at *
  generalize hNM : namedR R k key = nm at *
  generalize hEe : (atR R k).e = E at *
  generalize hFl : (atR R k).flags = fl at *
  obtain ⟨⟨hle, p0, c0x, rfl, g1, g2, g3⟩, _⟩ := hE
  generalize hm : R.l.length = m at *
  have HX0 := Lib.hid (e0 (.cells #[.int .i64 kind, encStr db, encStr key, encStr val, .int .i64 flags, .int .i64 nn] 30))
  have c0' := HX0.out.cell c0
  have c2' := HX0.out.cell c2
  have c3' := HX0.out.cell c3
  have hcap : E.length ≤ 9223372036854775807 := by unfold maxLen at g2; omega
  have HBX := Lib.hid (heap_new w (.cells #[.int .i64 kind, encStr db, encStr key, encStr val, .int .i64 flags, .int .i64 nn] 30))
  have HG3 := Lib.hid g3
  have hb3 : (0 : Int) ≤ (k : Int) := by omega
  have hb4 : (k : Int) < (m : Int) := by omega
  have HI := Lib.hid hi
  have HC := Lib.hid (And.intro c0' c3')
  have HLE := Lib.hid he
  clear hR hn e0 c0 c1 c2 c3 hle he hl hi hFl hEe g3 hPI hSH hNM hm
  go_enter Tryz.func27, Tryz.ntmps27
  go_wp2_with (first | (go_at_call 55; refine (HK.out _).mono ?_; rintro e w' ⟨rfl, rfl⟩) | (go_at_call 54; refine (HS.out _).mono ?_; rintro e w' ⟨rfl, hww⟩; have hww := hww.symm; subst hww) | (go_at_call 56; refine (HN.out _ HWR.out).mono ?_; rintro e w' ⟨rfl, hww⟩; have hww := hww.symm; subst hww) | fail)
  generalize hW : World.alloc w _ = W at *
  have HW := Lib.hid HX0.out
  have c0 := HC.out.1
  clear hW HK c0' c2' c3'
  go_loopw [9, 10] (fun n i wr => ∃ j : Nat, j ≤ E.length ∧ n = .int .i64 (cntTo E key j) ∧ i = .int .i64 j ∧ Ext W wr) (fun _ i _ => E.length - (intOf i).toNat)
  case atStart => exact ⟨0, by omega, rfl, rfl, Ext.rfl' _⟩
  case round =>
    obtain ⟨j, hj, rfl, rfl, hew⟩ := hrel
    obtain ⟨wr, rfl⟩ : ∃ wr' : World, wr' = wr := ⟨_, rfl⟩
    have HEW := Lib.hid hew
    have a0 := hew.cell HC.out.1
    have a3 := hew.cell HC.out.2
    by_cases hlt : j < E.length
    · obtain ⟨b2, off2, rfl, hcells⟩ := HG3.out (by omega)
      obtain ⟨x, y, hxy⟩ : ∃ x y, E[j]? = some (x, y) := ⟨E[j].1, E[j].2, List.getElem?_eq_getElem hlt⟩
      have d0 := (Ext.step HX0.out hew).cell (hcells _ _ (entCells_at E hxy).1)
      have b2' := hew.cell ((cellAt HBX.out 2).trans rfl)
      have HXY := Lib.hid hxy
      have hcl := Nat.le_trans (cntTo_le E key j) HLE.out
      clear hcells hxy hew
      cases ht : (x == key) with
      | true =>
        go_wp2_with fail
        go_quiet (fail)
        have HX : Hid (Ext W (wr.drewN nq)) := Ext.step HEW.out (Ext.drewN _ _)
        go_wp2_with fail
        go_roundw
        case rel => exact ⟨j + 1, by omega, by rw [cntTo_in HXY.out ht]; go_num, by go_num, HX.out⟩
        case measure => simp [intOf]; omega
      | false =>
        go_wp2_with fail
        go_quiet (fail)
        have HX : Hid (Ext W (wr.drewN nq)) := Ext.step HEW.out (Ext.drewN _ _)
        go_wp2_with fail
        go_roundw
        case rel => exact ⟨j + 1, by omega, by rw [cntTo_out HXY.out ht], by go_num, HX.out⟩
        case measure => simp [intOf]; omega
    · obtain rfl : j = E.length := by omega
      have b2' := hew.cell ((cellAt HBX.out 2).trans rfl)
      have b3' := hew.cell ((cellAt HBX.out 3).trans rfl)
      have b4' := hew.cell ((cellAt HBX.out 4).trans rfl)
      have HWR := Lib.hid (Ext.step HX0.out hew)
      clear hew
      rcases HBAD.out with ⟨t1, rfl⟩ | ⟨t1, t2, t3, rfl⟩ | ⟨t1, t2, t3, t4, rfl⟩ | ⟨t1, t2, t3, rfl⟩ | ⟨t1, t2, t3, t4, t5, t6, rfl⟩ | ⟨t1, t2, t3, t4, t5, rfl⟩ | ⟨t1, t2, t3, t4, t5, rfl⟩ | ⟨t1, t2, t3, t4, t5, t6, rfl⟩ | ⟨t1, t2, t3, t4, t5, t6, rfl⟩ | ⟨t1, t2, t3, t4, t5, t6, t7, rfl⟩
      all_goals
        subst t1
        go_wp2_with (first | (go_at_call 55; refine (HK.out _).mono ?_; rintro e w' ⟨rfl, rfl⟩) | (go_at_call 54; refine (HS.out _).mono ?_; rintro e w' ⟨rfl, hww⟩; have hww := hww.symm; subst hww) | (go_at_call 56; refine (HN.out _ HWR.out).mono ?_; rintro e w' ⟨rfl, hww⟩; have hww := hww.symm; subst hww) | fail)
        go_ret
        exact chg_same HRW.out HNT.out HWR.out

set_option maxHeartbeats 16000000 in
set_option maxRecDepth 100000 in
theorem putr_main_fn (σ : Sig) (i rb : Nat) (L : List (DBA × Value)) (Lv : Value) (R : RefA) (k : Nat) (kind : Int) (db key val : S) (flags nn : Int) (w : World) (hR : RefIs w σ i rb L Lv R) (hn : Neat w σ) (hi : i ≠ 0) (hk : k < R.l.length) (hl : R.l.length ≤ 1000) (he : (atR R k).e.length ≤ 100000) (t1 : shortR key = true) (t2 : ((atR R k).flags == 1) = false) (t3 : decide ((1000 : Int) < (val.length : Int)) = false) (t4 : namedR R k key = false) (t5 : decide ((0 : Int) ≤ plI (keyR (atR R k).e key)) = false) (hp : putR R k ⟨kind, db, key, val, flags, nn⟩ = (setR R k (putE false (key, val) (atR R k).e), 0)) :
    Calls Tryz.prog 27 #[.pointer (some ⟨rb, 0, none⟩), .int .i64 k, opV ⟨kind, db, key, val, flags, nn⟩] w (ChgPost σ i rb (putR R k ⟨kind, db, key, val, flags, nn⟩).1 (putR R k ⟨kind, db, key, val, flags, nn⟩).2 w) := by
  have e0 : ∀ o, Ext w (w.alloc o) := fun o => (Ext.rfl' w).alloc o
  have HK := Lib.hid fun o => key_any σ i rb L Lv R k key (w.alloc o) (hR.ext (e0 o)) hk
  have HS := Lib.hid fun w' => short1_any key w'
  have HN := Lib.hid fun w' (e : Ext w w') => named_any σ i rb L Lv R k key w' (hR.ext e)
  have HRW := Lib.hid hR
  have HNT := Lib.hid hn
  obtain ⟨ev, b, off, c, rfl, _, h1, h2, c0, c1, c2, c3, hE⟩ := hR.db hk
  have HP := Lib.hid hp
  clear hp
  generalize putR R k ⟨kind, db, key, val, flags, nn⟩ = Z at *
  have HSET : Hid (∀ w3 v l, Ext w w3 → EntAt w3 σ v l → Calls Tryz.prog 57 #[.pointer (some ⟨rb, 0, none⟩), .int .i64 k, v] w3 fun r w' => r = .returned (.tuple #[]) ∧ RefAt w' σ i rb (setR R k l) ∧ Moved σ i w3 σ w') := fun w3 v l e hE => setr_any σ i rb L _ R k v l w3 (hR.ext e) (hn.ext e) hi hk hl hE
  unfold opV opCells
  have HLL := Lib.hid (And.intro hk (And.intro hl he))
  generalize hPI : plI (keyR (atR R k).e key) = pi at *
  generalize hSH : shortR key = sh at *
  generalize hNM : namedR R k key = nm at *
  generalize hEe : (atR R k).e = E at *
  generalize hFl : (atR R k).flags = fl at *
  obtain ⟨⟨hle, p0, c0x, rfl, g1, g2, g3⟩, _⟩ := hE
  generalize hm : R.l.length = m at *
  have HX0 := Lib.hid (e0 (.cells #[.int .i64 kind, encStr db, encStr key, encStr val, .int .i64 flags, .int .i64 nn] 30))
  have c0' := HX0.out.cell c0
  have c2' := HX0.out.cell c2
  have c3' := HX0.out.cell c3
  have hcap : E.length ≤ 9223372036854775807 := by unfold maxLen at g2; omega
  have HBX := Lib.hid (heap_new w (.cells #[.int .i64 kind, encStr db, encStr key, encStr val, .int .i64 flags, .int .i64 nn] 30))
  have HG3 := Lib.hid g3
  have hb3 : (0 : Int) ≤ (k : Int) := by omega
  have hb4 : (k : Int) < (m : Int) := by omega
  have HI := Lib.hid hi
  have HC := Lib.hid (And.intro c0' c3')
  have HLE := Lib.hid he
  clear hR hn e0 c0 c1 c2 c3 hle he hl hi hFl hEe g3 hPI hSH hNM hm
  go_enter Tryz.func27, Tryz.ntmps27
  go_wp2_with (first | (go_at_call 55; refine (HK.out _).mono ?_; rintro e w' ⟨rfl, rfl⟩) | (go_at_call 54; refine (HS.out _).mono ?_; rintro e w' ⟨rfl, hww⟩; have hww := hww.symm; subst hww) | (go_at_call 56; refine (HN.out _ HWR.out).mono ?_; rintro e w' ⟨rfl, hww⟩; have hww := hww.symm; subst hww) | fail)
  generalize hW : World.alloc w _ = W at *
  have HW := Lib.hid HX0.out
  have c0 := HC.out.1
  clear hW HK c0' c2' c3'
  go_loopw [9, 10] (fun n i wr => ∃ j : Nat, j ≤ E.length ∧ n = .int .i64 (cntTo E key j) ∧ i = .int .i64 j ∧ Ext W wr) (fun _ i _ => E.length - (intOf i).toNat)
  case atStart => exact ⟨0, by omega, rfl, rfl, Ext.rfl' _⟩
  case round =>
    obtain ⟨j, hj, rfl, rfl, hew⟩ := hrel
    obtain ⟨wr, rfl⟩ : ∃ wr' : World, wr' = wr := ⟨_, rfl⟩
    have HEW := Lib.hid hew
    have a0 := hew.cell HC.out.1
    have a3 := hew.cell HC.out.2
    by_cases hlt : j < E.length
    · obtain ⟨b2, off2, rfl, hcells⟩ := HG3.out (by omega)
      obtain ⟨x, y, hxy⟩ : ∃ x y, E[j]? = some (x, y) := ⟨E[j].1, E[j].2, List.getElem?_eq_getElem hlt⟩
      have d0 := (Ext.step HX0.out hew).cell (hcells _ _ (entCells_at E hxy).1)
      have b2' := hew.cell ((cellAt HBX.out 2).trans rfl)
      have HXY := Lib.hid hxy
      have hcl := Nat.le_trans (cntTo_le E key j) HLE.out
      clear hcells hxy hew
      cases ht : (x == key) with
      | true =>
        go_wp2_with fail
        go_quiet (fail)
        have HX : Hid (Ext W (wr.drewN nq)) := Ext.step HEW.out (Ext.drewN _ _)
        go_wp2_with fail
        go_roundw
        case rel => exact ⟨j + 1, by omega, by rw [cntTo_in HXY.out ht]; go_num, by go_num, HX.out⟩
        case measure => simp [intOf]; omega
      | false =>
        go_wp2_with fail
        go_quiet (fail)
        have HX : Hid (Ext W (wr.drewN nq)) := Ext.step HEW.out (Ext.drewN _ _)
        go_wp2_with fail
        go_roundw
        case rel => exact ⟨j + 1, by omega, by rw [cntTo_out HXY.out ht], by go_num, HX.out⟩
        case measure => simp [intOf]; omega
    · obtain rfl : j = E.length := by omega
      have b2' := hew.cell ((cellAt HBX.out 2).trans rfl)
      have b3' := hew.cell ((cellAt HBX.out 3).trans rfl)
      have b4' := hew.cell ((cellAt HBX.out 4).trans rfl)
      have HWR := Lib.hid (Ext.step HX0.out hew)
      clear hew
      subst t1 t4
      have hcnt : (((cntTo E key E.length : Nat) : Int)) = (cntR E key : Int) := by rw [cntTo_all]
      rw [hcnt]
      clear hcnt
      go_wp2_with (first | (go_at_call 55; refine (HK.out _).mono ?_; rintro e w' ⟨rfl, rfl⟩) | (go_at_call 54; refine (HS.out _).mono ?_; rintro e w' ⟨rfl, hww⟩; have hww := hww.symm; subst hww) | (go_at_call 56; refine (HN.out _ HWR.out).mono ?_; rintro e w' ⟨rfl, hww⟩; have hww := hww.symm; subst hww) | fail)
      have hb2 := heap_new wr (.cells #[encStr key, encStr val] 51)
      have hx2 : Ext wr (wr.alloc (.cells #[encStr key, encStr val] 51)) := (Ext.rfl' wr).alloc _
      generalize hW2 : World.alloc wr _ = W2 at *
      have HXB := Lib.hid hb2
      have hbx := (hx2.block _ (lt_heap ((HEW.out.block _ (lt_heap HBX.out)).trans HBX.out))).trans ((HEW.out.block _ (lt_heap HBX.out)).trans HBX.out)
      have HBX2 := Lib.hid hbx
      have HC2 := Lib.hid (And.intro (hx2.cell a0) (hx2.cell a3))
      have HW2 := Lib.hid (Ext.step HWR.out hx2)
      have HNW2 := Lib.hid (HNT.out.ext HW2.out)
      clear hb2 hx2 hbx hW2 a0 a3 b2' b3' b4' c0 HS HN HC HBX
      go_loopw [12, 13, 14] (fun v dn t wq => ∃ j : Nat, j ≤ E.length ∧ t = .int .i64 j ∧ ∃ dv, dn = .bool dv ∧ (putTo false (key, val) E j).2 = dv ∧ EntRel W2 (putTo false (key, val) E j).1 v wq ∧ (false = true → ∀ t y, t < j → E[t]? = some y → ((y.1 == key) && (y.2 == val)) = false)) (fun _ _ t _ => E.length - (intOf t).toNat)
      case atStart => exact ⟨0, by omega, rfl, false, rfl, rfl, EntRel.start W2, fun _ t y h => by omega⟩
      case round =>
        obtain ⟨j, hj, rfl, dv, rfl, hdv, hrr, hnx⟩ := hrel
        obtain ⟨wq, rfl⟩ : ∃ wr' : World, wr' = wr := ⟨_, rfl⟩
        obtain ⟨l0, hl0⟩ : ∃ l0, putTo false (key, val) E j = (l0, dv) := ⟨_, by rw [← hdv]⟩
        have hll := putTo_len false (key, val) E j
        rw [hl0] at hrr hll
        simp only at hrr hll
        have HPT := Lib.hid hl0
        have HRR := Lib.hid hrr
        have HNX := Lib.hid hnx
        have HPL := Lib.hid (And.intro (And.intro hll hj) HLE.out)
        have hew := hrr.2
        have a0 := hew.cell HC2.out.1
        have a3 := hew.cell HC2.out.2
        have hsz := hew.size
        clear hdv hl0 hrr hnx hll
        by_cases hlt : j < E.length
        · obtain ⟨b2, off2, rfl, hcells⟩ := HG3.out (by omega)
          obtain ⟨x, y, hxy⟩ : ∃ x y, E[j]? = some (x, y) := ⟨E[j].1, E[j].2, List.getElem?_eq_getElem hlt⟩
          have d0 := (Ext.step HW2.out hew).cell (hcells _ _ (entCells_at E hxy).1)
          have d1 := (Ext.step HW2.out hew).cell (hcells _ _ (entCells_at E hxy).2)
          rw [← Nat.add_assoc] at d1
          have eal := Ext.step hew ((Ext.rfl' wq).alloc (.cells #[encStr x, encStr y] 51))
          have x0 := eal.cell ((cellAt HXB.out 0).trans rfl)
          have x1 := eal.cell ((cellAt HXB.out 1).trans rfl)
          have k4 := eal.cell ((cellAt HBX2.out 4).trans rfl)
          have HXY := Lib.hid hxy
          have EA : Hid (∀ o, Ext wq ((wq.alloc (.cells #[encStr x, encStr y] 51)).alloc o)) := fun o => ((Ext.rfl' wq).alloc _).alloc _
          clear hxy hew eal hcells
          cases dv with
          | true =>
            cases p2 : (x == key) with
            | true =>
              have HST : Hid (putTo false (key, val) E (j + 1) = (l0, true)) := by show _ = _; rw [putTo_step HXY.out, HPT.out]; unfold putF cP gtS; simp [p2]
              go_wp2_with fail
              go_roundw
              case rel => exact ⟨j + 1, by omega, by go_num, true, by first | rfl | trivial, by rw [HST.out], by rw [HST.out]; exact ⟨owns_ext HRR.out.1 ((Ext.rfl' wq).alloc _), HRR.out.2.alloc _⟩, fun h => absurd h (by simp)⟩
              case measure => simp [intOf]; omega
            | false =>
              have HST : Hid (putTo false (key, val) E (j + 1) = (l0 ++ [(x, y)], true)) := by show _ = _; rw [putTo_step HXY.out, HPT.out]; unfold putF cP gtS; simp [p2]
              go_wp2_with (at_builtin; (refine wpList_append_sl _ rfl _ _ 47 (by rfl) W2.heap.size entriesEl _ _ _ (by rfl) (owns_ext HRR.out.1 (EA.out _)) (.slice (some ⟨wq.heap.size + 1, 0, none⟩) 1 1) 1 (entCells [(x, y)]) (by rfl) (Sl.newG _ _ _ _ _ rfl (by omega) (by simp)) (ent_one _) (by have := HPL.out; unfold maxLen; (try simp only [List.length_append, List.length_cons, List.length_nil]); omega) (by have := HPL.out; (try simp only [List.length_append, List.length_cons, List.length_nil]); omega) (Nat.le_trans HRR.out.2.size (by first | exact Nat.le_refl _ | (simp; done) | (simp; omega))) ?_; intro v1 w2 hown hgrow hat; have K2 := Lib.hid (HRR.out.moreG (EA.out _) hown hgrow); clear hown hgrow hat))
              go_roundw
              case rel => exact ⟨j + 1, by omega, by go_num, true, by first | rfl | trivial, by rw [HST.out], by rw [HST.out]; exact K2.out, fun h => absurd h (by simp)⟩
              case measure => simp [intOf]; omega
          | false =>
            cases p2 : (x == key) with
            | true =>
              have HST : Hid (putTo false (key, val) E (j + 1) = (l0 ++ [(key, val)], true)) := by show _ = _; rw [putTo_step HXY.out, HPT.out]; unfold putF cP gtS; simp [p2]
              go_wp2_with (at_builtin; (refine wpList_append_sl _ rfl _ _ 47 (by rfl) W2.heap.size entriesEl _ _ _ (by rfl) (owns_ext HRR.out.1 (EA.out _)) (.slice (some ⟨wq.heap.size + 1, 0, none⟩) 1 1) 1 (entCells [(key, val)]) (by rfl) (Sl.newG _ _ _ _ _ rfl (by omega) (by simp)) (ent_one _) (by have := HPL.out; unfold maxLen; (try simp only [List.length_append, List.length_cons, List.length_nil]); omega) (by have := HPL.out; (try simp only [List.length_append, List.length_cons, List.length_nil]); omega) (Nat.le_trans HRR.out.2.size (by first | exact Nat.le_refl _ | (simp; done) | (simp; omega))) ?_; intro v1 w2 hown hgrow hat; have K2 := Lib.hid (HRR.out.moreG (EA.out _) hown hgrow); have hyb := grown_at HRR.out.1 hgrow; have y0 : w2.cell? ⟨wq.heap.size, 0, none⟩ = some (encStr x) := (cellAt hyb 0).trans rfl; have y1 : w2.cell? ⟨wq.heap.size, 1, none⟩ = some (encStr y) := (cellAt hyb 1).trans rfl; have x0 : w2.cell? ⟨wr.heap.size, 0, none⟩ = some (encStr key) := K2.out.2.cell ((cellAt HXB.out 0).trans rfl); have x1 : w2.cell? ⟨wr.heap.size, 1, none⟩ = some (encStr val) := K2.out.2.cell ((cellAt HXB.out 1).trans rfl); clear hyb; clear hown hgrow hat))
              go_roundw
              case rel => exact ⟨j + 1, by omega, by go_num, true, by first | rfl | trivial, by rw [HST.out], by rw [HST.out]; exact K2.out, fun h => absurd h (by simp)⟩
              case measure => simp [intOf]; omega
            | false =>
              cases p1 : Op.bytesLess x key with
              | true =>
                have HST : Hid (putTo false (key, val) E (j + 1) = (l0 ++ [(x, y)], false)) := by show _ = _; rw [putTo_step HXY.out, HPT.out]; unfold putF cP gtS; simp [p1, p2]
                go_wp2_with (at_builtin; (refine wpList_append_sl _ rfl _ _ 47 (by rfl) W2.heap.size entriesEl _ _ _ (by rfl) (owns_ext HRR.out.1 (EA.out _)) (.slice (some ⟨wq.heap.size + 1, 0, none⟩) 1 1) 1 (entCells [(x, y)]) (by rfl) (Sl.newG _ _ _ _ _ rfl (by omega) (by simp)) (ent_one _) (by have := HPL.out; unfold maxLen; (try simp only [List.length_append, List.length_cons, List.length_nil]); omega) (by have := HPL.out; (try simp only [List.length_append, List.length_cons, List.length_nil]); omega) (Nat.le_trans HRR.out.2.size (by first | exact Nat.le_refl _ | (simp; done) | (simp; omega))) ?_; intro v1 w2 hown hgrow hat; have K2 := Lib.hid (HRR.out.moreG (EA.out _) hown hgrow); clear hown hgrow hat))
                go_roundw
                case rel => exact ⟨j + 1, by omega, by go_num, false, by first | rfl | trivial, by rw [HST.out], by rw [HST.out]; exact K2.out, fun h => absurd h (by simp)⟩
                case measure => simp [intOf]; omega
              | false =>
                have HST : Hid (putTo false (key, val) E (j + 1) = (l0 ++ [(key, val)] ++ [(x, y)], true)) := by show _ = _; rw [putTo_step HXY.out, HPT.out]; unfold putF cP gtS; simp [p1, p2]
                go_wp2_with (at_builtin; first | (clear d0; (refine wpList_append_sl _ rfl _ _ 47 (by rfl) W2.heap.size entriesEl _ _ _ (by rfl) (owns_ext K2.out.1 ((Ext.rfl' _).alloc _)) (.slice (some ⟨w2.heap.size, 0, none⟩) 1 1) 1 (entCells [(x, y)]) (by rfl) (Sl.newG _ _ _ _ _ rfl (by omega) (by simp)) (ent_one _) (by have := HPL.out; unfold maxLen; (try simp only [List.length_append, List.length_cons, List.length_nil]); omega) (by have := HPL.out; (try simp only [List.length_append, List.length_cons, List.length_nil]); omega) (Nat.le_trans K2.out.2.size (by first | exact Nat.le_refl _ | (simp; done) | (simp; omega))) ?_; intro v3 w3 hown hgrow hat; have K3 := Lib.hid (K2.out.moreG ((Ext.rfl' _).alloc _) hown hgrow); clear hown hgrow hat)) | ((refine wpList_append_sl _ rfl _ _ 47 (by rfl) W2.heap.size entriesEl _ _ _ (by rfl) (owns_ext HRR.out.1 (EA.out _)) (.slice (some ⟨wq.heap.size + 1, 0, none⟩) 1 1) 1 (entCells [(key, val)]) (by rfl) (Sl.newG _ _ _ _ _ rfl (by omega) (by simp)) (ent_one _) (by have := HPL.out; unfold maxLen; (try simp only [List.length_append, List.length_cons, List.length_nil]); omega) (by have := HPL.out; (try simp only [List.length_append, List.length_cons, List.length_nil]); omega) (Nat.le_trans HRR.out.2.size (by first | exact Nat.le_refl _ | (simp; done) | (simp; omega))) ?_; intro v1 w2 hown hgrow hat; have K2 := Lib.hid (HRR.out.moreG (EA.out _) hown hgrow); have hyb := grown_at HRR.out.1 hgrow; have y0 : w2.cell? ⟨wq.heap.size, 0, none⟩ = some (encStr x) := (cellAt hyb 0).trans rfl; have y1 : w2.cell? ⟨wq.heap.size, 1, none⟩ = some (encStr y) := (cellAt hyb 1).trans rfl; have x0 : w2.cell? ⟨wr.heap.size, 0, none⟩ = some (encStr key) := K2.out.2.cell ((cellAt HXB.out 0).trans rfl); have x1 : w2.cell? ⟨wr.heap.size, 1, none⟩ = some (encStr val) := K2.out.2.cell ((cellAt HXB.out 1).trans rfl); clear hyb; clear hown hgrow hat)))
                go_roundw
                case rel => exact ⟨j + 1, by omega, by go_num, true, by first | rfl | trivial, by rw [HST.out], by rw [HST.out]; exact K3.out, fun h => absurd h (by simp)⟩
                case measure => simp [intOf]; omega
        · obtain rfl : j = E.length := by omega
          have x0 := hew.cell ((cellAt HXB.out 0).trans rfl)
          have x1 := hew.cell ((cellAt HXB.out 1).trans rfl)
          have x2 := (Ext.step hew ((Ext.rfl' wq).alloc (.cells #[encStr key, encStr val] 51))).cell ((cellAt HXB.out 0).trans rfl)
          clear hew
          have HALL := Lib.hid (putTo_all false (key, val) E)
          rw [HPT.out] at HALL
          have HP2 := HP
          cases dv with
          | true =>
            have HZ : Hid (Z = (setR R k l0, 0)) := by show _ = _; rw [HP2.out, HALL.out]; rfl
            have HS3 := Lib.hid (HSET.out wq _ l0 (Ext.step HW2.out HRR.out.2) (HRR.out.at HNW2.out))
            go_wp2_with (first | (go_at_call 57; refine HS3.out.mono ?_; rintro e w' ⟨rfl, hA, hM⟩; have HA := Lib.hid hA; have HMV := Lib.hid hM; clear hA hM) | fail)
            go_ret
            rw [HZ.out]
            exact ⟨rfl, HA.out, Moved.afterExt HNT.out (Ext.step HW2.out HRR.out.2) HMV.out⟩
          | false =>
            have HZ : Hid (Z = (setR R k (l0 ++ [(key, val)]), 0)) := by show _ = _; rw [HP2.out, HALL.out]; rfl
            go_wp2_with (first | (at_builtin; (refine wpList_append_sl _ rfl _ _ 47 (by rfl) W2.heap.size entriesEl _ _ _ (by rfl) (owns_ext HRR.out.1 ((Ext.rfl' _).alloc _)) (.slice (some ⟨wq.heap.size, 0, none⟩) 1 1) 1 (entCells [(key, val)]) (by rfl) (Sl.newG _ _ _ _ _ rfl (by omega) (by simp)) (ent_one _) (by have := HPL.out; unfold maxLen; (try simp only [List.length_append, List.length_cons, List.length_nil]); omega) (by have := HPL.out; (try simp only [List.length_append, List.length_cons, List.length_nil]); omega) (Nat.le_trans HRR.out.2.size (by first | exact Nat.le_refl _ | (simp; done) | (simp; omega))) ?_; intro v1 w2 hown hgrow hat; have K2 := Lib.hid (HRR.out.moreG ((Ext.rfl' _).alloc _) hown hgrow); clear hown hgrow hat; have HS3 := Lib.hid (HSET.out w2 _ (l0 ++ [(key, val)]) (Ext.step HW2.out K2.out.2) (K2.out.at HNW2.out)))) | (go_at_call 57; refine HS3.out.mono ?_; rintro e w' ⟨rfl, hA, hM⟩; have HA := Lib.hid hA; have HMV := Lib.hid hM; clear hA hM) | fail)
            go_ret
            rw [HZ.out]
            exact ⟨rfl, HA.out, Moved.afterExt HNT.out (Ext.step HW2.out K2.out.2) HMV.out⟩

set_option maxHeartbeats 16000000 in
set_option maxRecDepth 100000 in
theorem putr_main_fs (σ : Sig) (i rb : Nat) (L : List (DBA × Value)) (Lv : Value) (R : RefA) (k : Nat) (kind : Int) (db key val : S) (flags nn : Int) (w : World) (hR : RefIs w σ i rb L Lv R) (hn : Neat w σ) (hi : i ≠ 0) (hk : k < R.l.length) (hl : R.l.length ≤ 1000) (he : (atR R k).e.length ≤ 100000) (t1 : shortR key = true) (t2 : ((atR R k).flags == 1) = false) (t3 : decide ((1000 : Int) < (val.length : Int)) = false) (t4 : namedR R k key = false) (t5 : decide ((0 : Int) ≤ plI (keyR (atR R k).e key)) = true) (t6 : (bits .and .i64 flags 1 != 0) = false) (hp : putR R k ⟨kind, db, key, val, flags, nn⟩ = (setR R k (putE false (key, val) (atR R k).e), 0)) :
    Calls Tryz.prog 27 #[.pointer (some ⟨rb, 0, none⟩), .int .i64 k, opV ⟨kind, db, key, val, flags, nn⟩] w (ChgPost σ i rb (putR R k ⟨kind, db, key, val, flags, nn⟩).1 (putR R k ⟨kind, db, key, val, flags, nn⟩).2 w) := by
  have e0 : ∀ o, Ext w (w.alloc o) := fun o => (Ext.rfl' w).alloc o
  have HK := Lib.hid fun o => key_any σ i rb L Lv R k key (w.alloc o) (hR.ext (e0 o)) hk
  have HS := Lib.hid fun w' => short1_any key w'
  have HN := Lib.hid fun w' (e : Ext w w') => named_any σ i rb L Lv R k key w' (hR.ext e)
  have HRW := Lib.hid hR
  have HNT := Lib.hid hn
  obtain ⟨ev, b, off, c, rfl, _, h1, h2, c0, c1, c2, c3, hE⟩ := hR.db hk
  have HP := Lib.hid hp
  clear hp
  generalize putR R k ⟨kind, db, key, val, flags, nn⟩ = Z at *
  have HSET : Hid (∀ w3 v l, Ext w w3 → EntAt w3 σ v l → Calls Tryz.prog 57 #[.pointer (some ⟨rb, 0, none⟩), .int .i64 k, v] w3 fun r w' => r = .returned (.tuple #[]) ∧ RefAt w' σ i rb (setR R k l) ∧ Moved σ i w3 σ w') := fun w3 v l e hE => setr_any σ i rb L _ R k v l w3 (hR.ext e) (hn.ext e) hi hk hl hE
  unfold opV opCells
  have HLL := Lib.hid (And.intro hk (And.intro hl he))
  generalize hPI : plI (keyR (atR R k).e key) = pi at *
  generalize hSH : shortR key = sh at *
  generalize hNM : namedR R k key = nm at *
  generalize hEe : (atR R k).e = E at *
  generalize hFl : (atR R k).flags = fl at *
  obtain ⟨⟨hle, p0, c0x, rfl, g1, g2, g3⟩, _⟩ := hE
  generalize hm : R.l.length = m at *
  have HX0 := Lib.hid (e0 (.cells #[.int .i64 kind, encStr db, encStr key, encStr val, .int .i64 flags, .int .i64 nn] 30))
  have c0' := HX0.out.cell c0
  have c2' := HX0.out.cell c2
  have c3' := HX0.out.cell c3
  have hcap : E.length ≤ 9223372036854775807 := by unfold maxLen at g2; omega
  have HBX := Lib.hid (heap_new w (.cells #[.int .i64 kind, encStr db, encStr key, encStr val, .int .i64 flags, .int .i64 nn] 30))
  have HG3 := Lib.hid g3
  have hb3 : (0 : Int) ≤ (k : Int) := by omega
  have hb4 : (k : Int) < (m : Int) := by omega
  have HI := Lib.hid hi
  have HC := Lib.hid (And.intro c0' c3')
  have HLE := Lib.hid he
  clear hR hn e0 c0 c1 c2 c3 hle he hl hi hFl hEe g3 hPI hSH hNM hm
  go_enter Tryz.func27, Tryz.ntmps27
  go_wp2_with (first | (go_at_call 55; refine (HK.out _).mono ?_; rintro e w' ⟨rfl, rfl⟩) | (go_at_call 54; refine (HS.out _).mono ?_; rintro e w' ⟨rfl, hww⟩; have hww := hww.symm; subst hww) | (go_at_call 56; refine (HN.out _ HWR.out).mono ?_; rintro e w' ⟨rfl, hww⟩; have hww := hww.symm; subst hww) | fail)
  generalize hW : World.alloc w _ = W at *
  have HW := Lib.hid HX0.out
  have c0 := HC.out.1
  clear hW HK c0' c2' c3'
  go_loopw [9, 10] (fun n i wr => ∃ j : Nat, j ≤ E.length ∧ n = .int .i64 (cntTo E key j) ∧ i = .int .i64 j ∧ Ext W wr) (fun _ i _ => E.length - (intOf i).toNat)
  case atStart => exact ⟨0, by omega, rfl, rfl, Ext.rfl' _⟩
  case round =>
    obtain ⟨j, hj, rfl, rfl, hew⟩ := hrel
    obtain ⟨wr, rfl⟩ : ∃ wr' : World, wr' = wr := ⟨_, rfl⟩
    have HEW := Lib.hid hew
    have a0 := hew.cell HC.out.1
    have a3 := hew.cell HC.out.2
    by_cases hlt : j < E.length
    · obtain ⟨b2, off2, rfl, hcells⟩ := HG3.out (by omega)
      obtain ⟨x, y, hxy⟩ : ∃ x y, E[j]? = some (x, y) := ⟨E[j].1, E[j].2, List.getElem?_eq_getElem hlt⟩
      have d0 := (Ext.step HX0.out hew).cell (hcells _ _ (entCells_at E hxy).1)
      have b2' := hew.cell ((cellAt HBX.out 2).trans rfl)
      have HXY := Lib.hid hxy
      have hcl := Nat.le_trans (cntTo_le E key j) HLE.out
      clear hcells hxy hew
      cases ht : (x == key) with
      | true =>
        go_wp2_with fail
        go_quiet (fail)
        have HX : Hid (Ext W (wr.drewN nq)) := Ext.step HEW.out (Ext.drewN _ _)
        go_wp2_with fail
        go_roundw
        case rel => exact ⟨j + 1, by omega, by rw [cntTo_in HXY.out ht]; go_num, by go_num, HX.out⟩
        case measure => simp [intOf]; omega
      | false =>
        go_wp2_with fail
        go_quiet (fail)
        have HX : Hid (Ext W (wr.drewN nq)) := Ext.step HEW.out (Ext.drewN _ _)
        go_wp2_with fail
        go_roundw
        case rel => exact ⟨j + 1, by omega, by rw [cntTo_out HXY.out ht], by go_num, HX.out⟩
        case measure => simp [intOf]; omega
    · obtain rfl : j = E.length := by omega
      have b2' := hew.cell ((cellAt HBX.out 2).trans rfl)
      have b3' := hew.cell ((cellAt HBX.out 3).trans rfl)
      have b4' := hew.cell ((cellAt HBX.out 4).trans rfl)
      have HWR := Lib.hid (Ext.step HX0.out hew)
      clear hew
      subst t1 t4
      have hcnt : (((cntTo E key E.length : Nat) : Int)) = (cntR E key : Int) := by rw [cntTo_all]
      rw [hcnt]
      clear hcnt
      go_wp2_with (first | (go_at_call 55; refine (HK.out _).mono ?_; rintro e w' ⟨rfl, rfl⟩) | (go_at_call 54; refine (HS.out _).mono ?_; rintro e w' ⟨rfl, hww⟩; have hww := hww.symm; subst hww) | (go_at_call 56; refine (HN.out _ HWR.out).mono ?_; rintro e w' ⟨rfl, hww⟩; have hww := hww.symm; subst hww) | fail)
      have hb2 := heap_new wr (.cells #[encStr key, encStr val] 51)
      have hx2 : Ext wr (wr.alloc (.cells #[encStr key, encStr val] 51)) := (Ext.rfl' wr).alloc _
      generalize hW2 : World.alloc wr _ = W2 at *
      have HXB := Lib.hid hb2
      have hbx := (hx2.block _ (lt_heap ((HEW.out.block _ (lt_heap HBX.out)).trans HBX.out))).trans ((HEW.out.block _ (lt_heap HBX.out)).trans HBX.out)
      have HBX2 := Lib.hid hbx
      have HC2 := Lib.hid (And.intro (hx2.cell a0) (hx2.cell a3))
      have HW2 := Lib.hid (Ext.step HWR.out hx2)
      have HNW2 := Lib.hid (HNT.out.ext HW2.out)
      clear hb2 hx2 hbx hW2 a0 a3 b2' b3' b4' c0 HS HN HC HBX
      go_loopw [12, 13, 14] (fun v dn t wq => ∃ j : Nat, j ≤ E.length ∧ t = .int .i64 j ∧ ∃ dv, dn = .bool dv ∧ (putTo false (key, val) E j).2 = dv ∧ EntRel W2 (putTo false (key, val) E j).1 v wq ∧ (false = true → ∀ t y, t < j → E[t]? = some y → ((y.1 == key) && (y.2 == val)) = false)) (fun _ _ t _ => E.length - (intOf t).toNat)
      case atStart => exact ⟨0, by omega, rfl, false, rfl, rfl, EntRel.start W2, fun _ t y h => by omega⟩
      case round =>
        obtain ⟨j, hj, rfl, dv, rfl, hdv, hrr, hnx⟩ := hrel
        obtain ⟨wq, rfl⟩ : ∃ wr' : World, wr' = wr := ⟨_, rfl⟩
        obtain ⟨l0, hl0⟩ : ∃ l0, putTo false (key, val) E j = (l0, dv) := ⟨_, by rw [← hdv]⟩
        have hll := putTo_len false (key, val) E j
        rw [hl0] at hrr hll
        simp only at hrr hll
        have HPT := Lib.hid hl0
        have HRR := Lib.hid hrr
        have HNX := Lib.hid hnx
        have HPL := Lib.hid (And.intro (And.intro hll hj) HLE.out)
        have hew := hrr.2
        have a0 := hew.cell HC2.out.1
        have a3 := hew.cell HC2.out.2
        have hsz := hew.size
        clear hdv hl0 hrr hnx hll
        by_cases hlt : j < E.length
        · obtain ⟨b2, off2, rfl, hcells⟩ := HG3.out (by omega)
          obtain ⟨x, y, hxy⟩ : ∃ x y, E[j]? = some (x, y) := ⟨E[j].1, E[j].2, List.getElem?_eq_getElem hlt⟩
          have d0 := (Ext.step HW2.out hew).cell (hcells _ _ (entCells_at E hxy).1)
          have d1 := (Ext.step HW2.out hew).cell (hcells _ _ (entCells_at E hxy).2)
          rw [← Nat.add_assoc] at d1
          have eal := Ext.step hew ((Ext.rfl' wq).alloc (.cells #[encStr x, encStr y] 51))
          have x0 := eal.cell ((cellAt HXB.out 0).trans rfl)
          have x1 := eal.cell ((cellAt HXB.out 1).trans rfl)
          have k4 := eal.cell ((cellAt HBX2.out 4).trans rfl)
          have HXY := Lib.hid hxy
          have EA : Hid (∀ o, Ext wq ((wq.alloc (.cells #[encStr x, encStr y] 51)).alloc o)) := fun o => ((Ext.rfl' wq).alloc _).alloc _
          clear hxy hew eal hcells
          cases dv with
          | true =>
            cases p2 : (x == key) with
            | true =>
              have HST : Hid (putTo false (key, val) E (j + 1) = (l0, true)) := by show _ = _; rw [putTo_step HXY.out, HPT.out]; unfold putF cP gtS; simp [p2]
              go_wp2_with fail
              go_roundw
              case rel => exact ⟨j + 1, by omega, by go_num, true, by first | rfl | trivial, by rw [HST.out], by rw [HST.out]; exact ⟨owns_ext HRR.out.1 ((Ext.rfl' wq).alloc _), HRR.out.2.alloc _⟩, fun h => absurd h (by simp)⟩
              case measure => simp [intOf]; omega
            | false =>
              have HST : Hid (putTo false (key, val) E (j + 1) = (l0 ++ [(x, y)], true)) := by show _ = _; rw [putTo_step HXY.out, HPT.out]; unfold putF cP gtS; simp [p2]
              go_wp2_with (at_builtin; (refine wpList_append_sl _ rfl _ _ 47 (by rfl) W2.heap.size entriesEl _ _ _ (by rfl) (owns_ext HRR.out.1 (EA.out _)) (.slice (some ⟨wq.heap.size + 1, 0, none⟩) 1 1) 1 (entCells [(x, y)]) (by rfl) (Sl.newG _ _ _ _ _ rfl (by omega) (by simp)) (ent_one _) (by have := HPL.out; unfold maxLen; (try simp only [List.length_append, List.length_cons, List.length_nil]); omega) (by have := HPL.out; (try simp only [List.length_append, List.length_cons, List.length_nil]); omega) (Nat.le_trans HRR.out.2.size (by first | exact Nat.le_refl _ | (simp; done) | (simp; omega))) ?_; intro v1 w2 hown hgrow hat; have K2 := Lib.hid (HRR.out.moreG (EA.out _) hown hgrow); clear hown hgrow hat))
              go_roundw
              case rel => exact ⟨j + 1, by omega, by go_num, true, by first | rfl | trivial, by rw [HST.out], by rw [HST.out]; exact K2.out, fun h => absurd h (by simp)⟩
              case measure => simp [intOf]; omega
          | false =>
            cases p2 : (x == key) with
            | true =>
              have HST : Hid (putTo false (key, val) E (j + 1) = (l0 ++ [(key, val)], true)) := by show _ = _; rw [putTo_step HXY.out, HPT.out]; unfold putF cP gtS; simp [p2]
              go_wp2_with (at_builtin; (refine wpList_append_sl _ rfl _ _ 47 (by rfl) W2.heap.size entriesEl _ _ _ (by rfl) (owns_ext HRR.out.1 (EA.out _)) (.slice (some ⟨wq.heap.size + 1, 0, none⟩) 1 1) 1 (entCells [(key, val)]) (by rfl) (Sl.newG _ _ _ _ _ rfl (by omega) (by simp)) (ent_one _) (by have := HPL.out; unfold maxLen; (try simp only [List.length_append, List.length_cons, List.length_nil]); omega) (by have := HPL.out; (try simp only [List.length_append, List.length_cons, List.length_nil]); omega) (Nat.le_trans HRR.out.2.size (by first | exact Nat.le_refl _ | (simp; done) | (simp; omega))) ?_; intro v1 w2 hown hgrow hat; have K2 := Lib.hid (HRR.out.moreG (EA.out _) hown hgrow); have hyb := grown_at HRR.out.1 hgrow; have y0 : w2.cell? ⟨wq.heap.size, 0, none⟩ = some (encStr x) := (cellAt hyb 0).trans rfl; have y1 : w2.cell? ⟨wq.heap.size, 1, none⟩ = some (encStr y) := (cellAt hyb 1).trans rfl; have x0 : w2.cell? ⟨wr.heap.size, 0, none⟩ = some (encStr key) := K2.out.2.cell ((cellAt HXB.out 0).trans rfl); have x1 : w2.cell? ⟨wr.heap.size, 1, none⟩ = some (encStr val) := K2.out.2.cell ((cellAt HXB.out 1).trans rfl); clear hyb; clear hown hgrow hat))
              go_roundw
              case rel => exact ⟨j + 1, by omega, by go_num, true, by first | rfl | trivial, by rw [HST.out], by rw [HST.out]; exact K2.out, fun h => absurd h (by simp)⟩
              case measure => simp [intOf]; omega
            | false =>
              cases p1 : Op.bytesLess x key with
              | true =>
                have HST : Hid (putTo false (key, val) E (j + 1) = (l0 ++ [(x, y)], false)) := by show _ = _; rw [putTo_step HXY.out, HPT.out]; unfold putF cP gtS; simp [p1, p2]
                go_wp2_with (at_builtin; (refine wpList_append_sl _ rfl _ _ 47 (by rfl) W2.heap.size entriesEl _ _ _ (by rfl) (owns_ext HRR.out.1 (EA.out _)) (.slice (some ⟨wq.heap.size + 1, 0, none⟩) 1 1) 1 (entCells [(x, y)]) (by rfl) (Sl.newG _ _ _ _ _ rfl (by omega) (by simp)) (ent_one _) (by have := HPL.out; unfold maxLen; (try simp only [List.length_append, List.length_cons, List.length_nil]); omega) (by have := HPL.out; (try simp only [List.length_append, List.length_cons, List.length_nil]); omega) (Nat.le_trans HRR.out.2.size (by first | exact Nat.le_refl _ | (simp; done) | (simp; omega))) ?_; intro v1 w2 hown hgrow hat; have K2 := Lib.hid (HRR.out.moreG (EA.out _) hown hgrow); clear hown hgrow hat))
                go_roundw
                case rel => exact ⟨j + 1, by omega, by go_num, false, by first | rfl | trivial, by rw [HST.out], by rw [HST.out]; exact K2.out, fun h => absurd h (by simp)⟩
                case measure => simp [intOf]; omega
              | false =>
                have HST : Hid (putTo false (key, val) E (j + 1) = (l0 ++ [(key, val)] ++ [(x, y)], true)) := by show _ = _; rw [putTo_step HXY.out, HPT.out]; unfold putF cP gtS; simp [p1, p2]
                go_wp2_with (at_builtin; first | (clear d0; (refine wpList_append_sl _ rfl _ _ 47 (by rfl) W2.heap.size entriesEl _ _ _ (by rfl) (owns_ext K2.out.1 ((Ext.rfl' _).alloc _)) (.slice (some ⟨w2.heap.size, 0, none⟩) 1 1) 1 (entCells [(x, y)]) (by rfl) (Sl.newG _ _ _ _ _ rfl (by omega) (by simp)) (ent_one _) (by have := HPL.out; unfold maxLen; (try simp only [List.length_append, List.length_cons, List.length_nil]); omega) (by have := HPL.out; (try simp only [List.length_append, List.length_cons, List.length_nil]); omega) (Nat.le_trans K2.out.2.size (by first | exact Nat.le_refl _ | (simp; done) | (simp; omega))) ?_; intro v3 w3 hown hgrow hat; have K3 := Lib.hid (K2.out.moreG ((Ext.rfl' _).alloc _) hown hgrow); clear hown hgrow hat)) | ((refine wpList_append_sl _ rfl _ _ 47 (by rfl) W2.heap.size entriesEl _ _ _ (by rfl) (owns_ext HRR.out.1 (EA.out _)) (.slice (some ⟨wq.heap.size + 1, 0, none⟩) 1 1) 1 (entCells [(key, val)]) (by rfl) (Sl.newG _ _ _ _ _ rfl (by omega) (by simp)) (ent_one _) (by have := HPL.out; unfold maxLen; (try simp only [List.length_append, List.length_cons, List.length_nil]); omega) (by have := HPL.out; (try simp only [List.length_append, List.length_cons, List.length_nil]); omega) (Nat.le_trans HRR.out.2.size (by first | exact Nat.le_refl _ | (simp; done) | (simp; omega))) ?_; intro v1 w2 hown hgrow hat; have K2 := Lib.hid (HRR.out.moreG (EA.out _) hown hgrow); have hyb := grown_at HRR.out.1 hgrow; have y0 : w2.cell? ⟨wq.heap.size, 0, none⟩ = some (encStr x) := (cellAt hyb 0).trans rfl; have y1 : w2.cell? ⟨wq.heap.size, 1, none⟩ = some (encStr y) := (cellAt hyb 1).trans rfl; have x0 : w2.cell? ⟨wr.heap.size, 0, none⟩ = some (encStr key) := K2.out.2.cell ((cellAt HXB.out 0).trans rfl); have x1 : w2.cell? ⟨wr.heap.size, 1, none⟩ = some (encStr val) := K2.out.2.cell ((cellAt HXB.out 1).trans rfl); clear hyb; clear hown hgrow hat)))
                go_roundw
                case rel => exact ⟨j + 1, by omega, by go_num, true, by first | rfl | trivial, by rw [HST.out], by rw [HST.out]; exact K3.out, fun h => absurd h (by simp)⟩
                case measure => simp [intOf]; omega
        · obtain rfl : j = E.length := by omega
          have x0 := hew.cell ((cellAt HXB.out 0).trans rfl)
          have x1 := hew.cell ((cellAt HXB.out 1).trans rfl)
          have x2 := (Ext.step hew ((Ext.rfl' wq).alloc (.cells #[encStr key, encStr val] 51))).cell ((cellAt HXB.out 0).trans rfl)
          clear hew
          have HALL := Lib.hid (putTo_all false (key, val) E)
          rw [HPT.out] at HALL
          have HP2 := HP
          cases dv with
          | true =>
            have HZ : Hid (Z = (setR R k l0, 0)) := by show _ = _; rw [HP2.out, HALL.out]; rfl
            have HS3 := Lib.hid (HSET.out wq _ l0 (Ext.step HW2.out HRR.out.2) (HRR.out.at HNW2.out))
            go_wp2_with (first | (go_at_call 57; refine HS3.out.mono ?_; rintro e w' ⟨rfl, hA, hM⟩; have HA := Lib.hid hA; have HMV := Lib.hid hM; clear hA hM) | fail)
            go_ret
            rw [HZ.out]
            exact ⟨rfl, HA.out, Moved.afterExt HNT.out (Ext.step HW2.out HRR.out.2) HMV.out⟩
          | false =>
            have HZ : Hid (Z = (setR R k (l0 ++ [(key, val)]), 0)) := by show _ = _; rw [HP2.out, HALL.out]; rfl
            go_wp2_with (first | (at_builtin; (refine wpList_append_sl _ rfl _ _ 47 (by rfl) W2.heap.size entriesEl _ _ _ (by rfl) (owns_ext HRR.out.1 ((Ext.rfl' _).alloc _)) (.slice (some ⟨wq.heap.size, 0, none⟩) 1 1) 1 (entCells [(key, val)]) (by rfl) (Sl.newG _ _ _ _ _ rfl (by omega) (by simp)) (ent_one _) (by have := HPL.out; unfold maxLen; (try simp only [List.length_append, List.length_cons, List.length_nil]); omega) (by have := HPL.out; (try simp only [List.length_append, List.length_cons, List.length_nil]); omega) (Nat.le_trans HRR.out.2.size (by first | exact Nat.le_refl _ | (simp; done) | (simp; omega))) ?_; intro v1 w2 hown hgrow hat; have K2 := Lib.hid (HRR.out.moreG ((Ext.rfl' _).alloc _) hown hgrow); clear hown hgrow hat; have HS3 := Lib.hid (HSET.out w2 _ (l0 ++ [(key, val)]) (Ext.step HW2.out K2.out.2) (K2.out.at HNW2.out)))) | (go_at_call 57; refine HS3.out.mono ?_; rintro e w' ⟨rfl, hA, hM⟩; have HA := Lib.hid hA; have HMV := Lib.hid hM; clear hA hM) | fail)
            go_ret
            rw [HZ.out]
            exact ⟨rfl, HA.out, Moved.afterExt HNT.out (Ext.step HW2.out K2.out.2) HMV.out⟩
end Go.Proofs.YtmkhjmldncegcaaGreatDoor

