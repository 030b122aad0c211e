/-
  WALKS: past.Model.does, past.Model.Do.
-/
import Derived.Test.YtmkhjmldncegcaaGreatDoorMC
import Derived.Maps.RangeWalk
set_option linter.unusedVariables false
set_option linter.unusedSimpArgs false
namespace Go.Proofs.YtmkhjmldncegcaaGreatDoor
open Go.RowKit Go.Maps Go.ChangeMaps Go.MapKept

/-- What a call of does leaves. -/
def DoesPost (σ : Sig) (i pb mb : Nat) (r : ModA × (S × S) × Int) (w : World) (e : Ending) (w' : World) : Prop :=
  e = .returned (.tuple #[entV r.2.1, errV r.2.2]) ∧ ∃ σ' bases', ModIs w' σ' i pb mb bases' r.1 ∧ Moved σ i w σ' w'

theorem does_box {σ σ' : Sig} {i : Nat} {w w2 w3 : World} {o : Obj} (hn : Neat w σ) (e2 : Ext w w2) (hb : w2.heap[w.heap.size + 1]? = some o) (hv : Moved σ i w2 σ' w3) (hi : i ≠ 0) : w3.heap[w.heap.size + 1]? = some o := by
  rw [hv.turn.block _ (lt_heap hb) (by rw [hn _ (by omega)]; exact fun e => hi e.symm)]; exact hb
theorem Moved.fresh' {σ σ' : Sig} {i b : Nat} {w w3 w4 : World} (h : Moved σ i w σ' w3) (o : Only b w3 w4) (hb : w.heap.size ≤ b) : Moved σ i w σ' w4 :=
  ⟨h.ext, fun k hk => h.neat k (by rw [← o.size]; exact hk), ⟨o.os.trans h.turn.os, o.tape.trans h.turn.tape, o.output.trans h.turn.output, by rw [o.size]; exact h.turn.size, fun k hk hp => (o.block k (by omega)).trans (h.turn.block k hk hp)⟩⟩
theorem does_end {σ σ' : Sig} {i pb mb : Nat} {bases' : List (S × Value)} {A' : ModA} {w w2 w3 w4 : World} {o : Obj} (hn : Neat w σ) (e2 : Ext w w2) (hb : w2.heap[w.heap.size + 1]? = some o) (hm : ModIs w3 σ' i pb mb bases' A') (hv : Moved σ i w2 σ' w3) (hi : i ≠ 0)
    (o1 : Only (w.heap.size + 1) w3 w4) : ModIs w4 σ' i pb mb bases' A' ∧ Moved σ i w σ' w4 :=
  ⟨hm.only o1 (by rw [hv.ext _ (lt_heap hb), hn _ (by omega)]; exact fun e => hi e.symm), Moved.fresh' ((Moved.ofExt hn e2 i).trans hv) o1 (by omega)⟩
theorem two_boxes (w : World) (o1 o2 : Obj) : ((w.alloc o1).alloc o2).heap[w.heap.size + 1]? = some o2 := by
  have := heap_new (w.alloc o1) o2
  simpa using this

set_option maxHeartbeats 4000000 in
set_option maxRecDepth 100000 in
theorem does_put (σ : Sig) (i pb mb : Nat) (bases : List (S × Value)) (A : ModA) (db key val : S) (flags n : Int) (w : World) (m : Nat) (hM : ModIs w σ i pb mb bases A) (hn : Neat w σ) (hs : Sound A m) (hm : m ≤ 1000000) (hdb : db.length ≤ maxLen) (hkey : key.length ≤ maxLen) (hi : i ≠ 0) :
    Calls Tryz.prog 20 #[.pointer (some ⟨pb, 0, none⟩), opV ⟨9, db, key, val, flags, n⟩] w (DoesPost σ i pb mb (doesA A ⟨9, db, key, val, flags, n⟩) w) := by
  obtain ⟨op, hop⟩ : ∃ op, op = (⟨9, db, key, val, flags, n⟩ : OpA) := ⟨_, rfl⟩
  have HR : Hid (doesA A op = ((putA A op).1, ([], []), (putA A op).2)) := by
    show _ = _
    unfold doesA
    rw [hop]
    simp
  have HP : Hid (∀ o1 o2, Calls Tryz.prog 43 #[.pointer (some ⟨pb, 0, none⟩), .agg #[.int .i64 9, encStr db, encStr key, encStr val, .int .i64 flags, .int .i64 n]] ((w.alloc o1).alloc o2) fun e w' => e = .returned (errV (putA A op).2) ∧ ∃ σ' bases', ModIs w' σ' i pb mb bases' (putA A op).1 ∧ Moved σ i ((w.alloc o1).alloc o2) σ' w') := fun o1 o2 => by
    have e2 : Ext w ((w.alloc o1).alloc o2) := ((Ext.rfl' w).alloc o1).alloc o2
    have h := put_any σ i pb mb bases A op ((w.alloc o1).alloc o2) m (hM.ext e2) (hn.ext e2) hs hm (by rw [hop]; exact hdb) (by rw [hop]; exact hkey)
    rw [hop] at h ⊢
    exact h.mono fun e w' ⟨h1, σ', h2, h3⟩ => ⟨h1, σ', bases, h2, h3⟩
  rw [← hop, show opV op = .agg #[.int .i64 9, encStr db, encStr key, encStr val, .int .i64 flags, .int .i64 n] by rw [hop]; rfl]
  clear hM hs hop
  obtain ⟨A', hA'⟩ : ∃ A', (putA A op).1 = A' := ⟨_, rfl⟩
  obtain ⟨ev, hev⟩ : ∃ ev, errV (putA A op).2 = ev := ⟨_, rfl⟩
  rw [HR.out]
  unfold DoesPost
  simp only [hev, hA'] at HP ⊢
  clear hev hA' HR
  go_enter Tryz.func20, Tryz.ntmps20
  go_wp2_with fail
  refine (HP.out _ _).mono ?_
  rintro e w3 ⟨rfl, σ', bases', hm3, hv3⟩
  have hres := does_box hn (((Ext.rfl' w).alloc _).alloc _) (two_boxes w _ _) hv3 hi
  have r0 := cellAt hres 0
  have r1 := cellAt hres 1
  have q0 := frozenAt hres 0
  have q1 := frozenAt hres 1
  simp at r0 r1
  have HM3 := Lib.hid hm3
  have HV3 := Lib.hid hv3
  clear hm3 hv3 hres
  go_wp2
  have o := ((Only.refl (w.heap.size + 1) w3).setCell 0 (.string ⟨#[]⟩)).setCell 1 (.string ⟨#[]⟩)
  refine bodyPost_ret (v := .tuple #[.agg #[encStr [], encStr []], ev]) ?_ rfl ⟨rfl, σ', bases', does_end hn (((Ext.rfl' w).alloc _).alloc _) (two_boxes w _ _) HM3.out HV3.out hi o⟩
  rw [results_cell_tmp rfl]
  go_simp

set_option maxHeartbeats 4000000 in
set_option maxRecDepth 100000 in
theorem does_del (σ : Sig) (i pb mb : Nat) (bases : List (S × Value)) (A : ModA) (db key val : S) (flags n : Int) (w : World) (m : Nat) (hM : ModIs w σ i pb mb bases A) (hn : Neat w σ) (hs : Sound A m) (hm : m ≤ 1000000) (hdb : db.length ≤ maxLen) (hkey : key.length ≤ maxLen) (hi : i ≠ 0) :
    Calls Tryz.prog 20 #[.pointer (some ⟨pb, 0, none⟩), opV ⟨10, db, key, val, flags, n⟩] w (DoesPost σ i pb mb (doesA A ⟨10, db, key, val, flags, n⟩) w) := by
  obtain ⟨op, hop⟩ : ∃ op, op = (⟨10, db, key, val, flags, n⟩ : OpA) := ⟨_, rfl⟩
  have HR : Hid (doesA A op = ((delA A op).1, ([], []), (delA A op).2)) := by
    show _ = _
    unfold doesA
    rw [hop]
    simp
  have HP : Hid (∀ o1 o2, Calls Tryz.prog 44 #[.pointer (some ⟨pb, 0, none⟩), .agg #[.int .i64 10, encStr db, encStr key, encStr val, .int .i64 flags, .int .i64 n]] ((w.alloc o1).alloc o2) fun e w' => e = .returned (errV (delA A op).2) ∧ ∃ σ' bases', ModIs w' σ' i pb mb bases' (delA A op).1 ∧ Moved σ i ((w.alloc o1).alloc o2) σ' w') := fun o1 o2 => by
    have e2 : Ext w ((w.alloc o1).alloc o2) := ((Ext.rfl' w).alloc o1).alloc o2
    have h := del_any σ i pb mb bases A op ((w.alloc o1).alloc o2) m (hM.ext e2) (hn.ext e2) hs hm (by rw [hop]; exact hdb) (by rw [hop]; exact hkey)
    rw [hop] at h ⊢
    exact h.mono fun e w' ⟨h1, σ', h2, h3⟩ => ⟨h1, σ', bases, h2, h3⟩
  rw [← hop, show opV op = .agg #[.int .i64 10, encStr db, encStr key, encStr val, .int .i64 flags, .int .i64 n] by rw [hop]; rfl]
  clear hM hs hop
  obtain ⟨A', hA'⟩ : ∃ A', (delA A op).1 = A' := ⟨_, rfl⟩
  obtain ⟨ev, hev⟩ : ∃ ev, errV (delA A op).2 = ev := ⟨_, rfl⟩
  rw [HR.out]
  unfold DoesPost
  simp only [hev, hA'] at HP ⊢
  clear hev hA' HR
  go_enter Tryz.func20, Tryz.ntmps20
  go_wp2_with fail
  refine (HP.out _ _).mono ?_
  rintro e w3 ⟨rfl, σ', bases', hm3, hv3⟩
  have hres := does_box hn (((Ext.rfl' w).alloc _).alloc _) (two_boxes w _ _) hv3 hi
  have r0 := cellAt hres 0
  have r1 := cellAt hres 1
  have q0 := frozenAt hres 0
  have q1 := frozenAt hres 1
  simp at r0 r1
  have HM3 := Lib.hid hm3
  have HV3 := Lib.hid hv3
  clear hm3 hv3 hres
  go_wp2
  have o := ((Only.refl (w.heap.size + 1) w3).setCell 0 (.string ⟨#[]⟩)).setCell 1 (.string ⟨#[]⟩)
  refine bodyPost_ret (v := .tuple #[.agg #[encStr [], encStr []], ev]) ?_ rfl ⟨rfl, σ', bases', does_end hn (((Ext.rfl' w).alloc _).alloc _) (two_boxes w _ _) HM3.out HV3.out hi o⟩
  rw [results_cell_tmp rfl]
  go_simp

set_option maxHeartbeats 4000000 in
set_option maxRecDepth 100000 in
theorem does_name (σ : Sig) (i pb mb : Nat) (bases : List (S × Value)) (A : ModA) (db key val : S) (flags n : Int) (w : World) (m : Nat) (hM : ModIs w σ i pb mb bases A) (hn : Neat w σ) (hs : Sound A m) (hm : m ≤ 1000000) (hdb : db.length ≤ maxLen) (hkey : key.length ≤ maxLen) (hi : i ≠ 0) :
    Calls Tryz.prog 20 #[.pointer (some ⟨pb, 0, none⟩), opV ⟨11, db, key, val, flags, n⟩] w (DoesPost σ i pb mb (doesA A ⟨11, db, key, val, flags, n⟩) w) := by
  obtain ⟨op, hop⟩ : ∃ op, op = (⟨11, db, key, val, flags, n⟩ : OpA) := ⟨_, rfl⟩
  have HR : Hid (doesA A op = ((nameA A op).1, ([], []), (nameA A op).2)) := by
    show _ = _
    unfold doesA
    rw [hop]
    simp
  have HP : Hid (∀ o1 o2, Calls Tryz.prog 45 #[.pointer (some ⟨pb, 0, none⟩), .agg #[.int .i64 11, encStr db, encStr key, encStr val, .int .i64 flags, .int .i64 n]] ((w.alloc o1).alloc o2) fun e w' => e = .returned (errV (nameA A op).2) ∧ ∃ σ' bases', ModIs w' σ' i pb mb bases' (nameA A op).1 ∧ Moved σ i ((w.alloc o1).alloc o2) σ' w') := fun o1 o2 => by
    have e2 : Ext w ((w.alloc o1).alloc o2) := ((Ext.rfl' w).alloc o1).alloc o2
    have h := name_any σ i pb mb bases A op ((w.alloc o1).alloc o2) m (hM.ext e2) (hn.ext e2) hs (by rw [hop]; exact hdb)
    rw [hop] at h ⊢
    exact h
  rw [← hop, show opV op = .agg #[.int .i64 11, encStr db, encStr key, encStr val, .int .i64 flags, .int .i64 n] by rw [hop]; rfl]
  clear hM hs hop
  obtain ⟨A', hA'⟩ : ∃ A', (nameA A op).1 = A' := ⟨_, rfl⟩
  obtain ⟨ev, hev⟩ : ∃ ev, errV (nameA A op).2 = ev := ⟨_, rfl⟩
  rw [HR.out]
  unfold DoesPost
  simp only [hev, hA'] at HP ⊢
  clear hev hA' HR
  go_enter Tryz.func20, Tryz.ntmps20
  go_wp2_with fail
  refine (HP.out _ _).mono ?_
  rintro e w3 ⟨rfl, σ', bases', hm3, hv3⟩
  have hres := does_box hn (((Ext.rfl' w).alloc _).alloc _) (two_boxes w _ _) hv3 hi
  have r0 := cellAt hres 0
  have r1 := cellAt hres 1
  have q0 := frozenAt hres 0
  have q1 := frozenAt hres 1
  simp at r0 r1
  have HM3 := Lib.hid hm3
  have HV3 := Lib.hid hv3
  clear hm3 hv3 hres
  go_wp2
  have o := ((Only.refl (w.heap.size + 1) w3).setCell 0 (.string ⟨#[]⟩)).setCell 1 (.string ⟨#[]⟩)
  refine bodyPost_ret (v := .tuple #[.agg #[encStr [], encStr []], ev]) ?_ rfl ⟨rfl, σ', bases', does_end hn (((Ext.rfl' w).alloc _).alloc _) (two_boxes w _ _) HM3.out HV3.out hi o⟩
  rw [results_cell_tmp rfl]
  go_simp

set_option maxHeartbeats 4000000 in
set_option maxRecDepth 100000 in
theorem does_drop (σ : Sig) (i pb mb : Nat) (bases : List (S × Value)) (A : ModA) (db key val : S) (flags n : Int) (w : World) (m : Nat) (hM : ModIs w σ i pb mb bases A) (hn : Neat w σ) (hs : Sound A m) (hm : m ≤ 1000000) (hdb : db.length ≤ maxLen) (hkey : key.length ≤ maxLen) (hi : i ≠ 0) :
    Calls Tryz.prog 20 #[.pointer (some ⟨pb, 0, none⟩), opV ⟨12, db, key, val, flags, n⟩] w (DoesPost σ i pb mb (doesA A ⟨12, db, key, val, flags, n⟩) w) := by
  obtain ⟨op, hop⟩ : ∃ op, op = (⟨12, db, key, val, flags, n⟩ : OpA) := ⟨_, rfl⟩
  have HR : Hid (doesA A op = ((dropA A op).1, ([], []), (dropA A op).2)) := by
    show _ = _
    unfold doesA
    rw [hop]
    simp
  have HP : Hid (∀ o1 o2, Calls Tryz.prog 46 #[.pointer (some ⟨pb, 0, none⟩), .agg #[.int .i64 12, encStr db, encStr key, encStr val, .int .i64 flags, .int .i64 n]] ((w.alloc o1).alloc o2) fun e w' => e = .returned (errV (dropA A op).2) ∧ ∃ σ' bases', ModIs w' σ' i pb mb bases' (dropA A op).1 ∧ Moved σ i ((w.alloc o1).alloc o2) σ' w') := fun o1 o2 => by
    have e2 : Ext w ((w.alloc o1).alloc o2) := ((Ext.rfl' w).alloc o1).alloc o2
    have h := drop_any σ i pb mb bases A op ((w.alloc o1).alloc o2) m (hM.ext e2) (hn.ext e2) hs (by rw [hop]; exact hdb)
    rw [hop] at h ⊢
    exact h
  rw [← hop, show opV op = .agg #[.int .i64 12, encStr db, encStr key, encStr val, .int .i64 flags, .int .i64 n] by rw [hop]; rfl]
  clear hM hs hop
  obtain ⟨A', hA'⟩ : ∃ A', (dropA A op).1 = A' := ⟨_, rfl⟩
  obtain ⟨ev, hev⟩ : ∃ ev, errV (dropA A op).2 = ev := ⟨_, rfl⟩
  rw [HR.out]
  unfold DoesPost
  simp only [hev, hA'] at HP ⊢
  clear hev hA' HR
  go_enter Tryz.func20, Tryz.ntmps20
  go_wp2_with fail
  refine (HP.out _ _).mono ?_
  rintro e w3 ⟨rfl, σ', bases', hm3, hv3⟩
  have hres := does_box hn (((Ext.rfl' w).alloc _).alloc _) (two_boxes w _ _) hv3 hi
  have r0 := cellAt hres 0
  have r1 := cellAt hres 1
  have q0 := frozenAt hres 0
  have q1 := frozenAt hres 1
  simp at r0 r1
  have HM3 := Lib.hid hm3
  have HV3 := Lib.hid hv3
  clear hm3 hv3 hres
  go_wp2
  have o := ((Only.refl (w.heap.size + 1) w3).setCell 0 (.string ⟨#[]⟩)).setCell 1 (.string ⟨#[]⟩)
  refine bodyPost_ret (v := .tuple #[.agg #[encStr [], encStr []], ev]) ?_ rfl ⟨rfl, σ', bases', does_end hn (((Ext.rfl' w).alloc _).alloc _) (two_boxes w _ _) HM3.out HV3.out hi o⟩
  rw [results_cell_tmp rfl]
  go_simp

set_option maxHeartbeats 4000000 in
set_option maxRecDepth 100000 in
theorem does_seek13 (σ : Sig) (i pb mb : Nat) (bases : List (S × Value)) (A : ModA) (db key val : S) (flags n : Int) (w : World) (m : Nat) (hM : ModIs w σ i pb mb bases A) (hn : Neat w σ) (hs : Sound A m) (hm : m ≤ 1000000) (hdb : db.length ≤ maxLen) (hi : i ≠ 0) :
    Calls Tryz.prog 20 #[.pointer (some ⟨pb, 0, none⟩), opV ⟨13, db, key, val, flags, n⟩] w (DoesPost σ i pb mb (doesA A ⟨13, db, key, val, flags, n⟩) w) := by
  obtain ⟨op, hop⟩ : ∃ op, op = (⟨13, db, key, val, flags, n⟩ : OpA) := ⟨_, rfl⟩
  have HR : Hid (doesA A op = seekA A op) := by
    show _ = _
    unfold doesA
    rw [hop]
    simp
  have HP : Hid (∀ o1 o2, Calls Tryz.prog 47 #[.pointer (some ⟨pb, 0, none⟩), .agg #[.int .i64 13, encStr db, encStr key, encStr val, .int .i64 flags, .int .i64 n]] ((w.alloc o1).alloc o2) fun e w' => e = .returned (.tuple #[entV (seekA A op).2.1, errV (seekA A op).2.2]) ∧ ModIs w' σ i pb mb bases (seekA A op).1 ∧ Moved σ i ((w.alloc o1).alloc o2) σ w') := fun o1 o2 => by
    have e2 : Ext w ((w.alloc o1).alloc o2) := ((Ext.rfl' w).alloc o1).alloc o2
    have h := seek_any σ i pb mb bases A op ((w.alloc o1).alloc o2) m (hM.ext e2) (hn.ext e2) hs hm (by rw [hop]; exact hdb) hi
    rw [hop] at h ⊢
    exact h
  rw [← hop, show opV op = .agg #[.int .i64 13, encStr db, encStr key, encStr val, .int .i64 flags, .int .i64 n] by rw [hop]; rfl]
  clear hM hs hop
  obtain ⟨A', hA'⟩ : ∃ A', (seekA A op).1 = A' := ⟨_, rfl⟩
  obtain ⟨k1, hk1⟩ : ∃ k, (seekA A op).2.1.1 = k := ⟨_, rfl⟩
  obtain ⟨x1, hx1⟩ : ∃ x, (seekA A op).2.1.2 = x := ⟨_, rfl⟩
  obtain ⟨ev, hev⟩ : ∃ ev, errV (seekA A op).2.2 = ev := ⟨_, rfl⟩
  rw [HR.out]
  unfold DoesPost
  unfold entV at HP ⊢
  simp only [hev, hA', hk1, hx1] at HP ⊢
  clear hev hA' hk1 hx1 HR
  go_enter Tryz.func20, Tryz.ntmps20
  go_wp2_with fail
  refine (HP.out _ _).mono ?_
  rintro e w3 ⟨rfl, hm3, hv3⟩
  have hres := does_box hn (((Ext.rfl' w).alloc _).alloc _) (two_boxes w _ _) hv3 hi
  have r0 := cellAt hres 0
  have r1 := cellAt hres 1
  have q0 := frozenAt hres 0
  have q1 := frozenAt hres 1
  simp at r0 r1
  have HM3 := Lib.hid hm3
  have HV3 := Lib.hid hv3
  clear hm3 hv3 hres
  go_wp2
  have o := ((Only.refl (w.heap.size + 1) w3).setCell 0 (encStr k1)).setCell 1 (encStr x1)
  refine bodyPost_ret (v := .tuple #[.agg #[encStr k1, encStr x1], ev]) ?_ rfl ⟨rfl, σ, bases, does_end hn (((Ext.rfl' w).alloc _).alloc _) (two_boxes w _ _) HM3.out HV3.out hi o⟩
  rw [results_cell_tmp rfl]
  go_simp

set_option maxHeartbeats 4000000 in
set_option maxRecDepth 100000 in
theorem does_seek15 (σ : Sig) (i pb mb : Nat) (bases : List (S × Value)) (A : ModA) (db key val : S) (flags n : Int) (w : World) (m : Nat) (hM : ModIs w σ i pb mb bases A) (hn : Neat w σ) (hs : Sound A m) (hm : m ≤ 1000000) (hdb : db.length ≤ maxLen) (hi : i ≠ 0) :
    Calls Tryz.prog 20 #[.pointer (some ⟨pb, 0, none⟩), opV ⟨15, db, key, val, flags, n⟩] w (DoesPost σ i pb mb (doesA A ⟨15, db, key, val, flags, n⟩) w) := by
  obtain ⟨op, hop⟩ : ∃ op, op = (⟨15, db, key, val, flags, n⟩ : OpA) := ⟨_, rfl⟩
  have HR : Hid (doesA A op = seekA A op) := by
    show _ = _
    unfold doesA
    rw [hop]
    simp
  have HP : Hid (∀ o1 o2, Calls Tryz.prog 47 #[.pointer (some ⟨pb, 0, none⟩), .agg #[.int .i64 15, encStr db, encStr key, encStr val, .int .i64 flags, .int .i64 n]] ((w.alloc o1).alloc o2) fun e w' => e = .returned (.tuple #[entV (seekA A op).2.1, errV (seekA A op).2.2]) ∧ ModIs w' σ i pb mb bases (seekA A op).1 ∧ Moved σ i ((w.alloc o1).alloc o2) σ w') := fun o1 o2 => by
    have e2 : Ext w ((w.alloc o1).alloc o2) := ((Ext.rfl' w).alloc o1).alloc o2
    have h := seek_any σ i pb mb bases A op ((w.alloc o1).alloc o2) m (hM.ext e2) (hn.ext e2) hs hm (by rw [hop]; exact hdb) hi
    rw [hop] at h ⊢
    exact h
  rw [← hop, show opV op = .agg #[.int .i64 15, encStr db, encStr key, encStr val, .int .i64 flags, .int .i64 n] by rw [hop]; rfl]
  clear hM hs hop
  obtain ⟨A', hA'⟩ : ∃ A', (seekA A op).1 = A' := ⟨_, rfl⟩
  obtain ⟨k1, hk1⟩ : ∃ k, (seekA A op).2.1.1 = k := ⟨_, rfl⟩
  obtain ⟨x1, hx1⟩ : ∃ x, (seekA A op).2.1.2 = x := ⟨_, rfl⟩
  obtain ⟨ev, hev⟩ : ∃ ev, errV (seekA A op).2.2 = ev := ⟨_, rfl⟩
  rw [HR.out]
  unfold DoesPost
  unfold entV at HP ⊢
  simp only [hev, hA', hk1, hx1] at HP ⊢
  clear hev hA' hk1 hx1 HR
  go_enter Tryz.func20, Tryz.ntmps20
  go_wp2_with fail
  refine (HP.out _ _).mono ?_
  rintro e w3 ⟨rfl, hm3, hv3⟩
  have hres := does_box hn (((Ext.rfl' w).alloc _).alloc _) (two_boxes w _ _) hv3 hi
  have r0 := cellAt hres 0
  have r1 := cellAt hres 1
  have q0 := frozenAt hres 0
  have q1 := frozenAt hres 1
  simp at r0 r1
  have HM3 := Lib.hid hm3
  have HV3 := Lib.hid hv3
  clear hm3 hv3 hres
  go_wp2
  have o := ((Only.refl (w.heap.size + 1) w3).setCell 0 (encStr k1)).setCell 1 (encStr x1)
  refine bodyPost_ret (v := .tuple #[.agg #[encStr k1, encStr x1], ev]) ?_ rfl ⟨rfl, σ, bases, does_end hn (((Ext.rfl' w).alloc _).alloc _) (two_boxes w _ _) HM3.out HV3.out hi o⟩
  rw [results_cell_tmp rfl]
  go_simp

set_option maxHeartbeats 4000000 in
set_option maxRecDepth 100000 in
theorem does_seek14 (σ : Sig) (i pb mb : Nat) (bases : List (S × Value)) (A : ModA) (db key val : S) (flags n : Int) (w : World) (m : Nat) (hM : ModIs w σ i pb mb bases A) (hn : Neat w σ) (hs : Sound A m) (hm : m ≤ 1000000) (hdb : db.length ≤ maxLen) (hi : i ≠ 0) :
    Calls Tryz.prog 20 #[.pointer (some ⟨pb, 0, none⟩), opV ⟨14, db, key, val, flags, n⟩] w (DoesPost σ i pb mb (doesA A ⟨14, db, key, val, flags, n⟩) w) := by
  obtain ⟨op, hop⟩ : ∃ op, op = (⟨14, db, key, val, flags, n⟩ : OpA) := ⟨_, rfl⟩
  have HR : Hid (doesA A op = nextA A) := by
    show _ = _
    unfold doesA
    rw [hop]
    simp
  have HP : Hid (∀ o1 o2, Calls Tryz.prog 48 #[.pointer (some ⟨pb, 0, none⟩)] ((w.alloc o1).alloc o2) fun e w' => e = .returned (.tuple #[entV (nextA A).2.1, errV (nextA A).2.2]) ∧ ModIs w' σ i pb mb bases (nextA A).1 ∧ Moved σ i ((w.alloc o1).alloc o2) σ w') := fun o1 o2 => by
    have e2 : Ext w ((w.alloc o1).alloc o2) := ((Ext.rfl' w).alloc o1).alloc o2
    have h := next_any σ i pb mb bases A ((w.alloc o1).alloc o2) m (hM.ext e2) (hn.ext e2) hs hm hi
    exact h
  rw [← hop, show opV op = .agg #[.int .i64 14, encStr db, encStr key, encStr val, .int .i64 flags, .int .i64 n] by rw [hop]; rfl]
  clear hM hs hop
  obtain ⟨A', hA'⟩ : ∃ A', (nextA A).1 = A' := ⟨_, rfl⟩
  obtain ⟨k1, hk1⟩ : ∃ k, (nextA A).2.1.1 = k := ⟨_, rfl⟩
  obtain ⟨x1, hx1⟩ : ∃ x, (nextA A).2.1.2 = x := ⟨_, rfl⟩
  obtain ⟨ev, hev⟩ : ∃ ev, errV (nextA A).2.2 = ev := ⟨_, rfl⟩
  rw [HR.out]
  unfold DoesPost
  unfold entV at HP ⊢
  simp only [hev, hA', hk1, hx1] at HP ⊢
  clear hev hA' hk1 hx1 HR
  go_enter Tryz.func20, Tryz.ntmps20
  go_wp2_with fail
  refine (HP.out _ _).mono ?_
  rintro e w3 ⟨rfl, hm3, hv3⟩
  have hres := does_box hn (((Ext.rfl' w).alloc _).alloc _) (two_boxes w _ _) hv3 hi
  have r0 := cellAt hres 0
  have r1 := cellAt hres 1
  have q0 := frozenAt hres 0
  have q1 := frozenAt hres 1
  simp at r0 r1
  have HM3 := Lib.hid hm3
  have HV3 := Lib.hid hv3
  clear hm3 hv3 hres
  go_wp2
  have o := ((Only.refl (w.heap.size + 1) w3).setCell 0 (encStr k1)).setCell 1 (encStr x1)
  refine bodyPost_ret (v := .tuple #[.agg #[encStr k1, encStr x1], ev]) ?_ rfl ⟨rfl, σ, bases, does_end hn (((Ext.rfl' w).alloc _).alloc _) (two_boxes w _ _) HM3.out HV3.out hi o⟩
  rw [results_cell_tmp rfl]
  go_simp

set_option maxHeartbeats 4000000 in
set_option maxRecDepth 100000 in
theorem does_geterr (σ : Sig) (i pb mb : Nat) (bases : List (S × Value)) (A : ModA) (db key val : S) (flags n : Int) (w : World) (m : Nat) (hM : ModIs w σ i pb mb bases A) (hn : Neat w σ) (hs : Sound A m) (hdb : db.length ≤ maxLen) (hkey : key.length ≤ maxLen) (hi : i ≠ 0)
    (he : (valuesA A ⟨8, db, key, val, flags, n⟩).2.2 ≠ 0) :
    Calls Tryz.prog 20 #[.pointer (some ⟨pb, 0, none⟩), opV ⟨8, db, key, val, flags, n⟩] w (DoesPost σ i pb mb (doesA A ⟨8, db, key, val, flags, n⟩) w) := by
  obtain ⟨op, hop⟩ : ∃ op, op = (⟨8, db, key, val, flags, n⟩ : OpA) := ⟨_, rfl⟩
  rw [← hop] at he
  have HR : Hid (doesA A op = (A, ([], []), (valuesA A op).2.2)) := by
    show _ = _
    unfold doesA
    rw [if_pos (by rw [hop]), if_pos he]
  have HP : Hid (∀ o1 o2, Calls Tryz.prog 42 #[.pointer (some ⟨pb, 0, none⟩), .agg #[.int .i64 8, encStr db, encStr key, encStr val, .int .i64 flags, .int .i64 n]] ((w.alloc o1).alloc o2) fun e w' => ∃ bv lv, e = .returned (.tuple #[bv, lv, .iface 71 (.int .i64 (valuesA A op).2.2)]) ∧ Ext ((w.alloc o1).alloc o2) w') := fun o1 o2 => by
    have e2 : Ext w ((w.alloc o1).alloc o2) := ((Ext.rfl' w).alloc o1).alloc o2
    rw [← errV_ne he]
    by_cases h0 : (findA A op.db).2 = 0
    · obtain ⟨B, bb, mb', rows, hf, hgA, hg, hB⟩ := find_at (hM.ext e2) hs.main h0
      have h := values_ok σ i pb mb bases A op ((w.alloc o1).alloc o2) (hM.ext e2) hs.main (by rw [hop]; exact hdb) (by rw [hop]; exact hkey) B bb mb' rows hf hg hB
      rw [hop] at h ⊢
      exact h.mono fun e w' ⟨bv, lv, h1, h2, _⟩ => ⟨bv, lv, h1, h2⟩
    · have h := values_err σ i pb mb bases A op ((w.alloc o1).alloc o2) (hM.ext e2) hs.main (by rw [hop]; exact hdb) h0
      have hv : (valuesA A op).2.2 = (findA A op.db).2 := by unfold valuesA; rw [if_pos h0]
      rw [hv]
      rw [hop] at h ⊢
      exact h.mono fun e w' ⟨h1, h2⟩ => ⟨_, _, h1, h2⟩
  rw [← hop, show opV op = .agg #[.int .i64 8, encStr db, encStr key, encStr val, .int .i64 flags, .int .i64 n] by rw [hop]; rfl]
  have HM := Lib.hid hM
  clear hM hs hop
  have HE := Lib.hid (errV_ne he)
  rw [HR.out]
  unfold DoesPost entV
  simp only [HE.out]
  clear he HE HR
  obtain ⟨c, hc⟩ : ∃ c, (valuesA A op).2.2 = c := ⟨_, rfl⟩
  rw [hc] at HP ⊢
  clear hc
  go_enter Tryz.func20, Tryz.ntmps20
  go_wp2_with fail
  refine (HP.out _ _).mono ?_
  rintro e w3 ⟨bv, lv, rfl, hext⟩
  have hv3 : Moved σ i ((w.alloc (.cells #[.int .i64 8, encStr db, encStr key, encStr val, .int .i64 flags, .int .i64 n] 30)).alloc (.cells #[.string ⟨#[]⟩, .string ⟨#[]⟩] 51)) σ w3 := Moved.ofExt (hn.ext (((Ext.rfl' w).alloc _).alloc _)) hext i
  have hm3 := HM.out.ext (Ext.step (((Ext.rfl' w).alloc _).alloc _) hext)
  have hres := does_box hn (((Ext.rfl' w).alloc _).alloc _) (two_boxes w _ _) hv3 hi
  have r0 := cellAt hres 0
  have r1 := cellAt hres 1
  have q0 := frozenAt hres 0
  have q1 := frozenAt hres 1
  simp at r0 r1
  have HM3 := Lib.hid hm3
  have HV3 := Lib.hid hv3
  clear hm3 hv3 hres hext
  go_wp2
  have o := ((Only.refl (w.heap.size + 1) w3).setCell 0 (.string ⟨#[]⟩)).setCell 1 (.string ⟨#[]⟩)
  refine bodyPost_ret (v := .tuple #[.agg #[encStr [], encStr []], .iface 71 (.int .i64 c)]) ?_ rfl ⟨rfl, σ, bases, does_end hn (((Ext.rfl' w).alloc _).alloc _) (two_boxes w _ _) HM3.out HV3.out hi o⟩
  rw [results_cell_tmp rfl]
  go_simp

set_option maxHeartbeats 4000000 in
set_option maxRecDepth 100000 in
theorem does_getok (σ : Sig) (i pb mb : Nat) (bases : List (S × Value)) (A : ModA) (db key val : S) (flags n : Int) (w : World) (m : Nat) (hM : ModIs w σ i pb mb bases A) (hn : Neat w σ) (hs : Sound A m) (hdb : db.length ≤ maxLen) (hkey : key.length ≤ maxLen) (hi : i ≠ 0)
    (he : (valuesA A ⟨8, db, key, val, flags, n⟩).2.2 = 0) :
    Calls Tryz.prog 20 #[.pointer (some ⟨pb, 0, none⟩), opV ⟨8, db, key, val, flags, n⟩] w (DoesPost σ i pb mb (doesA A ⟨8, db, key, val, flags, n⟩) w) := by
  obtain ⟨op, hop⟩ : ∃ op, op = (⟨8, db, key, val, flags, n⟩ : OpA) := ⟨_, rfl⟩
  rw [← hop] at he
  have h0 : (findA A op.db).2 = 0 := by
    by_cases h : (findA A op.db).2 = 0
    · exact h
    · unfold valuesA at he; rw [if_pos h] at he; exact absurd he h
  obtain ⟨B, bb, mb', rows, hf, hgA, hg, hB⟩ := find_at hM hs.main h0
  have hvals := hs.vals _ _ (mget_mem hgA)
  -- the first of the key's values
  obtain ⟨x, hx⟩ : ∃ x, (valuesA A op).2.1.headD [] = x := ⟨_, rfl⟩
  have HR : Hid (doesA A op = (A, ([], x), 0)) := by
    show _ = _
    unfold doesA
    rw [if_pos (by rw [hop]), if_neg (by rw [he]; simp), hx]
  have HP : Hid (∀ o1 o2, Calls Tryz.prog 42 #[.pointer (some ⟨pb, 0, none⟩), .agg #[.int .i64 8, encStr db, encStr key, encStr val, .int .i64 flags, .int .i64 n]] ((w.alloc o1).alloc o2) fun e w' => ∃ g len cap, e = .returned (.tuple #[.pointer (some ⟨bb, 0, none⟩), .slice (some ⟨g, 0, none⟩) (len + 1) cap, .nilIface]) ∧ Ext ((w.alloc o1).alloc o2) w' ∧ w'.cell? ⟨g, 0, none⟩ = some (encStr x)) := fun o1 o2 => by
    have e2 : Ext w ((w.alloc o1).alloc o2) := ((Ext.rfl' w).alloc o1).alloc o2
    have h := values_ok σ i pb mb bases A op ((w.alloc o1).alloc o2) (hM.ext e2) hs.main (by rw [hop]; exact hdb) (by rw [hop]; exact hkey) B bb mb' rows hf hg (hB.ext e2)
    have hh : opV op = .agg #[.int .i64 8, encStr db, encStr key, encStr val, .int .i64 flags, .int .i64 n] := by rw [hop]; rfl
    rw [hh] at h
    refine h.mono fun e w' ⟨bv, lv, h1, h2, h3, _⟩ => ?_
    obtain ⟨rfl, xs, g1, g2, g3, g4⟩ := h3 he
    have hxs := hvals _ (mget_mem g2)
    cases xs with
    | nil => exact absurd rfl hxs.1
    | cons y r =>
      rw [g3] at hx
      have hxy : y = x := hx
      subst hxy
      rcases g4.1.2 with ⟨hv, hcs⟩ | ⟨g, cap, cur, hv, rest⟩
      · simp at hcs
      · refine ⟨g, r.length, cap, by rw [h1, he, errV_0, hv]; rfl, h2, h2.cell ?_⟩
        have := g4.1.cells (g := g) (by rw [hv]; rfl) 0 (encStr y) rfl
        simpa [Addr.add_lit] using this
  rw [← hop, show opV op = .agg #[.int .i64 8, encStr db, encStr key, encStr val, .int .i64 flags, .int .i64 n] by rw [hop]; rfl]
  have HM := Lib.hid hM
  rw [HR.out]
  unfold DoesPost entV
  clear hM hs hop he HR h0 hf hgA hg hB hvals hx
  go_enter Tryz.func20, Tryz.ntmps20
  go_wp2_with fail
  refine (HP.out _ _).mono ?_
  rintro e w3 ⟨g, len, cap, rfl, hext, hc0⟩
  have hv3 : Moved σ i ((w.alloc (.cells #[.int .i64 8, encStr db, encStr key, encStr val, .int .i64 flags, .int .i64 n] 30)).alloc (.cells #[.string ⟨#[]⟩, .string ⟨#[]⟩] 51)) σ w3 := Moved.ofExt (hn.ext (((Ext.rfl' w).alloc _).alloc _)) hext i
  have hm3 := HM.out.ext (Ext.step (((Ext.rfl' w).alloc _).alloc _) hext)
  have hres := does_box hn (((Ext.rfl' w).alloc _).alloc _) (two_boxes w _ _) hv3 hi
  have r0 := cellAt hres 0
  have r1 := cellAt hres 1
  have q0 := frozenAt hres 0
  have q1 := frozenAt hres 1
  simp at r0 r1
  have HM3 := Lib.hid hm3
  have HV3 := Lib.hid hv3
  clear hm3 hv3 hres hext
  go_wp2
  have o := ((Only.refl (w.heap.size + 1) w3).setCell 0 (.string ⟨#[]⟩)).setCell 1 (encStr x)
  refine bodyPost_ret (v := .tuple #[.agg #[encStr [], encStr x], .nilIface]) ?_ rfl ⟨rfl, σ, bases, does_end hn (((Ext.rfl' w).alloc _).alloc _) (two_boxes w _ _) HM3.out HV3.out hi o⟩
  rw [results_cell_tmp rfl]
  go_simp

set_option maxHeartbeats 4000000 in
set_option maxRecDepth 100000 in
theorem does_else (σ : Sig) (i pb mb : Nat) (bases : List (S × Value)) (A : ModA) (op : OpA) (w : World) (hM : ModIs w σ i pb mb bases A) (hn : Neat w σ) 
    (h8 : op.kind ≠ 8) (h9 : op.kind ≠ 9) (h10 : op.kind ≠ 10) (h11 : op.kind ≠ 11) (h12 : op.kind ≠ 12) (h13 : op.kind ≠ 13) (h14 : op.kind ≠ 14) (h15 : op.kind ≠ 15) :
    Calls Tryz.prog 20 #[.pointer (some ⟨pb, 0, none⟩), opV op] w (DoesPost σ i pb mb (doesA A op) w) := by
  have HR : Hid (doesA A op = (A, ([], []), 24)) := by
    show _ = _
    unfold doesA
    rw [if_neg h8, if_neg h9, if_neg h10, if_neg h11, if_neg h12, if_neg (by intro h; rcases h with h | h; exact h13 h; exact h15 h), if_neg h14]
  have b8 : (op.kind == 8) = false := by simpa using h8
  have b9 : (op.kind == 9) = false := by simpa using h9
  have b10 : (op.kind == 10) = false := by simpa using h10
  have b11 : (op.kind == 11) = false := by simpa using h11
  have b12 : (op.kind == 12) = false := by simpa using h12
  have b13 : (op.kind == 13) = false := by simpa using h13
  have b14 : (op.kind == 14) = false := by simpa using h14
  have b15 : (op.kind == 15) = false := by simpa using h15
  have HM := Lib.hid hM
  rw [HR.out]
  unfold DoesPost entV opV opCells
  clear hM HR h8 h9 h10 h11 h12 h13 h14 h15
  go_enter Tryz.func20, Tryz.ntmps20
  go_wp2
  have e2 : ∀ o1 o2, Ext w ((w.alloc o1).alloc o2) := fun o1 o2 => ((Ext.rfl' w).alloc o1).alloc o2
  refine bodyPost_ret (v := .tuple #[.agg #[encStr [], encStr []], .iface 71 (.int .i64 24)]) ?_ rfl ⟨rfl, σ, bases, HM.out.ext (e2 _ _), Moved.ofExt hn (e2 _ _) i⟩
  rw [results_cell_tmp rfl]
  go_simp

theorem does_any (σ : Sig) (i pb mb : Nat) (bases : List (S × Value)) (A : ModA) (op : OpA) (w : World) (m : Nat) (hM : ModIs w σ i pb mb bases A) (hn : Neat w σ) (hs : Sound A m) (hm : m ≤ 1000000) (hdb : op.db.length ≤ maxLen) (hkey : op.key.length ≤ maxLen) (hi : i ≠ 0) :
    Calls Tryz.prog 20 #[.pointer (some ⟨pb, 0, none⟩), opV op] w (DoesPost σ i pb mb (doesA A op) w) := by
  by_cases h8 : op.kind = 8
  · obtain ⟨k, db, key, val, flags, n⟩ := op
    obtain rfl : k = 8 := h8
    by_cases he : (valuesA A ⟨8, db, key, val, flags, n⟩).2.2 = 0
    · exact does_getok σ i pb mb bases A db key val flags n w m hM hn hs hdb hkey hi he
    · exact does_geterr σ i pb mb bases A db key val flags n w m hM hn hs hdb hkey hi he
  by_cases h9 : op.kind = 9
  · obtain ⟨k, db, key, val, flags, n⟩ := op
    obtain rfl : k = 9 := h9
    exact does_put σ i pb mb bases A db key val flags n w m hM hn hs hm hdb hkey hi
  by_cases h10 : op.kind = 10
  · obtain ⟨k, db, key, val, flags, n⟩ := op
    obtain rfl : k = 10 := h10
    exact does_del σ i pb mb bases A db key val flags n w m hM hn hs hm hdb hkey hi
  by_cases h11 : op.kind = 11
  · obtain ⟨k, db, key, val, flags, n⟩ := op
    obtain rfl : k = 11 := h11
    exact does_name σ i pb mb bases A db key val flags n w m hM hn hs hm hdb hkey hi
  by_cases h12 : op.kind = 12
  · obtain ⟨k, db, key, val, flags, n⟩ := op
    obtain rfl : k = 12 := h12
    exact does_drop σ i pb mb bases A db key val flags n w m hM hn hs hm hdb hkey hi
  by_cases h13 : op.kind = 13
  · obtain ⟨k, db, key, val, flags, n⟩ := op
    obtain rfl : k = 13 := h13
    exact does_seek13 σ i pb mb bases A db key val flags n w m hM hn hs hm hdb hi
  by_cases h14 : op.kind = 14
  · obtain ⟨k, db, key, val, flags, n⟩ := op
    obtain rfl : k = 14 := h14
    exact does_seek14 σ i pb mb bases A db key val flags n w m hM hn hs hm hdb hi
  by_cases h15 : op.kind = 15
  · obtain ⟨k, db, key, val, flags, n⟩ := op
    obtain rfl : k = 15 := h15
    exact does_seek15 σ i pb mb bases A db key val flags n w m hM hn hs hm hdb hi
  exact does_else σ i pb mb bases A op w hM hn h8 h9 h10 h11 h12 h13 h14 h15

end Go.Proofs.YtmkhjmldncegcaaGreatDoor

/-
  WALKS: past.Model.Do.
-/
set_option linter.unusedVariables false
set_option linter.unusedSimpArgs false
namespace Go.Proofs.YtmkhjmldncegcaaGreatDoor
open Go.RowKit Go.Maps Go.ChangeMaps Go.MapKept

/-- The ground of all calls: the variable of package errors lies in block 0, which is nobody's. -/
def Ground (σ : Sig) (w : World) : Prop := ErrType w ∧ (σ 0).1 = 0
theorem Ground.lt {σ : Sig} {w : World} (h : Ground σ w) : 0 < w.heap.size := lt_of_cell h.1
theorem Ground.ext {σ : Sig} {w w' : World} (h : Ground σ w) (e : Ext w w') : Ground σ w' := ⟨e.cell h.1, h.2⟩
theorem Ground.moved {σ σ' : Sig} {i : Nat} {w w' : World} (h : Ground σ w) (m : Moved σ i w σ' w') (hi : i ≠ 0) : Ground σ' w' := by
  refine ⟨?_, by rw [m.ext 0 h.lt]; exact h.2⟩
  unfold ErrType
  rw [World.cell?_of_block (w := w) (w' := w') (a := ⟨0, 0, none⟩) (m.turn.block 0 h.lt (by rw [h.2]; exact fun e => hi e.symm))]
  exact h.1

theorem as_hit (n : Int) (t : Addr) (old : Value) (w : World) (hg : ErrType w) (ht0 : w.cell? t = some old) (hf0 : w.frozen? t = false) :
    Calls Tryz.prog 21 #[.iface 71 (.int .i64 n), .iface 73 (.pointer (some t))] w fun ev w' => ev = .returned (.bool true) ∧ ∃ w1, Ext w w1 ∧ w' = w1.setCell t (.int .i64 n) :=
  (as_hit0 n t old w hg ht0 hf0).mono fun e w' ⟨h1, h2⟩ => ⟨h1, _, ((((Ext.rfl' w).alloc _).alloc _).alloc _).alloc _, h2⟩

theorem reply_size : (Tryz.prog.info? 32).map (·.size) = some 3 := by kernel_rfl

/-- What a call of Do leaves. -/
def DoPost (σ : Sig) (i pb mb : Nat) (A' : ModA) (r : RepA) (w : World) (e : Ending) (w' : World) : Prop :=
  e = .returned (repV r) ∧ ∃ σ' bases', ModIs w' σ' i pb mb bases' A' ∧ Moved σ i w σ' w'

set_option maxHeartbeats 4000000 in
set_option maxRecDepth 100000 in
theorem do_any (σ : Sig) (i pb mb : Nat) (bases : List (S × Value)) (A : ModA) (op : OpA) (w : World) (m : Nat) (hM : ModIs w σ i pb mb bases A) (hn : Neat w σ) (hs : Sound A m) (hm : m ≤ 1000000) (hdb : op.db.length ≤ maxLen) (hkey : op.key.length ≤ maxLen) (hi : i ≠ 0) (hg : Ground σ w) :
    Calls Tryz.prog 10 #[.pointer (some ⟨pb, 0, none⟩), opV op] w (DoPost σ i pb mb (doA A op).1 (doA A op).2 w) := by
  have HP : Hid (∀ o1 o2, Calls Tryz.prog 20 #[.pointer (some ⟨pb, 0, none⟩), opV op] ((w.alloc o1).alloc o2) (DoesPost σ i pb mb (doesA A op) ((w.alloc o1).alloc o2))) := fun o1 o2 =>
    have e2 : Ext w ((w.alloc o1).alloc o2) := ((Ext.rfl' w).alloc o1).alloc o2
    does_any σ i pb mb bases A op ((w.alloc o1).alloc o2) m (hM.ext e2) (hn.ext e2) hs hm hdb hkey hi
  have HG : Hid (∀ o1 o2, Ground σ ((w.alloc o1).alloc o2)) := fun o1 o2 => hg.ext (((Ext.rfl' w).alloc o1).alloc o2)
  have HD : Hid (doA A op = ((doesA A op).1, if (doesA A op).2.2 ≠ 0 then ⟨(doesA A op).2.2, [], []⟩ else ⟨0, (doesA A op).2.1.1, (doesA A op).2.1.2⟩)) := rfl
  unfold opV opCells at HP ⊢
  clear hM hs hdb hkey hg
  rw [HD.out]
  obtain ⟨R, hR⟩ : ∃ R, doesA A op = R := ⟨_, rfl⟩
  simp only [hR] at HP ⊢
  clear hR HD
  obtain ⟨rep, hrep⟩ : ∃ rep : RepA, (if R.2.2 ≠ 0 then (⟨R.2.2, [], []⟩ : RepA) else ⟨0, R.2.1.1, R.2.1.2⟩) = rep := ⟨_, rfl⟩
  rw [hrep]
  have HREP := Lib.hid hrep
  clear hrep
  go_enter Tryz.func10, Tryz.ntmps10
  go_wp2_with fail
  refine (HP.out _ _).mono ?_
  rintro e w3 ⟨rfl, σ', bases', hm3, hv3⟩
  have hres := does_box hn (((Ext.rfl' w).alloc _).alloc _) (two_boxes w _ _) hv3 hi
  have hgr := (HG.out _ _).moved hv3 hi
  have HGR := Lib.hid hgr
  have HRES := Lib.hid hres
  have HM3 := Lib.hid hm3
  have HV3 := Lib.hid hv3
  obtain ⟨A', ⟨k, x⟩, c⟩ := R
  have hres1 := ((((Ext.rfl' w3).alloc (.cells #[encStr k, encStr x] 51 (0, 0))).alloc (.cells #[.int .i64 0] 71 (0, 0))).block _ (lt_heap hres)).trans hres
  have ER : Hid (w.heap.size + 1 < w3.heap.size) := lt_heap hres
  have HRES1 := Lib.hid hres1
  clear hm3 hv3 hres hgr hres1
  unfold entV
  by_cases hc : c = 0
  · subst hc
    rw [errV_0]
    have r0 := cellAt HRES1.out 0
    have r1 := cellAt HRES1.out 1
    have r2 := cellAt HRES1.out 2
    have q0 := frozenAt HRES1.out 0
    have q1 := frozenAt HRES1.out 1
    have q2 := frozenAt HRES1.out 2
    simp at r0 r1 r2
    go_wp2_with (first | (go_at_call 21; refine (as_nil _ _).mono ?_; rintro e w' ⟨rfl, rfl⟩) | fail)
    have e3 : Ext w3 ((w3.alloc (.cells #[encStr k, encStr x] 51 (0, 0))).alloc (.cells #[.int .i64 0] 71 (0, 0))) := ((Ext.rfl' w3).alloc _).alloc _
    have o := (((Only.refl (w.heap.size + 1) ((w3.alloc (.cells #[encStr k, encStr x] 51 (0, 0))).alloc (.cells #[.int .i64 0] 71 (0, 0)))).setCell 0 (.int .i64 0)).setCell 1 (encStr k)).setCell 2 (encStr x)
    have hrow := heap_setCell_row (heap_setCell_row (heap_setCell_row HRES1.out 0 (.int .i64 0)) 1 (encStr k)) 2 (encStr x)
    refine bodyPost_ret (v := .agg #[.int .i64 0, encStr k, encStr x]) (results_cell_row rfl _ _ _ _ _ _ _ rfl hrow Tryz.underlying32 rfl reply_size) rfl ⟨by rw [← HREP.out]; rfl, σ', bases', does_end hn (((Ext.rfl' w).alloc _).alloc _) (two_boxes w _ _) (HM3.out.ext e3) (HV3.out.thenExt e3) hi o⟩
  · rw [errV_ne hc]
    go_wp2_with fail
    refine (as_hit c _ (.int .i64 0) _ ?_ ?_ ?_).mono ?_
    · exact (HGR.out.ext (((Ext.rfl' w3).alloc _).alloc _)).1
    · exact cellAt (two_boxes w3 _ (.cells #[.int .i64 0] 71 (0, 0))) 0
    · exact frozenAt (two_boxes w3 _ (.cells #[.int .i64 0] 71 (0, 0))) 0
    rintro e w5 ⟨rfl, w1, hx1, h5⟩
    have hlt := ER.out
    have o5 : Only (w3.heap.size + 1) w1 w5 := by rw [h5]; exact (Only.refl _ _).setCell 0 _
    have hn5 : w5.heap[w3.heap.size + 1]? = some (.cells #[.int .i64 c] 71 (0, 0)) := by
      rw [h5]
      have h0 : w1.heap[w3.heap.size + 1]? = some (.cells #[.int .i64 0] 71 (0, 0)) := by rw [hx1.block _ (by simp)]; exact two_boxes w3 _ _
      exact heap_setCell_row h0 0 _
    have hr5 : w5.heap[w.heap.size + 1]? = some (.cells #[.int .i64 0, .string ⟨#[]⟩, .string ⟨#[]⟩] 32 (0, 0)) := by
      rw [o5.block _ (by omega), hx1.block _ (by simp; omega)]; exact HRES1.out
    have c5 := cellAt hn5 0
    have r0 := cellAt hr5 0
    have r1 := cellAt hr5 1
    have r2 := cellAt hr5 2
    have q0 := frozenAt hr5 0
    have q1 := frozenAt hr5 1
    have q2 := frozenAt hr5 2
    simp at c5 r0 r1 r2
    have m5 : Moved σ' i w3 σ' w5 := Moved.fresh (Moved.ofExt HV3.out.neat (Ext.step (((Ext.rfl' w3).alloc _).alloc _) hx1) i) o5 (by omega)
    have hm5 : ModIs w5 σ' i pb mb bases' A' := (HM3.out.ext (Ext.step (((Ext.rfl' w3).alloc _).alloc _) hx1)).only o5 (by rw [HV3.out.neat _ (by omega)]; exact fun e => hi e.symm)
    have M5 := Lib.hid m5
    have HR5 := Lib.hid hr5
    have HM5 := Lib.hid hm5
    clear hx1 h5 o5 hn5 hr5 m5 hm5
    go_wp2
    have hif : rep = ⟨c, [], []⟩ := by rw [← HREP.out]; exact if_pos hc
    have o := (((Only.refl (w.heap.size + 1) w5).setCell 0 (.int .i64 c)).setCell 1 (encStr [])).setCell 2 (encStr [])
    have hrow := heap_setCell_row (heap_setCell_row (heap_setCell_row HR5.out 0 (.int .i64 c)) 1 (encStr [])) 2 (encStr [])
    refine bodyPost_ret (v := .agg #[.int .i64 c, encStr [], encStr []]) (results_cell_row rfl _ _ _ _ _ _ _ rfl hrow Tryz.underlying32 rfl reply_size) rfl ⟨by rw [hif]; rfl, σ', bases', does_end hn (((Ext.rfl' w).alloc _).alloc _) (two_boxes w _ _) HM5.out (HV3.out.trans M5.out) hi o⟩
end Go.Proofs.YtmkhjmldncegcaaGreatDoor

/-
  NO WALK: a map copied in an order that nobody knows: what the rounds keep.
-/
set_option linter.unusedVariables false
set_option linter.unusedSimpArgs false
set_option linter.unusedSectionVars false
namespace Go.Proofs.YtmkhjmldncegcaaGreatDoor
open Go.RowKit Go.Maps Go.ChangeMaps Go.MapKept Go.WideShapes

section
variable {κ α β : Type} [Ky κ]
theorem befK_irrefl (a : κ) : befK a a = false := before_irrefl _
theorem befK_trans {a b c : κ} (h : befK a b = true) (k : befK b c = true) : befK a c = true := before_trans h k
theorem befK_asymm {a b : κ} (h : befK a b = true) : befK b a = false := by
  cases e : befK b a
  · rfl
  · have := befK_trans h e; rw [befK_irrefl] at this; cases this

/-- What is no longer to come. -/
def stays (left : Lit → Bool) (l : List (κ × α)) : List (κ × α) := l.filter fun p => !left (Ky.lit p.1)

theorem stays_end {left : Lit → Bool} (h : ∀ kl, left kl = false) (l : List (κ × α)) : stays left l = l := by
  unfold stays; rw [List.filter_eq_self]; intro p _; rw [h]; rfl
theorem stays_none {left : Lit → Bool} {l : List (κ × α)} (h : ∀ p ∈ l, left (Ky.lit p.1) = true) : stays left l = [] := by
  unfold stays; rw [List.filter_eq_nil_iff]; intro p hp; rw [h p hp]; simp
theorem stays_same {left left' : Lit → Bool} {l : List (κ × α)} (h : ∀ p ∈ l, left (Ky.lit p.1) = left' (Ky.lit p.1)) : stays left l = stays left' l := by
  unfold stays; exact List.filter_congr fun p hp => by rw [h p hp]

theorem mdel_none {k : κ} {l : List (κ × α)} (h : ∀ p ∈ l, p.1 ≠ k) : mdel k l = l := by
  unfold mdel; rw [List.filter_eq_self]; intro p hp; rw [sameK_ne (h p hp)]; rfl

theorem stays_take {left : Lit → Bool} {k : κ} {v : α} : ∀ {l : List (κ × α)}, l.Pairwise (fun p q => befK p.1 q.1 = true) → (k, v) ∈ l → left (Ky.lit k) = true →
    mput k v (stays left l) = stays (fun z => left z && !z.sameKey (Ky.lit k)) l
  | [], _, h, _ => by simp at h
  | y :: r, hp, hm, hl => by
    obtain ⟨h1, h2⟩ := List.pairwise_cons.1 hp
    by_cases e : y.1 = k
    · have hy : y = (k, v) := by
        rcases List.mem_cons.1 hm with h | h
        · exact h.symm
        · have := h1 _ h; rw [e, befK_irrefl] at this; cases this
      subst hy
      have hne : ∀ p ∈ r, p.1 ≠ k := fun p hp e => by have := h1 p hp; rw [e, befK_irrefl] at this; cases this
      have a1 : stays left ((k, v) :: r) = stays left r := by unfold stays; rw [List.filter_cons, hl]; rfl
      have a2 : stays (fun z => left z && !z.sameKey (Ky.lit k)) ((k, v) :: r) = (k, v) :: stays left r := by
        have : stays (fun z => left z && !z.sameKey (Ky.lit k)) r = stays left r := stays_same fun p hp => by
          show (left _ && !sameK p.1 k) = _
          rw [sameK_ne (hne p hp)]; simp
        rw [← this]
        unfold stays
        rw [List.filter_cons]
        show (if (!(left (Ky.lit k) && !sameK k k)) = true then _ else _) = _
        rw [sameK_self]; simp
      rw [a1, a2]
      unfold mput
      rw [mdel_none (l := stays left r) (fun p hp => hne p (List.mem_filter.1 hp).1)]
      cases hs : stays left r with
      | nil => rfl
      | cons z s =>
        have hz : z ∈ r := (List.mem_filter.1 (by rw [show r.filter (fun p => !left (Ky.lit p.1)) = stays left r from rfl, hs]; simp : z ∈ r.filter (fun p => !left (Ky.lit p.1)))).1
        unfold mins
        rw [if_pos (h1 z hz)]
    · have hm' : (k, v) ∈ r := by
        rcases List.mem_cons.1 hm with h | h
        · rw [← h] at e; exact absurd rfl e
        · exact h
      have hb : befK y.1 k = true := h1 _ hm'
      have ih := stays_take h2 hm' hl
      have hk : (fun z => left z && !z.sameKey (Ky.lit k)) (Ky.lit y.1) = left (Ky.lit y.1) := by
        show (left _ && !sameK y.1 k) = _
        rw [sameK_ne e]; simp
      by_cases hy : left (Ky.lit y.1) = true
      · have a1 : stays left (y :: r) = stays left r := by unfold stays; rw [List.filter_cons, hy]; rfl
        have a2 : stays (fun z => left z && !z.sameKey (Ky.lit k)) (y :: r) = stays (fun z => left z && !z.sameKey (Ky.lit k)) r := by
          unfold stays; rw [List.filter_cons, hk, hy]; rfl
        rw [a1, a2, ih]
      · have hy' : left (Ky.lit y.1) = false := by simpa using hy
        have a1 : stays left (y :: r) = y :: stays left r := by unfold stays; rw [List.filter_cons, hy']; rfl
        have a2 : stays (fun z => left z && !z.sameKey (Ky.lit k)) (y :: r) = y :: stays (fun z => left z && !z.sameKey (Ky.lit k)) r := by
          unfold stays; rw [List.filter_cons, hk, hy']; rfl
        rw [a1, a2, ← ih]
        have a3 : mdel k (y :: stays left r) = y :: mdel k (stays left r) := by unfold mdel; rw [List.filter_cons, sameK_ne e]; rfl
        unfold mput
        rw [a3]
        conv => lhs; unfold mins
        rw [if_neg (by rw [befK_asymm hb]; simp)]

theorem stays_len {left : Lit → Bool} (l : List (κ × α)) : (stays left l).length ≤ l.length := List.length_filter_le _ _
end

/-! ### a range under way -/
def RangeAt (w : World) (b r : Nat) (vs : List (S × Value)) (left : Lit → Bool) (cnt : Nat) : Prop := w.ranges Tryz.prog 9 Rh b r vs.length (toD DataW.held vs) left cnt

theorem RangeAt.map {w : World} {b r : Nat} {vs : List (S × Value)} {left : Lit → Bool} {cnt : Nat} (h : RangeAt w b r vs left cnt) : MapOf w 9 b vs := World.ranges.owns h
theorem RangeAt.lt {w : World} {b r : Nat} {vs : List (S × Value)} {left : Lit → Bool} {cnt : Nat} (h : RangeAt w b r vs left cnt) : r < w.heap.size := World.ranges.lt h
theorem RangeAt.same {w w' : World} {b r : Nat} {vs : List (S × Value)} {left : Lit → Bool} {cnt : Nat} (h : RangeAt w b r vs left cnt) (hb : w'.heap[b]? = w.heap[b]?) (hr : w'.heap[r]? = w.heap[r]?) : RangeAt w' b r vs left cnt := by
  obtain ⟨es, clock, since, seen, c0, h1, F, hs, hD, h2, rest⟩ := h
  exact ⟨es, clock, since, seen, c0, hb.trans h1, F, hs, hD, hr.trans h2, rest⟩

theorem MapOf.befs {w : World} {kt : TypeId} {b : Nat} {vs : List (S × Value)} (h : MapOf w kt b vs) (K : Keyed Tryz.prog kt) : vs.Pairwise (fun p q => befK p.1 q.1 = true) := by
  obtain ⟨es, he, hp, _⟩ := World.ownsMap.canon h K
  unfold toD at he
  injection he with he
  rw [← he, List.pairwise_map] at hp
  exact hp
theorem Beside.befs {κ α β : Type} [Ky κ] {R : κ → α → β → Prop} {l : List (κ × α)} {r : List (κ × β)} (h : Beside R l r) (hp : l.Pairwise (fun p q => befK p.1 q.1 = true)) : r.Pairwise (fun p q => befK p.1 q.1 = true) := by
  have e := h.keys
  have h1 : (l.map (·.1)).Pairwise (fun a b => befK a b = true) := by rw [List.pairwise_map]; exact hp
  rw [e, List.pairwise_map] at h1
  exact h1
theorem Beside.mem {κ α β : Type} [Ky κ] {R : κ → α → β → Prop} : ∀ {l : List (κ × α)} {r : List (κ × β)}, Beside R l r → ∀ {k : κ} {a : α}, (k, a) ∈ l → ∃ b, (k, b) ∈ r ∧ R k a b
  | _, _, .nil, k, a, h => by simp at h
  | _, _, .cons h0 t, k, a, h => by
    rcases List.mem_cons.1 h with e | h
    · cases e; exact ⟨_, by simp, h0⟩
    · obtain ⟨b, hb, hr⟩ := Beside.mem t h; exact ⟨b, by simp [hb], hr⟩
theorem stays_start {β : Type} {R : S → Value → β → Prop} {vs : List (S × Value)} {l : List (S × β)} (h : Beside R vs l) : stays (Maps.has (toD DataW.held vs)) l = [] := by
  refine stays_none fun p hp => ?_
  rw [toD_has]
  have hk : p.1 ∈ vs.map (·.1) := by rw [h.keys]; exact List.mem_map.2 ⟨p, hp, rfl⟩
  obtain ⟨q, hq, e⟩ := List.mem_map.1 hk
  cases hm : mget p.1 vs with
  | some _ => rfl
  | none =>
    unfold mget at hm
    rw [Option.map_eq_none_iff, List.find?_eq_none] at hm
    have := hm q hq
    rw [e, sameK_self] at this
    exact absurd rfl this

theorem mget_of_at {vs : List (S × Value)} {x : S} {c : Value} (h : ∀ zd, (toD DataW.held vs).atKey (Ky.lit x) zd = DataW.held c) : mget x vs = some c := by
  have h0 := (toD_at DataW.held x vs (.held (.int .i64 0))).symm.trans (h (.held (.int .i64 0)))
  have h1 := (toD_at DataW.held x vs (.held (.int .i64 1))).symm.trans (h (.held (.int .i64 1)))
  clear h
  generalize mget x vs = u at h0 h1
  cases u with
  | none =>
    have g0 : DataW.held (Value.int .i64 0) = DataW.held c := h0
    have g1 : DataW.held (Value.int .i64 1) = DataW.held c := h1
    injection g0 with g0
    injection g1 with g1
    rw [← g0] at g1
    injection g1 with _ g1
    omega
  | some u =>
    have g0 : DataW.held u = DataW.held c := h0
    injection g0 with g0
    rw [g0]

section
variable {w : World} {ops : Array Oper} {rest : List Oper} {o : Oper} {a : Act} {Q : Exit → Act → World → Prop}
/-- The step of a range over a map with texts for keys. -/
theorem wpList_next_rows (hg : o.guard = none) (it : Operand) (hop : o.op = Op.next it false) (b r : Nat) (vs : List (S × Value)) (left : Lit → Bool) (cnt : Nat)
    (hit : a.eval it = .pointer (some ⟨r, 0, none⟩)) (h : RangeAt w b r vs left cnt)
    (hDone : cnt = 0 → (∀ kl, left kl = false) → wpList Tryz.prog ops Q rest (a.put o.dst (.tuple #[.bool false])) w)
    (hMore : ∀ (x : S) (c : Value) (w' : World) (cnt' : Nat), (x, c) ∈ vs → left (Ky.lit x) = true → x.length ≤ maxLen → RangeAt w' b r vs (fun z => left z && !z.sameKey (Ky.lit x)) cnt' → cnt' < cnt →
      w.grownBy w' (some r) → w'.heap.size = w.heap.size → (Instr.entry (.pointer (some ⟨r, 0, none⟩))).run Tryz.prog w' = .ok (.tuple #[encStr x, c]) w' → wpList Tryz.prog ops Q rest (a.put o.dst (.tuple #[.bool true, encStr x, c])) w') :
    wpList Tryz.prog ops Q (o :: rest) a w :=
  wpList_next_ranges w hg it hop 9 keyedS Rh encStr (fun v : Value => v) (fun key kl hkey => by obtain ⟨x, hx, _⟩ := Maps.keyOf_str Tryz.underlying9 hkey; exact ⟨x, hx⟩) (fun v y _ => ⟨v, rfl⟩)
    b r _ _ left cnt hit h hDone (fun x c kl y w' cnt' hkey hlk hv hat hrg hlt hgr hsz hen => by
      obtain ⟨x', ex, rfl, hl⟩ := Maps.keyOf_str Tryz.underlying9 hkey
      have exx : x = x' := by have := congrArg (fun v => match v with | Value.string s => s.data.toList | _ => []) ex; simpa [encStr] using this
      subst exx
      unfold Rh at hv
      injection hv with hv
      subst hv
      have hm : mget x vs = some c := mget_of_at hat
      exact hMore x c w' cnt' (mget_mem hm) hlk hl hrg hlt hgr hsz hen)
end

theorem Only.ofGrown {w w' : World} {r : Nat} (h : w.grownBy w' (some r)) (hs : w'.heap.size = w.heap.size) : Only r w w' :=
  ⟨h.os, h.tape, h.output, hs, fun k hk => by
    by_cases hl : k < w.heap.size
    · exact h.block k hl (fun e => hk (Option.some.inj e))
    · rw [Array.getElem?_eq_none (by omega), Array.getElem?_eq_none (by omega)]⟩
theorem Ext.only {w0 w w' : World} {b : Nat} (h : Ext w0 w) (o : Only b w w') (hb : w0.heap.size ≤ b) : Ext w0 w' :=
  ⟨o.os.trans h.os, o.tape.trans h.tape, o.output.trans h.output, by rw [o.size]; exact h.size, fun k hk => (o.block k (by omega)).trans (h.block k hk)⟩
theorem Ext.ofGrown {w w' : World} (h : w.grownBy w' none) : Ext w w' := ⟨h.os, h.tape, h.output, h.size, fun k hk => h.block k hk (by simp)⟩

def layV (σ : Sig) (v : Value) (l : Lab) : Sig := match v.ownBlock with | some g => lay σ g l | none => σ
theorem layV_old {σ : Sig} {v : Value} {l : Lab} {k : Nat} (h : ∀ g, v.ownBlock = some g → k < g) : layV σ v l k = σ k := by
  unfold layV
  cases e : v.ownBlock with
  | none => rfl
  | some g => have := h g e; exact lay_other (by omega)
theorem layV_neat {σ : Sig} {v : Value} {l : Lab} {w w' : World} (hn : Neat w σ) (hs : w.heap.size ≤ w'.heap.size) (h : ∀ g, v.ownBlock = some g → g < w'.heap.size) : Neat w' (layV σ v l) := fun k hk => by
  unfold layV
  cases e : v.ownBlock with
  | none => exact hn k (by omega)
  | some g => have := h g e; show lay σ g l k = _; rw [lay_other (by omega)]; exact hn k (by omega)

/-! ### the relations of Copy's two loops -/
/-- The inner loop: base n's values, from rows into the new map C1 = W0.heap.size, its box C0 behind it, the iterator r2 behind that. -/
def CopyIn (W0 : World) (σ1 : Sig) (i : Nat) (n : S) (B : BaseA) (rows : List (S × Value)) (mb' : Nat) (left : Lit → Bool) (cnt : Nat) (wr : World) (σ2 : Sig) (rows' : List (S × Value)) : Prop :=
  RangeAt wr mb' (W0.heap.size + 2) rows left cnt ∧ Ext W0 wr ∧ wr.heap[W0.heap.size + 1]? = some (.cells #[.int .i64 B.flags, .map (some W0.heap.size)] 58 (0, 0)) ∧
    MapOf wr 9 W0.heap.size rows' ∧ Beside (fun k v xs => RowAt wr σ2 (i, .row n k) v xs) rows' (stays left B.m) ∧ SigExt W0 σ1 σ2 ∧ Neat wr σ2 ∧
    σ2 W0.heap.size = (i, .vals n) ∧ σ2 (W0.heap.size + 1) = (i, .base n) ∧ σ2 (W0.heap.size + 2) = other

theorem copyIn_start {W0 W2 : World} {σ1 : Sig} {i : Nat} {n : S} {B : BaseA} {rows : List (S × Value)} {mb' : Nat} {cnt : Nat} {R : S → Value → List S → Prop} (hn : Neat W0 σ1)
    (hb : Beside R rows B.m)
    (hr : RangeAt W2 mb' (W0.heap.size + 2) rows (Maps.has (toD DataW.held rows)) cnt)
    (hg : ((W0.alloc (.map #[] 0)).alloc (.cells #[.int .i64 B.flags, .map (some W0.heap.size)] 58 (0, 0))).grownBy W2 none) (hs : W2.heap.size = W0.heap.size + 3) :
    CopyIn W0 σ1 i n B rows mb' (Maps.has (toD DataW.held rows)) cnt W2 (lay (lay σ1 W0.heap.size (i, .vals n)) (W0.heap.size + 1) (i, .base n)) [] := by
  have e2 := Ext.ofGrown hg
  refine ⟨hr, Ext.step (((Ext.rfl' W0).alloc _).alloc _) e2, ?_, ?_, ?_, ?_, ?_, ?_, ?_, ?_⟩
  · rw [e2.block _ (by simp)]; exact two_boxes W0 _ _
  · exact ((MapOf.made W0 9).ext ((Ext.rfl' _).alloc _)).ext e2
  · rw [stays_start hb]; exact .nil
  · intro k hk; rw [lay_other (by omega), lay_other (by omega)]
  · intro k hk; rw [lay_other (by omega), lay_other (by omega)]; exact hn k (by omega)
  · rw [lay_other (by omega), lay_same]
  · rw [lay_same]
  · rw [lay_other (by omega), lay_other (by omega)]; exact hn _ (by omega)

theorem copyIn_step {W0 wr w1 w3 w4 : World} {σ1 : Sig} {i : Nat} {n k : S} {B : BaseA} {rows : List (S × Value)} {mb' : Nat} {left : Lit → Bool} {cnt cnt' : Nat} {xs : List S} {v' : Value} {base : Nat} {σ2 : Sig} {rows' : List (S × Value)}
    (h : CopyIn W0 σ1 i n B rows mb' left cnt wr σ2 rows') (hm : mb' < W0.heap.size) (hsort : B.m.Pairwise (fun p q => befK p.1 q.1 = true)) (hk : (k, xs) ∈ B.m) (hl : left (Ky.lit k) = true)
    (hr1 : RangeAt w1 mb' (W0.heap.size + 2) rows (fun z => left z && !z.sameKey (Ky.lit k)) cnt') (hg1 : wr.grownBy w1 (some (W0.heap.size + 2))) (hs1 : w1.heap.size = wr.heap.size) (e3 : Ext w1 w3)
    (hown : w3.ownsRow base 9 1 v' xs.length (xs.map encStr)) (hbase : w1.heap.size ≤ base)
    (hM4 : MapOf w4 9 W0.heap.size (mput k v' rows')) (ht : w3.mapTurned w4 W0.heap.size) :
    CopyIn W0 σ1 i n B rows mb' (fun z => left z && !z.sameKey (Ky.lit k)) cnt' w4 (layV σ2 v' (i, .row n k)) (mput k v' rows') := by
  obtain ⟨a1, a2, a3, a4, a5, a6, a7, a8, a9, a10⟩ := h
  have o1 := Only.ofGrown hg1 hs1
  have o4 := Only.ofMap ht
  have hvb : ∀ g, v'.ownBlock = some g → w1.heap.size ≤ g ∧ g < w3.heap.size := fun g hg => ⟨Nat.le_trans hbase (hown.lt g hg).1, (hown.lt g hg).2⟩
  have hsz : w1.heap.size ≤ w3.heap.size := e3.size
  have hs4 : w4.heap.size = w3.heap.size := o4.size
  have hwr : W0.heap.size + 2 < wr.heap.size := a1.lt
  have ew : ∀ b, b < wr.heap.size → b ≠ W0.heap.size + 2 → b ≠ W0.heap.size → w4.heap[b]? = wr.heap[b]? := fun b hb h1 h2 => by
    rw [o4.block b h2, e3.block b (by omega), o1.block b h1]
  have hold : ∀ b, b < wr.heap.size → layV σ2 v' (i, .row n k) b = σ2 b := fun b hb => layV_old fun g hg => by have := (hvb g hg).1; omega
  refine ⟨?_, ?_, ?_, hM4, ?_, ?_, ?_, ?_, ?_, ?_⟩
  · refine hr1.same ?_ ?_
    · rw [o4.block _ (by omega), e3.block _ (by omega)]
    · rw [o4.block _ (by omega), e3.block _ (by omega)]
  · exact Ext.only (Ext.step (Ext.only a2 o1 (by omega)) e3) o4 (Nat.le_refl _)
  · rw [ew _ (by omega) (by omega) (by omega)]; exact a3
  · rw [← stays_take hsort hk hl]
    have kk : Keep (fun l => l.2 ≠ .top ∧ l ≠ (i, .vals n)) σ2 wr (layV σ2 v' (i, .row n k)) w4 := fun b hb hp => by
      refine ⟨ew b hb (fun e => ?_) (fun e => ?_), hold b hb⟩
      · rw [e, a10] at hp; exact hp.1 rfl
      · rw [e, a8] at hp; exact hp.2 rfl
    refine Beside.put' (fun k' a b hne hb => hb.keep kk ⟨by simp, by simp⟩) ⟨?_, fun g hg => ?_⟩ a5
    · have h0 := hown.base (Nat.zero_le _)
      refine ⟨h0.1, ?_⟩
      rcases h0.2 with hnil | ⟨g, cap, cur, rfl, g1, g2, rest⟩
      · exact .inl hnil
      · refine .inr ⟨g, cap, cur, rfl, g1, ?_, rest⟩
        have := (hvb g rfl).1
        rw [o4.block g (by omega)]; exact g2
    · unfold layV
      rw [hg]
      exact lay_same _ _ _
  · intro b hb; rw [hold b (by omega)]; exact a6 b hb
  · exact layV_neat a7 (by omega) fun g hg => by have := (hvb g hg).2; omega
  · rw [hold _ (by omega)]; exact a8
  · rw [hold _ (by omega)]; exact a9
  · rw [hold _ (by omega)]; exact a10

/-- The outer loop: the new model's box is block w.heap.size, its map the next, the iterator the next. -/
def CopyOut (w : World) (σ : Sig) (i : Nat) (A : ModA) (bases : List (S × Value)) (mb : Nat) (left : Lit → Bool) (cnt : Nat) (wr : World) (σ1 : Sig) (nb : List (S × Value)) : Prop :=
  RangeAt wr mb (w.heap.size + 2) bases left cnt ∧ Ext w wr ∧ wr.heap[w.heap.size]? = some (.cells #[.map (some (w.heap.size + 1)), encStr A.db, encStr A.ek, encStr A.ev, .bool A.on] 61 (0, 0)) ∧
    MapOf wr 9 (w.heap.size + 1) nb ∧ Beside (fun n v B => BaseAt wr σ1 i n v B) nb (stays left A.l) ∧ SigExt w σ σ1 ∧ Neat wr σ1 ∧
    σ1 w.heap.size = (i, .top) ∧ σ1 (w.heap.size + 1) = (i, .names) ∧ σ1 (w.heap.size + 2) = other

/-- Behind an inner loop and the store of the new base. -/
theorem copyOut_step {w wr w1 w3 w4 : World} {σ : Sig} {i : Nat} {A : ModA} {bases rows : List (S × Value)} {mb mb' : Nat} {left left2 : Lit → Bool} {cnt cnt' cnt2 : Nat} {n : S} {B : BaseA} {σ1 σ2 : Sig} {nb rows' : List (S × Value)}
    (h : CopyOut w σ i A bases mb left cnt wr σ1 nb) (hmb : mb < w.heap.size) (hsort : A.l.Pairwise (fun p q => befK p.1 q.1 = true)) (hk : (n, B) ∈ A.l) (hl : left (Ky.lit n) = true)
    (hr1 : RangeAt w1 mb (w.heap.size + 2) bases (fun z => left z && !z.sameKey (Ky.lit n)) cnt') (hg1 : wr.grownBy w1 (some (w.heap.size + 2))) (hs1 : w1.heap.size = wr.heap.size)
    (hin : CopyIn w1 σ1 i n B rows mb' left2 cnt2 w3 σ2 rows') (hl2 : ∀ kl, left2 kl = false)
    (hM4 : MapOf w4 9 (w.heap.size + 1) (mput n (.pointer (some ⟨w1.heap.size + 1, 0, none⟩)) nb)) (ht : w3.mapTurned w4 (w.heap.size + 1)) :
    CopyOut w σ i A bases mb (fun z => left z && !z.sameKey (Ky.lit n)) cnt' w4 σ2 (mput n (.pointer (some ⟨w1.heap.size + 1, 0, none⟩)) nb) := by
  obtain ⟨a1, a2, a3, a4, a5, a6, a7, a8, a9, a10⟩ := h
  have o1 := Only.ofGrown hg1 hs1
  have o4 := Only.ofMap ht
  obtain ⟨b1, b2, b3, b4, b5, b6, b7, b8, b9, b10⟩ := hin
  have hwr : w.heap.size + 2 < wr.heap.size := a1.lt
  have hsz : w1.heap.size ≤ w3.heap.size := b2.size
  have hlt3 : w1.heap.size + 2 < w3.heap.size := b1.lt
  have hs4 : w4.heap.size = w3.heap.size := o4.size
  have ew : ∀ b, b < wr.heap.size → b ≠ w.heap.size + 2 → b ≠ w.heap.size + 1 → w4.heap[b]? = wr.heap[b]? := fun b hb h1 h2 => by
    rw [o4.block b h2, b2.block b (by omega), o1.block b h1]
  have hold : ∀ b, b < wr.heap.size → σ2 b = σ1 b := fun b hb => b6 b (by omega)
  refine ⟨?_, ?_, ?_, hM4, ?_, ?_, ?_, ?_, ?_, ?_⟩
  · refine hr1.same ?_ ?_
    · rw [o4.block _ (by omega), b2.block _ (by omega)]
    · rw [o4.block _ (by omega), b2.block _ (by omega)]
  · exact Ext.only (Ext.step (Ext.only a2 o1 (by omega)) b2) o4 (by omega)
  · rw [ew _ (by omega) (by omega) (by omega)]; exact a3
  · rw [← stays_take hsort hk hl]
    have kk : Keep (fun l => l.2 ≠ .top ∧ l ≠ (i, .names)) σ1 wr σ2 w4 := fun b hb hp => by
      refine ⟨ew b hb (fun e => ?_) (fun e => ?_), hold b hb⟩
      · rw [e, a10] at hp; exact hp.1 rfl
      · rw [e, a9] at hp; exact hp.2 rfl
    refine Beside.put' (fun n' a b hne hb => hb.keep kk ⟨by simp, by simp⟩ ⟨by simp, by simp⟩ fun k => ⟨by simp, by simp⟩) ⟨w1.heap.size + 1, w1.heap.size, rows', rfl, b9, ?_, b8, ?_, ?_⟩ a5
    · rw [o4.block _ (by omega)]; exact b3
    · exact b4.same (o4.block _ (by omega))
    · rw [stays_end hl2] at b5
      have k4 : Keep (fun l => l.2 ≠ .top ∧ l ≠ (i, .names)) σ2 w3 σ2 w4 := Keep.ofOnly o4 (by rw [hold _ (by omega), a9]; simp)
      exact b5.imp fun k v xs hh => hh.keep k4 ⟨by simp, by simp⟩
  · intro b hb; rw [hold b (by omega)]; exact a6 b hb
  · intro b hb; exact b7 b (by omega)
  · rw [hold _ (by omega)]; exact a8
  · rw [hold _ (by omega)]; exact a9
  · rw [hold _ (by omega)]; exact a10

theorem copyOut_end {w wr : World} {σ : Sig} {i : Nat} {A : ModA} {bases : List (S × Value)} {mb : Nat} {left : Lit → Bool} {cnt : Nat} {σ1 : Sig} {nb : List (S × Value)} (h : CopyOut w σ i A bases mb left cnt wr σ1 nb) (hl : ∀ kl, left kl = false) :
    ∃ σ', ModAt wr σ' i (.pointer (some ⟨w.heap.size, 0, none⟩)) A ∧ Ext w wr ∧ SigExt w σ σ' ∧ Neat wr σ' := by
  obtain ⟨a1, a2, a3, a4, a5, a6, a7, a8, a9, a10⟩ := h
  rw [stays_end hl] at a5
  exact ⟨σ1, ⟨w.heap.size, w.heap.size + 1, nb, rfl, a8, a3, a9, a4, a5⟩, a2, a6, a7⟩
end Go.Proofs.YtmkhjmldncegcaaGreatDoor

/-
  WALKS: past.Model.Copy.
-/
set_option linter.unusedVariables false
set_option linter.unusedSimpArgs false
namespace Go.Proofs.YtmkhjmldncegcaaGreatDoor
open Go.RowKit Go.Maps Go.ChangeMaps Go.MapKept

set_option maxHeartbeats 4000000 in
set_option maxRecDepth 100000 in
theorem copy_any (σ : Sig) (i0 i pb mb : Nat) (bases : List (S × Value)) (A : ModA) (w : World) (m : Nat) (hM : ModIs w σ i0 pb mb bases A) (hn : Neat w σ) (hs : Sound A m) (hm : m ≤ 1000000) :
    Calls Tryz.prog 13 #[.pointer (some ⟨pb, 0, none⟩)] w fun e w' => ∃ pv, e = .returned pv ∧ ∃ σ', ModAt w' σ' i pv A ∧ Ext w w' ∧ SigExt w σ σ' ∧ Neat w' σ' := by
  have hm1 : ∀ w, (Instr.makeMap 59 none).run Tryz.prog w = .ok (.map (some w.heap.size)) (w.alloc (.map #[] 0)) := fun w => run_makeMap _ w
  have hm2 : ∀ w, (Instr.makeMap 56 none).run Tryz.prog w = .ok (.map (some w.heap.size)) (w.alloc (.map #[] 0)) := fun w => run_makeMap _ w
  have k0 := cellAt hM.2.1 0
  have k1 := cellAt hM.2.1 1
  have k2 := cellAt hM.2.1 2
  have k3 := cellAt hM.2.1 3
  have k4 := cellAt hM.2.1 4
  simp at k0 k1 k2 k3 k4
  have hpl := lt_heap hM.2.1
  have n1 : ¬ pb = w.heap.size := by omega
  have n2 : ¬ w.heap.size = pb := by omega
  have n3 : ¬ pb = w.heap.size + 1 := by omega
  have HM := Lib.hid hM
  have HS := Lib.hid hs
  clear hM hs
  go_enter Tryz.func13, Tryz.ntmps13
  go_wp2_with (first | (at_range; refine wpList_range_own _ rfl _ 59 rfl 9 55 keyedS Tryz.underlying59 Rh mb bases.length (toD DataW.held bases) rfl (HM.out.ext (((Ext.rfl' w).alloc _).alloc _)).2.2.2.1 ?_; intro w0 hrg0 hg0 hs0) | fail)
  go_frame
  have e2 : ∀ o1 o2, ((w.alloc o1).alloc o2).heap.size = w.heap.size + 2 := fun _ _ => by simp
  rw [e2] at hrg0 hs0 ⊢
  have e0 : Ext w w0 := Ext.step (((Ext.rfl' w).alloc _).alloc _) (Ext.ofGrown hg0)
  have hb0 : w0.heap[w.heap.size]? = some (.cells #[.map (some (w.heap.size + 1)), encStr A.db, encStr A.ek, encStr A.ev, .bool A.on] 61 (0, 0)) := by
    rw [(Ext.ofGrown hg0).block _ (by simp; omega), ((Ext.rfl' (w.alloc (Obj.cells #[.map (some (w.heap.size + 1)), encStr A.db, encStr A.ek, encStr A.ev, .bool A.on] 61 (0, 0)))).alloc _).block _ (by simp)]
    exact heap_new _ _
  have hc0 : MapOf (κ := S) w0 9 (w.heap.size + 1) [] := by
    have := (MapOf.made (κ := S) (w.alloc (Obj.cells #[.map (some (w.heap.size + 1)), encStr A.db, encStr A.ek, encStr A.ev, .bool A.on] 61 (0, 0))) 9).ext (Ext.ofGrown hg0)
    simpa using this
  have hsz0 : w0.heap.size = w.heap.size + 3 := hs0
  have hrel0 : CopyOut w σ i A bases mb (Maps.has (toD DataW.held bases)) (Maps.size (toD DataW.held bases)) w0 (lay (lay σ w.heap.size (i, .top)) (w.heap.size + 1) (i, .names)) [] := by
    refine ⟨hrg0, e0, hb0, hc0, ?_, ?_, ?_, ?_, ?_, ?_⟩
    · rw [stays_start HM.out.2.2.2.2]; exact .nil
    · intro k hk; rw [lay_other (by omega), lay_other (by omega)]
    · intro k hk; rw [lay_other (by omega), lay_other (by omega)]; exact hn k (by omega)
    · rw [lay_other (by omega), lay_same]
    · rw [lay_same]
    · rw [lay_other (by omega), lay_other (by omega)]; exact hn _ (by omega)
  have HREL0 := Lib.hid hrel0
  clear hrel0 hrg0 hg0 hs0 e0 hb0 hc0 hsz0 e2
  go_loopw [4] (fun _ wr => ∃ left cnt σ1 nb, CopyOut w σ i A bases mb left cnt wr σ1 nb) (fun _ wr => wr.rangeLeft mb (w.heap.size + 2))
  case atStart => exact ⟨_, _, _, _, HREL0.out⟩
  case round =>
    obtain ⟨left, cnt, σ1, nb, hR⟩ := hrel
    obtain ⟨wr, rfl⟩ : ∃ wr' : World, wr' = wr := ⟨_, rfl⟩
    have HR := Lib.hid hR
    have hrg := hR.1
    clear hR
    go_wp2_with (first | (at_next; refine wpList_next_rows rfl _ rfl mb (w.heap.size + 2) bases left cnt (by first | rfl | simp) hrg ?_ ?_) | fail)
    · intro hc0 hl0
      go_wp2
      go_ret
      exact ⟨_, rfl, copyOut_end HR.out hl0⟩
    · intro n bv w1 cnt1 hmem hlx hnl hrg1 hlt hg1 hs1 hen
      obtain ⟨B, hmB, hBA⟩ := HM.out.2.2.2.2.mem hmem
      obtain ⟨bb, mb', rows, rfl, hB⟩ := hBA
      have o1 := Only.ofGrown hg1 hs1
      have e1 : Ext w w1 := Ext.only HR.out.2.1 o1 (by omega)
      have hB1 := hB.ext e1
      have c0 := cellAt hB1.2.1 0
      have c1 := cellAt hB1.2.1 1
      simp at c0 c1
      have hbl : bb < w1.heap.size := lt_heap hB1.2.1
      have m1 : ¬ bb = w1.heap.size := by omega
      have m2 : ¬ w1.heap.size = bb := by omega
      have m3 : ¬ bb = w1.heap.size + 1 := by omega
      have m4 : ¬ w1.heap.size + 1 = bb := by omega
      have HB := Lib.hid hB
      have HB1 := Lib.hid hB1
      have HE1 := Lib.hid e1
      have HRG1 := Lib.hid hrg1
      have HG1 := Lib.hid hg1
      have HS1 := Lib.hid hs1
      have HLX := Lib.hid hlx
      have HMB := Lib.hid hmB
      have HLT := Lib.hid hlt
      have HRG := Lib.hid hrg
      clear hB hB1 e1 hrg1 hg1 hs1 hlx hmB hmem o1 hlt hrg
      go_wp2_with (first | (at_range; refine wpList_range_own _ rfl _ 56 rfl 9 53 keyedS Tryz.underlying56 Rh mb' rows.length (toD DataW.held rows) rfl (HB1.out.ext (((Ext.rfl' w1).alloc _).alloc _)).2.2.2.1 ?_; intro w2 hrg2 hg2 hs2) | fail)
      go_frame
      have e2 : ∀ o1 o2, ((w1.alloc o1).alloc o2).heap.size = w1.heap.size + 2 := fun _ _ => by simp
      rw [e2] at hrg2 hs2 ⊢
      have hn1 : Neat w1 σ1 := fun k hk => HR.out.2.2.2.2.2.2.1 k (by rw [← HS1.out]; exact hk)
      have hin0 : CopyIn w1 σ1 i n B rows mb' (Maps.has (toD DataW.held rows)) (Maps.size (toD DataW.held rows)) w2 (lay (lay σ1 w1.heap.size (i, .vals n)) (w1.heap.size + 1) (i, .base n)) [] := copyIn_start hn1 HB.out.2.2.2.2 hrg2 hg2 hs2
      have HIN0 := Lib.hid hin0
      clear hin0 hrg2 hg2 hs2 e2 hn1 c0 c1
      go_loopw [7] (fun _ wr2 => ∃ left2 cnt2 σ2 rows', CopyIn w1 σ1 i n B rows mb' left2 cnt2 wr2 σ2 rows') (fun _ wr2 => wr2.rangeLeft mb' (w1.heap.size + 2))
      case atStart => exact ⟨_, _, _, _, HIN0.out⟩
      case round =>
        obtain ⟨left2, cnt2, σ2, rows', hI⟩ := hrel
        obtain ⟨wq, rfl⟩ : ∃ wr' : World, wr' = wr := ⟨_, rfl⟩
        have HI := Lib.hid hI
        have hrgI := hI.1
        clear hI
        go_wp2_with (first | (at_next; refine wpList_next_rows rfl _ rfl mb' (w1.heap.size + 2) rows left2 cnt2 (by first | rfl | simp) hrgI ?_ ?_) | fail)
        · intro hc0 hl0
          have hI := HI.out
          have hR := HR.out
          have hbx : wq.heap[w.heap.size]? = some (.cells #[.map (some (w.heap.size + 1)), encStr A.db, encStr A.ek, encStr A.ev, .bool A.on] 61 (0, 0)) := by
            rw [hI.2.1.block _ (by have := HE1.out.size; have := hR.1.lt; have := HS1.out; omega), (Only.ofGrown HG1.out HS1.out).block _ (by omega)]; exact hR.2.2.1
          have x0 := cellAt hbx 0
          simp at x0
          have hMq : MapOf wq 9 (w.heap.size + 1) nb := (hR.2.2.2.1.same ((Only.ofGrown HG1.out HS1.out).block _ (by omega))).ext hI.2.1
          obtain ⟨w5, hr5, hM5, ht5⟩ := hMq.store (t := 59) (e := 55) keyedS Tryz.underlying59
            (by rw [hR.2.2.2.2.1.length]; have := stays_len (left := left) A.l; have := HS.out.names; unfold maxLen; omega) (keyS hnl) (.pointer (some ⟨w1.heap.size + 1, 0, none⟩))
          have HM5 := Lib.hid hM5
          have HT5 := Lib.hid ht5
          have HL0 := Lib.hid hl0
          clear hI hR hbx hMq hM5 ht5 hl0 hrgI
          go_wp2
          go_roundw
          case rel => exact ⟨_, cnt1, _, _, copyOut_step HR.out HM.out.2.2.2.1.lt (HM.out.2.2.2.2.befs (HM.out.2.2.2.1.befs keyedS)) HMB.out HLX.out HRG1.out HG1.out HS1.out HI.out HL0.out HM5.out HT5.out⟩
          case measure =>
            have hfin := (copyOut_step HR.out HM.out.2.2.2.1.lt (HM.out.2.2.2.2.befs (HM.out.2.2.2.1.befs keyedS)) HMB.out HLX.out HRG1.out HG1.out HS1.out HI.out HL0.out HM5.out HT5.out).1
            rw [World.ranges.left_eq hfin, World.ranges.left_eq HRG.out]; exact HLT.out
        · intro k kv w4 cnt4 hmem4 hlx4 hkl hrg4 hlt4 hg4 hs4 hen4
          obtain ⟨xs, hmx, hrow⟩ := HB.out.2.2.2.2.mem hmem4
          have hxl : xs.length ≤ 12 := (HS.out.vals _ _ HMB.out _ hmx).2
          have hI := HI.out
          have o4 := Only.ofGrown hg4 hs4
          have e14 : Ext w1 w4 := Ext.only hI.2.1 o4 (by omega)
          have hbx : w4.heap[w1.heap.size + 1]? = some (.cells #[.int .i64 B.flags, .map (some w1.heap.size)] 58 (0, 0)) := by
            rw [o4.block _ (by omega)]; exact hI.2.2.1
          have x1 := cellAt hbx 1
          simp at x1
          have HM4 : Hid (MapOf w4 9 w1.heap.size rows') := hI.2.2.2.1.same (o4.block _ (by omega))
          have HCL : Hid (∀ W, Ext w4 W → Calls Tryz.prog 34 #[kv] W fun e w' => ∃ v', e = .returned v' ∧ w'.ownsRow W.heap.size 9 1 v' xs.length (xs.map encStr) ∧ Ext W w') := fun W e => cloneS_any kv xs W (owns_ext hrow.1 (Ext.step (Ext.step HE1.out e14) e)) (by omega)
          have HLN : Hid (rows'.length < maxLen) := by
            show rows'.length < maxLen
            rw [hI.2.2.2.2.1.length]; have := stays_len (left := left2) B.m; have := HS.out.keys _ _ HMB.out; unfold maxLen; omega
          have HKL := Lib.hid hkl
          have HMX := Lib.hid hmx
          have HLX4 := Lib.hid hlx4
          have HRG4 := Lib.hid hrg4
          have HLT4 := Lib.hid hlt4
          have HG4 := Lib.hid hg4
          have HS4 := Lib.hid hs4
          have HRI := Lib.hid hrgI
          clear hI o4 e14 hbx hrow hmx hkl hlx4 hrg4 hlt4 hg4 hs4 hmem4 hrgI
          go_wp2_with fail
          go_region_held3 (fun w' => w'.cell? ⟨w1.heap.size + 1, 1, none⟩ = some (.map (some w1.heap.size)))
            (first | exact x1 | exact K5.out | exact K6.out)
            (first
              | (go_at_call 34; refine (HCL.out _ (by first | exact Ext.rfl' w4 | exact Ext.drewN w4 1)).mono ?_; rintro e w5 ⟨v', rfl, hown5, hext5⟩
                 have e45 : Ext w4 w5 := by first | exact hext5 | exact Ext.step (Ext.drewN w4 1) hext5
                 have K5 : Hid (w5.cell? ⟨w1.heap.size + 1, 1, none⟩ = some (.map (some w1.heap.size))) := e45.cell x1
                 obtain ⟨w6, hr6, hM6, ht6⟩ := (HM4.out.ext e45).store (t := 56) (e := 53) keyedS Tryz.underlying56 HLN.out (keyS HKL.out) v'
                 have K6 : Hid (w6.cell? ⟨w1.heap.size + 1, 1, none⟩ = some (.map (some w1.heap.size))) := by
                   show _ = _
                   rw [World.cell?_of_block (w := w5) (w' := w6) (a := ⟨w1.heap.size + 1, 1, none⟩) (mapTurned_other ht6 (by show w1.heap.size + 1 ≠ w1.heap.size; omega))]; exact K5.out
                 have HO5 := Lib.hid hown5
                 have HE45 := Lib.hid e45
                 have HM6 := Lib.hid hM6
                 have HT6 := Lib.hid ht6
                 clear hown5 hext5 e45 hM6 ht6))
          go_wp2
          go_roundw
          case rel => exact ⟨_, cnt4, _, _, copyIn_step HI.out (by have := HB.out.2.2.2.1.lt; have := HE1.out.size; omega) (HB.out.2.2.2.2.befs (HB.out.2.2.2.1.befs keyedS)) HMX.out HLX4.out HRG4.out HG4.out HS4.out HE45.out HO5.out (by first | exact Nat.le_refl _ | simp) HM6.out HT6.out⟩
          case measure =>
            have hfin := (copyIn_step HI.out (by have := HB.out.2.2.2.1.lt; have := HE1.out.size; omega) (HB.out.2.2.2.2.befs (HB.out.2.2.2.1.befs keyedS)) HMX.out HLX4.out HRG4.out HG4.out HS4.out HE45.out HO5.out (by first | exact Nat.le_refl _ | simp) HM6.out HT6.out).1
            rw [World.ranges.left_eq hfin, World.ranges.left_eq HRI.out]; exact HLT4.out
end Go.Proofs.YtmkhjmldncegcaaGreatDoor

/-
  WALKS: past.Model.List, past.Model.Names.
-/
set_option linter.unusedVariables false
set_option linter.unusedSimpArgs false
namespace Go.Proofs.YtmkhjmldncegcaaGreatDoor
open Go.RowKit Go.Maps Go.ChangeMaps Go.MapKept

set_option maxHeartbeats 4000000 in
set_option maxRecDepth 100000 in
theorem list_any (σ : Sig) (i pb mb : Nat) (bases : List (S × Value)) (A : ModA) (db : S) (w : World) (m : Nat) (hM : ModIs w σ i pb mb bases A) (hs : Sound A m) (hm : m ≤ 1000000) (hdb : db.length ≤ maxLen) :
    Calls Tryz.prog 18 #[.pointer (some ⟨pb, 0, none⟩), encStr db] w fun e w' => ∃ v, e = .returned (.tuple #[v, .bool (listA A db).2]) ∧ w'.ownsRow w.heap.size 51 2 v (listA A db).1.length (entCells (listA A db).1) ∧ Ext w w' := by
  obtain ⟨h1, h2, h3, h4, h5⟩ := hM
  have hl1 := h4.look (t := 59) (e := 55) keyedS Tryz.underlying59 (z := .pointer none) (Tryz.zeroValue55 w) (keyS hdb)
  have hc0 := cellAt h2 0
  simp at hc0
  cases hg : mget db A.l with
  | none =>
    rw [h5.get_none hg] at hl1
    simp only [Option.getD_none, Option.isSome_none] at hl1
    have HL : Hid (listA A db = ([], false)) := by show _ = _; unfold listA; rw [hg]
    clear h1 h2 h3 h4 h5 hg hs
    rw [HL.out]
    go_enter Tryz.func18, Tryz.ntmps18
    go_wp2
    go_ret2
    exact ⟨_, rfl, owns_nil _ _ _ _, Ext.rfl' _⟩
  | some B =>
    obtain ⟨bv, hb, bb, mb', rows, rfl, hB⟩ := h5.get_some hg
    rw [hb] at hl1
    simp only [Option.getD_some, Option.isSome_some] at hl1
    have HL : Hid (listA A db = (entriesA B, true)) := by show _ = _; unfold listA; rw [hg]
    have hmem := mget_mem hg
    have HEN := Lib.hid (entries_any σ i db bb mb' rows B w hB (Nat.le_trans (hs.keys _ _ hmem) hm) (fun p hp => (hs.vals _ _ hmem p hp).2))
    clear h1 h2 h3 h4 h5 hg hs hb hB hmem
    rw [HL.out]
    go_enter Tryz.func18, Tryz.ntmps18
    go_wp2_with fail
    refine HEN.out.mono ?_
    rintro e w1 ⟨v, rfl, hown, hext⟩
    have HO := Lib.hid hown
    have HX := Lib.hid hext
    clear hown hext
    go_wp2_with fail
    go_ret2
    exact ⟨_, rfl, HO.out, HX.out⟩

def NameRel (w1 : World) (l : List S) (v : Value) (wr : World) : Prop := wr.ownsRow w1.heap.size 9 1 v l.length (l.map encStr) ∧ Ext w1 wr
theorem NameRel.more {w1 wr w2 : World} {l : List S} {k : S} {v v' : Value} {e : TypeId} (h : NameRel w1 l v wr)
    (ho : w2.ownsRow w1.heap.size 9 1 v' (l.length + 1) (l.map encStr ++ [encStr k])) (hg : (wr.alloc (.cells #[encStr k] e)).grownBy w2 v.ownBlock) : NameRel w1 (l ++ [k]) v' w2 := by
  refine ⟨by simpa using ho, ?_⟩
  exact below_append (h.2.alloc _) (by have := h.2.size; simp; omega) (h.1.alloc _) hg
theorem textsEl : ElemOf Tryz.prog 53 9 1 16 := by
  obtain ⟨i0, hi, hz0, hz1, hz2⟩ := info_parts (show (Tryz.prog.info? 9).map (fun i => (i.zero, i.size, i.bytes)) = some (some (.string ⟨#[]⟩), 1, 16) by kernel_rfl)
  exact ⟨Tryz.underlying53, ⟨i0, _, hi, hz0, hz1, hz2, rfl⟩, by omega⟩
theorem text_one (k : S) : ∀ u ∈ [encStr k], u.oneCell' = true := by
  intro u hu; simp at hu; subst hu; rfl

def namesTo (ks : List S) (j : Nat) : List S := (ks.take j).filter fun n => !(n == [])
theorem namesTo_len (ks : List S) (j : Nat) : (namesTo ks j).length ≤ j := by
  unfold namesTo
  exact Nat.le_trans (List.length_filter_le _ _) (List.length_take_le _ _)
theorem namesTo_succ {ks : List S} {j : Nat} {k : S} (h : ks[j]? = some k) : namesTo ks (j + 1) = if k = [] then namesTo ks j else namesTo ks j ++ [k] := by
  obtain ⟨hj, e⟩ := List.getElem?_eq_some_iff.1 h
  unfold namesTo
  rw [List.take_succ_eq_append_getElem hj, List.filter_append, e]
  by_cases hk : k = []
  · rw [if_pos hk]; simp [hk]
  · rw [if_neg hk]; simp [hk]

set_option maxHeartbeats 4000000 in
set_option maxRecDepth 100000 in
theorem names_any (σ : Sig) (i pb mb : Nat) (bases : List (S × Value)) (A : ModA) (w : World) (m : Nat) (hM : ModIs w σ i pb mb bases A) (hs : Sound A m) :
    Calls Tryz.prog 19 #[.pointer (some ⟨pb, 0, none⟩)] w fun e w' => ∃ v, e = .returned v ∧ w'.ownsRow w.heap.size 9 1 v (namesA A).length ((namesA A).map encStr) ∧ Ext w w' := by
  obtain ⟨h1, h2, h3, h4, h5⟩ := hM
  have hlen := h5.length
  have hnm := hs.names
  have hc0 := cellAt h2 0
  simp at hc0
  have HK := Lib.hid (keysB_any mb bases w h4 (by omega))
  have HSO := Lib.hid (sortedB_any mb bases w h4 (by omega))
  have HKS : Hid (namesA A = namesTo (bases.map (·.1)) bases.length) := by
    show _ = _
    unfold namesTo namesA
    rw [List.take_of_length_le (by simp), h5.keys]
  clear h1 h2 h3 h4 h5 hs
  rw [HKS.out]
  have hbl : bases.length ≤ 5 := by omega
  clear hlen hnm
  go_enter Tryz.func19, Tryz.ntmps19
  go_wp2
  go_step3
  go_wp2
  go_step3
  go_wp2_with (first | (go_at_call 41; refine HK.out.mono ?_; rintro e w' ⟨rfl, rfl⟩) | fail)
  refine HSO.out.mono ?_
  rintro e w1 ⟨kv, rfl, hkeys, hext⟩
  have HE := Lib.hid hext
  obtain ⟨_, kp, kc, rfl, hk1, hk2, hkc⟩ := Sl.ofOwns hkeys
  have HKC := Lib.hid hkc
  clear hkc hkeys hext
  go_wp2_with fail
  go_loopg [3, 13] bases.length (fun g v i wr => ∃ j : Nat, j ≤ bases.length ∧ bases.length - j ≤ g ∧ i = .int .i64 j ∧ NameRel w1 (namesTo (bases.map (·.1)) j) v wr)
  case atStart => exact ⟨0, by omega, by omega, rfl, owns_nil _ _ _ _, Ext.rfl' _⟩
  case round =>
    obtain ⟨j, hj, hg, rfl, hrr⟩ := hrel
    obtain ⟨wo, rfl⟩ : ∃ wo : World, wo = wr := ⟨_, rfl⟩
    have HRR := Lib.hid hrr
    by_cases hlt : j < bases.length
    · obtain ⟨kb, koff, rfl, hkc⟩ := HKC.out (by omega)
      obtain ⟨k, hkx⟩ : ∃ k, (bases.map (·.1))[j]? = some k := ⟨_, List.getElem?_eq_getElem (by simpa using hlt)⟩
      have c1 : wo.cell? ⟨kb, koff + j, none⟩ = some (encStr k) := hrr.2.cell (hkc j (encStr k) (by rw [List.getElem?_map, hkx]; rfl))
      have HSU := Lib.hid (namesTo_succ hkx)
      have hnl := namesTo_len (bases.map (·.1)) j
      have hsz := hrr.2.size
      clear hkc hkx hrr
      cases k with
      | nil =>
        go_wp2_with fail
        go_roundg (bases.length - (j + 1))
        case rel => exact ⟨j + 1, by omega, by omega, by go_num, by rw [HSU.out]; exact HRR.out⟩
        case measure => omega
      | cons a r =>
        have HSU2 : Hid (namesTo (bases.map (·.1)) (j + 1) = namesTo (bases.map (·.1)) j ++ [a :: r]) := by show _ = _; rw [HSU.out, if_neg (by simp)]
        clear HSU
        go_wp2_with (at_builtin; refine wpList_append_sl _ rfl _ _ 53 (by rfl) w1.heap.size textsEl _ _ _ (by rfl) (HRR.out.1.alloc _) _ 1 [encStr (a :: r)] (by rfl) (Sl.new1 _ _ _) (text_one _) (by unfold maxLen; omega) (by omega) (by simp; omega) ?_; intro v1 w2 hown hgrow hat; have K2 := Lib.hid (HRR.out.more hown hgrow); clear hown hgrow hat)
        go_roundg (bases.length - (j + 1))
        case rel => exact ⟨j + 1, by omega, by omega, by go_num, by rw [HSU2.out]; exact K2.out⟩
        case measure => omega
    · obtain rfl : j = bases.length := by omega
      clear hrr
      go_wp2_with fail
      rw [Exit.noGoto_ret]
      go_ret
      exact ⟨_, rfl, HRR.out.1.base HE.out.size, Ext.step HE.out HRR.out.2⟩
end Go.Proofs.YtmkhjmldncegcaaGreatDoor

/-
  PLAIN: what an op on a model leaves sound: bounds on names, keys, values.
-/
set_option linter.unusedVariables false
set_option linter.unusedSimpArgs false
namespace Go.Proofs.YtmkhjmldncegcaaGreatDoor
open Go.RowKit Go.Maps Go.ChangeMaps Go.MapKept

theorem Sound.more {A : ModA} {m M : Nat} (h : Sound A m) (hm : m ≤ M) : Sound A M := ⟨h.main, h.names, h.db, fun n B hb => Nat.le_trans (h.keys n B hb) hm, h.vals⟩
theorem Sound.setBase {A : ModA} {m M : Nat} (h : Sound A m) (hm : m ≤ M) (db : S) (f : Int) (m' : List (S × List S)) (h1 : m'.length ≤ M) (h2 : ∀ p ∈ m', p.2 ≠ [] ∧ p.2.length ≤ 12) : Sound (setBase A db ⟨f, m'⟩) M := by
  refine ⟨?_, by show (mset _ _ _).length ≤ 5; rw [length_mset]; exact h.names, h.db, fun n B hb => ?_, fun n B hb => ?_⟩
  · show (mget [] (mset _ _ _)).isSome = true
    by_cases e : ([] : S) = db
    · rw [← e, mget_set_same h.main]; rfl
    · rw [mget_set_other e]; exact h.main
  · rcases mem_mset hb with e | hb
    · injection e with _ e; rw [e]; exact h1
    · exact Nat.le_trans (h.keys n B hb) hm
  · rcases mem_mset hb with e | hb
    · injection e with _ e; rw [e]; exact h2
    · exact h.vals n B hb
theorem Sound.cursor {A : ModA} {m : Nat} (h : Sound A m) (db ek ev : S) (on : Bool) (hd : db.length ≤ maxLen) : Sound { A with db := db, ek := ek, ev := ev, on := on } m := ⟨h.main, h.names, hd, h.keys, h.vals⟩
theorem Sound.lost {A : ModA} {m : Nat} (h : Sound A m) : Sound (lostA A) m := h.cursor [] [] [] false (by simp)
theorem sound_new : Sound newA 0 := ⟨rfl, by simp [newA], by simp [newA], fun n B h => by simp [newA] at h; rw [h.2]; exact Nat.le_refl _, fun n B h p hp => by simp [newA] at h; rw [h.2] at hp; simp at hp⟩

theorem find_mem {A : ModA} {db : S} {m : Nat} (h : Sound A m) (h0 : (findA A db).2 = 0) : ∃ B, findA A db = (some B, 0) ∧ (db, B) ∈ A.l := by
  obtain ⟨B, hf, hg⟩ := find_ok h.main h0
  exact ⟨B, hf, mget_mem hg⟩

theorem vals_put {B : BaseA} {key : S} {l : List S} (h : ∀ p ∈ B.m, p.2 ≠ [] ∧ p.2.length ≤ 12) (h1 : l ≠ []) (h2 : l.length ≤ 12) : ∀ p ∈ mput key l B.m, p.2 ≠ [] ∧ p.2.length ≤ 12 := fun p hp => by
  rcases mem_mput hp with e | hp
  · rw [e]; exact ⟨h1, h2⟩
  · exact h p hp
theorem vals_del {B : BaseA} {key : S} (h : ∀ p ∈ B.m, p.2 ≠ [] ∧ p.2.length ≤ 12) : ∀ p ∈ mdel key B.m, p.2 ≠ [] ∧ p.2.length ≤ 12 := fun p hp => h p (mem_mdel hp)

theorem values_find {A : ModA} {op : OpA} (h : (findA A op.db).2 ≠ 0) : valuesA A op = (none, [], (findA A op.db).2) := by unfold valuesA; rw [if_pos h]
theorem values_mem {A : ModA} {op : OpA} {B : BaseA} (hf : findA A op.db = (some B, 0)) (h0 : (valuesA A op).2.2 = 0) : (op.key, (valuesA A op).2.1) ∈ B.m ∧ (valuesA A op).1 = some B := by
  unfold valuesA at h0 ⊢
  rw [hf] at h0 ⊢
  rw [if_neg (by simp)] at h0 ⊢
  split
  · rename_i h; rw [if_pos h] at h0; exact absurd h0 (by decide)
  · rename_i h
    rw [if_neg h] at h0
    split
    · rename_i h'; rw [if_pos h'] at h0; exact absurd h0 (by decide)
    · rename_i h'
      rw [if_neg h'] at h0
      simp only [Option.getD_some] at h0 ⊢
      cases hg : mget op.key B.m with
      | none => rw [hg] at h0; exact absurd (show (21 : Int) = 0 from h0) (by decide)
      | some l => exact ⟨mget_mem hg, rfl⟩
theorem values_none {A : ModA} {op : OpA} {B : BaseA} (hf : findA A op.db = (some B, 0)) (h0 : (valuesA A op).2.2 ≠ 0) : (valuesA A op).2.1 = [] := by
  unfold valuesA at h0 ⊢
  rw [hf] at h0 ⊢
  rw [if_neg (by simp)] at h0 ⊢
  split
  · rfl
  · rename_i h
    rw [if_neg h] at h0
    split
    · rfl
    · rename_i h'
      rw [if_neg h'] at h0
      simp only [Option.getD_some] at h0 ⊢
      cases hg : mget op.key B.m with
      | none => rfl
      | some l => rw [hg] at h0; exact absurd rfl h0

theorem sound_put {A : ModA} {m : Nat} (h : Sound A m) (op : OpA) : Sound (putA A op).1 (m + 1) := by
  have h1 := h.more (Nat.le_succ m)
  unfold putA
  by_cases hf : (findA A op.db).2 = 0
  · rw [if_neg (fun h => h hf)]
    obtain ⟨B, hfB, hmB⟩ := find_mem h hf
    have hk := h.keys _ _ hmB
    have hv := h.vals _ _ hmB
    simp only [hfB, Option.getD_some]
    split
    · exact h1
    split
    · exact h1
    split
    · exact h1
    split
    · exact h.setBase (Nat.le_succ m) _ _ _ (Nat.le_trans (length_mput _ _ _) (by omega)) (vals_put hv (by simp) (by simp))
    split
    · exact h1
    split
    · exact h1
    split
    · exact h1
    split
    · exact h1
    · rename_i hlen
      refine h.setBase (Nat.le_succ m) _ _ _ (Nat.le_trans (length_mput _ _ _) (by omega)) (vals_put hv (by simp) ?_)
      have : placeA (valuesA A op).2.1 op.val ≤ (valuesA A op).2.1.length := placeA_le _ _
      simp only [List.length_append, List.length_cons, List.length_take, List.length_drop]
      omega
  · rw [if_pos hf]; exact h1
theorem sound_del {A : ModA} {m : Nat} (h : Sound A m) (op : OpA) : Sound (delA A op).1 (m + 1) := by
  have h1 := h.more (Nat.le_succ m)
  unfold delA
  by_cases hc : (valuesA A op).2.2 = 0
  · simp only [hc]
    rw [if_neg (by simp)]
    have hf : (findA A op.db).2 = 0 := by
      by_cases e : (findA A op.db).2 = 0
      · exact e
      · rw [values_find e] at hc; exact absurd hc e
    obtain ⟨B, hfB, hmB⟩ := find_mem h hf
    have hk := h.keys _ _ hmB
    have hv := h.vals _ _ hmB
    obtain ⟨hmv, hvB⟩ := values_mem hfB hc
    simp only [hvB, Option.getD_some]
    have hd : (mdel op.key B.m).length ≤ m + 1 := Nat.le_trans (length_mdel _ _) (by omega)
    split
    · exact h.setBase (Nat.le_succ m) _ _ _ hd (vals_del hv)
    split
    · exact h1
    split
    · exact h.setBase (Nat.le_succ m) _ _ _ hd (vals_del hv)
    · rename_i hne
      refine h.setBase (Nat.le_succ m) _ _ _ (Nat.le_trans (length_mput _ _ _) (by omega)) (vals_put hv hne ?_)
      have := (hv _ hmv).2
      exact Nat.le_trans (List.length_eraseIdx_le _ _) this
  · simp only []
    rw [if_pos hc]; exact h1
theorem sound_name {A : ModA} {m : Nat} (h : Sound A m) (op : OpA) : Sound (nameA A op).1 (m + 1) := by
  have h1 := h.more (Nat.le_succ m)
  unfold nameA
  split
  · exact h1
  · rename_i hd
    simp only []
    split
    · exact h1
    split
    · exact h1
    split
    · exact h1
    split
    · exact h1
    · rename_i hlen
      refine ⟨?_, ?_, h.db, fun n B hb => ?_, fun n B hb => ?_⟩
      · show (mget [] (mput _ _ _)).isSome = true
        rw [mget_put_other (fun e => hd e.symm)]; exact h.main
      · show (mput _ _ _).length ≤ 5
        have := length_mput op.db (⟨op.flags, []⟩ : BaseA) A.l
        omega
      · rcases mem_mput hb with e | hb
        · injection e with _ e; rw [e]; exact Nat.zero_le _
        · exact h1.keys n B hb
      · rcases mem_mput hb with e | hb
        · injection e with _ e; rw [e]; intro p hp; simp at hp
        · exact h.vals n B hb
theorem sound_drop {A : ModA} {m : Nat} (h : Sound A m) (op : OpA) : Sound (dropA A op).1 (m + 1) := by
  have h1 := h.more (Nat.le_succ m)
  unfold dropA
  split
  · exact h1
  · rename_i hd
    split
    · exact h1
    · have hB : Sound { A with l := mdel op.db A.l } (m + 1) := by
        refine ⟨?_, Nat.le_trans (length_mdel _ _) h.names, h.db, fun n B hb => h1.keys n B (mem_mdel hb), fun n B hb => h.vals n B (mem_mdel hb)⟩
        show (mget [] (mdel _ _)).isSome = true
        rw [mget_del_other (fun e => hd e.symm)]; exact h.main
      simp only []
      split
      · exact hB.lost
      · exact hB
theorem sound_seek {A : ModA} {m : Nat} (h : Sound A m) (op : OpA) (hdb : op.db.length ≤ maxLen) : Sound (seekA A op).1 m := by
  unfold seekA
  split
  · exact h
  · split
    · exact h.cursor _ _ _ _ hdb
    · exact h.lost
theorem sound_next {A : ModA} {m : Nat} (h : Sound A m) : Sound (nextA A).1 m := by
  unfold nextA
  split
  · exact h
  · split
    · exact h
    · simp only []
      split
      · exact h.cursor _ _ _ _ h.db
      · exact h
theorem sound_do {A : ModA} {m : Nat} (h : Sound A m) (op : OpA) (hdb : op.db.length ≤ maxLen) : Sound (doA A op).1 (m + 1) := by
  have h1 := h.more (Nat.le_succ m)
  show Sound (doesA A op).1 (m + 1)
  unfold doesA
  split
  · exact h1
  split
  · exact sound_put h op
  split
  · exact sound_del h op
  split
  · exact sound_name h op
  split
  · exact sound_drop h op
  split
  · exact (sound_seek h op hdb).more (Nat.le_succ m)
  split
  · exact (sound_next h).more (Nat.le_succ m)
  · exact h1
end Go.Proofs.YtmkhjmldncegcaaGreatDoor

/-
  PLAIN LEMMAS, NO PROGRAM: a cell of an own row put; what another owner's step leaves.
-/
set_option linter.unusedVariables false
set_option linter.unusedSimpArgs false
namespace Go.Proofs.YtmkhjmldncegcaaGreatDoor
open Go.RowKit Go.Maps Go.ChangeMaps Go.MapKept

theorem Ext.moved {w w1 w2 : World} {σ σ' : Sig} {i : Nat} (e : Ext w w1) (h : ∀ k, k < w.heap.size → (σ k).1 ≠ i) (m : Moved σ i w1 σ' w2) : Ext w w2 :=
  ⟨m.turn.os.trans e.os, m.turn.tape.trans e.tape, m.turn.output.trans e.output, Nat.le_trans e.size m.turn.size, fun k hk => (m.turn.block k (Nat.lt_of_lt_of_le hk e.size) (h k hk)).trans (e.block k hk)⟩

/-- A cell of an own row put. -/
theorem owns_set {w w0 : World} {base size n cap g : Nat} {e : TypeId} {us : List Value} (h : w.ownsRow base e size (.slice (some ⟨g, 0, none⟩) n cap) n us) {i : Nat} (hi : i < us.length) (u : Value) (e0 : Ext w0 w) (hb : w0.heap.size ≤ base) :
    Sl (w.setCell ⟨g, i, none⟩ u) size (.slice (some ⟨g, 0, none⟩) n cap) n (us.set i u) ∧ Ext w0 (w.setCell ⟨g, i, none⟩ u) ∧ w.cell? ⟨g, i, none⟩ = us[i]? ∧ w.frozen? ⟨g, i, none⟩ = false := by
  rcases h.2 with ⟨hv, _⟩ | ⟨g', cap', cur, hv, hg, hh, hn, hc, hs, ht⟩
  · cases hv
  · injection hv with hv1 hv2 hv3
    injection hv1 with hv1
    injection hv1 with hv1
    subst hv1 hv3
    have hl : us.length = n * size := h.1
    have hcu : ∀ j, j < us.length → cur[j]? = us[j]? := fun j hj => by
      rw [← ht, List.getElem?_take_of_lt (by omega), Array.getElem?_toList]
    refine ⟨⟨by rw [List.length_set]; exact hl, _, _, rfl, hn, hc, fun _ => ⟨g, 0, rfl, fun j x hx => ?_⟩⟩, Ext.only e0 ((Only.refl g w).setCell i u) (by omega), ?_, frozenAt hh i⟩
    · rw [Nat.zero_add, cellAt (heap_setCell_row hh i u)]
      have hj : j < us.length := by have := (List.getElem?_eq_some_iff.1 hx).1; simpa using this
      by_cases e : i = j
      · subst e
        rw [List.getElem?_set_self hi] at hx
        have hsz : i < cur.size := by rw [hs]; have : n * size ≤ cap * size := Nat.mul_le_mul_right _ hn; omega
        rw [Array.getElem?_setIfInBounds_self_of_lt hsz]; exact hx
      · rw [List.getElem?_set_ne e] at hx
        rw [Array.getElem?_setIfInBounds_ne e, hcu j hj]; exact hx
    · rw [cellAt hh, hcu i hi]
end Go.Proofs.YtmkhjmldncegcaaGreatDoor

