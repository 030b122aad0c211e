/-
  WALKS: the document's model: name, where nothing is made; name, all ways.
-/
import Derived.Test.YtmkhjmldncegcaaGreatDoorMV
import Derived.Test.YtmkhjmldncegcaaGreatDoorMS
import Derived.Test.YtmkhjmldncegcaaGreatDoorMD
set_option linter.unusedVariables false
set_option linter.unusedSimpArgs false
namespace Go.Proofs.YtmkhjmldncegcaaGreatDoor
open Go.RowKit Go.Maps Go.ChangeMaps Go.MapKept

set_option maxHeartbeats 4000000 in
set_option maxRecDepth 100000 in
theorem namer_none (σ : Sig) (i rb : Nat) (L : List (DBA × Value)) (Lv : Value) (R : RefA) (kind : Int) (key val : S) (flags nn : Int) (w : World) (hR : RefIs w σ i rb L Lv R) (hn : Neat w σ) :
    Calls Tryz.prog 23 #[.pointer (some ⟨rb, 0, none⟩), opV ⟨kind, [], key, val, flags, nn⟩] w (ChgPost σ i rb R 22 w) := by
  have HRW := Lib.hid hR
  have HNT := Lib.hid hn
  clear hR hn
  unfold opV opCells
  go_enter Tryz.func23, Tryz.ntmps23
  go_wp2_with fail
  go_ret
  exact chg_same HRW.out HNT.out ((Ext.rfl' w).alloc _)

set_option maxHeartbeats 4000000 in
set_option maxRecDepth 100000 in
theorem namer_found (σ : Sig) (i rb : Nat) (L : List (DBA × Value)) (Lv : Value) (R : RefA) (kind : Int) (a : UInt8) (r : S) (key val : S) (flags nn : Int) (w : World) (hR : RefIs w σ i rb L Lv R) (hn : Neat w σ) (hl0 : 0 < R.l.length) (k : Nat) (hk : k < R.l.length) (hf : findR R (a :: r) = (some k, 0)) :
    Calls Tryz.prog 23 #[.pointer (some ⟨rb, 0, none⟩), opV ⟨kind, a :: r, key, val, flags, nn⟩] w (ChgPost σ i rb R (if (atR R k).flags = flags then 0 else 23) w) := by
  have HF := Lib.hid fun o => findr_any σ i rb L Lv R (a :: r) (w.alloc o) (hR.ext ((Ext.rfl' w).alloc o)) hl0
  rw [hf] at HF
  simp only [plI] at HF
  have HRW := Lib.hid hR
  have HNT := Lib.hid hn
  obtain ⟨ev, b, off, c, rfl, _, h1, h2, c0, c1, c2, c3, hE⟩ := hR.db hk
  have c0' : ∀ o, (w.alloc o).cell? ⟨rb, 0, none⟩ = _ := fun o => ((Ext.rfl' w).alloc o).cell c0
  have c2' : ∀ o, (w.alloc o).cell? ⟨b, off + k * 3 + 1, none⟩ = _ := fun o => ((Ext.rfl' w).alloc o).cell c2
  generalize hFl : (atR R k).flags = fl at *
  generalize hm : R.l.length = m at *
  have b1 : (0 : Int) ≤ (k : Int) := by omega
  have b2 : (k : Int) < (m : Int) := by omega
  clear hR hn hE c0 c1 c2 c3 hf hFl hm
  unfold opV opCells
  by_cases hq : fl = flags
  · rw [if_pos hq]
    subst hq
    go_enter Tryz.func23, Tryz.ntmps23
    go_wp2_with (first | (go_at_call 25; refine (HF.out _).mono ?_; rintro e w' ⟨rfl, rfl⟩) | fail)
    go_quiet (fail)
    go_wp2_with fail
    go_ret
    exact chg_same HRW.out HNT.out (Ext.step ((Ext.rfl' w).alloc _) (Ext.drewN _ _))
  · rw [if_neg hq]
    have hq' : (fl == flags) = false := by simpa using hq
    clear hq
    go_enter Tryz.func23, Tryz.ntmps23
    go_wp2_with (first | (go_at_call 25; refine (HF.out _).mono ?_; rintro e w' ⟨rfl, rfl⟩) | fail)
    go_quiet (fail)
    go_wp2_with fail
    go_ret
    exact chg_same HRW.out HNT.out (Ext.step ((Ext.rfl' w).alloc _) (Ext.drewN _ _))

set_option maxHeartbeats 4000000 in
set_option maxRecDepth 100000 in
theorem namer_early (σ : Sig) (i rb : Nat) (L : List (DBA × Value)) (Lv : Value) (R : RefA) (kind : Int) (a : UInt8) (r : S) (key val : S) (flags nn : Int) (w : World) (hR : RefIs w σ i rb L Lv R) (hn : Neat w σ) (hl0 : 0 < R.l.length) (e c : Int) (hf : findR R (a :: r) = (none, e))
    (hbad : (e = 21 ∧ (flags == 0) = false ∧ (flags == 1) = false ∧ c = 23) ∨ (e = 22 ∧ c = 22) ∨ (e = 23 ∧ c = 23) ∨ (e = 21 ∧ flags = 0 ∧ R.l.length > 4 ∧ c = 16) ∨ (e = 21 ∧ flags = 1 ∧ R.l.length > 4 ∧ c = 16)) :
    Calls Tryz.prog 23 #[.pointer (some ⟨rb, 0, none⟩), opV ⟨kind, a :: r, key, val, flags, nn⟩] w (ChgPost σ i rb R c w) := by
  have HF := Lib.hid fun o => findr_any σ i rb L Lv R (a :: r) (w.alloc o) (hR.ext ((Ext.rfl' w).alloc o)) hl0
  rw [hf] at HF
  simp only [plI] at HF
  have HRW := Lib.hid hR
  have HNT := Lib.hid hn
  have hlen : R.l.length = L.length := by rw [← hR.eq]; simp
  obtain ⟨pl, cl, rfl⟩ := hR.dbs.1.1.shape
  have c0 := cellAt hR.heap 0
  simp [refCells] at c0
  have c0' : ∀ o n, ((w.alloc o).drewN n).cell? ⟨rb, 0, none⟩ = some (.slice pl L.length cl) := fun o n => (Ext.step ((Ext.rfl' w).alloc o) (Ext.drewN _ n)).cell c0
  rw [hlen] at hbad
  clear hR hn hlen c0 hf hl0
  unfold opV opCells
  rcases hbad with ⟨rfl, g1, g2, rfl⟩ | ⟨rfl, rfl⟩ | ⟨rfl, rfl⟩ | ⟨rfl, rfl, g1, rfl⟩ | ⟨rfl, rfl, g1, rfl⟩
  · have g3 : ¬ flags = 0 := by simpa using g1
    have g4 : ¬ flags = 1 := by simpa using g2
    have g5 : (flags != 0) = true := by simpa using g3
    have g6 : (flags != 1) = true := by simpa using g4
    go_enter Tryz.func23, Tryz.ntmps23
    go_wp2_with (first | (go_at_call 25; refine (HF.out _).mono ?_; rintro e w' ⟨rfl, rfl⟩) | fail)
    go_quiet (fail)
    go_wp2_with fail
    go_ret
    exact chg_same HRW.out HNT.out (Ext.step ((Ext.rfl' w).alloc _) (Ext.drewN _ _))
  · go_enter Tryz.func23, Tryz.ntmps23
    go_wp2_with (first | (go_at_call 25; refine (HF.out _).mono ?_; rintro e w' ⟨rfl, rfl⟩) | fail)
    go_quiet (fail)
    go_wp2_with fail
    go_ret
    exact chg_same HRW.out HNT.out (Ext.step ((Ext.rfl' w).alloc _) (Ext.drewN _ _))
  · go_enter Tryz.func23, Tryz.ntmps23
    go_wp2_with (first | (go_at_call 25; refine (HF.out _).mono ?_; rintro e w' ⟨rfl, rfl⟩) | fail)
    go_quiet (fail)
    go_wp2_with fail
    go_ret
    exact chg_same HRW.out HNT.out (Ext.step ((Ext.rfl' w).alloc _) (Ext.drewN _ _))
  · have hl4 : decide ((4 : Int) < (L.length : Int)) = true := decT (by omega)
    go_enter Tryz.func23, Tryz.ntmps23
    go_wp2_with (first | (go_at_call 25; refine (HF.out _).mono ?_; rintro e w' ⟨rfl, rfl⟩) | fail)
    go_quiet (fail)
    go_wp2_with fail
    go_ret
    exact chg_same HRW.out HNT.out (Ext.step ((Ext.rfl' w).alloc _) (Ext.drewN _ _))
  · have hl4 : decide ((4 : Int) < (L.length : Int)) = true := decT (by omega)
    go_enter Tryz.func23, Tryz.ntmps23
    go_wp2_with (first | (go_at_call 25; refine (HF.out _).mono ?_; rintro e w' ⟨rfl, rfl⟩) | fail)
    go_quiet (fail)
    go_wp2_with fail
    go_ret
    exact chg_same HRW.out HNT.out (Ext.step ((Ext.rfl' w).alloc _) (Ext.drewN _ _))

/-- The four things that find may tell. -/
theorem findR_ways {R : RefA} (n : S) : (∃ k, k < R.l.length ∧ findR R n = (some k, 0)) ∨ findR R n = (none, 21) ∨ findR R n = (none, 22) ∨ findR R n = (none, 23) := by
  cases hp : placeR R.l n with
  | some k => exact .inl ⟨k, by obtain ⟨d, hd, _⟩ := place_at hp; exact (List.getElem?_eq_some_iff.1 hd).1, findR_some hp⟩
  | none =>
    rw [findR_none hp]
    split
    · exact .inr (.inr (.inl rfl))
    · split
      · exact .inr (.inr (.inr rfl))
      · exact .inr (.inl rfl)

theorem namer_any (σ : Sig) (i rb : Nat) (L : List (DBA × Value)) (Lv : Value) (R : RefA) (op : OpA) (w : World) (hR : RefIs w σ i rb L Lv R) (hn : Neat w σ) (hi : i ≠ 0) (hl0 : 0 < R.l.length) :
    Calls Tryz.prog 23 #[.pointer (some ⟨rb, 0, none⟩), opV op] w (ChgPost σ i rb (nameR R op).1 (nameR R op).2 w) := by
  obtain ⟨kind, db, key, val, flags, nn⟩ := op
  cases db with
  | nil => exact namer_none σ i rb L Lv R kind key val flags nn w hR hn
  | cons a r =>
    have hne : ¬ (a :: r : S) = [] := by simp
    have early := namer_early σ i rb L Lv R kind a r key val flags nn w hR hn hl0
    rcases findR_ways (R := R) (a :: r) with ⟨k, hk, hf⟩ | hf | hf | hf
    · have := namer_found σ i rb L Lv R kind a r key val flags nn w hR hn hl0 k hk hf
      have e : nameR R ⟨kind, a :: r, key, val, flags, nn⟩ = (R, if (atR R k).flags = flags then 0 else 23) := by
        unfold nameR; rw [if_neg hne]; simp only [hf]; rfl
      rw [e]; exact this
    · by_cases h1 : flags ≠ 0 ∧ flags ≠ 1
      · have e : nameR R ⟨kind, a :: r, key, val, flags, nn⟩ = (R, 23) := by
          unfold nameR; rw [if_neg hne]; simp only [hf, true_and]; rw [if_neg (by decide), if_pos h1]
        rw [e]; exact early 21 23 hf (.inl ⟨rfl, by simpa using h1.1, by simpa using h1.2, rfl⟩)
      · have hfl : flags = 0 ∨ flags = 1 := by
          by_cases a0 : flags = 0
          · exact .inl a0
          · by_cases a1 : flags = 1
            · exact .inr a1
            · exact absurd ⟨a0, a1⟩ h1
        have h1' : ¬ ((21 : Int) = 21 ∧ flags ≠ 0 ∧ flags ≠ 1) := fun h => h1 h.2
        by_cases h4 : R.l.length > 4
        · have e : nameR R ⟨kind, a :: r, key, val, flags, nn⟩ = (R, 16) := by
            unfold nameR; rw [if_neg hne]; simp only [hf, true_and]; rw [if_neg (by decide), if_neg h1, if_neg (by decide), if_pos h4]
          rw [e]
          rcases hfl with rfl | rfl
          · exact early 21 16 hf (.inr (.inr (.inr (.inl ⟨rfl, rfl, h4, rfl⟩))))
          · exact early 21 16 hf (.inr (.inr (.inr (.inr ⟨rfl, rfl, h4, rfl⟩))))
        · have e : nameR R ⟨kind, a :: r, key, val, flags, nn⟩ = ({ R with l := R.l ++ [⟨a :: r, flags, []⟩] }, 0) := by
            unfold nameR; rw [if_neg hne]; simp only [hf, true_and]; rw [if_neg (by decide), if_neg h1, if_neg (by decide), if_neg h4]
          rw [e]
          exact namer_ok σ i rb L Lv R kind a r key val flags nn w hR hn hi hl0 h4 hf hfl
    · have e : nameR R ⟨kind, a :: r, key, val, flags, nn⟩ = (R, 22) := by
        unfold nameR; rw [if_neg hne]; simp only [hf]; rw [if_neg (by decide), if_neg (by rintro ⟨h, _⟩; exact absurd h (by decide)), if_pos (by decide)]
      rw [e]; exact early 22 22 hf (.inr (.inl ⟨rfl, rfl⟩))
    · have e : nameR R ⟨kind, a :: r, key, val, flags, nn⟩ = (R, 23) := by
        unfold nameR; rw [if_neg hne]; simp only [hf]; rw [if_neg (by decide), if_neg (by rintro ⟨h, _⟩; exact absurd h (by decide)), if_pos (by decide)]
      rw [e]; exact early 23 23 hf (.inr (.inr (.inl ⟨rfl, rfl⟩)))
end Go.Proofs.YtmkhjmldncegcaaGreatDoor

/-
  WALKS: the document's model: drop.
-/
set_option linter.unusedVariables false
set_option linter.unusedSimpArgs false
namespace Go.Proofs.YtmkhjmldncegcaaGreatDoor
open Go.RowKit Go.Maps Go.ChangeMaps Go.MapKept

theorem dbCells_take (L : List (DBA × Value)) : ∀ k, dbCells (L.take k) = (dbCells L).take (k * 3) := by
  induction L with
  | nil => intro k; simp [dbCells]
  | cons a r ih =>
    intro k
    cases k with
    | zero => simp [dbCells]
    | succ k =>
      have e : ∀ (q : DBA × Value) l, dbCells (q :: l) = encStr q.1.name :: .int .i64 q.1.flags :: q.2 :: dbCells l := fun _ _ => rfl
      rw [List.take_succ_cons, e, e, ih, show (k + 1) * 3 = k * 3 + 1 + 1 + 1 by omega]
      rfl
theorem dbCells_drop (L : List (DBA × Value)) : ∀ k, dbCells (L.drop k) = (dbCells L).drop (k * 3) := by
  induction L with
  | nil => intro k; simp [dbCells]
  | cons a r ih =>
    intro k
    cases k with
    | zero => simp
    | succ k =>
      have e : ∀ (q : DBA × Value) l, dbCells (q :: l) = encStr q.1.name :: .int .i64 q.1.flags :: q.2 :: dbCells l := fun _ _ => rfl
      rw [List.drop_succ_cons, e, ih, show (k + 1) * 3 = k * 3 + 1 + 1 + 1 by omega]
      rfl
theorem Sl.cutL3 {w : World} {p : Option Addr} {c n k : Nat} {L : List (DBA × Value)} (h : Sl w 3 (.slice p n c) n (dbCells L)) (hk : k ≤ n) : Sl w 3 (.slice p k c) k (dbCells (L.take k)) := by
  obtain ⟨hl, p', c', hv, h1, h2, h3⟩ := h
  injection hv with hv1 _ hv3
  subst hv1 hv3
  rw [dbCells_take]
  refine ⟨by rw [List.length_take]; omega, _, _, rfl, by omega, h2, fun h0 => ?_⟩
  obtain ⟨b', off', hp, hc⟩ := h3 (by omega)
  subst hp
  refine ⟨_, _, rfl, fun j u hu => hc j u ?_⟩
  rw [List.getElem?_take] at hu
  split at hu
  · exact hu
  · cases hu
theorem Sl.cutR3 {w : World} {b off c n k : Nat} {L : List (DBA × Value)} (h : Sl w 3 (.slice (some ⟨b, off, none⟩) n c) n (dbCells L)) (hk : k ≤ n) : Sl w 3 (.slice (some ⟨b, off + k * 3, none⟩) (n - k) (c - k)) (n - k) (dbCells (L.drop k)) := by
  obtain ⟨hl, p', c', hv, h1, h2, h3⟩ := h
  injection hv with hv1 _ hv3
  subst hv1 hv3
  rw [dbCells_drop]
  refine ⟨by rw [List.length_drop]; omega, _, _, rfl, by omega, by omega, fun h0 => ?_⟩
  obtain ⟨b', off', hp, hc⟩ := h3 (by omega)
  injection hp with hp
  injection hp with hp1 hp2
  subst hp1 hp2
  refine ⟨_, _, rfl, fun j u hu => ?_⟩
  rw [Nat.add_assoc]
  refine hc (k * 3 + j) u ?_
  rwa [List.getElem?_drop] at hu
theorem sl_zero3 (w : World) (p : Option Addr) (c : Nat) (h : c ≤ maxLen) : Sl w 3 (.slice p 0 c) 0 [] := ⟨by simp, p, c, rfl, Nat.zero_le _, h, fun h => absurd h (Nat.lt_irrefl 0)⟩

theorem drop_end {w w3 : World} {σ : Sig} {i rb k : Nat} {L : List (DBA × Value)} {Lv v3 : Value} {R : RefA} {b : Bool} {base : Nat} (h : RefIs w σ i rb L Lv R) (hn : Neat w σ) (hi : i ≠ 0) (e : Ext w w3) (hb : w.heap.size ≤ base) (hk : k < L.length)
    (ho : w3.ownsRow base 63 3 v3 (0 + k + (L.length - (k + 1))) ([] ++ dbCells (L.take k) ++ dbCells (L.drop (k + 1)))) :
    RefAt ((w3.setCell ⟨rb, 0, none⟩ v3).setCell ⟨rb, 1, none⟩ (.bool b)) σ i rb { R with l := R.l.eraseIdx k, on := b } ∧ Moved σ i w σ ((w3.setCell ⟨rb, 0, none⟩ v3).setCell ⟨rb, 1, none⟩ (.bool b)) := by
  have e0 : L.eraseIdx k = L.take k ++ L.drop (k + 1) := List.eraseIdx_eq_take_drop_succ L k
  obtain ⟨h1, h2⟩ := h.newL (L' := L.eraseIdx k) hn hi e hb (by
    have e1 : (L.eraseIdx k).length = 0 + k + (L.length - (k + 1)) := by rw [e0, List.length_append, List.length_take, List.length_drop]; omega
    have e2 : dbCells (L.eraseIdx k) = [] ++ dbCells (L.take k) ++ dbCells (L.drop (k + 1)) := by rw [e0, dbCells_append]; rfl
    rw [e1, e2]; exact ho) (fun p hp => (h.dbs.2 p (List.mem_of_mem_eraseIdx hp)).ext e)
  have em : (L.eraseIdx k).map (·.1) = R.l.eraseIdx k := by rw [← h.eq, e0, List.map_append, List.map_take, List.map_drop, List.eraseIdx_eq_take_drop_succ]
  rw [em] at h1
  have o : Only rb (w3.setCell ⟨rb, 0, none⟩ v3) ((w3.setCell ⟨rb, 0, none⟩ v3).setCell ⟨rb, 1, none⟩ (.bool b)) := (Only.refl _ _).setCell 1 _
  exact ⟨⟨_, _, h1.only hi o rfl (heap_setCell_row h1.heap 1 _)⟩, h2.trans (Moved.ofOnly h2.neat o (by rw [h.lab]))⟩

set_option maxHeartbeats 4000000 in
set_option maxRecDepth 100000 in
theorem dropr_early (σ : Sig) (i rb : Nat) (L : List (DBA × Value)) (Lv : Value) (R : RefA) (n : S) (w : World) (hR : RefIs w σ i rb L Lv R) (hn : Neat w σ) (hl0 : 0 < R.l.length) (e c : Int)
    (hbad : (n = [] ∧ c = 23) ∨ (∃ a r, n = a :: r ∧ findR R n = (none, e) ∧ (e == 0) = false ∧ c = e)) :
    Calls Tryz.prog 24 #[.pointer (some ⟨rb, 0, none⟩), encStr n] w (ChgPost σ i rb R c w) := by
  have HF := Lib.hid (findr_any σ i rb L Lv R n w hR hl0)
  have HRW := Lib.hid hR
  have HNT := Lib.hid hn
  clear hR hn
  rcases hbad with ⟨rfl, rfl⟩ | ⟨a, r, rfl, hf, he, rfl⟩
  · go_enter Tryz.func24, Tryz.ntmps24
    go_wp2_with fail
    go_ret
    exact chg_same HRW.out HNT.out (Ext.rfl' w)
  · rw [hf] at HF
    simp only [plI] at HF
    clear hf
    go_enter Tryz.func24, Tryz.ntmps24
    go_wp2_with (first | (go_at_call 25; refine HF.out.mono ?_; rintro e w' ⟨rfl, hww⟩; have hww := hww.symm; subst hww) | fail)
    go_ret
    exact chg_same HRW.out HNT.out (Ext.rfl' w)

set_option maxHeartbeats 16000000 in
set_option maxRecDepth 100000 in
theorem dropr_mid (σ : Sig) (i rb : Nat) (L : List (DBA × Value)) (b off c : Nat) (R : RefA) (a : UInt8) (r : S) (w : World) (k : Nat) (hR : RefIs w σ i rb L (.slice (some ⟨b, off, none⟩) L.length c) R) (hn : Neat w σ) (hi : i ≠ 0) (hl : L.length ≤ 1000) (hk : k < L.length) (hf : findR R (a :: r) = (some k, 0)) (hkm : k + 1 < L.length) :
    Calls Tryz.prog 24 #[.pointer (some ⟨rb, 0, none⟩), encStr (a :: r)] w (ChgPost σ i rb { R with l := R.l.eraseIdx k, on := R.on && !(R.name == a :: r) } 0 w) := by
  have hlen : R.l.length = L.length := by rw [← hR.eq]; simp
  have HF := Lib.hid (findr_any σ i rb L _ R (a :: r) w hR (by omega))
  rw [hf] at HF
  simp only [plI] at HF
  have HRW := Lib.hid hR
  have HNT := Lib.hid hn
  have HI := Lib.hid hi
  have HSL := Lib.hid hR.dbs.1.1
  have HON : Hid (∀ j, (∀ u ∈ dbCells (L.take j), u.oneCell' = true) ∧ (∀ u ∈ dbCells (L.drop j), u.oneCell' = true)) := fun j => ⟨fun u hu => by rw [dbCells_take] at hu; exact db_one hR.dbs u (List.mem_of_mem_take hu), fun u hu => by rw [dbCells_drop] at hu; exact db_one hR.dbs u (List.mem_of_mem_drop hu)⟩
  have hcl : L.length ≤ c := by have := hR.dbs.1.1; obtain ⟨_, p, c', hv, h1, h2, _⟩ := this; injection hv with _ _ hv; subst hv; exact h1
  have hcm : c ≤ maxLen := by have := hR.dbs.1.1; obtain ⟨_, p, c', hv, h1, h2, _⟩ := this; injection hv with _ _ hv; subst hv; exact h2
  have HLC := Lib.hid (And.intro hl hk)
  have HKL : Hid (k < L.length) := hk
  have c0 := cellAt hR.heap 0
  have c1 := cellAt hR.heap 1
  have c2 := cellAt hR.heap 2
  simp [refCells] at c0 c1 c2
  have HRH := Lib.hid hR.heap
  have hrl := lt_heap hR.heap
  clear hR hn hi hlen hf
  go_enter Tryz.func24, Tryz.ntmps24
  go_wp2_with (first | (go_at_call 25; refine HF.out.mono ?_; rintro e w' ⟨rfl, hww⟩; have hww := hww.symm; subst hww) | fail)
  have HK : Hid (∀ W', Ext w W' → W'.cell? ⟨rb, 0, none⟩ = some (.slice (some ⟨b, off, none⟩) L.length c) ∧ W'.cell? ⟨rb, 1, none⟩ = some (.bool R.on) ∧ W'.cell? ⟨rb, 2, none⟩ = some (encStr R.name) ∧ W'.frozen? ⟨rb, 0, none⟩ = false ∧ W'.frozen? ⟨rb, 1, none⟩ = false) := fun W' e => ⟨e.cell c0, e.cell c1, e.cell c2, frozenAt ((e.block rb hrl).trans HRH.out) 0, frozenAt ((e.block rb hrl).trans HRH.out) 1⟩
  have f0 := frozenAt HRH.out 0
  have HS1 : Hid (∀ W', Ext w W' → Sl W' 3 (.slice (some ⟨b, off, none⟩) k c) k (dbCells (L.take k))) := fun W' e => (HSL.out.ext e).cutL3 (by omega)
  have HS2 : Hid (∀ W', Ext w W' → Sl W' 3 (.slice (some ⟨b, off + (k + 1) * 3, none⟩) (L.length - (k + 1)) (c - (k + 1))) (L.length - (k + 1)) (dbCells (L.drop (k + 1)))) := fun W' e => (HSL.out.ext e).cutR3 (by omega)
  have b1 : (0 : Int) ≤ (k : Int) := by omega
  have b2 : (k : Int) ≤ (L.length : Int) := by omega
  have b3 : (0 : Int) ≤ (k : Int) + 1 := by omega
  have b4 : (k : Int) + 1 ≤ (L.length : Int) := by omega
  have b5 : (k : Int) ≤ (c : Int) := by omega
  have b6 : (L.length : Int) ≤ (c : Int) := by omega
  have b7 : ((k : Int) + 1).toNat = k + 1 := by omega
  have b0 : IntKind.i64.wrap ((k : Int) + 1) = (k : Int) + 1 := by rw [IntKind.wrap_i64]; omega
  have b8 : ¬ c - (k + 1) = 0 := by omega
  have b9 : ¬ c = k + 1 := by omega
  cases hon : R.on <;> cases hnm : (R.name == a :: r)
  all_goals
    rw [hon] at HK c1
    go_region_law
      (first
        | (refine step_append_sl _ (by rfl) _ _ _ (by rfl) w.heap.size dbsEl v1 _ _ (by rfl) hown1 _ (L.length - (k + 1)) (dbCells (L.drop (k + 1))) (by rfl) (HS2.out _ ex1) (HON.out (k + 1)).2 (by have := HLC.out; unfold maxLen; omega) (by have := HLC.out; omega) ex1.size ?_; intro v2 w2 hown2 hgrow2 hat2; have ex2 : Ext w w2 := below_append ex1 ex1.size hown1 hgrow2
           obtain ⟨p2, cc2, rfl⟩ := (Sl.ofOwns hown2).shape
           obtain ⟨d1, d2, d3, d4, d5⟩ := HK.out w2 ex2)
        | (refine step_append_sl _ (by rfl) _ _ _ (by rfl) w.heap.size dbsEl (.slice none 0 0) 0 [] (by rfl) (owns_nil _ _ _ _) (.slice (some ⟨b, off, none⟩) k c) k (dbCells (L.take k)) (by rfl) (HS1.out _ (drewW w)) (HON.out k).1 (by have := HLC.out; unfold maxLen; omega) (by have := HLC.out; omega) (Nat.le_refl _) ?_; intro v1 w1 hown1 hgrow1 hat1; have fx1 := extN_grown hgrow1; have ex1 : Ext w w1 := Ext.step (drewW w) fx1
           obtain ⟨a1, a2, a3, a4, a5⟩ := HK.out w1 ex1))
    all_goals
      have HO2 := Lib.hid hown2
      have EX2 := Lib.hid ex2
      clear hown2 hown1 hgrow1 hgrow2 hat1 hat2 fx1 ex1 ex2
      go_wp2
      go_ret
      first
        | (rw [show (R.on && !(R.name == a :: r)) = false from by rw [hon, hnm]; rfl]
           obtain ⟨g1, g2⟩ := drop_end (b := false) HRW.out HNT.out HI.out EX2.out (Nat.le_refl _) HKL.out HO2.out
           rw [Nat.zero_add] at g1 g2
           exact ⟨rfl, g1, g2⟩)
        | (rw [show (R.on && !(R.name == a :: r)) = true from by rw [hon, hnm]; rfl]
           obtain ⟨g1, g2⟩ := drop_end (b := true) HRW.out HNT.out HI.out EX2.out (Nat.le_refl _) HKL.out HO2.out
           rw [Nat.zero_add] at g1 g2
           exact ⟨rfl, g1, g2⟩)

set_option maxHeartbeats 16000000 in
set_option maxRecDepth 100000 in
theorem dropr_last (σ : Sig) (i rb : Nat) (L : List (DBA × Value)) (b off c : Nat) (R : RefA) (a : UInt8) (r : S) (w : World) (k : Nat) (hR : RefIs w σ i rb L (.slice (some ⟨b, off, none⟩) L.length c) R) (hn : Neat w σ) (hi : i ≠ 0) (hl : L.length ≤ 1000) (hk : k < L.length) (hf : findR R (a :: r) = (some k, 0)) (hkm : L.length = k + 1) (hc : ¬ c = k + 1) :
    Calls Tryz.prog 24 #[.pointer (some ⟨rb, 0, none⟩), encStr (a :: r)] w (ChgPost σ i rb { R with l := R.l.eraseIdx k, on := R.on && !(R.name == a :: r) } 0 w) := by
  have hlen : R.l.length = L.length := by rw [← hR.eq]; simp
  have HF := Lib.hid (findr_any σ i rb L _ R (a :: r) w hR (by omega))
  rw [hf] at HF
  simp only [plI] at HF
  have HRW := Lib.hid hR
  have HNT := Lib.hid hn
  have HI := Lib.hid hi
  have HSL := Lib.hid hR.dbs.1.1
  have HON : Hid (∀ j, (∀ u ∈ dbCells (L.take j), u.oneCell' = true) ∧ (∀ u ∈ dbCells (L.drop j), u.oneCell' = true)) := fun j => ⟨fun u hu => by rw [dbCells_take] at hu; exact db_one hR.dbs u (List.mem_of_mem_take hu), fun u hu => by rw [dbCells_drop] at hu; exact db_one hR.dbs u (List.mem_of_mem_drop hu)⟩
  have hcl : L.length ≤ c := by have := hR.dbs.1.1; obtain ⟨_, p, c', hv, h1, h2, _⟩ := this; injection hv with _ _ hv; subst hv; exact h1
  have hcm : c ≤ maxLen := by have := hR.dbs.1.1; obtain ⟨_, p, c', hv, h1, h2, _⟩ := this; injection hv with _ _ hv; subst hv; exact h2
  have HLC := Lib.hid (And.intro hl hk)
  have HKL : Hid (k < L.length) := hk
  have c0 := cellAt hR.heap 0
  have c1 := cellAt hR.heap 1
  have c2 := cellAt hR.heap 2
  simp [refCells] at c0 c1 c2
  have HRH := Lib.hid hR.heap
  have hrl := lt_heap hR.heap
  clear hR hn hi hlen hf
  go_enter Tryz.func24, Tryz.ntmps24
  go_wp2_with (first | (go_at_call 25; refine HF.out.mono ?_; rintro e w' ⟨rfl, hww⟩; have hww := hww.symm; subst hww) | fail)
  have HK : Hid (∀ W', Ext w W' → W'.cell? ⟨rb, 0, none⟩ = some (.slice (some ⟨b, off, none⟩) L.length c) ∧ W'.cell? ⟨rb, 1, none⟩ = some (.bool R.on) ∧ W'.cell? ⟨rb, 2, none⟩ = some (encStr R.name) ∧ W'.frozen? ⟨rb, 0, none⟩ = false ∧ W'.frozen? ⟨rb, 1, none⟩ = false) := fun W' e => ⟨e.cell c0, e.cell c1, e.cell c2, frozenAt ((e.block rb hrl).trans HRH.out) 0, frozenAt ((e.block rb hrl).trans HRH.out) 1⟩
  have f0 := frozenAt HRH.out 0
  have HS1 : Hid (∀ W', Ext w W' → Sl W' 3 (.slice (some ⟨b, off, none⟩) k c) k (dbCells (L.take k))) := fun W' e => (HSL.out.ext e).cutL3 (by omega)
  have HS2 : Hid (∀ W', Ext w W' → Sl W' 3 (.slice (some ⟨b, off + (k + 1) * 3, none⟩) (L.length - (k + 1)) (c - (k + 1))) (L.length - (k + 1)) (dbCells (L.drop (k + 1)))) := fun W' e => (HSL.out.ext e).cutR3 (by omega)
  have b1 : (0 : Int) ≤ (k : Int) := by omega
  have b2 : (k : Int) ≤ (L.length : Int) := by omega
  have b3 : (0 : Int) ≤ (k : Int) + 1 := by omega
  have b4 : (k : Int) + 1 ≤ (L.length : Int) := by omega
  have b5 : (k : Int) ≤ (c : Int) := by omega
  have b6 : (L.length : Int) ≤ (c : Int) := by omega
  have b7 : ((k : Int) + 1).toNat = k + 1 := by omega
  have b0 : IntKind.i64.wrap ((k : Int) + 1) = (k : Int) + 1 := by rw [IntKind.wrap_i64]; omega
  have b8 : ¬ c - (k + 1) = 0 := by omega
  generalize hm : L.length = m at *
  subst hkm
  have HM := Lib.hid hm
  have HKL : Hid (k < L.length) := by show _ < _; omega
  clear hm
  cases hon : R.on <;> cases hnm : (R.name == a :: r)
  all_goals
    rw [hon] at HK c1
    go_region_law
      (first
        | (refine step_append_sl _ (by rfl) _ _ _ (by rfl) w.heap.size dbsEl v1 _ _ (by rfl) hown1 _ 0 [] (by rfl) (sl_zero3 _ _ _ (by omega)) (fun u hu => by cases hu) (by have := HLC.out; unfold maxLen; omega) (by have := HLC.out; omega) ex1.size ?_; intro v2 w2 hown2 hgrow2 hat2; have ex2 : Ext w w2 := below_append ex1 ex1.size hown1 hgrow2
           obtain ⟨p2, cc2, rfl⟩ := (Sl.ofOwns hown2).shape
           obtain ⟨d1, d2, d3, d4, d5⟩ := HK.out w2 ex2)
        | (refine step_append_sl _ (by rfl) _ _ _ (by rfl) w.heap.size dbsEl (.slice none 0 0) 0 [] (by rfl) (owns_nil _ _ _ _) (.slice (some ⟨b, off, none⟩) k c) k (dbCells (L.take k)) (by rfl) (HS1.out _ (drewW w)) (HON.out k).1 (by have := HLC.out; unfold maxLen; omega) (by have := HLC.out; omega) (Nat.le_refl _) ?_; intro v1 w1 hown1 hgrow1 hat1; have fx1 := extN_grown hgrow1; have ex1 : Ext w w1 := Ext.step (drewW w) fx1
           obtain ⟨a1, a2, a3, a4, a5⟩ := HK.out w1 ex1))
    all_goals
      have HO2 := Lib.hid hown2
      have EX2 := Lib.hid ex2
      clear hown2 hown1 hgrow1 hgrow2 hat1 hat2 fx1 ex1 ex2
      go_wp2
      go_ret
      have hox : w2.ownsRow w.heap.size 63 3 (.slice p2 (0 + k + 0) cc2) (0 + k + (L.length - (k + 1))) ([] ++ dbCells (L.take k) ++ dbCells (L.drop (k + 1))) := by
        rw [HM.out, Nat.sub_self, List.drop_of_length_le (by have := HM.out; omega)]
        exact HO2.out
      first
        | (rw [show (R.on && !(R.name == a :: r)) = false from by rw [hon, hnm]; rfl]
           obtain ⟨g1, g2⟩ := drop_end (b := false) HRW.out HNT.out HI.out EX2.out (Nat.le_refl _) HKL.out hox
           rw [Nat.zero_add, Nat.add_zero] at g1 g2
           exact ⟨rfl, g1, g2⟩)
        | (rw [show (R.on && !(R.name == a :: r)) = true from by rw [hon, hnm]; rfl]
           obtain ⟨g1, g2⟩ := drop_end (b := true) HRW.out HNT.out HI.out EX2.out (Nat.le_refl _) HKL.out hox
           rw [Nat.zero_add, Nat.add_zero] at g1 g2
           exact ⟨rfl, g1, g2⟩)

set_option maxHeartbeats 16000000 in
set_option maxRecDepth 100000 in
theorem dropr_full (σ : Sig) (i rb : Nat) (L : List (DBA × Value)) (b off c : Nat) (R : RefA) (a : UInt8) (r : S) (w : World) (k : Nat) (hR : RefIs w σ i rb L (.slice (some ⟨b, off, none⟩) L.length c) R) (hn : Neat w σ) (hi : i ≠ 0) (hl : L.length ≤ 1000) (hk : k < L.length) (hf : findR R (a :: r) = (some k, 0)) (hkm : L.length = k + 1) (hc : c = k + 1) :
    Calls Tryz.prog 24 #[.pointer (some ⟨rb, 0, none⟩), encStr (a :: r)] w (ChgPost σ i rb { R with l := R.l.eraseIdx k, on := R.on && !(R.name == a :: r) } 0 w) := by
  have hlen : R.l.length = L.length := by rw [← hR.eq]; simp
  have HF := Lib.hid (findr_any σ i rb L _ R (a :: r) w hR (by omega))
  rw [hf] at HF
  simp only [plI] at HF
  have HRW := Lib.hid hR
  have HNT := Lib.hid hn
  have HI := Lib.hid hi
  have HSL := Lib.hid hR.dbs.1.1
  have HON : Hid (∀ j, (∀ u ∈ dbCells (L.take j), u.oneCell' = true) ∧ (∀ u ∈ dbCells (L.drop j), u.oneCell' = true)) := fun j => ⟨fun u hu => by rw [dbCells_take] at hu; exact db_one hR.dbs u (List.mem_of_mem_take hu), fun u hu => by rw [dbCells_drop] at hu; exact db_one hR.dbs u (List.mem_of_mem_drop hu)⟩
  have hcl : L.length ≤ c := by have := hR.dbs.1.1; obtain ⟨_, p, c', hv, h1, h2, _⟩ := this; injection hv with _ _ hv; subst hv; exact h1
  have hcm : c ≤ maxLen := by have := hR.dbs.1.1; obtain ⟨_, p, c', hv, h1, h2, _⟩ := this; injection hv with _ _ hv; subst hv; exact h2
  have HLC := Lib.hid (And.intro hl hk)
  have HKL : Hid (k < L.length) := hk
  have c0 := cellAt hR.heap 0
  have c1 := cellAt hR.heap 1
  have c2 := cellAt hR.heap 2
  simp [refCells] at c0 c1 c2
  have HRH := Lib.hid hR.heap
  have hrl := lt_heap hR.heap
  clear hR hn hi hlen hf
  go_enter Tryz.func24, Tryz.ntmps24
  go_wp2_with (first | (go_at_call 25; refine HF.out.mono ?_; rintro e w' ⟨rfl, hww⟩; have hww := hww.symm; subst hww) | fail)
  have HK : Hid (∀ W', Ext w W' → W'.cell? ⟨rb, 0, none⟩ = some (.slice (some ⟨b, off, none⟩) L.length c) ∧ W'.cell? ⟨rb, 1, none⟩ = some (.bool R.on) ∧ W'.cell? ⟨rb, 2, none⟩ = some (encStr R.name) ∧ W'.frozen? ⟨rb, 0, none⟩ = false ∧ W'.frozen? ⟨rb, 1, none⟩ = false) := fun W' e => ⟨e.cell c0, e.cell c1, e.cell c2, frozenAt ((e.block rb hrl).trans HRH.out) 0, frozenAt ((e.block rb hrl).trans HRH.out) 1⟩
  have f0 := frozenAt HRH.out 0
  have HS1 : Hid (∀ W', Ext w W' → Sl W' 3 (.slice (some ⟨b, off, none⟩) k c) k (dbCells (L.take k))) := fun W' e => (HSL.out.ext e).cutL3 (by omega)
  have HS2 : Hid (∀ W', Ext w W' → Sl W' 3 (.slice (some ⟨b, off + (k + 1) * 3, none⟩) (L.length - (k + 1)) (c - (k + 1))) (L.length - (k + 1)) (dbCells (L.drop (k + 1)))) := fun W' e => (HSL.out.ext e).cutR3 (by omega)
  have b1 : (0 : Int) ≤ (k : Int) := by omega
  have b2 : (k : Int) ≤ (L.length : Int) := by omega
  have b3 : (0 : Int) ≤ (k : Int) + 1 := by omega
  have b4 : (k : Int) + 1 ≤ (L.length : Int) := by omega
  have b5 : (k : Int) ≤ (c : Int) := by omega
  have b6 : (L.length : Int) ≤ (c : Int) := by omega
  have b7 : ((k : Int) + 1).toNat = k + 1 := by omega
  have b0 : IntKind.i64.wrap ((k : Int) + 1) = (k : Int) + 1 := by rw [IntKind.wrap_i64]; omega
  generalize hm : L.length = m at *
  subst hkm
  have HM := Lib.hid hm
  have HKL : Hid (k < L.length) := by show _ < _; omega
  clear hm
  subst hc
  have b10 : (k : Int) ≤ (k : Int) + 1 := by omega
  have b12 : ¬ k + 1 < k := by omega
  have b13 : k ≤ k + 1 := by omega
  cases hon : R.on <;> cases hnm : (R.name == a :: r)
  all_goals
    rw [hon] at HK c1
    go_region_law
      (first
        | (refine step_append_sl _ (by rfl) _ _ _ (by rfl) w.heap.size dbsEl v1 _ _ (by rfl) hown1 _ 0 [] (by rfl) (sl_zero3 _ _ _ (by omega)) (fun u hu => by cases hu) (by have := HLC.out; unfold maxLen; omega) (by have := HLC.out; omega) ex1.size ?_; intro v2 w2 hown2 hgrow2 hat2; have ex2 : Ext w w2 := below_append ex1 ex1.size hown1 hgrow2
           obtain ⟨p2, cc2, rfl⟩ := (Sl.ofOwns hown2).shape
           obtain ⟨d1, d2, d3, d4, d5⟩ := HK.out w2 ex2)
        | (refine step_append_sl _ (by rfl) _ _ _ (by rfl) w.heap.size dbsEl (.slice none 0 0) 0 [] (by rfl) (owns_nil _ _ _ _) (.slice (some ⟨b, off, none⟩) k (k + 1)) k (dbCells (L.take k)) (by rfl) (HS1.out _ (drewW w)) (HON.out k).1 (by have := HLC.out; unfold maxLen; omega) (by have := HLC.out; omega) (Nat.le_refl _) ?_; intro v1 w1 hown1 hgrow1 hat1; have fx1 := extN_grown hgrow1; have ex1 : Ext w w1 := Ext.step (drewW w) fx1
           obtain ⟨a1, a2, a3, a4, a5⟩ := HK.out w1 ex1))
    all_goals
      have HO2 := Lib.hid hown2
      have EX2 := Lib.hid ex2
      clear hown2 hown1 hgrow1 hgrow2 hat1 hat2 fx1 ex1 ex2
      go_wp2
      go_ret
      have hox : w2.ownsRow w.heap.size 63 3 (.slice p2 (0 + k + 0) cc2) (0 + k + (L.length - (k + 1))) ([] ++ dbCells (L.take k) ++ dbCells (L.drop (k + 1))) := by
        rw [HM.out, Nat.sub_self, List.drop_of_length_le (by have := HM.out; omega)]
        exact HO2.out
      first
        | (rw [show (R.on && !(R.name == a :: r)) = false from by rw [hon, hnm]; rfl]
           obtain ⟨g1, g2⟩ := drop_end (b := false) HRW.out HNT.out HI.out EX2.out (Nat.le_refl _) HKL.out hox
           rw [Nat.zero_add, Nat.add_zero] at g1 g2
           exact ⟨rfl, g1, g2⟩)
        | (rw [show (R.on && !(R.name == a :: r)) = true from by rw [hon, hnm]; rfl]
           obtain ⟨g1, g2⟩ := drop_end (b := true) HRW.out HNT.out HI.out EX2.out (Nat.le_refl _) HKL.out hox
           rw [Nat.zero_add, Nat.add_zero] at g1 g2
           exact ⟨rfl, g1, g2⟩)

theorem dropr_any (σ : Sig) (i rb : Nat) (L : List (DBA × Value)) (Lv : Value) (R : RefA) (n : S) (w : World) (hR : RefIs w σ i rb L Lv R) (hn : Neat w σ) (hi : i ≠ 0) (hl0 : 0 < R.l.length) (hl : R.l.length ≤ 1000) :
    Calls Tryz.prog 24 #[.pointer (some ⟨rb, 0, none⟩), encStr n] w (ChgPost σ i rb (dropR R n).1 (dropR R n).2 w) := by
  cases n with
  | nil => exact dropr_early σ i rb L Lv R [] w hR hn hl0 0 23 (.inl ⟨rfl, rfl⟩)
  | cons a r =>
    have hne : ¬ (a :: r : S) = [] := by simp
    have hlen : R.l.length = L.length := by rw [← hR.eq]; simp
    rcases findR_ways (R := R) (a :: r) with ⟨k, hk, hf⟩ | hf | hf | hf
    · have e : dropR R (a :: r) = ({ R with l := R.l.eraseIdx k, on := R.on && !(R.name == a :: r) }, 0) := by
        unfold dropR; rw [if_neg hne]; simp only [hf]; rw [if_neg (by simp)]; rfl
      rw [e]
      obtain ⟨ev, b, off, c, rfl, _⟩ := hR.db hk
      rw [hlen] at hR hl hk
      by_cases h1 : k + 1 < L.length
      · exact dropr_mid σ i rb L b off c R a r w k hR hn hi hl hk hf h1
      · have h2 : L.length = k + 1 := by omega
        by_cases h3 : c = k + 1
        · exact dropr_full σ i rb L b off c R a r w k hR hn hi hl hk hf h2 h3
        · exact dropr_last σ i rb L b off c R a r w k hR hn hi hl hk hf h2 h3
    · have e : dropR R (a :: r) = (R, 21) := by unfold dropR; rw [if_neg hne]; simp only [hf]; rw [if_pos (by simp)]
      rw [e]; exact dropr_early σ i rb L Lv R (a :: r) w hR hn hl0 21 21 (.inr ⟨a, r, rfl, hf, rfl, rfl⟩)
    · have e : dropR R (a :: r) = (R, 22) := by unfold dropR; rw [if_neg hne]; simp only [hf]; rw [if_pos (by simp)]
      rw [e]; exact dropr_early σ i rb L Lv R (a :: r) w hR hn hl0 22 22 (.inr ⟨a, r, rfl, hf, rfl, rfl⟩)
    · have e : dropR R (a :: r) = (R, 23) := by unfold dropR; rw [if_neg hne]; simp only [hf]; rw [if_pos (by simp)]
      rw [e]; exact dropr_early σ i rb L Lv R (a :: r) w hR hn hl0 23 23 (.inr ⟨a, r, rfl, hf, rfl, rfl⟩)
end Go.Proofs.YtmkhjmldncegcaaGreatDoor

/-
  WALKS: the document's model: Do.
-/
set_option linter.unusedVariables false
set_option linter.unusedSimpArgs false
namespace Go.Proofs.YtmkhjmldncegcaaGreatDoor
open Go.RowKit Go.Maps Go.ChangeMaps Go.MapKept

/-- What a call that replies leaves. -/
def RepPost (σ : Sig) (i rb : Nat) (R' : RefA) (rep : RepA) (w : World) (e : Ending) (w' : World) : Prop := e = .returned (repV rep) ∧ RefAt w' σ i rb R' ∧ Moved σ i w σ w'
/-- The labels while the reply's own block must not be taken for nobody's. -/
def sigD (σ : Sig) (w : World) (i : Nat) : Sig := lay σ (w.heap.size + 1) (i + 1, .top)
theorem SlF.sub {w : World} {σ σ' : Sig} {size n : Nat} {v : Value} {us : List Value} (h : SlF w σ size v n us) (f : ∀ b, b < w.heap.size → (σ b).1 = 0 → (σ' b).1 = 0) : SlF w σ' size v n us :=
  ⟨h.1, fun b e => ⟨f b (h.2 b e).2 (h.2 b e).1, (h.2 b e).2⟩⟩
theorem RefIs.sub {w : World} {σ σ' : Sig} {i rb : Nat} {L : List (DBA × Value)} {Lv : Value} {R : RefA} (h : RefIs w σ i rb L Lv R) (hl : σ' rb = (i, .top)) (f : ∀ b, b < w.heap.size → (σ b).1 = 0 → (σ' b).1 = 0) : RefIs w σ' i rb L Lv R :=
  ⟨hl, h.heap, ⟨h.dbs.1.sub f, fun p hp => (h.dbs.2 p hp).sub f⟩, h.eq⟩
theorem size2 (w : World) (o1 o2 : Obj) : ((w.alloc o1).alloc o2).heap.size = w.heap.size + 2 := by simp
theorem inD {w : World} {σ : Sig} {i rb : Nat} {L : List (DBA × Value)} {Lv : Value} {R : RefA} (h : RefIs w σ i rb L Lv R) (hn : Neat w σ) (o1 o2 : Obj) : RefIs ((w.alloc o1).alloc o2) (sigD σ w i) i rb L Lv R ∧ Neat ((w.alloc o1).alloc o2) (sigD σ w i) := by
  have hlt := lt_heap h.heap
  refine ⟨RefIs.ext (h.sub (σ' := sigD σ w i) (by unfold sigD; rw [lay_other (by omega)]; exact h.lab) fun b hb h0 => by unfold sigD; rw [lay_other (by omega)]; exact h0) (((Ext.rfl' w).alloc o1).alloc o2), fun k hk => ?_⟩
  rw [size2] at hk
  unfold sigD
  rw [lay_other (by omega)]
  exact hn k (by omega)
theorem keptD {w w1 : World} {σ : Sig} {i : Nat} {o1 o2 : Obj} (hi : i ≠ 0) (hn : Neat w σ) (m : Moved (sigD σ w i) i ((w.alloc o1).alloc o2) (sigD σ w i) w1) : w1.heap[w.heap.size]? = some o1 ∧ w1.heap[w.heap.size + 1]? = some o2 := by
  constructor
  · rw [m.turn.block w.heap.size (by rw [size2]; omega) (by unfold sigD; rw [lay_other (by omega), hn _ (Nat.le_refl _)]; exact fun e => hi e.symm)]
    exact (((Ext.rfl' (w.alloc o1)).alloc o2).block w.heap.size (by simp)).trans (heap_new w o1)
  · rw [m.turn.block (w.heap.size + 1) (by rw [size2]; omega) (by unfold sigD; rw [lay_same]; show i + 1 ≠ i; omega)]
    exact two_boxes w o1 o2
theorem outD {w w1 w2 : World} {σ : Sig} {i rb : Nat} {o1 o2 : Obj} {R' : RefA} (hlt : rb < w.heap.size) (hn : Neat w σ) (hi : i ≠ 0) (h : RefAt w1 (sigD σ w i) i rb R') (m : Moved (sigD σ w i) i ((w.alloc o1).alloc o2) (sigD σ w i) w1) (o : Only (w.heap.size + 1) w1 w2) : RefAt w2 σ i rb R' ∧ Moved σ i w σ w2 := by
  obtain ⟨L, Lv, h⟩ := h
  have hb : (sigD σ w i (w.heap.size + 1)).1 = i + 1 := by unfold sigD; rw [lay_same]
  have h2 : RefIs w2 (sigD σ w i) i rb L Lv R' := ⟨h.lab, (o.block rb (by omega)).trans h.heap, h.dbs.keep (Keep.ofOnly o (by rw [hb]; omega)), h.eq⟩
  have hsz := m.turn.size
  rw [size2] at hsz
  refine ⟨⟨L, Lv, h2.sub (by have := h.lab; unfold sigD at this; rw [lay_other (by omega)] at this; exact this) fun b _ h0 => ?_⟩, ?_⟩
  · by_cases e : b = w.heap.size + 1
    · subst e; rw [hb] at h0; omega
    · unfold sigD at h0; rw [lay_other e] at h0; exact h0
  · refine ⟨fun _ _ => rfl, fun k hk => hn k (by have := o.size; omega), ?_⟩
    have e0 : Ext w ((w.alloc o1).alloc o2) := ((Ext.rfl' w).alloc o1).alloc o2
    refine ⟨o.os.trans (m.turn.os.trans e0.os), o.tape.trans (m.turn.tape.trans e0.tape), o.output.trans (m.turn.output.trans e0.output), by have := o.size; omega, fun k hk hne => ?_⟩
    rw [o.block k (by omega), m.turn.block k (by rw [size2]; omega) (by unfold sigD; rw [lay_other (by omega)]; exact hne), e0.block k hk]
def rep0 : Obj := .cells #[.int .i64 0, .string ⟨#[]⟩, .string ⟨#[]⟩] 32 (0, 0)

set_option maxHeartbeats 8000000 in
set_option maxRecDepth 100000 in
theorem dor_next (σ : Sig) (i rb : Nat) (L : List (DBA × Value)) (Lv : Value) (R R' : RefA) (rep : RepA) (db key val : S) (flags nn : Int) (w : World) (hR : RefIs w σ i rb L Lv R) (hn : Neat w σ) (hi : i ≠ 0) 
    (hx : ∀ W, RefIs W (sigD σ w i) i rb L Lv R → Neat W (sigD σ w i) → Calls Tryz.prog 22 #[.pointer (some ⟨rb, 0, none⟩)] W fun e w1 => e = .returned (repV rep) ∧ RefAt w1 (sigD σ w i) i rb R' ∧ Moved (sigD σ w i) i W (sigD σ w i) w1) :
    Calls Tryz.prog 11 #[.pointer (some ⟨rb, 0, none⟩), opV ⟨14, db, key, val, flags, nn⟩] w (RepPost σ i rb R' rep w) := by
  have HX := Lib.hid (hx ((w.alloc (.cells (opCells ⟨14, db, key, val, flags, nn⟩) 30 (0, 0))).alloc rep0) (inD hR hn _ _).1 (inD hR hn _ _).2)
  have HLT := Lib.hid (lt_heap hR.heap)
  have HNT := Lib.hid hn
  have HI := Lib.hid hi
  clear hR hn hi hx
  unfold opV opCells rep0 at HX
  unfold opV opCells
  unfold repV at HX
  go_enter Tryz.func11, Tryz.ntmps11
  go_wp2_with (first | (go_at_call 22; refine HX.out.mono ?_; rintro e w1 ⟨rfl, hA, hM⟩; obtain ⟨hb1, hb2⟩ := keptD HI.out HNT.out hM; have r0 := (cellAt hb2 0); have r1 := (cellAt hb2 1); have r2 := (cellAt hb2 2); have q0 := frozenAt hb2 0; have q1 := frozenAt hb2 1; have q2 := frozenAt hb2 2; simp at r0 r1 r2; have HB2 := Lib.hid hb2; have HA := Lib.hid hA; have HM := Lib.hid hM; clear hb1 hb2 hA hM) | fail)
  have o := (((Only.refl (w.heap.size + 1) w1).setCell 0 (.int .i64 rep.code)).setCell 1 (encStr rep.key)).setCell 2 (encStr rep.val)
  have hrow := heap_setCell_row (heap_setCell_row (heap_setCell_row HB2.out 0 (.int .i64 rep.code)) 1 (encStr rep.key)) 2 (encStr rep.val)
  refine bodyPost_ret (results_cell_row rfl _ _ _ _ _ _ _ rfl hrow Tryz.underlying32 rfl reply_size) rfl ⟨rfl, outD HLT.out HNT.out HI.out HA.out HM.out o⟩

set_option maxHeartbeats 8000000 in
set_option maxRecDepth 100000 in
theorem dor_name (σ : Sig) (i rb : Nat) (L : List (DBA × Value)) (Lv : Value) (R R' : RefA) (rep : Int) (db key val : S) (flags nn : Int) (w : World) (hR : RefIs w σ i rb L Lv R) (hn : Neat w σ) (hi : i ≠ 0) 
    (hx : ∀ W, RefIs W (sigD σ w i) i rb L Lv R → Neat W (sigD σ w i) → Calls Tryz.prog 23 #[.pointer (some ⟨rb, 0, none⟩), opV ⟨11, db, key, val, flags, nn⟩] W fun e w1 => e = .returned (.int .i64 rep) ∧ RefAt w1 (sigD σ w i) i rb R' ∧ Moved (sigD σ w i) i W (sigD σ w i) w1) :
    Calls Tryz.prog 11 #[.pointer (some ⟨rb, 0, none⟩), opV ⟨11, db, key, val, flags, nn⟩] w (RepPost σ i rb R' ⟨rep, [], []⟩ w) := by
  have HX := Lib.hid (hx ((w.alloc (.cells (opCells ⟨11, db, key, val, flags, nn⟩) 30 (0, 0))).alloc rep0) (inD hR hn _ _).1 (inD hR hn _ _).2)
  have HLT := Lib.hid (lt_heap hR.heap)
  have HNT := Lib.hid hn
  have HI := Lib.hid hi
  clear hR hn hi hx
  unfold opV opCells rep0 at HX
  unfold opV opCells
  go_enter Tryz.func11, Tryz.ntmps11
  go_wp2_with (first | (go_at_call 23; refine HX.out.mono ?_; rintro e w1 ⟨rfl, hA, hM⟩; obtain ⟨hb1, hb2⟩ := keptD HI.out HNT.out hM; have r0 := (cellAt hb2 0); have r1 := (cellAt hb2 1); have r2 := (cellAt hb2 2); have q0 := frozenAt hb2 0; have q1 := frozenAt hb2 1; have q2 := frozenAt hb2 2; simp at r0 r1 r2; have HB2 := Lib.hid hb2; have HA := Lib.hid hA; have HM := Lib.hid hM; clear hb1 hb2 hA hM) | fail)
  have o := (((Only.refl (w.heap.size + 1) w1).setCell 0 (.int .i64 rep)).setCell 1 (encStr [])).setCell 2 (encStr [])
  have hrow := heap_setCell_row (heap_setCell_row (heap_setCell_row HB2.out 0 (.int .i64 rep)) 1 (encStr [])) 2 (encStr [])
  refine bodyPost_ret (results_cell_row rfl _ _ _ _ _ _ _ rfl hrow Tryz.underlying32 rfl reply_size) rfl ⟨rfl, outD HLT.out HNT.out HI.out HA.out HM.out o⟩

set_option maxHeartbeats 8000000 in
set_option maxRecDepth 100000 in
theorem dor_drop (σ : Sig) (i rb : Nat) (L : List (DBA × Value)) (Lv : Value) (R R' : RefA) (rep : Int) (db key val : S) (flags nn : Int) (w : World) (hR : RefIs w σ i rb L Lv R) (hn : Neat w σ) (hi : i ≠ 0) 
    (hx : ∀ W, RefIs W (sigD σ w i) i rb L Lv R → Neat W (sigD σ w i) → Calls Tryz.prog 24 #[.pointer (some ⟨rb, 0, none⟩), encStr db] W fun e w1 => e = .returned (.int .i64 rep) ∧ RefAt w1 (sigD σ w i) i rb R' ∧ Moved (sigD σ w i) i W (sigD σ w i) w1) :
    Calls Tryz.prog 11 #[.pointer (some ⟨rb, 0, none⟩), opV ⟨12, db, key, val, flags, nn⟩] w (RepPost σ i rb R' ⟨rep, [], []⟩ w) := by
  have HX := Lib.hid (hx ((w.alloc (.cells (opCells ⟨12, db, key, val, flags, nn⟩) 30 (0, 0))).alloc rep0) (inD hR hn _ _).1 (inD hR hn _ _).2)
  have HLT := Lib.hid (lt_heap hR.heap)
  have HNT := Lib.hid hn
  have HI := Lib.hid hi
  clear hR hn hi hx
  unfold opV opCells rep0 at HX
  unfold opV opCells
  go_enter Tryz.func11, Tryz.ntmps11
  go_wp2_with (first | (go_at_call 24; refine HX.out.mono ?_; rintro e w1 ⟨rfl, hA, hM⟩; obtain ⟨hb1, hb2⟩ := keptD HI.out HNT.out hM; have r0 := (cellAt hb2 0); have r1 := (cellAt hb2 1); have r2 := (cellAt hb2 2); have q0 := frozenAt hb2 0; have q1 := frozenAt hb2 1; have q2 := frozenAt hb2 2; simp at r0 r1 r2; have HB2 := Lib.hid hb2; have HA := Lib.hid hA; have HM := Lib.hid hM; clear hb1 hb2 hA hM) | fail)
  have o := (((Only.refl (w.heap.size + 1) w1).setCell 0 (.int .i64 rep)).setCell 1 (encStr [])).setCell 2 (encStr [])
  have hrow := heap_setCell_row (heap_setCell_row (heap_setCell_row HB2.out 0 (.int .i64 rep)) 1 (encStr [])) 2 (encStr [])
  refine bodyPost_ret (results_cell_row rfl _ _ _ _ _ _ _ rfl hrow Tryz.underlying32 rfl reply_size) rfl ⟨rfl, outD HLT.out HNT.out HI.out HA.out HM.out o⟩

set_option maxHeartbeats 8000000 in
set_option maxRecDepth 100000 in
theorem dor_get (σ : Sig) (i rb : Nat) (L : List (DBA × Value)) (Lv : Value) (R R' : RefA) (rep : RepA) (db key val : S) (flags nn : Int) (w : World) (hR : RefIs w σ i rb L Lv R) (hn : Neat w σ) (hi : i ≠ 0) (kk : Nat) (hkk : kk < R.l.length) (hf : findR R db = (some kk, 0)) (hl0 : 0 < R.l.length) 
    (hx : ∀ W, RefIs W (sigD σ w i) i rb L Lv R → Neat W (sigD σ w i) → Calls Tryz.prog 26 #[.pointer (some ⟨rb, 0, none⟩), .int .i64 kk, encStr key] W fun e w1 => e = .returned (repV rep) ∧ RefAt w1 (sigD σ w i) i rb R' ∧ Moved (sigD σ w i) i W (sigD σ w i) w1) :
    Calls Tryz.prog 11 #[.pointer (some ⟨rb, 0, none⟩), opV ⟨8, db, key, val, flags, nn⟩] w (RepPost σ i rb R' rep w) := by
  have HX := Lib.hid (hx ((w.alloc (.cells (opCells ⟨8, db, key, val, flags, nn⟩) 30 (0, 0))).alloc rep0) (inD hR hn _ _).1 (inD hR hn _ _).2)
  have HF := Lib.hid (findr_any (sigD σ w i) i rb L Lv R db ((w.alloc (.cells (opCells ⟨8, db, key, val, flags, nn⟩) 30 (0, 0))).alloc rep0) (inD hR hn _ _).1 hl0)
  rw [hf] at HF
  simp only [plI] at HF
  unfold opCells rep0 at HF
  have HLT := Lib.hid (lt_heap hR.heap)
  have HNT := Lib.hid hn
  have HI := Lib.hid hi
  clear hR hn hi hx hf hkk hl0
  unfold opV opCells rep0 at HX
  unfold opV opCells
  unfold repV at HX
  go_enter Tryz.func11, Tryz.ntmps11
  go_wp2_with (first | (go_at_call 25; refine HF.out.mono ?_; rintro e w' ⟨rfl, rfl⟩) | (go_at_call 26; refine HX.out.mono ?_; rintro e w1 ⟨rfl, hA, hM⟩; obtain ⟨hb1, hb2⟩ := keptD HI.out HNT.out hM; have r0 := (cellAt hb2 0); have r1 := (cellAt hb2 1); have r2 := (cellAt hb2 2); have q0 := frozenAt hb2 0; have q1 := frozenAt hb2 1; have q2 := frozenAt hb2 2; simp at r0 r1 r2; have HB2 := Lib.hid hb2; have HA := Lib.hid hA; have HM := Lib.hid hM; clear hb1 hb2 hA hM) | fail)
  have o := (((Only.refl (w.heap.size + 1) w1).setCell 0 (.int .i64 rep.code)).setCell 1 (encStr rep.key)).setCell 2 (encStr rep.val)
  have hrow := heap_setCell_row (heap_setCell_row (heap_setCell_row HB2.out 0 (.int .i64 rep.code)) 1 (encStr rep.key)) 2 (encStr rep.val)
  refine bodyPost_ret (results_cell_row rfl _ _ _ _ _ _ _ rfl hrow Tryz.underlying32 rfl reply_size) rfl ⟨rfl, outD HLT.out HNT.out HI.out HA.out HM.out o⟩

set_option maxHeartbeats 8000000 in
set_option maxRecDepth 100000 in
theorem dor_put (σ : Sig) (i rb : Nat) (L : List (DBA × Value)) (Lv : Value) (R R' : RefA) (rep : Int) (db key val : S) (flags nn : Int) (w : World) (hR : RefIs w σ i rb L Lv R) (hn : Neat w σ) (hi : i ≠ 0) (kk : Nat) (hkk : kk < R.l.length) (hf : findR R db = (some kk, 0)) (hl0 : 0 < R.l.length) 
    (hx : ∀ W, RefIs W (sigD σ w i) i rb L Lv R → Neat W (sigD σ w i) → Calls Tryz.prog 27 #[.pointer (some ⟨rb, 0, none⟩), .int .i64 kk, opV ⟨9, db, key, val, flags, nn⟩] W fun e w1 => e = .returned (.int .i64 rep) ∧ RefAt w1 (sigD σ w i) i rb R' ∧ Moved (sigD σ w i) i W (sigD σ w i) w1) :
    Calls Tryz.prog 11 #[.pointer (some ⟨rb, 0, none⟩), opV ⟨9, db, key, val, flags, nn⟩] w (RepPost σ i rb R' ⟨rep, [], []⟩ w) := by
  have HX := Lib.hid (hx ((w.alloc (.cells (opCells ⟨9, db, key, val, flags, nn⟩) 30 (0, 0))).alloc rep0) (inD hR hn _ _).1 (inD hR hn _ _).2)
  have HF := Lib.hid (findr_any (sigD σ w i) i rb L Lv R db ((w.alloc (.cells (opCells ⟨9, db, key, val, flags, nn⟩) 30 (0, 0))).alloc rep0) (inD hR hn _ _).1 hl0)
  rw [hf] at HF
  simp only [plI] at HF
  unfold opCells rep0 at HF
  have HLT := Lib.hid (lt_heap hR.heap)
  have HNT := Lib.hid hn
  have HI := Lib.hid hi
  clear hR hn hi hx hf hkk hl0
  unfold opV opCells rep0 at HX
  unfold opV opCells
  go_enter Tryz.func11, Tryz.ntmps11
  go_wp2_with (first | (go_at_call 25; refine HF.out.mono ?_; rintro e w' ⟨rfl, rfl⟩) | (go_at_call 27; refine HX.out.mono ?_; rintro e w1 ⟨rfl, hA, hM⟩; obtain ⟨hb1, hb2⟩ := keptD HI.out HNT.out hM; have r0 := (cellAt hb2 0); have r1 := (cellAt hb2 1); have r2 := (cellAt hb2 2); have q0 := frozenAt hb2 0; have q1 := frozenAt hb2 1; have q2 := frozenAt hb2 2; simp at r0 r1 r2; have HB2 := Lib.hid hb2; have HA := Lib.hid hA; have HM := Lib.hid hM; clear hb1 hb2 hA hM) | fail)
  have o := (((Only.refl (w.heap.size + 1) w1).setCell 0 (.int .i64 rep)).setCell 1 (encStr [])).setCell 2 (encStr [])
  have hrow := heap_setCell_row (heap_setCell_row (heap_setCell_row HB2.out 0 (.int .i64 rep)) 1 (encStr [])) 2 (encStr [])
  refine bodyPost_ret (results_cell_row rfl _ _ _ _ _ _ _ rfl hrow Tryz.underlying32 rfl reply_size) rfl ⟨rfl, outD HLT.out HNT.out HI.out HA.out HM.out o⟩

set_option maxHeartbeats 8000000 in
set_option maxRecDepth 100000 in
theorem dor_del (σ : Sig) (i rb : Nat) (L : List (DBA × Value)) (Lv : Value) (R R' : RefA) (rep : Int) (db key val : S) (flags nn : Int) (w : World) (hR : RefIs w σ i rb L Lv R) (hn : Neat w σ) (hi : i ≠ 0) (kk : Nat) (hkk : kk < R.l.length) (hf : findR R db = (some kk, 0)) (hl0 : 0 < R.l.length) 
    (hx : ∀ W, RefIs W (sigD σ w i) i rb L Lv R → Neat W (sigD σ w i) → Calls Tryz.prog 28 #[.pointer (some ⟨rb, 0, none⟩), .int .i64 kk, opV ⟨10, db, key, val, flags, nn⟩] W fun e w1 => e = .returned (.int .i64 rep) ∧ RefAt w1 (sigD σ w i) i rb R' ∧ Moved (sigD σ w i) i W (sigD σ w i) w1) :
    Calls Tryz.prog 11 #[.pointer (some ⟨rb, 0, none⟩), opV ⟨10, db, key, val, flags, nn⟩] w (RepPost σ i rb R' ⟨rep, [], []⟩ w) := by
  have HX := Lib.hid (hx ((w.alloc (.cells (opCells ⟨10, db, key, val, flags, nn⟩) 30 (0, 0))).alloc rep0) (inD hR hn _ _).1 (inD hR hn _ _).2)
  have HF := Lib.hid (findr_any (sigD σ w i) i rb L Lv R db ((w.alloc (.cells (opCells ⟨10, db, key, val, flags, nn⟩) 30 (0, 0))).alloc rep0) (inD hR hn _ _).1 hl0)
  rw [hf] at HF
  simp only [plI] at HF
  unfold opCells rep0 at HF
  have HLT := Lib.hid (lt_heap hR.heap)
  have HNT := Lib.hid hn
  have HI := Lib.hid hi
  clear hR hn hi hx hf hkk hl0
  unfold opV opCells rep0 at HX
  unfold opV opCells
  go_enter Tryz.func11, Tryz.ntmps11
  go_wp2_with (first | (go_at_call 25; refine HF.out.mono ?_; rintro e w' ⟨rfl, rfl⟩) | (go_at_call 28; refine HX.out.mono ?_; rintro e w1 ⟨rfl, hA, hM⟩; obtain ⟨hb1, hb2⟩ := keptD HI.out HNT.out hM; have r0 := (cellAt hb2 0); have r1 := (cellAt hb2 1); have r2 := (cellAt hb2 2); have q0 := frozenAt hb2 0; have q1 := frozenAt hb2 1; have q2 := frozenAt hb2 2; simp at r0 r1 r2; have HB2 := Lib.hid hb2; have HA := Lib.hid hA; have HM := Lib.hid hM; clear hb1 hb2 hA hM) | fail)
  have o := (((Only.refl (w.heap.size + 1) w1).setCell 0 (.int .i64 rep)).setCell 1 (encStr [])).setCell 2 (encStr [])
  have hrow := heap_setCell_row (heap_setCell_row (heap_setCell_row HB2.out 0 (.int .i64 rep)) 1 (encStr [])) 2 (encStr [])
  refine bodyPost_ret (results_cell_row rfl _ _ _ _ _ _ _ rfl hrow Tryz.underlying32 rfl reply_size) rfl ⟨rfl, outD HLT.out HNT.out HI.out HA.out HM.out o⟩

set_option maxHeartbeats 8000000 in
set_option maxRecDepth 100000 in
theorem dor_first (σ : Sig) (i rb : Nat) (L : List (DBA × Value)) (Lv : Value) (R R' : RefA) (rep : RepA) (db key val : S) (flags nn : Int) (w : World) (hR : RefIs w σ i rb L Lv R) (hn : Neat w σ) (hi : i ≠ 0) (kk : Nat) (hkk : kk < R.l.length) (hf : findR R db = (some kk, 0)) (hl0 : 0 < R.l.length) 
    (hx : ∀ W, RefIs W (sigD σ w i) i rb L Lv R → Neat W (sigD σ w i) → Calls Tryz.prog 29 #[.pointer (some ⟨rb, 0, none⟩), .int .i64 kk, encStr []] W fun e w1 => e = .returned (repV rep) ∧ RefAt w1 (sigD σ w i) i rb R' ∧ Moved (sigD σ w i) i W (sigD σ w i) w1) :
    Calls Tryz.prog 11 #[.pointer (some ⟨rb, 0, none⟩), opV ⟨13, db, key, val, flags, nn⟩] w (RepPost σ i rb R' rep w) := by
  have HX := Lib.hid (hx ((w.alloc (.cells (opCells ⟨13, db, key, val, flags, nn⟩) 30 (0, 0))).alloc rep0) (inD hR hn _ _).1 (inD hR hn _ _).2)
  have HF := Lib.hid (findr_any (sigD σ w i) i rb L Lv R db ((w.alloc (.cells (opCells ⟨13, db, key, val, flags, nn⟩) 30 (0, 0))).alloc rep0) (inD hR hn _ _).1 hl0)
  rw [hf] at HF
  simp only [plI] at HF
  unfold opCells rep0 at HF
  have HLT := Lib.hid (lt_heap hR.heap)
  have HNT := Lib.hid hn
  have HI := Lib.hid hi
  clear hR hn hi hx hf hkk hl0
  unfold opV opCells rep0 at HX
  unfold opV opCells
  unfold repV at HX
  go_enter Tryz.func11, Tryz.ntmps11
  go_wp2_with (first | (go_at_call 25; refine HF.out.mono ?_; rintro e w' ⟨rfl, rfl⟩) | (go_at_call 29; refine HX.out.mono ?_; rintro e w1 ⟨rfl, hA, hM⟩; obtain ⟨hb1, hb2⟩ := keptD HI.out HNT.out hM; have r0 := (cellAt hb2 0); have r1 := (cellAt hb2 1); have r2 := (cellAt hb2 2); have q0 := frozenAt hb2 0; have q1 := frozenAt hb2 1; have q2 := frozenAt hb2 2; simp at r0 r1 r2; have HB2 := Lib.hid hb2; have HA := Lib.hid hA; have HM := Lib.hid hM; clear hb1 hb2 hA hM) | fail)
  have o := (((Only.refl (w.heap.size + 1) w1).setCell 0 (.int .i64 rep.code)).setCell 1 (encStr rep.key)).setCell 2 (encStr rep.val)
  have hrow := heap_setCell_row (heap_setCell_row (heap_setCell_row HB2.out 0 (.int .i64 rep.code)) 1 (encStr rep.key)) 2 (encStr rep.val)
  refine bodyPost_ret (results_cell_row rfl _ _ _ _ _ _ _ rfl hrow Tryz.underlying32 rfl reply_size) rfl ⟨rfl, outD HLT.out HNT.out HI.out HA.out HM.out o⟩

set_option maxHeartbeats 8000000 in
set_option maxRecDepth 100000 in
theorem dor_seek (σ : Sig) (i rb : Nat) (L : List (DBA × Value)) (Lv : Value) (R R' : RefA) (rep : RepA) (db key val : S) (flags nn : Int) (w : World) (hR : RefIs w σ i rb L Lv R) (hn : Neat w σ) (hi : i ≠ 0) (kk : Nat) (hkk : kk < R.l.length) (hf : findR R db = (some kk, 0)) (hl0 : 0 < R.l.length) 
    (hx : ∀ W, RefIs W (sigD σ w i) i rb L Lv R → Neat W (sigD σ w i) → Calls Tryz.prog 29 #[.pointer (some ⟨rb, 0, none⟩), .int .i64 kk, encStr key] W fun e w1 => e = .returned (repV rep) ∧ RefAt w1 (sigD σ w i) i rb R' ∧ Moved (sigD σ w i) i W (sigD σ w i) w1) :
    Calls Tryz.prog 11 #[.pointer (some ⟨rb, 0, none⟩), opV ⟨15, db, key, val, flags, nn⟩] w (RepPost σ i rb R' rep w) := by
  have HX := Lib.hid (hx ((w.alloc (.cells (opCells ⟨15, db, key, val, flags, nn⟩) 30 (0, 0))).alloc rep0) (inD hR hn _ _).1 (inD hR hn _ _).2)
  have HF := Lib.hid (findr_any (sigD σ w i) i rb L Lv R db ((w.alloc (.cells (opCells ⟨15, db, key, val, flags, nn⟩) 30 (0, 0))).alloc rep0) (inD hR hn _ _).1 hl0)
  rw [hf] at HF
  simp only [plI] at HF
  unfold opCells rep0 at HF
  have HLT := Lib.hid (lt_heap hR.heap)
  have HNT := Lib.hid hn
  have HI := Lib.hid hi
  clear hR hn hi hx hf hkk hl0
  unfold opV opCells rep0 at HX
  unfold opV opCells
  unfold repV at HX
  go_enter Tryz.func11, Tryz.ntmps11
  go_wp2_with (first | (go_at_call 25; refine HF.out.mono ?_; rintro e w' ⟨rfl, rfl⟩) | (go_at_call 29; refine HX.out.mono ?_; rintro e w1 ⟨rfl, hA, hM⟩; obtain ⟨hb1, hb2⟩ := keptD HI.out HNT.out hM; have r0 := (cellAt hb2 0); have r1 := (cellAt hb2 1); have r2 := (cellAt hb2 2); have q0 := frozenAt hb2 0; have q1 := frozenAt hb2 1; have q2 := frozenAt hb2 2; simp at r0 r1 r2; have HB2 := Lib.hid hb2; have HA := Lib.hid hA; have HM := Lib.hid hM; clear hb1 hb2 hA hM) | fail)
  have o := (((Only.refl (w.heap.size + 1) w1).setCell 0 (.int .i64 rep.code)).setCell 1 (encStr rep.key)).setCell 2 (encStr rep.val)
  have hrow := heap_setCell_row (heap_setCell_row (heap_setCell_row HB2.out 0 (.int .i64 rep.code)) 1 (encStr rep.key)) 2 (encStr rep.val)
  refine bodyPost_ret (results_cell_row rfl _ _ _ _ _ _ _ rfl hrow Tryz.underlying32 rfl reply_size) rfl ⟨rfl, outD HLT.out HNT.out HI.out HA.out HM.out o⟩

set_option maxHeartbeats 8000000 in
set_option maxRecDepth 100000 in
theorem dor_ferr (σ : Sig) (i rb : Nat) (L : List (DBA × Value)) (Lv : Value) (R : RefA) (e : Int) (kind : Int) (db key val : S) (flags nn : Int) (w : World) (hR : RefIs w σ i rb L Lv R) (hn : Neat w σ) (hi : i ≠ 0) (hl0 : 0 < R.l.length) (hf : findR R db = (none, e)) (he : (e == 0) = false) (hk : kind = 8 ∨ kind = 9 ∨ kind = 10 ∨ kind = 13 ∨ kind = 15) :
    Calls Tryz.prog 11 #[.pointer (some ⟨rb, 0, none⟩), opV ⟨kind, db, key, val, flags, nn⟩] w (RepPost σ i rb R ⟨e, [], []⟩ w) := by
  have HF := Lib.hid (findr_any (sigD σ w i) i rb L Lv R db ((w.alloc (.cells (opCells ⟨kind, db, key, val, flags, nn⟩) 30 (0, 0))).alloc rep0) (inD hR hn _ _).1 hl0)
  rw [hf] at HF
  simp only [plI] at HF
  have HRW := Lib.hid hR
  unfold opCells rep0 at HF
  have HLT := Lib.hid (lt_heap hR.heap)
  have HNT := Lib.hid hn
  have HI := Lib.hid hi
  clear hR hn hi hf hl0
  unfold opV opCells
  rcases hk with rfl | rfl | rfl | rfl | rfl
  all_goals
    go_enter Tryz.func11, Tryz.ntmps11
    go_wp2_with (first | (go_at_call 25; refine HF.out.mono ?_; rintro e w' ⟨rfl, rfl⟩) | fail)
    refine bodyPost_ret (results_cell_row rfl _ _ _ _ _ _ _ rfl (two_boxes w _ _) Tryz.underlying32 rfl reply_size) rfl ⟨rfl, ⟨_, _, HRW.out.ext (((Ext.rfl' w).alloc _).alloc _)⟩, Moved.ofExt HNT.out (((Ext.rfl' w).alloc _).alloc _) i⟩

set_option maxHeartbeats 8000000 in
set_option maxRecDepth 100000 in
theorem dor_else (σ : Sig) (i rb : Nat) (L : List (DBA × Value)) (Lv : Value) (R : RefA) (kind : Int) (db key val : S) (flags nn : Int) (w : World) (hR : RefIs w σ i rb L Lv R) (hn : Neat w σ) (hi : i ≠ 0)
    (k1 : (kind == 14) = false) (k2 : (kind == 11) = false) (k3 : (kind == 12) = false) (k4 : (kind == 8) = false) (k5 : (kind == 9) = false) (k6 : (kind == 10) = false) (k7 : (kind == 13) = false) (k8 : (kind == 15) = false) :
    Calls Tryz.prog 11 #[.pointer (some ⟨rb, 0, none⟩), opV ⟨kind, db, key, val, flags, nn⟩] w (RepPost σ i rb R ⟨24, [], []⟩ w) := by
  have HRW := Lib.hid hR
  have HLT := Lib.hid (lt_heap hR.heap)
  have HNT := Lib.hid hn
  have HI := Lib.hid hi
  clear hR hn hi
  unfold opV opCells
  go_enter Tryz.func11, Tryz.ntmps11
  go_wp2_with fail
  refine bodyPost_ret (results_cell_row rfl _ _ _ _ _ _ _ rfl (two_boxes w _ _) Tryz.underlying32 rfl reply_size) rfl ⟨rfl, ⟨_, _, HRW.out.ext (((Ext.rfl' w).alloc _).alloc _)⟩, Moved.ofExt HNT.out (((Ext.rfl' w).alloc _).alloc _) i⟩

theorem dor_any (σ : Sig) (i rb : Nat) (L : List (DBA × Value)) (Lv : Value) (R : RefA) (op : OpA) (w : World) (hR : RefIs w σ i rb L Lv R) (hn : Neat w σ) (hi : i ≠ 0) (hl0 : 0 < R.l.length) (hl : R.l.length ≤ 1000) (he : ∀ k, (atR R k).e.length ≤ 100000) :
    Calls Tryz.prog 11 #[.pointer (some ⟨rb, 0, none⟩), opV op] w (RepPost σ i rb (doR R op).1 (doR R op).2 w) := by
  obtain ⟨kind, db, key, val, flags, nn⟩ := op
  by_cases c1 : kind = 14
  · subst c1
    have e : doR R ⟨14, db, key, val, flags, nn⟩ = nextR R := by unfold doR; rw [if_pos rfl]
    rw [e]
    exact dor_next σ i rb L Lv R (nextR R).1 (nextR R).2 db key val flags nn w hR hn hi fun W h1 h2 => (nextr_any _ i rb L Lv R W h1 h2 hi hl0).mono fun e w1 ⟨a, b, c⟩ => ⟨a, ⟨_, _, b⟩, c⟩
  by_cases c2 : kind = 11
  · subst c2
    have e : doR R ⟨11, db, key, val, flags, nn⟩ = ((nameR R ⟨11, db, key, val, flags, nn⟩).1, ⟨(nameR R ⟨11, db, key, val, flags, nn⟩).2, [], []⟩) := by unfold doR; rw [if_neg c1, if_pos rfl]
    rw [e]
    exact dor_name σ i rb L Lv R _ _ db key val flags nn w hR hn hi fun W h1 h2 => namer_any _ i rb L Lv R ⟨11, db, key, val, flags, nn⟩ W h1 h2 hi hl0
  by_cases c3 : kind = 12
  · subst c3
    have e : doR R ⟨12, db, key, val, flags, nn⟩ = ((dropR R db).1, ⟨(dropR R db).2, [], []⟩) := by unfold doR; rw [if_neg c1, if_neg c2, if_pos rfl]
    rw [e]
    exact dor_drop σ i rb L Lv R _ _ db key val flags nn w hR hn hi fun W h1 h2 => dropr_any _ i rb L Lv R db W h1 h2 hi hl0 hl
  by_cases hk : kind = 8 ∨ kind = 9 ∨ kind = 10 ∨ kind = 13 ∨ kind = 15
  · have ed : ∀ r, findR R db = r → doR R ⟨kind, db, key, val, flags, nn⟩ = if r.2 ≠ 0 then (R, ⟨r.2, [], []⟩) else
        (if kind = 8 then (R, getR R (r.1.getD 0) key) else if kind = 9 then ((putR R (r.1.getD 0) ⟨kind, db, key, val, flags, nn⟩).1, ⟨(putR R (r.1.getD 0) ⟨kind, db, key, val, flags, nn⟩).2, [], []⟩)
          else if kind = 10 then ((delR R (r.1.getD 0) ⟨kind, db, key, val, flags, nn⟩).1, ⟨(delR R (r.1.getD 0) ⟨kind, db, key, val, flags, nn⟩).2, [], []⟩) else if kind = 13 then seekR R (r.1.getD 0) [] else seekR R (r.1.getD 0) key) := fun r hr => by
      subst hr
      unfold doR
      rw [if_neg c1, if_neg c2, if_neg c3, if_pos hk]
    have err : ∀ e, findR R db = (none, e) → e ≠ 0 → Calls Tryz.prog 11 #[.pointer (some ⟨rb, 0, none⟩), opV ⟨kind, db, key, val, flags, nn⟩] w (RepPost σ i rb (doR R ⟨kind, db, key, val, flags, nn⟩).1 (doR R ⟨kind, db, key, val, flags, nn⟩).2 w) := fun e hf h0 => by
      rw [ed _ hf, if_pos h0]
      exact dor_ferr σ i rb L Lv R e kind db key val flags nn w hR hn hi hl0 hf (by simpa using h0) hk
    rcases findR_ways (R := R) db with ⟨kk, hkk, hf⟩ | hf | hf | hf
    · rw [ed _ hf, if_neg (by simp)]
      show Calls _ _ _ _ (RepPost σ i rb (if kind = 8 then (R, getR R kk key) else _).1 _ w)
      rcases hk with rfl | rfl | rfl | rfl | rfl
      · exact dor_get σ i rb L Lv R R (getR R kk key) db key val flags nn w hR hn hi kk hkk hf hl0 fun W h1 h2 => (getr_any _ i rb L Lv R kk key W h1 hkk).mono fun e w1 ⟨a, b⟩ => ⟨a, ⟨_, _, h1.ext b⟩, Moved.ofExt h2 b i⟩
      · exact dor_put σ i rb L Lv R _ _ db key val flags nn w hR hn hi kk hkk hf hl0 fun W h1 h2 => putr_any _ i rb L Lv R kk ⟨9, db, key, val, flags, nn⟩ W h1 h2 hi hkk hl (he kk)
      · exact dor_del σ i rb L Lv R _ _ db key val flags nn w hR hn hi kk hkk hf hl0 fun W h1 h2 => delr_any _ i rb L Lv R kk ⟨10, db, key, val, flags, nn⟩ W h1 h2 hi hkk hl (he kk)
      · exact dor_first σ i rb L Lv R _ _ db key val flags nn w hR hn hi kk hkk hf hl0 fun W h1 h2 => (seekr_any _ i rb L Lv R kk [] W h1 h2 hi hkk).mono fun e w1 ⟨a, b, c⟩ => ⟨a, ⟨_, _, b⟩, c⟩
      · exact dor_seek σ i rb L Lv R _ _ db key val flags nn w hR hn hi kk hkk hf hl0 fun W h1 h2 => (seekr_any _ i rb L Lv R kk key W h1 h2 hi hkk).mono fun e w1 ⟨a, b, c⟩ => ⟨a, ⟨_, _, b⟩, c⟩
    · exact err 21 hf (by decide)
    · exact err 22 hf (by decide)
    · exact err 23 hf (by decide)
  · have e : doR R ⟨kind, db, key, val, flags, nn⟩ = (R, ⟨24, [], []⟩) := by unfold doR; rw [if_neg c1, if_neg c2, if_neg c3, if_neg hk]
    rw [e]
    have f : ∀ m : Int, kind ≠ m → (kind == m) = false := fun m h => by simpa using h
    exact dor_else σ i rb L Lv R kind db key val flags nn w hR hn hi (f _ c1) (f _ c2) (f _ c3) (f _ fun h => hk (.inl h)) (f _ fun h => hk (.inr (.inl h))) (f _ fun h => hk (.inr (.inr (.inl h)))) (f _ fun h => hk (.inr (.inr (.inr (.inl h))))) (f _ fun h => hk (.inr (.inr (.inr (.inr h)))))
end Go.Proofs.YtmkhjmldncegcaaGreatDoor

/-
  WALKS: alike.
-/
set_option linter.unusedVariables false
set_option linter.unusedSimpArgs false
namespace Go.Proofs.YtmkhjmldncegcaaGreatDoor
open Go.RowKit Go.Maps Go.ChangeMaps Go.MapKept

theorem names_len {w : World} {σ : Sig} {i pb mb : Nat} {bases : List (S × Value)} {A : ModA} (hM : ModIs w σ i pb mb bases A) : ∀ n ∈ namesA A, n.length ≤ maxLen := by
  intro n hn
  obtain ⟨_, _, _, h4, h5⟩ := hM
  unfold namesA at hn
  obtain ⟨p, hp, rfl⟩ := List.mem_map.1 (List.mem_filter.1 hn).1
  obtain ⟨t, ht⟩ := List.getElem?_of_mem hp
  obtain ⟨v, hv, _⟩ := h5.at (k := p.1) (b := p.2) ht
  exact h4.keyLen _ (List.mem_of_getElem? hv)

set_option maxHeartbeats 8000000 in
set_option maxRecDepth 100000 in
theorem alike_any (σ : Sig) (i j pb mb rb : Nat) (bases : List (S × Value)) (A : ModA) (L : List (DBA × Value)) (Lv : Value) (R : RefA) (w : World) (m : Nat) (hM : ModIs w σ i pb mb bases A) (hs : Sound A m) (hm : m ≤ 1000000) (hR : RefIs w σ j rb L Lv R) (he : Eqv A R) :
    Calls Tryz.prog 12 #[.pointer (some ⟨pb, 0, none⟩), .pointer (some ⟨rb, 0, none⟩)] w fun e w' => e = .returned (.bool true) ∧ Ext w w' := by
  obtain ⟨hl0, hl5, _⟩ := ref_bounds he hs
  have hnl := names_len hM
  have hneq := names_eq he
  obtain ⟨xs, hxs⟩ : ∃ xs, namesR R = xs := ⟨_, rfl⟩
  have hxl : xs.length ≤ 5 := by
    rw [← hxs, ← hneq]
    unfold namesA
    exact Nat.le_trans (List.length_filter_le _ _) (by rw [List.length_map]; exact hs.names)
  have HLEN : Hid (∀ n ∈ xs ++ [[]], n.length ≤ maxLen) := fun n hn => by
    rcases List.mem_append.1 hn with h | h
    · rw [← hxs, ← hneq] at h; exact hnl n h
    · rw [List.mem_singleton] at h; subst h; exact Nat.zero_le _
  have HNR : Hid (Calls Tryz.prog 30 #[.pointer (some ⟨rb, 0, none⟩)] w fun r w' => ∃ v, r = .returned v ∧ w'.ownsRow w.heap.size 9 1 v xs.length (xs.map encStr) ∧ Ext w w') := by
    rw [← hxs]; exact namesr_any σ j rb L Lv R w hR hl0 (by omega)
  have HNA : Hid (∀ w1, Ext w w1 → Calls Tryz.prog 19 #[.pointer (some ⟨pb, 0, none⟩)] w1 fun e w' => ∃ v, e = .returned v ∧ w'.ownsRow w1.heap.size 9 1 v xs.length (xs.map encStr) ∧ Ext w1 w') := fun w1 e => by
    rw [← hxs, ← hneq]; exact names_any σ i pb mb bases A w1 m (hM.ext e) hs
  have HLI : Hid (∀ w1 n, Ext w w1 → n.length ≤ maxLen → Calls Tryz.prog 18 #[.pointer (some ⟨pb, 0, none⟩), encStr n] w1 fun e w' => ∃ v, e = .returned (.tuple #[v, .bool (listR R n).2]) ∧ w'.ownsRow w1.heap.size 51 2 v (listR R n).1.length (entCells (listR R n).1) ∧ Ext w1 w') := fun w1 n e hn => by
    rw [← list_eq he]; exact list_any σ i pb mb bases A n w1 m (hM.ext e) hs hm hn
  have HLR : Hid (∀ w1 n, Ext w w1 → Calls Tryz.prog 32 #[.pointer (some ⟨rb, 0, none⟩), encStr n] w1 fun r w' => ∃ v, r = .returned (.tuple #[v, .bool (listR R n).2]) ∧ EntAt w1 σ v (listR R n).1 ∧ w' = w1) := fun w1 n e => listr_any σ j rb L Lv R n w1 (hR.ext e)
  clear hM hs hR he hnl hneq hxs hl0 hl5
  go_enter Tryz.func12, Tryz.ntmps12
  go_wp2_with fail
  refine HNR.out.mono ?_
  rintro e w1 ⟨v1, rfl, ho1, hx1⟩
  have HO1 := Lib.hid ho1
  have HX1 := Lib.hid hx1
  clear ho1 hx1 HNR
  go_wp2_with fail
  refine (HNA.out w1 HX1.out).mono ?_
  rintro e w2 ⟨v2, rfl, ho2, hx2⟩
  have HT := Lib.hid (texts_any xs v2 v1 w2 (Sl.ofOwns ho2) ((Sl.ofOwns HO1.out).ext hx2))
  have HX2 := Lib.hid hx2
  clear ho2 hx2 HNA
  go_wp2_with fail
  refine HT.out.mono ?_
  rintro e w3 ⟨rfl, hx3⟩
  have HX3 := Lib.hid (Ext.step HX2.out hx3)
  clear hx3 HT HX2
  have hsz1 := HX1.out.size
  have hsz3 := HX3.out.size
  go_wp2_with (at_builtin; (refine wpList_append_sl _ rfl _ _ 53 (by rfl) w.heap.size textsEl _ _ _ (by rfl) (owns_ext HO1.out (Ext.step HX3.out ((Ext.rfl' w3).alloc _))) (.slice (some ⟨w3.heap.size, 0, none⟩) 1 1) 1 [encStr []] (by rfl) (Sl.newG _ _ _ _ _ rfl (by omega) (by simp)) (text_one _) (by unfold maxLen; omega) (by omega) (by simp; omega) ?_; intro v4 w4 hown hgrow hat; have HO4 := Lib.hid hown; have HX4 := Lib.hid (below_append (Ext.step HX1.out (Ext.step HX3.out ((Ext.rfl' w3).alloc _))) (by simp; omega) (owns_ext HO1.out (Ext.step HX3.out ((Ext.rfl' w3).alloc _))) hgrow); clear hown hgrow hat))
  obtain ⟨p4, c4, rfl⟩ := (Sl.ofOwns HO4.out).shape
  have HC4 : Hid (∀ t n, (xs ++ [[]])[t]? = some n → ∃ b off, p4 = some ⟨b, off, none⟩ ∧ w4.cell? ⟨b, off + t, none⟩ = some (encStr n)) := fun t n ht => by
    obtain ⟨_, p, c, hv, _, _, h3⟩ := Sl.ofOwns HO4.out
    injection hv with hv _ _
    subst hv
    obtain ⟨b, off, hp, hc⟩ := h3 (by omega)
    refine ⟨b, off, hp, hc t _ ?_⟩
    have := congrArg (Option.map encStr) ht
    rw [← List.getElem?_map] at this
    simpa using this
  clear HX1 HO1 HX3
  go_loopw [6] (fun q wr => ∃ t : Nat, t ≤ xs.length + 1 ∧ q = .int .i64 t ∧ Ext w4 wr) (fun q _ => xs.length + 1 - (intOf q).toNat)
  case atStart => exact ⟨0, by omega, rfl, Ext.rfl' _⟩
  case round =>
    obtain ⟨t, ht, rfl, hew⟩ := hrel
    obtain ⟨wr, rfl⟩ : ∃ wr' : World, wr' = wr := ⟨_, rfl⟩
    have HEW := Lib.hid hew
    by_cases hlt : t < xs.length + 1
    · have k1 : decide ((t : Int) < (xs.length : Int) + 1) = true := decide_eq_true (by omega)
      have k2 : (t : Int) < (xs.length : Int) + 1 := by omega
      have k3 : (0 : Int) ≤ (t : Int) := by omega
      obtain ⟨n, hn⟩ : ∃ n, (xs ++ [[]])[t]? = some n := ⟨_, List.getElem?_eq_getElem (by simp; omega)⟩
      obtain ⟨b, off, rfl, hc⟩ := HC4.out t n hn
      have d1 := hew.cell hc
      have hnl := HLEN.out n (List.mem_of_getElem? hn)
      have HL1 := Lib.hid (HLI.out wr n (Ext.step HX4.out hew) hnl)
      clear hc hew hn
      generalize hb : (listR R n).2 = bb at *
      generalize hl : (listR R n).1 = es at *
      have HLB := Lib.hid (And.intro hb hl)
      clear hb hl
      go_wp2_with fail
      refine HL1.out.mono ?_
      rintro e w5 ⟨v5, rfl, ho5, hx5⟩
      have HX5 := Lib.hid (Ext.step HEW.out hx5)
      have HL2 := Lib.hid (HLR.out w5 n (Ext.step HX4.out HX5.out))
      rw [HLB.out.1, HLB.out.2] at HL2
      have HO5 := Lib.hid ho5
      have d2 := hx5.cell d1
      clear ho5 hx5 HL1 d1
      go_wp2_with fail
      refine HL2.out.mono ?_
      rintro e w6 ⟨v6, rfl, hE6, hww⟩
      have hww := hww.symm
      subst hww
      have HEN := Lib.hid (ents_any es v5 v6 w5 (Sl.ofOwns HO5.out) hE6.1)
      clear hE6 HL2
      cases bb
      all_goals
        go_wp2_with fail
        refine HEN.out.mono ?_
        rintro e w7 ⟨rfl, hx7⟩
        have HX7 := Lib.hid (Ext.step HX5.out hx7)
        clear hx7
        go_wp2_with fail
        go_roundw
        case rel => exact ⟨t + 1, by omega, by go_num, HX7.out⟩
        case measure => simp [intOf]; omega
    · obtain rfl : t = xs.length + 1 := by omega
      have HXE := Lib.hid (Ext.step HX4.out hew)
      clear hew
      go_wp2_with fail
      go_ret
      exact ⟨rfl, HXE.out⟩
end Go.Proofs.YtmkhjmldncegcaaGreatDoor

