/-
  WALKS: the document's model: put.
-/
import Derived.Test.YtmkhjmldncegcaaGreatDoorMT
set_option linter.unusedVariables false
set_option linter.unusedSimpArgs false
namespace Go.Proofs.YtmkhjmldncegcaaGreatDoor
open Go.RowKit Go.Maps Go.ChangeMaps Go.MapKept


set_option maxHeartbeats 16000000 in
set_option maxRecDepth 100000 in
theorem putr_main_tn (σ : Sig) (i rb : Nat) (L : List (DBA × Value)) (Lv : Value) (R : RefA) (k : Nat) (kind : Int) (db key val : S) (flags nn : Int) (w : World) (hR : RefIs w σ i rb L Lv R) (hn : Neat w σ) (hi : i ≠ 0) (hk : k < R.l.length) (hl : R.l.length ≤ 1000) (he : (atR R k).e.length ≤ 100000) (t1 : shortR key = true) (t2 : ((atR R k).flags == 1) = true) (t4 : namedR R k key = false) (t5 : decide ((0 : Int) ≤ plI (keyR (atR R k).e key)) = false) (t7 : decide ((val.length : Int) < 1) = false) (t8 : decide ((12 : Int) < (val.length : Int)) = false) (hp : putR R k ⟨kind, db, key, val, flags, nn⟩ = if (key, val) ∈ (atR R k).e then (R, if (bits .and .i64 flags 2 != 0) = true then 20 else 0) else if cntR (atR R k).e key ≥ 12 then (R, 28) else (setR R k (putE true (key, val) (atR R k).e), 0)) :
    Calls Tryz.prog 27 #[.pointer (some ⟨rb, 0, none⟩), .int .i64 k, opV ⟨kind, db, key, val, flags, nn⟩] w (ChgPost σ i rb (putR R k ⟨kind, db, key, val, flags, nn⟩).1 (putR R k ⟨kind, db, key, val, flags, nn⟩).2 w) := by
  have e0 : ∀ o, Ext w (w.alloc o) := fun o => (Ext.rfl' w).alloc o
  have HK := Lib.hid fun o => key_any σ i rb L Lv R k key (w.alloc o) (hR.ext (e0 o)) hk
  have HS := Lib.hid fun w' => short1_any key w'
  have HN := Lib.hid fun w' (e : Ext w w') => named_any σ i rb L Lv R k key w' (hR.ext e)
  have HRW := Lib.hid hR
  have HNT := Lib.hid hn
  obtain ⟨ev, b, off, c, rfl, _, h1, h2, c0, c1, c2, c3, hE⟩ := hR.db hk
  have HP := Lib.hid hp
  clear hp
  generalize putR R k ⟨kind, db, key, val, flags, nn⟩ = Z at *
  have HSET : Hid (∀ w3 v l, Ext w w3 → EntAt w3 σ v l → Calls Tryz.prog 57 #[.pointer (some ⟨rb, 0, none⟩), .int .i64 k, v] w3 fun r w' => r = .returned (.tuple #[]) ∧ RefAt w' σ i rb (setR R k l) ∧ Moved σ i w3 σ w') := fun w3 v l e hE => setr_any σ i rb L _ R k v l w3 (hR.ext e) (hn.ext e) hi hk hl hE
  unfold opV opCells
  have HLL := Lib.hid (And.intro hk (And.intro hl he))
  generalize hPI : plI (keyR (atR R k).e key) = pi at *
  generalize hSH : shortR key = sh at *
  generalize hNM : namedR R k key = nm at *
  generalize hEe : (atR R k).e = E at *
  generalize hFl : (atR R k).flags = fl at *
  obtain ⟨⟨hle, p0, c0x, rfl, g1, g2, g3⟩, _⟩ := hE
  generalize hm : R.l.length = m at *
  have HX0 := Lib.hid (e0 (.cells #[.int .i64 kind, encStr db, encStr key, encStr val, .int .i64 flags, .int .i64 nn] 30))
  have c0' := HX0.out.cell c0
  have c2' := HX0.out.cell c2
  have c3' := HX0.out.cell c3
  have hcap : E.length ≤ 9223372036854775807 := by unfold maxLen at g2; omega
  have HBX := Lib.hid (heap_new w (.cells #[.int .i64 kind, encStr db, encStr key, encStr val, .int .i64 flags, .int .i64 nn] 30))
  have HG3 := Lib.hid g3
  have hb3 : (0 : Int) ≤ (k : Int) := by omega
  have hb4 : (k : Int) < (m : Int) := by omega
  have HI := Lib.hid hi
  have HC := Lib.hid (And.intro c0' c3')
  have HLE := Lib.hid he
  clear hR hn e0 c0 c1 c2 c3 hle he hl hi hFl hEe g3 hPI hSH hNM hm
  go_enter Tryz.func27, Tryz.ntmps27
  go_wp2_with (first | (go_at_call 55; refine (HK.out _).mono ?_; rintro e w' ⟨rfl, rfl⟩) | (go_at_call 54; refine (HS.out _).mono ?_; rintro e w' ⟨rfl, hww⟩; have hww := hww.symm; subst hww) | (go_at_call 56; refine (HN.out _ HWR.out).mono ?_; rintro e w' ⟨rfl, hww⟩; have hww := hww.symm; subst hww) | fail)
  generalize hW : World.alloc w _ = W at *
  have HW := Lib.hid HX0.out
  have c0 := HC.out.1
  clear hW HK c0' c2' c3'
  go_loopw [9, 10] (fun n i wr => ∃ j : Nat, j ≤ E.length ∧ n = .int .i64 (cntTo E key j) ∧ i = .int .i64 j ∧ Ext W wr) (fun _ i _ => E.length - (intOf i).toNat)
  case atStart => exact ⟨0, by omega, rfl, rfl, Ext.rfl' _⟩
  case round =>
    obtain ⟨j, hj, rfl, rfl, hew⟩ := hrel
    obtain ⟨wr, rfl⟩ : ∃ wr' : World, wr' = wr := ⟨_, rfl⟩
    have HEW := Lib.hid hew
    have a0 := hew.cell HC.out.1
    have a3 := hew.cell HC.out.2
    by_cases hlt : j < E.length
    · obtain ⟨b2, off2, rfl, hcells⟩ := HG3.out (by omega)
      obtain ⟨x, y, hxy⟩ : ∃ x y, E[j]? = some (x, y) := ⟨E[j].1, E[j].2, List.getElem?_eq_getElem hlt⟩
      have d0 := (Ext.step HX0.out hew).cell (hcells _ _ (entCells_at E hxy).1)
      have b2' := hew.cell ((cellAt HBX.out 2).trans rfl)
      have HXY := Lib.hid hxy
      have hcl := Nat.le_trans (cntTo_le E key j) HLE.out
      clear hcells hxy hew
      cases ht : (x == key) with
      | true =>
        go_wp2_with fail
        go_quiet (fail)
        have HX : Hid (Ext W (wr.drewN nq)) := Ext.step HEW.out (Ext.drewN _ _)
        go_wp2_with fail
        go_roundw
        case rel => exact ⟨j + 1, by omega, by rw [cntTo_in HXY.out ht]; go_num, by go_num, HX.out⟩
        case measure => simp [intOf]; omega
      | false =>
        go_wp2_with fail
        go_quiet (fail)
        have HX : Hid (Ext W (wr.drewN nq)) := Ext.step HEW.out (Ext.drewN _ _)
        go_wp2_with fail
        go_roundw
        case rel => exact ⟨j + 1, by omega, by rw [cntTo_out HXY.out ht], by go_num, HX.out⟩
        case measure => simp [intOf]; omega
    · obtain rfl : j = E.length := by omega
      have b2' := hew.cell ((cellAt HBX.out 2).trans rfl)
      have b3' := hew.cell ((cellAt HBX.out 3).trans rfl)
      have b4' := hew.cell ((cellAt HBX.out 4).trans rfl)
      have HWR := Lib.hid (Ext.step HX0.out hew)
      clear hew
      subst t1 t4
      have hcnt : (((cntTo E key E.length : Nat) : Int)) = (cntR E key : Int) := by rw [cntTo_all]
      rw [hcnt]
      clear hcnt
      go_wp2_with (first | (go_at_call 55; refine (HK.out _).mono ?_; rintro e w' ⟨rfl, rfl⟩) | (go_at_call 54; refine (HS.out _).mono ?_; rintro e w' ⟨rfl, hww⟩; have hww := hww.symm; subst hww) | (go_at_call 56; refine (HN.out _ HWR.out).mono ?_; rintro e w' ⟨rfl, hww⟩; have hww := hww.symm; subst hww) | fail)
      have hb2 := heap_new wr (.cells #[encStr key, encStr val] 51)
      have hx2 : Ext wr (wr.alloc (.cells #[encStr key, encStr val] 51)) := (Ext.rfl' wr).alloc _
      generalize hW2 : World.alloc wr _ = W2 at *
      have HXB := Lib.hid hb2
      have hbx := (hx2.block _ (lt_heap ((HEW.out.block _ (lt_heap HBX.out)).trans HBX.out))).trans ((HEW.out.block _ (lt_heap HBX.out)).trans HBX.out)
      have HBX2 := Lib.hid hbx
      have HC2 := Lib.hid (And.intro (hx2.cell a0) (hx2.cell a3))
      have HW2 := Lib.hid (Ext.step HWR.out hx2)
      have HNW2 := Lib.hid (HNT.out.ext HW2.out)
      clear hb2 hx2 hbx hW2 a0 a3 b2' b3' b4' c0 HS HN HC HBX
      go_loopw [12, 13, 14] (fun v dn t wq => ∃ j : Nat, j ≤ E.length ∧ t = .int .i64 j ∧ ∃ dv, dn = .bool dv ∧ (putTo true (key, val) E j).2 = dv ∧ EntRel W2 (putTo true (key, val) E j).1 v wq ∧ (true = true → ∀ t y, t < j → E[t]? = some y → ((y.1 == key) && (y.2 == val)) = false)) (fun _ _ t _ => E.length - (intOf t).toNat)
      case atStart => exact ⟨0, by omega, rfl, false, rfl, rfl, EntRel.start W2, fun _ t y h => by omega⟩
      case round =>
        obtain ⟨j, hj, rfl, dv, rfl, hdv, hrr, hnx⟩ := hrel
        obtain ⟨wq, rfl⟩ : ∃ wr' : World, wr' = wr := ⟨_, rfl⟩
        obtain ⟨l0, hl0⟩ : ∃ l0, putTo true (key, val) E j = (l0, dv) := ⟨_, by rw [← hdv]⟩
        have hll := putTo_len true (key, val) E j
        rw [hl0] at hrr hll
        simp only at hrr hll
        have HPT := Lib.hid hl0
        have HRR := Lib.hid hrr
        have HNX := Lib.hid hnx
        have HPL := Lib.hid (And.intro (And.intro hll hj) HLE.out)
        have hew := hrr.2
        have a0 := hew.cell HC2.out.1
        have a3 := hew.cell HC2.out.2
        have hsz := hew.size
        clear hdv hl0 hrr hnx hll
        by_cases hlt : j < E.length
        · obtain ⟨b2, off2, rfl, hcells⟩ := HG3.out (by omega)
          obtain ⟨x, y, hxy⟩ : ∃ x y, E[j]? = some (x, y) := ⟨E[j].1, E[j].2, List.getElem?_eq_getElem hlt⟩
          have d0 := (Ext.step HW2.out hew).cell (hcells _ _ (entCells_at E hxy).1)
          have d1 := (Ext.step HW2.out hew).cell (hcells _ _ (entCells_at E hxy).2)
          rw [← Nat.add_assoc] at d1
          have eal := Ext.step hew ((Ext.rfl' wq).alloc (.cells #[encStr x, encStr y] 51))
          have x0 := eal.cell ((cellAt HXB.out 0).trans rfl)
          have x1 := eal.cell ((cellAt HXB.out 1).trans rfl)
          have k4 := eal.cell ((cellAt HBX2.out 4).trans rfl)
          have HXY := Lib.hid hxy
          have EA : Hid (∀ o, Ext wq ((wq.alloc (.cells #[encStr x, encStr y] 51)).alloc o)) := fun o => ((Ext.rfl' wq).alloc _).alloc _
          clear hxy hew eal hcells
          have heqe := run_eql_ent
          cases dv with
          | true =>
            cases p2 : (x == key) with
            | true =>
              cases p4 : (y == val) with
              | true =>
                have HZ : Hid (Z = (R, if (bits .and .i64 flags 2 != 0) = true then 20 else 0)) := by show _ = _; rw [HP.out, if_pos (by have h1 := eq_of_beq p2; have h2 := eq_of_beq p4; subst h1 h2; exact List.mem_of_getElem? HXY.out)]
                cases p5 : (bits .and .i64 flags 2 != 0) with
                | true =>
                  go_wp2_with fail
                  go_ret
                  rw [HZ.out, p5]
                  exact chg_same HRW.out HNT.out (Ext.step HW2.out (HRR.out.2.alloc _))
                | false =>
                  go_wp2_with fail
                  go_ret
                  rw [HZ.out, p5]
                  exact chg_same HRW.out HNT.out (Ext.step HW2.out (HRR.out.2.alloc _))
              | false =>
                have HNE : Hid (((x == key) && (y == val)) = false) := by show _ = _; simp [p2, p4]
                have HST : Hid (putTo true (key, val) E (j + 1) = (l0 ++ [(x, y)], true)) := by show _ = _; rw [putTo_step HXY.out, HPT.out]; unfold putF cP gtS; simp [p2, p4]
                go_wp2_with (at_builtin; (refine wpList_append_sl _ rfl _ _ 47 (by rfl) W2.heap.size entriesEl _ _ _ (by rfl) (owns_ext HRR.out.1 (EA.out _)) (.slice (some ⟨wq.heap.size + 1, 0, none⟩) 1 1) 1 (entCells [(x, y)]) (by rfl) (Sl.newG _ _ _ _ _ rfl (by omega) (by simp)) (ent_one _) (by have := HPL.out; unfold maxLen; (try simp only [List.length_append, List.length_cons, List.length_nil]); omega) (by have := HPL.out; (try simp only [List.length_append, List.length_cons, List.length_nil]); omega) (Nat.le_trans HRR.out.2.size (by first | exact Nat.le_refl _ | (simp; done) | (simp; omega))) ?_; intro v1 w2 hown hgrow hat; have K2 := Lib.hid (HRR.out.moreG (EA.out _) hown hgrow); clear hown hgrow hat))
                go_roundw
                case rel => exact ⟨j + 1, by omega, by go_num, true, by first | rfl | trivial, by rw [HST.out], by rw [HST.out]; exact K2.out, fun _ => notx_step HNX.out HXY.out HNE.out⟩
                case measure => simp [intOf]; omega
            | false =>
              have HNE : Hid (((x == key) && (y == val)) = false) := by show _ = _; simp [p2]
              have HST : Hid (putTo true (key, val) E (j + 1) = (l0 ++ [(x, y)], true)) := by show _ = _; rw [putTo_step HXY.out, HPT.out]; unfold putF cP gtS; simp [p2]
              go_wp2_with (at_builtin; (refine wpList_append_sl _ rfl _ _ 47 (by rfl) W2.heap.size entriesEl _ _ _ (by rfl) (owns_ext HRR.out.1 (EA.out _)) (.slice (some ⟨wq.heap.size + 1, 0, none⟩) 1 1) 1 (entCells [(x, y)]) (by rfl) (Sl.newG _ _ _ _ _ rfl (by omega) (by simp)) (ent_one _) (by have := HPL.out; unfold maxLen; (try simp only [List.length_append, List.length_cons, List.length_nil]); omega) (by have := HPL.out; (try simp only [List.length_append, List.length_cons, List.length_nil]); omega) (Nat.le_trans HRR.out.2.size (by first | exact Nat.le_refl _ | (simp; done) | (simp; omega))) ?_; intro v1 w2 hown hgrow hat; have K2 := Lib.hid (HRR.out.moreG (EA.out _) hown hgrow); clear hown hgrow hat))
              go_roundw
              case rel => exact ⟨j + 1, by omega, by go_num, true, by first | rfl | trivial, by rw [HST.out], by rw [HST.out]; exact K2.out, fun _ => notx_step HNX.out HXY.out HNE.out⟩
              case measure => simp [intOf]; omega
          | false =>
            cases p2 : (x == key) with
            | true =>
              cases p4 : (y == val) with
              | true =>
                have HZ : Hid (Z = (R, if (bits .and .i64 flags 2 != 0) = true then 20 else 0)) := by show _ = _; rw [HP.out, if_pos (by have h1 := eq_of_beq p2; have h2 := eq_of_beq p4; subst h1 h2; exact List.mem_of_getElem? HXY.out)]
                cases p5 : (bits .and .i64 flags 2 != 0) with
                | true =>
                  go_wp2_with fail
                  go_ret
                  rw [HZ.out, p5]
                  exact chg_same HRW.out HNT.out (Ext.step HW2.out (HRR.out.2.alloc _))
                | false =>
                  go_wp2_with fail
                  go_ret
                  rw [HZ.out, p5]
                  exact chg_same HRW.out HNT.out (Ext.step HW2.out (HRR.out.2.alloc _))
              | false =>
                cases p3 : Op.bytesLess y val with
                | true =>
                  have HNE : Hid (((x == key) && (y == val)) = false) := by show _ = _; simp [p2, p4, p3]
                  have HST : Hid (putTo true (key, val) E (j + 1) = (l0 ++ [(x, y)], false)) := by show _ = _; rw [putTo_step HXY.out, HPT.out]; unfold putF cP gtS; simp [p2, p4, p3]
                  go_wp2_with (at_builtin; (refine wpList_append_sl _ rfl _ _ 47 (by rfl) W2.heap.size entriesEl _ _ _ (by rfl) (owns_ext HRR.out.1 (EA.out _)) (.slice (some ⟨wq.heap.size + 1, 0, none⟩) 1 1) 1 (entCells [(x, y)]) (by rfl) (Sl.newG _ _ _ _ _ rfl (by omega) (by simp)) (ent_one _) (by have := HPL.out; unfold maxLen; (try simp only [List.length_append, List.length_cons, List.length_nil]); omega) (by have := HPL.out; (try simp only [List.length_append, List.length_cons, List.length_nil]); omega) (Nat.le_trans HRR.out.2.size (by first | exact Nat.le_refl _ | (simp; done) | (simp; omega))) ?_; intro v1 w2 hown hgrow hat; have K2 := Lib.hid (HRR.out.moreG (EA.out _) hown hgrow); clear hown hgrow hat))
                  go_roundw
                  case rel => exact ⟨j + 1, by omega, by go_num, false, by first | rfl | trivial, by rw [HST.out], by rw [HST.out]; exact K2.out, fun _ => notx_step HNX.out HXY.out HNE.out⟩
                  case measure => simp [intOf]; omega
                | false =>
                  have HNE : Hid (((x == key) && (y == val)) = false) := by show _ = _; simp [p2, p4, p3]
                  have HST : Hid (putTo true (key, val) E (j + 1) = (l0 ++ [(key, val)] ++ [(x, y)], true)) := by show _ = _; rw [putTo_step HXY.out, HPT.out]; unfold putF cP gtS; simp [p2, p4, p3]
                  go_wp2_with (at_builtin; first | (clear d0; (refine wpList_append_sl _ rfl _ _ 47 (by rfl) W2.heap.size entriesEl _ _ _ (by rfl) (owns_ext K2.out.1 ((Ext.rfl' _).alloc _)) (.slice (some ⟨w2.heap.size, 0, none⟩) 1 1) 1 (entCells [(x, y)]) (by rfl) (Sl.newG _ _ _ _ _ rfl (by omega) (by simp)) (ent_one _) (by have := HPL.out; unfold maxLen; (try simp only [List.length_append, List.length_cons, List.length_nil]); omega) (by have := HPL.out; (try simp only [List.length_append, List.length_cons, List.length_nil]); omega) (Nat.le_trans K2.out.2.size (by first | exact Nat.le_refl _ | (simp; done) | (simp; omega))) ?_; intro v3 w3 hown hgrow hat; have K3 := Lib.hid (K2.out.moreG ((Ext.rfl' _).alloc _) hown hgrow); clear hown hgrow hat)) | ((refine wpList_append_sl _ rfl _ _ 47 (by rfl) W2.heap.size entriesEl _ _ _ (by rfl) (owns_ext HRR.out.1 (EA.out _)) (.slice (some ⟨wq.heap.size + 1, 0, none⟩) 1 1) 1 (entCells [(key, val)]) (by rfl) (Sl.newG _ _ _ _ _ rfl (by omega) (by simp)) (ent_one _) (by have := HPL.out; unfold maxLen; (try simp only [List.length_append, List.length_cons, List.length_nil]); omega) (by have := HPL.out; (try simp only [List.length_append, List.length_cons, List.length_nil]); omega) (Nat.le_trans HRR.out.2.size (by first | exact Nat.le_refl _ | (simp; done) | (simp; omega))) ?_; intro v1 w2 hown hgrow hat; have K2 := Lib.hid (HRR.out.moreG (EA.out _) hown hgrow); have hyb := grown_at HRR.out.1 hgrow; have y0 : w2.cell? ⟨wq.heap.size, 0, none⟩ = some (encStr x) := (cellAt hyb 0).trans rfl; have y1 : w2.cell? ⟨wq.heap.size, 1, none⟩ = some (encStr y) := (cellAt hyb 1).trans rfl; have x0 : w2.cell? ⟨wr.heap.size, 0, none⟩ = some (encStr key) := K2.out.2.cell ((cellAt HXB.out 0).trans rfl); have x1 : w2.cell? ⟨wr.heap.size, 1, none⟩ = some (encStr val) := K2.out.2.cell ((cellAt HXB.out 1).trans rfl); clear hyb; clear hown hgrow hat)))
                  go_roundw
                  case rel => exact ⟨j + 1, by omega, by go_num, true, by first | rfl | trivial, by rw [HST.out], by rw [HST.out]; exact K3.out, fun _ => notx_step HNX.out HXY.out HNE.out⟩
                  case measure => simp [intOf]; omega
            | false =>
              cases p1 : Op.bytesLess x key with
              | true =>
                have HNE : Hid (((x == key) && (y == val)) = false) := by show _ = _; simp [p1, p2]
                have HST : Hid (putTo true (key, val) E (j + 1) = (l0 ++ [(x, y)], false)) := by show _ = _; rw [putTo_step HXY.out, HPT.out]; unfold putF cP gtS; simp [p1, p2]
                go_wp2_with (at_builtin; (refine wpList_append_sl _ rfl _ _ 47 (by rfl) W2.heap.size entriesEl _ _ _ (by rfl) (owns_ext HRR.out.1 (EA.out _)) (.slice (some ⟨wq.heap.size + 1, 0, none⟩) 1 1) 1 (entCells [(x, y)]) (by rfl) (Sl.newG _ _ _ _ _ rfl (by omega) (by simp)) (ent_one _) (by have := HPL.out; unfold maxLen; (try simp only [List.length_append, List.length_cons, List.length_nil]); omega) (by have := HPL.out; (try simp only [List.length_append, List.length_cons, List.length_nil]); omega) (Nat.le_trans HRR.out.2.size (by first | exact Nat.le_refl _ | (simp; done) | (simp; omega))) ?_; intro v1 w2 hown hgrow hat; have K2 := Lib.hid (HRR.out.moreG (EA.out _) hown hgrow); clear hown hgrow hat))
                go_roundw
                case rel => exact ⟨j + 1, by omega, by go_num, false, by first | rfl | trivial, by rw [HST.out], by rw [HST.out]; exact K2.out, fun _ => notx_step HNX.out HXY.out HNE.out⟩
                case measure => simp [intOf]; omega
              | false =>
                have HNE : Hid (((x == key) && (y == val)) = false) := by show _ = _; simp [p1, p2]
                have HST : Hid (putTo true (key, val) E (j + 1) = (l0 ++ [(key, val)] ++ [(x, y)], true)) := by show _ = _; rw [putTo_step HXY.out, HPT.out]; unfold putF cP gtS; simp [p1, p2]
                go_wp2_with (at_builtin; first | (clear d0; (refine wpList_append_sl _ rfl _ _ 47 (by rfl) W2.heap.size entriesEl _ _ _ (by rfl) (owns_ext K2.out.1 ((Ext.rfl' _).alloc _)) (.slice (some ⟨w2.heap.size, 0, none⟩) 1 1) 1 (entCells [(x, y)]) (by rfl) (Sl.newG _ _ _ _ _ rfl (by omega) (by simp)) (ent_one _) (by have := HPL.out; unfold maxLen; (try simp only [List.length_append, List.length_cons, List.length_nil]); omega) (by have := HPL.out; (try simp only [List.length_append, List.length_cons, List.length_nil]); omega) (Nat.le_trans K2.out.2.size (by first | exact Nat.le_refl _ | (simp; done) | (simp; omega))) ?_; intro v3 w3 hown hgrow hat; have K3 := Lib.hid (K2.out.moreG ((Ext.rfl' _).alloc _) hown hgrow); clear hown hgrow hat)) | ((refine wpList_append_sl _ rfl _ _ 47 (by rfl) W2.heap.size entriesEl _ _ _ (by rfl) (owns_ext HRR.out.1 (EA.out _)) (.slice (some ⟨wq.heap.size + 1, 0, none⟩) 1 1) 1 (entCells [(key, val)]) (by rfl) (Sl.newG _ _ _ _ _ rfl (by omega) (by simp)) (ent_one _) (by have := HPL.out; unfold maxLen; (try simp only [List.length_append, List.length_cons, List.length_nil]); omega) (by have := HPL.out; (try simp only [List.length_append, List.length_cons, List.length_nil]); omega) (Nat.le_trans HRR.out.2.size (by first | exact Nat.le_refl _ | (simp; done) | (simp; omega))) ?_; intro v1 w2 hown hgrow hat; have K2 := Lib.hid (HRR.out.moreG (EA.out _) hown hgrow); have hyb := grown_at HRR.out.1 hgrow; have y0 : w2.cell? ⟨wq.heap.size, 0, none⟩ = some (encStr x) := (cellAt hyb 0).trans rfl; have y1 : w2.cell? ⟨wq.heap.size, 1, none⟩ = some (encStr y) := (cellAt hyb 1).trans rfl; have x0 : w2.cell? ⟨wr.heap.size, 0, none⟩ = some (encStr key) := K2.out.2.cell ((cellAt HXB.out 0).trans rfl); have x1 : w2.cell? ⟨wr.heap.size, 1, none⟩ = some (encStr val) := K2.out.2.cell ((cellAt HXB.out 1).trans rfl); clear hyb; clear hown hgrow hat)))
                go_roundw
                case rel => exact ⟨j + 1, by omega, by go_num, true, by first | rfl | trivial, by rw [HST.out], by rw [HST.out]; exact K3.out, fun _ => notx_step HNX.out HXY.out HNE.out⟩
                case measure => simp [intOf]; omega
        · obtain rfl : j = E.length := by omega
          have x0 := hew.cell ((cellAt HXB.out 0).trans rfl)
          have x1 := hew.cell ((cellAt HXB.out 1).trans rfl)
          have x2 := (Ext.step hew ((Ext.rfl' wq).alloc (.cells #[encStr key, encStr val] 51))).cell ((cellAt HXB.out 0).trans rfl)
          clear hew
          have HALL := Lib.hid (putTo_all true (key, val) E)
          rw [HPT.out] at HALL
          have HNI : Hid ((key, val) ∉ E) := fun hm => by
            obtain ⟨t, ht⟩ := List.getElem?_of_mem hm
            have := HNX.out rfl t (key, val) (List.getElem?_eq_some_iff.1 ht).1 ht
            simp at this
          by_cases hcn : 12 ≤ cntR E key
          · have HZ : Hid (Z = (R, 28)) := by show _ = _; rw [HP.out, if_neg HNI.out, if_pos hcn]
            have hcd : decide ((12 : Int) ≤ ((cntR E key : Nat) : Int)) = true := decide_eq_true (by omega)
            clear hcn
            go_wp2_with fail
            go_ret
            rw [HZ.out]
            exact chg_same HRW.out HNT.out (Ext.step HW2.out HRR.out.2)
          · have HP2 : Hid (Z = (setR R k (putE true (key, val) E), 0)) := by show _ = _; rw [HP.out, if_neg HNI.out, if_neg hcn]
            have hcd : decide ((12 : Int) ≤ ((cntR E key : Nat) : Int)) = false := decide_eq_false (by omega)
            clear hcn
            cases dv with
            | true =>
              have HZ : Hid (Z = (setR R k l0, 0)) := by show _ = _; rw [HP2.out, HALL.out]; rfl
              have HS3 := Lib.hid (HSET.out wq _ l0 (Ext.step HW2.out HRR.out.2) (HRR.out.at HNW2.out))
              go_wp2_with (first | (go_at_call 57; refine HS3.out.mono ?_; rintro e w' ⟨rfl, hA, hM⟩; have HA := Lib.hid hA; have HMV := Lib.hid hM; clear hA hM) | fail)
              go_ret
              rw [HZ.out]
              exact ⟨rfl, HA.out, Moved.afterExt HNT.out (Ext.step HW2.out HRR.out.2) HMV.out⟩
            | false =>
              have HZ : Hid (Z = (setR R k (l0 ++ [(key, val)]), 0)) := by show _ = _; rw [HP2.out, HALL.out]; rfl
              go_wp2_with (first | (at_builtin; (refine wpList_append_sl _ rfl _ _ 47 (by rfl) W2.heap.size entriesEl _ _ _ (by rfl) (owns_ext HRR.out.1 ((Ext.rfl' _).alloc _)) (.slice (some ⟨wq.heap.size, 0, none⟩) 1 1) 1 (entCells [(key, val)]) (by rfl) (Sl.newG _ _ _ _ _ rfl (by omega) (by simp)) (ent_one _) (by have := HPL.out; unfold maxLen; (try simp only [List.length_append, List.length_cons, List.length_nil]); omega) (by have := HPL.out; (try simp only [List.length_append, List.length_cons, List.length_nil]); omega) (Nat.le_trans HRR.out.2.size (by first | exact Nat.le_refl _ | (simp; done) | (simp; omega))) ?_; intro v1 w2 hown hgrow hat; have K2 := Lib.hid (HRR.out.moreG ((Ext.rfl' _).alloc _) hown hgrow); clear hown hgrow hat; have HS3 := Lib.hid (HSET.out w2 _ (l0 ++ [(key, val)]) (Ext.step HW2.out K2.out.2) (K2.out.at HNW2.out)))) | (go_at_call 57; refine HS3.out.mono ?_; rintro e w' ⟨rfl, hA, hM⟩; have HA := Lib.hid hA; have HMV := Lib.hid hM; clear hA hM) | fail)
              go_ret
              rw [HZ.out]
              exact ⟨rfl, HA.out, Moved.afterExt HNT.out (Ext.step HW2.out K2.out.2) HMV.out⟩
end Go.Proofs.YtmkhjmldncegcaaGreatDoor

/-
  WALKS: the document's model: put.
-/
set_option linter.unusedVariables false
set_option linter.unusedSimpArgs false
namespace Go.Proofs.YtmkhjmldncegcaaGreatDoor
open Go.RowKit Go.Maps Go.ChangeMaps Go.MapKept


set_option maxHeartbeats 16000000 in
set_option maxRecDepth 100000 in
theorem putr_main_ts (σ : Sig) (i rb : Nat) (L : List (DBA × Value)) (Lv : Value) (R : RefA) (k : Nat) (kind : Int) (db key val : S) (flags nn : Int) (w : World) (hR : RefIs w σ i rb L Lv R) (hn : Neat w σ) (hi : i ≠ 0) (hk : k < R.l.length) (hl : R.l.length ≤ 1000) (he : (atR R k).e.length ≤ 100000) (t1 : shortR key = true) (t2 : ((atR R k).flags == 1) = true) (t4 : namedR R k key = false) (t5 : decide ((0 : Int) ≤ plI (keyR (atR R k).e key)) = true) (t6 : (bits .and .i64 flags 1 != 0) = false) (t7 : decide ((val.length : Int) < 1) = false) (t8 : decide ((12 : Int) < (val.length : Int)) = false) (hp : putR R k ⟨kind, db, key, val, flags, nn⟩ = if (key, val) ∈ (atR R k).e then (R, if (bits .and .i64 flags 2 != 0) = true then 20 else 0) else if cntR (atR R k).e key ≥ 12 then (R, 28) else (setR R k (putE true (key, val) (atR R k).e), 0)) :
    Calls Tryz.prog 27 #[.pointer (some ⟨rb, 0, none⟩), .int .i64 k, opV ⟨kind, db, key, val, flags, nn⟩] w (ChgPost σ i rb (putR R k ⟨kind, db, key, val, flags, nn⟩).1 (putR R k ⟨kind, db, key, val, flags, nn⟩).2 w) := by
  have e0 : ∀ o, Ext w (w.alloc o) := fun o => (Ext.rfl' w).alloc o
  have HK := Lib.hid fun o => key_any σ i rb L Lv R k key (w.alloc o) (hR.ext (e0 o)) hk
  have HS := Lib.hid fun w' => short1_any key w'
  have HN := Lib.hid fun w' (e : Ext w w') => named_any σ i rb L Lv R k key w' (hR.ext e)
  have HRW := Lib.hid hR
  have HNT := Lib.hid hn
  obtain ⟨ev, b, off, c, rfl, _, h1, h2, c0, c1, c2, c3, hE⟩ := hR.db hk
  have HP := Lib.hid hp
  clear hp
  generalize putR R k ⟨kind, db, key, val, flags, nn⟩ = Z at *
  have HSET : Hid (∀ w3 v l, Ext w w3 → EntAt w3 σ v l → Calls Tryz.prog 57 #[.pointer (some ⟨rb, 0, none⟩), .int .i64 k, v] w3 fun r w' => r = .returned (.tuple #[]) ∧ RefAt w' σ i rb (setR R k l) ∧ Moved σ i w3 σ w') := fun w3 v l e hE => setr_any σ i rb L _ R k v l w3 (hR.ext e) (hn.ext e) hi hk hl hE
  unfold opV opCells
  have HLL := Lib.hid (And.intro hk (And.intro hl he))
  generalize hPI : plI (keyR (atR R k).e key) = pi at *
  generalize hSH : shortR key = sh at *
  generalize hNM : namedR R k key = nm at *
  generalize hEe : (atR R k).e = E at *
  generalize hFl : (atR R k).flags = fl at *
  obtain ⟨⟨hle, p0, c0x, rfl, g1, g2, g3⟩, _⟩ := hE
  generalize hm : R.l.length = m at *
  have HX0 := Lib.hid (e0 (.cells #[.int .i64 kind, encStr db, encStr key, encStr val, .int .i64 flags, .int .i64 nn] 30))
  have c0' := HX0.out.cell c0
  have c2' := HX0.out.cell c2
  have c3' := HX0.out.cell c3
  have hcap : E.length ≤ 9223372036854775807 := by unfold maxLen at g2; omega
  have HBX := Lib.hid (heap_new w (.cells #[.int .i64 kind, encStr db, encStr key, encStr val, .int .i64 flags, .int .i64 nn] 30))
  have HG3 := Lib.hid g3
  have hb3 : (0 : Int) ≤ (k : Int) := by omega
  have hb4 : (k : Int) < (m : Int) := by omega
  have HI := Lib.hid hi
  have HC := Lib.hid (And.intro c0' c3')
  have HLE := Lib.hid he
  clear hR hn e0 c0 c1 c2 c3 hle he hl hi hFl hEe g3 hPI hSH hNM hm
  go_enter Tryz.func27, Tryz.ntmps27
  go_wp2_with (first | (go_at_call 55; refine (HK.out _).mono ?_; rintro e w' ⟨rfl, rfl⟩) | (go_at_call 54; refine (HS.out _).mono ?_; rintro e w' ⟨rfl, hww⟩; have hww := hww.symm; subst hww) | (go_at_call 56; refine (HN.out _ HWR.out).mono ?_; rintro e w' ⟨rfl, hww⟩; have hww := hww.symm; subst hww) | fail)
  generalize hW : World.alloc w _ = W at *
  have HW := Lib.hid HX0.out
  have c0 := HC.out.1
  clear hW HK c0' c2' c3'
  go_loopw [9, 10] (fun n i wr => ∃ j : Nat, j ≤ E.length ∧ n = .int .i64 (cntTo E key j) ∧ i = .int .i64 j ∧ Ext W wr) (fun _ i _ => E.length - (intOf i).toNat)
  case atStart => exact ⟨0, by omega, rfl, rfl, Ext.rfl' _⟩
  case round =>
    obtain ⟨j, hj, rfl, rfl, hew⟩ := hrel
    obtain ⟨wr, rfl⟩ : ∃ wr' : World, wr' = wr := ⟨_, rfl⟩
    have HEW := Lib.hid hew
    have a0 := hew.cell HC.out.1
    have a3 := hew.cell HC.out.2
    by_cases hlt : j < E.length
    · obtain ⟨b2, off2, rfl, hcells⟩ := HG3.out (by omega)
      obtain ⟨x, y, hxy⟩ : ∃ x y, E[j]? = some (x, y) := ⟨E[j].1, E[j].2, List.getElem?_eq_getElem hlt⟩
      have d0 := (Ext.step HX0.out hew).cell (hcells _ _ (entCells_at E hxy).1)
      have b2' := hew.cell ((cellAt HBX.out 2).trans rfl)
      have HXY := Lib.hid hxy
      have hcl := Nat.le_trans (cntTo_le E key j) HLE.out
      clear hcells hxy hew
      cases ht : (x == key) with
      | true =>
        go_wp2_with fail
        go_quiet (fail)
        have HX : Hid (Ext W (wr.drewN nq)) := Ext.step HEW.out (Ext.drewN _ _)
        go_wp2_with fail
        go_roundw
        case rel => exact ⟨j + 1, by omega, by rw [cntTo_in HXY.out ht]; go_num, by go_num, HX.out⟩
        case measure => simp [intOf]; omega
      | false =>
        go_wp2_with fail
        go_quiet (fail)
        have HX : Hid (Ext W (wr.drewN nq)) := Ext.step HEW.out (Ext.drewN _ _)
        go_wp2_with fail
        go_roundw
        case rel => exact ⟨j + 1, by omega, by rw [cntTo_out HXY.out ht], by go_num, HX.out⟩
        case measure => simp [intOf]; omega
    · obtain rfl : j = E.length := by omega
      have b2' := hew.cell ((cellAt HBX.out 2).trans rfl)
      have b3' := hew.cell ((cellAt HBX.out 3).trans rfl)
      have b4' := hew.cell ((cellAt HBX.out 4).trans rfl)
      have HWR := Lib.hid (Ext.step HX0.out hew)
      clear hew
      subst t1 t4
      have hcnt : (((cntTo E key E.length : Nat) : Int)) = (cntR E key : Int) := by rw [cntTo_all]
      rw [hcnt]
      clear hcnt
      go_wp2_with (first | (go_at_call 55; refine (HK.out _).mono ?_; rintro e w' ⟨rfl, rfl⟩) | (go_at_call 54; refine (HS.out _).mono ?_; rintro e w' ⟨rfl, hww⟩; have hww := hww.symm; subst hww) | (go_at_call 56; refine (HN.out _ HWR.out).mono ?_; rintro e w' ⟨rfl, hww⟩; have hww := hww.symm; subst hww) | fail)
      have hb2 := heap_new wr (.cells #[encStr key, encStr val] 51)
      have hx2 : Ext wr (wr.alloc (.cells #[encStr key, encStr val] 51)) := (Ext.rfl' wr).alloc _
      generalize hW2 : World.alloc wr _ = W2 at *
      have HXB := Lib.hid hb2
      have hbx := (hx2.block _ (lt_heap ((HEW.out.block _ (lt_heap HBX.out)).trans HBX.out))).trans ((HEW.out.block _ (lt_heap HBX.out)).trans HBX.out)
      have HBX2 := Lib.hid hbx
      have HC2 := Lib.hid (And.intro (hx2.cell a0) (hx2.cell a3))
      have HW2 := Lib.hid (Ext.step HWR.out hx2)
      have HNW2 := Lib.hid (HNT.out.ext HW2.out)
      clear hb2 hx2 hbx hW2 a0 a3 b2' b3' b4' c0 HS HN HC HBX
      go_loopw [12, 13, 14] (fun v dn t wq => ∃ j : Nat, j ≤ E.length ∧ t = .int .i64 j ∧ ∃ dv, dn = .bool dv ∧ (putTo true (key, val) E j).2 = dv ∧ EntRel W2 (putTo true (key, val) E j).1 v wq ∧ (true = true → ∀ t y, t < j → E[t]? = some y → ((y.1 == key) && (y.2 == val)) = false)) (fun _ _ t _ => E.length - (intOf t).toNat)
      case atStart => exact ⟨0, by omega, rfl, false, rfl, rfl, EntRel.start W2, fun _ t y h => by omega⟩
      case round =>
        obtain ⟨j, hj, rfl, dv, rfl, hdv, hrr, hnx⟩ := hrel
        obtain ⟨wq, rfl⟩ : ∃ wr' : World, wr' = wr := ⟨_, rfl⟩
        obtain ⟨l0, hl0⟩ : ∃ l0, putTo true (key, val) E j = (l0, dv) := ⟨_, by rw [← hdv]⟩
        have hll := putTo_len true (key, val) E j
        rw [hl0] at hrr hll
        simp only at hrr hll
        have HPT := Lib.hid hl0
        have HRR := Lib.hid hrr
        have HNX := Lib.hid hnx
        have HPL := Lib.hid (And.intro (And.intro hll hj) HLE.out)
        have hew := hrr.2
        have a0 := hew.cell HC2.out.1
        have a3 := hew.cell HC2.out.2
        have hsz := hew.size
        clear hdv hl0 hrr hnx hll
        by_cases hlt : j < E.length
        · obtain ⟨b2, off2, rfl, hcells⟩ := HG3.out (by omega)
          obtain ⟨x, y, hxy⟩ : ∃ x y, E[j]? = some (x, y) := ⟨E[j].1, E[j].2, List.getElem?_eq_getElem hlt⟩
          have d0 := (Ext.step HW2.out hew).cell (hcells _ _ (entCells_at E hxy).1)
          have d1 := (Ext.step HW2.out hew).cell (hcells _ _ (entCells_at E hxy).2)
          rw [← Nat.add_assoc] at d1
          have eal := Ext.step hew ((Ext.rfl' wq).alloc (.cells #[encStr x, encStr y] 51))
          have x0 := eal.cell ((cellAt HXB.out 0).trans rfl)
          have x1 := eal.cell ((cellAt HXB.out 1).trans rfl)
          have k4 := eal.cell ((cellAt HBX2.out 4).trans rfl)
          have HXY := Lib.hid hxy
          have EA : Hid (∀ o, Ext wq ((wq.alloc (.cells #[encStr x, encStr y] 51)).alloc o)) := fun o => ((Ext.rfl' wq).alloc _).alloc _
          clear hxy hew eal hcells
          have heqe := run_eql_ent
          cases dv with
          | true =>
            cases p2 : (x == key) with
            | true =>
              cases p4 : (y == val) with
              | true =>
                have HZ : Hid (Z = (R, if (bits .and .i64 flags 2 != 0) = true then 20 else 0)) := by show _ = _; rw [HP.out, if_pos (by have h1 := eq_of_beq p2; have h2 := eq_of_beq p4; subst h1 h2; exact List.mem_of_getElem? HXY.out)]
                cases p5 : (bits .and .i64 flags 2 != 0) with
                | true =>
                  go_wp2_with fail
                  go_ret
                  rw [HZ.out, p5]
                  exact chg_same HRW.out HNT.out (Ext.step HW2.out (HRR.out.2.alloc _))
                | false =>
                  go_wp2_with fail
                  go_ret
                  rw [HZ.out, p5]
                  exact chg_same HRW.out HNT.out (Ext.step HW2.out (HRR.out.2.alloc _))
              | false =>
                have HNE : Hid (((x == key) && (y == val)) = false) := by show _ = _; simp [p2, p4]
                have HST : Hid (putTo true (key, val) E (j + 1) = (l0 ++ [(x, y)], true)) := by show _ = _; rw [putTo_step HXY.out, HPT.out]; unfold putF cP gtS; simp [p2, p4]
                go_wp2_with (at_builtin; (refine wpList_append_sl _ rfl _ _ 47 (by rfl) W2.heap.size entriesEl _ _ _ (by rfl) (owns_ext HRR.out.1 (EA.out _)) (.slice (some ⟨wq.heap.size + 1, 0, none⟩) 1 1) 1 (entCells [(x, y)]) (by rfl) (Sl.newG _ _ _ _ _ rfl (by omega) (by simp)) (ent_one _) (by have := HPL.out; unfold maxLen; (try simp only [List.length_append, List.length_cons, List.length_nil]); omega) (by have := HPL.out; (try simp only [List.length_append, List.length_cons, List.length_nil]); omega) (Nat.le_trans HRR.out.2.size (by first | exact Nat.le_refl _ | (simp; done) | (simp; omega))) ?_; intro v1 w2 hown hgrow hat; have K2 := Lib.hid (HRR.out.moreG (EA.out _) hown hgrow); clear hown hgrow hat))
                go_roundw
                case rel => exact ⟨j + 1, by omega, by go_num, true, by first | rfl | trivial, by rw [HST.out], by rw [HST.out]; exact K2.out, fun _ => notx_step HNX.out HXY.out HNE.out⟩
                case measure => simp [intOf]; omega
            | false =>
              have HNE : Hid (((x == key) && (y == val)) = false) := by show _ = _; simp [p2]
              have HST : Hid (putTo true (key, val) E (j + 1) = (l0 ++ [(x, y)], true)) := by show _ = _; rw [putTo_step HXY.out, HPT.out]; unfold putF cP gtS; simp [p2]
              go_wp2_with (at_builtin; (refine wpList_append_sl _ rfl _ _ 47 (by rfl) W2.heap.size entriesEl _ _ _ (by rfl) (owns_ext HRR.out.1 (EA.out _)) (.slice (some ⟨wq.heap.size + 1, 0, none⟩) 1 1) 1 (entCells [(x, y)]) (by rfl) (Sl.newG _ _ _ _ _ rfl (by omega) (by simp)) (ent_one _) (by have := HPL.out; unfold maxLen; (try simp only [List.length_append, List.length_cons, List.length_nil]); omega) (by have := HPL.out; (try simp only [List.length_append, List.length_cons, List.length_nil]); omega) (Nat.le_trans HRR.out.2.size (by first | exact Nat.le_refl _ | (simp; done) | (simp; omega))) ?_; intro v1 w2 hown hgrow hat; have K2 := Lib.hid (HRR.out.moreG (EA.out _) hown hgrow); clear hown hgrow hat))
              go_roundw
              case rel => exact ⟨j + 1, by omega, by go_num, true, by first | rfl | trivial, by rw [HST.out], by rw [HST.out]; exact K2.out, fun _ => notx_step HNX.out HXY.out HNE.out⟩
              case measure => simp [intOf]; omega
          | false =>
            cases p2 : (x == key) with
            | true =>
              cases p4 : (y == val) with
              | true =>
                have HZ : Hid (Z = (R, if (bits .and .i64 flags 2 != 0) = true then 20 else 0)) := by show _ = _; rw [HP.out, if_pos (by have h1 := eq_of_beq p2; have h2 := eq_of_beq p4; subst h1 h2; exact List.mem_of_getElem? HXY.out)]
                cases p5 : (bits .and .i64 flags 2 != 0) with
                | true =>
                  go_wp2_with fail
                  go_ret
                  rw [HZ.out, p5]
                  exact chg_same HRW.out HNT.out (Ext.step HW2.out (HRR.out.2.alloc _))
                | false =>
                  go_wp2_with fail
                  go_ret
                  rw [HZ.out, p5]
                  exact chg_same HRW.out HNT.out (Ext.step HW2.out (HRR.out.2.alloc _))
              | false =>
                cases p3 : Op.bytesLess y val with
                | true =>
                  have HNE : Hid (((x == key) && (y == val)) = false) := by show _ = _; simp [p2, p4, p3]
                  have HST : Hid (putTo true (key, val) E (j + 1) = (l0 ++ [(x, y)], false)) := by show _ = _; rw [putTo_step HXY.out, HPT.out]; unfold putF cP gtS; simp [p2, p4, p3]
                  go_wp2_with (at_builtin; (refine wpList_append_sl _ rfl _ _ 47 (by rfl) W2.heap.size entriesEl _ _ _ (by rfl) (owns_ext HRR.out.1 (EA.out _)) (.slice (some ⟨wq.heap.size + 1, 0, none⟩) 1 1) 1 (entCells [(x, y)]) (by rfl) (Sl.newG _ _ _ _ _ rfl (by omega) (by simp)) (ent_one _) (by have := HPL.out; unfold maxLen; (try simp only [List.length_append, List.length_cons, List.length_nil]); omega) (by have := HPL.out; (try simp only [List.length_append, List.length_cons, List.length_nil]); omega) (Nat.le_trans HRR.out.2.size (by first | exact Nat.le_refl _ | (simp; done) | (simp; omega))) ?_; intro v1 w2 hown hgrow hat; have K2 := Lib.hid (HRR.out.moreG (EA.out _) hown hgrow); clear hown hgrow hat))
                  go_roundw
                  case rel => exact ⟨j + 1, by omega, by go_num, false, by first | rfl | trivial, by rw [HST.out], by rw [HST.out]; exact K2.out, fun _ => notx_step HNX.out HXY.out HNE.out⟩
                  case measure => simp [intOf]; omega
                | false =>
                  have HNE : Hid (((x == key) && (y == val)) = false) := by show _ = _; simp [p2, p4, p3]
                  have HST : Hid (putTo true (key, val) E (j + 1) = (l0 ++ [(key, val)] ++ [(x, y)], true)) := by show _ = _; rw [putTo_step HXY.out, HPT.out]; unfold putF cP gtS; simp [p2, p4, p3]
                  go_wp2_with (at_builtin; first | (clear d0; (refine wpList_append_sl _ rfl _ _ 47 (by rfl) W2.heap.size entriesEl _ _ _ (by rfl) (owns_ext K2.out.1 ((Ext.rfl' _).alloc _)) (.slice (some ⟨w2.heap.size, 0, none⟩) 1 1) 1 (entCells [(x, y)]) (by rfl) (Sl.newG _ _ _ _ _ rfl (by omega) (by simp)) (ent_one _) (by have := HPL.out; unfold maxLen; (try simp only [List.length_append, List.length_cons, List.length_nil]); omega) (by have := HPL.out; (try simp only [List.length_append, List.length_cons, List.length_nil]); omega) (Nat.le_trans K2.out.2.size (by first | exact Nat.le_refl _ | (simp; done) | (simp; omega))) ?_; intro v3 w3 hown hgrow hat; have K3 := Lib.hid (K2.out.moreG ((Ext.rfl' _).alloc _) hown hgrow); clear hown hgrow hat)) | ((refine wpList_append_sl _ rfl _ _ 47 (by rfl) W2.heap.size entriesEl _ _ _ (by rfl) (owns_ext HRR.out.1 (EA.out _)) (.slice (some ⟨wq.heap.size + 1, 0, none⟩) 1 1) 1 (entCells [(key, val)]) (by rfl) (Sl.newG _ _ _ _ _ rfl (by omega) (by simp)) (ent_one _) (by have := HPL.out; unfold maxLen; (try simp only [List.length_append, List.length_cons, List.length_nil]); omega) (by have := HPL.out; (try simp only [List.length_append, List.length_cons, List.length_nil]); omega) (Nat.le_trans HRR.out.2.size (by first | exact Nat.le_refl _ | (simp; done) | (simp; omega))) ?_; intro v1 w2 hown hgrow hat; have K2 := Lib.hid (HRR.out.moreG (EA.out _) hown hgrow); have hyb := grown_at HRR.out.1 hgrow; have y0 : w2.cell? ⟨wq.heap.size, 0, none⟩ = some (encStr x) := (cellAt hyb 0).trans rfl; have y1 : w2.cell? ⟨wq.heap.size, 1, none⟩ = some (encStr y) := (cellAt hyb 1).trans rfl; have x0 : w2.cell? ⟨wr.heap.size, 0, none⟩ = some (encStr key) := K2.out.2.cell ((cellAt HXB.out 0).trans rfl); have x1 : w2.cell? ⟨wr.heap.size, 1, none⟩ = some (encStr val) := K2.out.2.cell ((cellAt HXB.out 1).trans rfl); clear hyb; clear hown hgrow hat)))
                  go_roundw
                  case rel => exact ⟨j + 1, by omega, by go_num, true, by first | rfl | trivial, by rw [HST.out], by rw [HST.out]; exact K3.out, fun _ => notx_step HNX.out HXY.out HNE.out⟩
                  case measure => simp [intOf]; omega
            | false =>
              cases p1 : Op.bytesLess x key with
              | true =>
                have HNE : Hid (((x == key) && (y == val)) = false) := by show _ = _; simp [p1, p2]
                have HST : Hid (putTo true (key, val) E (j + 1) = (l0 ++ [(x, y)], false)) := by show _ = _; rw [putTo_step HXY.out, HPT.out]; unfold putF cP gtS; simp [p1, p2]
                go_wp2_with (at_builtin; (refine wpList_append_sl _ rfl _ _ 47 (by rfl) W2.heap.size entriesEl _ _ _ (by rfl) (owns_ext HRR.out.1 (EA.out _)) (.slice (some ⟨wq.heap.size + 1, 0, none⟩) 1 1) 1 (entCells [(x, y)]) (by rfl) (Sl.newG _ _ _ _ _ rfl (by omega) (by simp)) (ent_one _) (by have := HPL.out; unfold maxLen; (try simp only [List.length_append, List.length_cons, List.length_nil]); omega) (by have := HPL.out; (try simp only [List.length_append, List.length_cons, List.length_nil]); omega) (Nat.le_trans HRR.out.2.size (by first | exact Nat.le_refl _ | (simp; done) | (simp; omega))) ?_; intro v1 w2 hown hgrow hat; have K2 := Lib.hid (HRR.out.moreG (EA.out _) hown hgrow); clear hown hgrow hat))
                go_roundw
                case rel => exact ⟨j + 1, by omega, by go_num, false, by first | rfl | trivial, by rw [HST.out], by rw [HST.out]; exact K2.out, fun _ => notx_step HNX.out HXY.out HNE.out⟩
                case measure => simp [intOf]; omega
              | false =>
                have HNE : Hid (((x == key) && (y == val)) = false) := by show _ = _; simp [p1, p2]
                have HST : Hid (putTo true (key, val) E (j + 1) = (l0 ++ [(key, val)] ++ [(x, y)], true)) := by show _ = _; rw [putTo_step HXY.out, HPT.out]; unfold putF cP gtS; simp [p1, p2]
                go_wp2_with (at_builtin; first | (clear d0; (refine wpList_append_sl _ rfl _ _ 47 (by rfl) W2.heap.size entriesEl _ _ _ (by rfl) (owns_ext K2.out.1 ((Ext.rfl' _).alloc _)) (.slice (some ⟨w2.heap.size, 0, none⟩) 1 1) 1 (entCells [(x, y)]) (by rfl) (Sl.newG _ _ _ _ _ rfl (by omega) (by simp)) (ent_one _) (by have := HPL.out; unfold maxLen; (try simp only [List.length_append, List.length_cons, List.length_nil]); omega) (by have := HPL.out; (try simp only [List.length_append, List.length_cons, List.length_nil]); omega) (Nat.le_trans K2.out.2.size (by first | exact Nat.le_refl _ | (simp; done) | (simp; omega))) ?_; intro v3 w3 hown hgrow hat; have K3 := Lib.hid (K2.out.moreG ((Ext.rfl' _).alloc _) hown hgrow); clear hown hgrow hat)) | ((refine wpList_append_sl _ rfl _ _ 47 (by rfl) W2.heap.size entriesEl _ _ _ (by rfl) (owns_ext HRR.out.1 (EA.out _)) (.slice (some ⟨wq.heap.size + 1, 0, none⟩) 1 1) 1 (entCells [(key, val)]) (by rfl) (Sl.newG _ _ _ _ _ rfl (by omega) (by simp)) (ent_one _) (by have := HPL.out; unfold maxLen; (try simp only [List.length_append, List.length_cons, List.length_nil]); omega) (by have := HPL.out; (try simp only [List.length_append, List.length_cons, List.length_nil]); omega) (Nat.le_trans HRR.out.2.size (by first | exact Nat.le_refl _ | (simp; done) | (simp; omega))) ?_; intro v1 w2 hown hgrow hat; have K2 := Lib.hid (HRR.out.moreG (EA.out _) hown hgrow); have hyb := grown_at HRR.out.1 hgrow; have y0 : w2.cell? ⟨wq.heap.size, 0, none⟩ = some (encStr x) := (cellAt hyb 0).trans rfl; have y1 : w2.cell? ⟨wq.heap.size, 1, none⟩ = some (encStr y) := (cellAt hyb 1).trans rfl; have x0 : w2.cell? ⟨wr.heap.size, 0, none⟩ = some (encStr key) := K2.out.2.cell ((cellAt HXB.out 0).trans rfl); have x1 : w2.cell? ⟨wr.heap.size, 1, none⟩ = some (encStr val) := K2.out.2.cell ((cellAt HXB.out 1).trans rfl); clear hyb; clear hown hgrow hat)))
                go_roundw
                case rel => exact ⟨j + 1, by omega, by go_num, true, by first | rfl | trivial, by rw [HST.out], by rw [HST.out]; exact K3.out, fun _ => notx_step HNX.out HXY.out HNE.out⟩
                case measure => simp [intOf]; omega
        · obtain rfl : j = E.length := by omega
          have x0 := hew.cell ((cellAt HXB.out 0).trans rfl)
          have x1 := hew.cell ((cellAt HXB.out 1).trans rfl)
          have x2 := (Ext.step hew ((Ext.rfl' wq).alloc (.cells #[encStr key, encStr val] 51))).cell ((cellAt HXB.out 0).trans rfl)
          clear hew
          have HALL := Lib.hid (putTo_all true (key, val) E)
          rw [HPT.out] at HALL
          have HNI : Hid ((key, val) ∉ E) := fun hm => by
            obtain ⟨t, ht⟩ := List.getElem?_of_mem hm
            have := HNX.out rfl t (key, val) (List.getElem?_eq_some_iff.1 ht).1 ht
            simp at this
          by_cases hcn : 12 ≤ cntR E key
          · have HZ : Hid (Z = (R, 28)) := by show _ = _; rw [HP.out, if_neg HNI.out, if_pos hcn]
            have hcd : decide ((12 : Int) ≤ ((cntR E key : Nat) : Int)) = true := decide_eq_true (by omega)
            clear hcn
            go_wp2_with fail
            go_ret
            rw [HZ.out]
            exact chg_same HRW.out HNT.out (Ext.step HW2.out HRR.out.2)
          · have HP2 : Hid (Z = (setR R k (putE true (key, val) E), 0)) := by show _ = _; rw [HP.out, if_neg HNI.out, if_neg hcn]
            have hcd : decide ((12 : Int) ≤ ((cntR E key : Nat) : Int)) = false := decide_eq_false (by omega)
            clear hcn
            cases dv with
            | true =>
              have HZ : Hid (Z = (setR R k l0, 0)) := by show _ = _; rw [HP2.out, HALL.out]; rfl
              have HS3 := Lib.hid (HSET.out wq _ l0 (Ext.step HW2.out HRR.out.2) (HRR.out.at HNW2.out))
              go_wp2_with (first | (go_at_call 57; refine HS3.out.mono ?_; rintro e w' ⟨rfl, hA, hM⟩; have HA := Lib.hid hA; have HMV := Lib.hid hM; clear hA hM) | fail)
              go_ret
              rw [HZ.out]
              exact ⟨rfl, HA.out, Moved.afterExt HNT.out (Ext.step HW2.out HRR.out.2) HMV.out⟩
            | false =>
              have HZ : Hid (Z = (setR R k (l0 ++ [(key, val)]), 0)) := by show _ = _; rw [HP2.out, HALL.out]; rfl
              go_wp2_with (first | (at_builtin; (refine wpList_append_sl _ rfl _ _ 47 (by rfl) W2.heap.size entriesEl _ _ _ (by rfl) (owns_ext HRR.out.1 ((Ext.rfl' _).alloc _)) (.slice (some ⟨wq.heap.size, 0, none⟩) 1 1) 1 (entCells [(key, val)]) (by rfl) (Sl.newG _ _ _ _ _ rfl (by omega) (by simp)) (ent_one _) (by have := HPL.out; unfold maxLen; (try simp only [List.length_append, List.length_cons, List.length_nil]); omega) (by have := HPL.out; (try simp only [List.length_append, List.length_cons, List.length_nil]); omega) (Nat.le_trans HRR.out.2.size (by first | exact Nat.le_refl _ | (simp; done) | (simp; omega))) ?_; intro v1 w2 hown hgrow hat; have K2 := Lib.hid (HRR.out.moreG ((Ext.rfl' _).alloc _) hown hgrow); clear hown hgrow hat; have HS3 := Lib.hid (HSET.out w2 _ (l0 ++ [(key, val)]) (Ext.step HW2.out K2.out.2) (K2.out.at HNW2.out)))) | (go_at_call 57; refine HS3.out.mono ?_; rintro e w' ⟨rfl, hA, hM⟩; have HA := Lib.hid hA; have HMV := Lib.hid hM; clear hA hM) | fail)
              go_ret
              rw [HZ.out]
              exact ⟨rfl, HA.out, Moved.afterExt HNT.out (Ext.step HW2.out K2.out.2) HMV.out⟩
end Go.Proofs.YtmkhjmldncegcaaGreatDoor

/-
  WALKS: the document's model: put.
-/
set_option linter.unusedVariables false
set_option linter.unusedSimpArgs false
namespace Go.Proofs.YtmkhjmldncegcaaGreatDoor
open Go.RowKit Go.Maps Go.ChangeMaps Go.MapKept


theorem decT {p : Prop} [Decidable p] (h : p) : decide p = true := decide_eq_true h
theorem decF {p : Prop} [Decidable p] (h : ¬ p) : decide p = false := decide_eq_false h
theorem plI_none {e : List (S × S)} {k : S} (h : keyR e k = none) : decide ((0 : Int) ≤ plI (keyR e k)) = false := by rw [h]; rfl
theorem plI_some {e : List (S × S)} {k : S} {i : Nat} (h : keyR e k = some i) : decide ((0 : Int) ≤ plI (keyR e k)) = true := by rw [h]; exact plI_ge i

theorem putr_any (σ : Sig) (i rb : Nat) (L : List (DBA × Value)) (Lv : Value) (R : RefA) (k : Nat) (op : OpA) (w : World) (hR : RefIs w σ i rb L Lv R) (hn : Neat w σ) (hi : i ≠ 0) (hk : k < R.l.length) (hl : R.l.length ≤ 1000) (he : (atR R k).e.length ≤ 100000) :
    Calls Tryz.prog 27 #[.pointer (some ⟨rb, 0, none⟩), .int .i64 k, opV op] w (ChgPost σ i rb (putR R k op).1 (putR R k op).2 w) := by
  obtain ⟨kind, db, key, val, flags, nn⟩ := op
  have hand : andB flags 1 = (bits .and .i64 flags 1 != 0) := rfl
  have hand2 : andB flags 2 = (bits .and .i64 flags 2 != 0) := rfl
  have go : ∀ c, putR R k ⟨kind, db, key, val, flags, nn⟩ = (R, c) → _ → _ := fun c hc hb => putr_early σ i rb L Lv R k kind db key val flags nn w hR hn hi hk hl he c hc hb
  cases hs : shortR key with
  | false => exact go 22 (by unfold putR; rw [if_pos (.inl hs)]) (.inl ⟨hs, rfl⟩)
  | true =>
    have hs' : ¬ shortR key = false := by rw [hs]; simp
    cases hd : ((atR R k).flags == 1) with
    | false =>
      have hd' : decide ((atR R k).flags = 1) = false := hd
      by_cases hv : val.length > 1000
      · exact go 22 (by unfold putR; rw [if_pos (.inr ⟨hd', hv⟩)]) (.inr (.inl ⟨hs, hd, decT (by omega), rfl⟩))
      · have hv' : decide ((1000 : Int) < (val.length : Int)) = false := decF (by omega)
        cases hm : namedR R k key with
        | true => exact go 23 (by unfold putR; rw [if_neg (by rintro (h | ⟨_, h⟩); exact hs' h; exact hv h), if_pos hm]) (.inr (.inr (.inl ⟨hs, hd, hv', hm, rfl⟩)))
        | false =>
          have hm' : ¬ namedR R k key = true := by rw [hm]; simp
          have e : ∀ hno : ¬ ((keyR (atR R k).e key).isSome = true ∧ andB flags 1 = true), putR R k ⟨kind, db, key, val, flags, nn⟩ = (setR R k (putE false (key, val) (atR R k).e), 0) := fun hno => by
            unfold putR
            simp only [hd']
            rw [if_neg (by rintro (h | ⟨_, h⟩); exact hs' h; exact hv h), if_neg hm', if_neg hno, if_neg (by rintro ⟨h, _⟩; cases h), if_neg (by rintro ⟨h, _⟩; cases h), if_neg (by rintro ⟨h, _⟩; cases h)]
          cases hq : keyR (atR R k).e key with
          | none => exact putr_main_fn σ i rb L Lv R k kind db key val flags nn w hR hn hi hk hl he hs hd hv' hm (plI_none hq) (e (by rw [hq]; rintro ⟨h, _⟩; cases h))
          | some j =>
            cases ha : (bits .and .i64 flags 1 != 0) with
            | false => exact putr_main_fs σ i rb L Lv R k kind db key val flags nn w hR hn hi hk hl he hs hd hv' hm (plI_some hq) ha (e (by rw [hand, ha]; rintro ⟨_, h⟩; cases h))
            | true => exact go 20 (by unfold putR; rw [if_neg (by rintro (h | ⟨_, h⟩); exact hs' h; exact hv h), if_neg hm', if_pos ⟨by rw [hq]; rfl, ha⟩]) (.inr (.inr (.inr (.inr (.inl ⟨hs, hd, hv', hm, plI_some hq, ha, rfl⟩)))))
    | true =>
      have hd' : decide ((atR R k).flags = 1) = true := hd
      have h1 : ¬ (shortR key = false ∨ (decide ((atR R k).flags = 1) = false ∧ val.length > 1000)) := by
        rintro (h | ⟨h, _⟩)
        · exact hs' h
        · rw [hd'] at h; cases h
      cases hm : namedR R k key with
      | true => exact go 23 (by unfold putR; rw [if_neg h1, if_pos hm]) (.inr (.inr (.inr (.inl ⟨hs, hd, hm, rfl⟩))))
      | false =>
        have hm' : ¬ namedR R k key = true := by rw [hm]; simp
        have e : ∀ hno : ¬ ((keyR (atR R k).e key).isSome = true ∧ andB flags 1 = true), ¬ val.length < 1 → ¬ val.length > 12 → putR R k ⟨kind, db, key, val, flags, nn⟩ = if (key, val) ∈ (atR R k).e then (R, if (bits .and .i64 flags 2 != 0) = true then 20 else 0) else if cntR (atR R k).e key ≥ 12 then (R, 28) else (setR R k (putE true (key, val) (atR R k).e), 0) := fun hno a1 a2 => by
          unfold putR
          rw [if_neg h1, if_neg hm', if_neg hno, if_neg (by rintro ⟨_, h | h⟩; exact a1 h; exact a2 h)]
          simp only [hd', hand2, true_and]
        have e22 : ∀ hno : ¬ ((keyR (atR R k).e key).isSome = true ∧ andB flags 1 = true), (val.length < 1 ∨ val.length > 12) → putR R k ⟨kind, db, key, val, flags, nn⟩ = (R, 22) := fun hno a => by
          unfold putR
          rw [if_neg h1, if_neg hm', if_neg hno, if_pos ⟨hd', a⟩]
        cases hq : keyR (atR R k).e key with
        | none =>
          have hno : ¬ ((keyR (atR R k).e key).isSome = true ∧ andB flags 1 = true) := by rw [hq]; rintro ⟨h, _⟩; cases h
          by_cases b1 : val.length < 1
          · exact go 22 (e22 hno (.inl b1)) (.inr (.inr (.inr (.inr (.inr (.inr (.inl ⟨hs, hd, hm, plI_none hq, decT (by omega), rfl⟩)))))))
          · by_cases b2 : val.length > 12
            · exact go 22 (e22 hno (.inr b2)) (.inr (.inr (.inr (.inr (.inr (.inr (.inr (.inr (.inl ⟨hs, hd, hm, plI_none hq, decF (by omega), decT (by omega), rfl⟩)))))))))
            · exact putr_main_tn σ i rb L Lv R k kind db key val flags nn w hR hn hi hk hl he hs hd hm (plI_none hq) (decF (by omega)) (decF (by omega)) (e hno b1 b2)
        | some j =>
          cases ha : (bits .and .i64 flags 1 != 0) with
          | true => exact go 20 (by unfold putR; rw [if_neg h1, if_neg hm', if_pos ⟨by rw [hq]; rfl, ha⟩]) (.inr (.inr (.inr (.inr (.inr (.inl ⟨hs, hd, hm, plI_some hq, ha, rfl⟩))))))
          | false =>
            have hno : ¬ ((keyR (atR R k).e key).isSome = true ∧ andB flags 1 = true) := by rw [hand, ha]; rintro ⟨_, h⟩; cases h
            by_cases b1 : val.length < 1
            · exact go 22 (e22 hno (.inl b1)) (.inr (.inr (.inr (.inr (.inr (.inr (.inr (.inl ⟨hs, hd, hm, plI_some hq, ha, decT (by omega), rfl⟩))))))))
            · by_cases b2 : val.length > 12
              · exact go 22 (e22 hno (.inr b2)) (.inr (.inr (.inr (.inr (.inr (.inr (.inr (.inr (.inr ⟨hs, hd, hm, plI_some hq, ha, decF (by omega), decT (by omega), rfl⟩)))))))))
              · exact putr_main_ts σ i rb L Lv R k kind db key val flags nn w hR hn hi hk hl he hs hd hm (plI_some hq) ha (decF (by omega)) (decF (by omega)) (e hno b1 b2)
end Go.Proofs.YtmkhjmldncegcaaGreatDoor

