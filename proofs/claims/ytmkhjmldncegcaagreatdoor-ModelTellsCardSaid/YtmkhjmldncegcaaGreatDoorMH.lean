/-
  WALKS: the law's own known: one model, one history, by hand.
-/
import Derived.Test.YtmkhjmldncegcaaGreatDoorMG
import Derived.Test.YtmkhjmldncegcaaGreatDoorMD
set_option linter.unusedVariables false
set_option linter.unusedSimpArgs false
namespace Go.Proofs.YtmkhjmldncegcaaGreatDoor
open Go.RowKit Go.Maps Go.ChangeMaps Go.MapKept Go.Sort

def kA : ModA := ⟨[([], ⟨0, [([107], [[118]])]⟩)], [], [], [], false⟩
theorem do_kP : doA newA kP = (kA, ⟨0, [], []⟩) := by rfl
theorem do_kG : doA kA kG = (kA, ⟨0, [], [118]⟩) := by rfl
theorem do_kD : doA kA kD = (newA, ⟨0, [], []⟩) := by rfl
theorem list_k : listA kA [] = ([([107], [118])], true) := by rfl
theorem list_kx : listA kA [120] = ([], false) := by rfl
theorem names_k : namesA kA = [] := by rfl
theorem sound_kA : Sound kA 1 := by have := sound_do sound_new kP (by decide); rw [do_kP] at this; exact this

theorem told_size : (Tryz.prog.info? 38).map (·.size) = some 14 := by kernel_rfl
set_option maxHeartbeats 1000000 in
theorem tell_any (p n k f t : Int) (x : Nat) (w : World) : Calls Tryz.prog 15 #[.int .i64 p, .int .i64 n, .int .i64 k, .int .i64 f, .int .i64 t, .int .u64 x] w fun e w' => e = .returned (.agg #[.int .i64 p, .int .i64 n, .int .i64 k, .string ⟨#[]⟩, .string ⟨#[]⟩, .string ⟨#[]⟩, .int .i64 0, .int .i64 0, .int .i64 f, .int .i64 t, .int .i64 0, .string ⟨#[]⟩, .string ⟨#[]⟩, .int .u64 x]) ∧ Ext w w' := by
  have hrow := heap_new w (.cells #[.int .i64 p, .int .i64 n, .int .i64 k, .string ⟨#[]⟩, .string ⟨#[]⟩, .string ⟨#[]⟩, .int .i64 0, .int .i64 0, .int .i64 f, .int .i64 t, .int .i64 0, .string ⟨#[]⟩, .string ⟨#[]⟩, .int .u64 x] 38 (0, 0))
  go_enter Tryz.func15, Tryz.ntmps15
  go_wp2
  exact bodyPost_ret (results_cell_row rfl _ _ _ _ _ _ _ rfl hrow Tryz.underlying38 rfl told_size) rfl ⟨rfl, (Ext.rfl' w).alloc _⟩
/-- A box of what was told, read in a later world. -/
theorem keep14 {w w' : World} {b : Nat} {v0 v1 v2 v3 v4 v5 v6 v7 v8 v9 v10 v11 v12 v13 : Value} {T : TypeId} (h : w.heap[b]? = some (.cells #[v0, v1, v2, v3, v4, v5, v6, v7, v8, v9, v10, v11, v12, v13] T (0, 0))) (e : Ext w w') : Ext w w' ∧ w'.cell? ⟨b, 0, none⟩ = some v0 ∧ w'.cell? ⟨b, 1, none⟩ = some v1 ∧ w'.cell? ⟨b, 2, none⟩ = some v2 ∧ w'.cell? ⟨b, 3, none⟩ = some v3 ∧ w'.cell? ⟨b, 4, none⟩ = some v4 ∧ w'.cell? ⟨b, 5, none⟩ = some v5 ∧ w'.cell? ⟨b, 6, none⟩ = some v6 ∧ w'.cell? ⟨b, 7, none⟩ = some v7 ∧ w'.cell? ⟨b, 8, none⟩ = some v8 ∧ w'.cell? ⟨b, 9, none⟩ = some v9 ∧ w'.cell? ⟨b, 10, none⟩ = some v10 ∧ w'.cell? ⟨b, 11, none⟩ = some v11 ∧ w'.cell? ⟨b, 12, none⟩ = some v12 ∧ w'.cell? ⟨b, 13, none⟩ = some v13 :=
  ⟨e, e.cell (show w.cell? ⟨b, 0, none⟩ = some v0 by rw [cellAt h 0]; rfl), e.cell (show w.cell? ⟨b, 1, none⟩ = some v1 by rw [cellAt h 1]; rfl), e.cell (show w.cell? ⟨b, 2, none⟩ = some v2 by rw [cellAt h 2]; rfl), e.cell (show w.cell? ⟨b, 3, none⟩ = some v3 by rw [cellAt h 3]; rfl), e.cell (show w.cell? ⟨b, 4, none⟩ = some v4 by rw [cellAt h 4]; rfl), e.cell (show w.cell? ⟨b, 5, none⟩ = some v5 by rw [cellAt h 5]; rfl), e.cell (show w.cell? ⟨b, 6, none⟩ = some v6 by rw [cellAt h 6]; rfl), e.cell (show w.cell? ⟨b, 7, none⟩ = some v7 by rw [cellAt h 7]; rfl), e.cell (show w.cell? ⟨b, 8, none⟩ = some v8 by rw [cellAt h 8]; rfl), e.cell (show w.cell? ⟨b, 9, none⟩ = some v9 by rw [cellAt h 9]; rfl), e.cell (show w.cell? ⟨b, 10, none⟩ = some v10 by rw [cellAt h 10]; rfl), e.cell (show w.cell? ⟨b, 11, none⟩ = some v11 by rw [cellAt h 11]; rfl), e.cell (show w.cell? ⟨b, 12, none⟩ = some v12 by rw [cellAt h 12]; rfl), e.cell (show w.cell? ⟨b, 13, none⟩ = some v13 by rw [cellAt h 13]; rfl)⟩
/-- A literal row of what was told. -/
theorem tolds_lit (w : World) (l : List ToldA) (h : l.length ≤ 1000) : Tolds (w.alloc (.cells (l.flatMap toldCells).toArray 38)) (.slice (some ⟨w.heap.size, 0, none⟩) l.length l.length) l := by
  refine ⟨by simp [List.length_flatMap, toldCells_len]; clear h; induction l with | nil => rfl | cons a r ih => simp at ih ⊢; omega, _, l.length, rfl, Nat.le_refl _, by unfold maxLen; omega, fun _ => ⟨_, 0, rfl, fun j u hu => ?_⟩⟩
  rw [Nat.zero_add, cellAt (heap_new w _)]
  simpa using hu



set_option maxHeartbeats 8000000 in
set_option maxRecDepth 100000 in
theorem known_any (w : World) (her : ErrType w) : Calls Tryz.prog 6 #[] w fun e w' => e = .returned (.bool true) ∧ Ext w w' := by
  have HN := Lib.hid (new_any (fun _ => other) 1 w (fun _ _ => rfl))
  have HER := Lib.hid her
  clear her
  go_enter Tryz.func6, Tryz.ntmps6
  go_wp2_with fail
  refine HN.out.mono ?_
  rintro e w1 ⟨pv, rfl, σ1, ⟨pb, mb, bases1, rfl, hI1⟩, hx1, hs1, hn1⟩
  have hg1 : Ground σ1 w1 := ⟨hx1.cell HER.out, by rw [hs1 0 (lt_of_cell HER.out)]; rfl⟩
  have HD1 : Hid (∀ W, Ext w1 W → Calls Tryz.prog 10 #[.pointer (some ⟨pb, 0, none⟩), .agg #[.int .i64 9, .string ⟨#[]⟩, .string ⟨#[107]⟩, .string ⟨#[118]⟩, .int .i64 0, .int .i64 0]] W fun e w' => e = .returned (.agg #[.int .i64 0, .string ⟨#[]⟩, .string ⟨#[]⟩]) ∧ ∃ σ' bases', ModIs w' σ' 1 pb mb bases' kA ∧ Moved σ1 1 W σ' w') := fun W hx => by
    have := do_any σ1 1 pb mb bases1 newA kP W 0 (hI1.ext hx) (hn1.ext hx) sound_new (by omega) (by decide) (by decide) (by omega) (hg1.ext hx)
    rw [do_kP] at this
    exact this
  have HX1 := Lib.hid hx1
  have HS1 := Lib.hid hs1
  have HG1 := Lib.hid hg1
  have HN1 := Lib.hid hn1
  clear hI1 hx1 hs1 hn1 hg1
  go_wp2_with fail
  refine (HD1.out _ (Ext.rfl' w1)).mono ?_
  rintro e w2 ⟨rfl, σ2, bases2, hI2, hm2⟩
  have hx2 : Ext w w2 := HX1.out.moved (fun k hk => by rw [HS1.out k hk]; exact Nat.zero_ne_one) hm2
  have hs2 : SigExt w (fun _ => other) σ2 := fun k hk => (hm2.ext k (Nat.lt_of_lt_of_le hk HX1.out.size)).trans (HS1.out k hk)
  have hg2 : Ground σ2 w2 := HG1.out.moved hm2 (by omega)
  have hax : ∀ o, Ext w2 (w2.alloc o) := fun o => (Ext.rfl' w2).alloc o
  have HD2 : Hid (∀ o, Calls Tryz.prog 10 #[.pointer (some ⟨pb, 0, none⟩), .agg #[.int .i64 8, .string ⟨#[]⟩, .string ⟨#[107]⟩, .string ⟨#[]⟩, .int .i64 0, .int .i64 0]] (w2.alloc o) fun e w' => e = .returned (.agg #[.int .i64 0, .string ⟨#[]⟩, .string ⟨#[118]⟩]) ∧ ∃ σ' bases', ModIs w' σ' 1 pb mb bases' kA ∧ Moved σ2 1 (w2.alloc o) σ' w') := fun o => by
    have := do_any σ2 1 pb mb bases2 kA kG (w2.alloc o) 1 (hI2.ext (hax o)) (hm2.neat.ext (hax o)) sound_kA (by omega) (by decide) (by decide) (by omega) (hg2.ext (hax o))
    rw [do_kG] at this
    exact this
  have HX2 := Lib.hid hx2
  have HS2 := Lib.hid hs2
  have HG2 := Lib.hid hg2
  have HN2 := Lib.hid hm2.neat
  clear hI2 hm2 hx2 hs2 hg2 hax HX1 HS1 HG1 HN1 HD1
  go_wp2_with fail
  refine (HD2.out _).mono ?_
  rintro e w3 ⟨rfl, σ3, bases3, hI3, hm3⟩
  have hba : w3.heap[w2.heap.size]? = some (.cells #[.int .i64 0, .string ⟨#[]⟩, .string ⟨#[]⟩] 32 (0, 0)) := by
    rw [hm3.turn.block _ (by simp) (by rw [HN2.out _ (Nat.le_refl _)]; exact Nat.zero_ne_one)]; exact heap_new w2 _
  have hx3 : Ext w w3 := (HX2.out.alloc _).moved (fun k hk => by rw [HS2.out k hk]; exact Nat.zero_ne_one) hm3
  have hs3 : SigExt w (fun _ => other) σ3 := fun k hk => (hm3.ext k (by have := HX2.out.size; simp; omega)).trans (HS2.out k hk)
  have hg3 : Ground σ3 w3 := (HG2.out.ext ((Ext.rfl' w2).alloc _)).moved hm3 (by omega)
  have hax : ∀ o, Ext w3 (w3.alloc o) := fun o => (Ext.rfl' w3).alloc o
  have HC : Hid (∀ o, Calls Tryz.prog 13 #[.pointer (some ⟨pb, 0, none⟩)] (w3.alloc o) fun e w' => ∃ pv, e = .returned pv ∧ ∃ σ', ModAt w' σ' 2 pv kA ∧ Ext (w3.alloc o) w' ∧ SigExt (w3.alloc o) σ3 σ' ∧ Neat w' σ') := fun o => copy_any σ3 1 2 pb mb bases3 kA (w3.alloc o) 1 (hI3.ext (hax o)) (hm3.neat.ext (hax o)) sound_kA (by omega)
  have HI3 := Lib.hid hI3
  have HX3 := Lib.hid hx3
  have HS3 := Lib.hid hs3
  have HG3 := Lib.hid hg3
  have HBA := Lib.hid hba
  have HN3 := Lib.hid hm3.neat
  have HAL : Hid (w2.heap.size < w3.heap.size) := lt_heap hba
  have HLA : Hid (σ3 w2.heap.size = other) := by show _ = _; rw [hm3.ext _ (by simp)]; exact HN2.out _ (Nat.le_refl _)
  clear hI3 hm3 hx3 hs3 hg3 hba hax HX2 HS2 HG2 HD2 HN2
  go_wp2_with fail
  refine (HC.out _).mono ?_
  rintro e w4 ⟨pv, rfl, σ4, ⟨pc, mc, basesc, rfl, hI4⟩, hx4, hs4, hn4⟩
  have hx34 : Ext w3 w4 := Ext.step ((Ext.rfl' w3).alloc _) hx4
  have hs34 : SigExt w3 σ3 σ4 := fun k hk => hs4 k (by simp; omega)
  have hbb : w4.heap[w3.heap.size]? = some (.cells #[.int .i64 0, .string ⟨#[]⟩, .string ⟨#[118]⟩] 32 (0, 0)) := by rw [hx4.block _ (by simp)]; exact heap_new w3 _
  have hg4 : Ground σ4 w4 := ⟨hx34.cell HG3.out.1, by rw [hs34 0 HG3.out.lt]; exact HG3.out.2⟩
  have hm4 : ModIs w4 σ4 1 pb mb bases3 kA := HI3.out.keep fun k hk e => ⟨hx34.block k hk, hs34 k hk⟩
  have hla : σ4 w2.heap.size = other := by rw [hs34 _ HAL.out]; exact HLA.out
  have hlb : σ4 w3.heap.size = other := by rw [hs4 _ (by simp)]; exact HN3.out _ (Nat.le_refl _)
  have hba4 : w4.heap[w2.heap.size]? = some (.cells #[.int .i64 0, .string ⟨#[]⟩, .string ⟨#[]⟩] 32 (0, 0)) := (hx34.block _ HAL.out).trans HBA.out
  have HD4 : Hid (Calls Tryz.prog 10 #[.pointer (some ⟨pc, 0, none⟩), .agg #[.int .i64 10, .string ⟨#[]⟩, .string ⟨#[107]⟩, .string ⟨#[]⟩, .int .i64 0, .int .i64 0]] w4 fun e w' => e = .returned (.agg #[.int .i64 0, .string ⟨#[]⟩, .string ⟨#[]⟩]) ∧ ∃ σ' bases', ModIs w' σ' 2 pc mc bases' newA ∧ Moved σ4 2 w4 σ' w') := by
    have := do_any σ4 2 pc mc basesc kA kD w4 1 hI4 hn4 sound_kA (by omega) (by decide) (by decide) (by omega) hg4
    rw [do_kD] at this
    exact this
  have HI4 := Lib.hid hm4
  have HX4 := Lib.hid (Ext.step HX3.out hx34)
  have HS4 : Hid (SigExt w (fun _ => other) σ4) := fun k hk => (hs34 k (Nat.lt_of_lt_of_le hk HX3.out.size)).trans (HS3.out k hk)
  have HBA4 := Lib.hid hba4
  have HBB4 := Lib.hid hbb
  have HLA4 := Lib.hid hla
  have HLB4 := Lib.hid hlb
  have HG4 := Lib.hid hg4
  clear hI4 hx4 hs4 hn4 hg4 hm4 hx34 hs34 hbb hla hlb hba4 HC HI3 HX3 HS3 HG3 HBA HN3 HLA
  go_wp2_with fail
  refine HD4.out.mono ?_
  rintro e w5 ⟨rfl, σ5, bases5, hI5, hm5⟩
  have hx5 : Ext w w5 := HX4.out.moved (fun k hk => by rw [HS4.out k hk]; exact (by decide : (0 : Nat) ≠ 2)) hm5
  have HM5 : Hid (ModIs w5 σ5 1 pb mb bases3 kA) := HI4.out.keep (Keep.ofMoved hm5 (by omega))
  have HX5 := Lib.hid hx5
  have HBA5 : Hid (w5.heap[w2.heap.size]? = some (.cells #[.int .i64 0, .string ⟨#[]⟩, .string ⟨#[]⟩] 32 (0, 0))) := (hm5.turn.block _ (lt_heap HBA4.out) (by rw [HLA4.out]; exact (by decide : (0 : Nat) ≠ 2))).trans HBA4.out
  have HBB5 : Hid (w5.heap[w3.heap.size]? = some (.cells #[.int .i64 0, .string ⟨#[]⟩, .string ⟨#[118]⟩] 32 (0, 0))) := (hm5.turn.block _ (lt_heap HBB4.out) (by rw [HLB4.out]; exact (by decide : (0 : Nat) ≠ 2))).trans HBB4.out
  have HE5 : Hid (ErrType w5) := (HG4.out.moved hm5 (by omega)).1
  clear hI5 hm5 hx5 HI4 HX4 HS4 HD4 HBA4 HBB4 HLA4 HLB4 HG4
  have HL5 : Hid (∀ W, Ext w5 W → Calls Tryz.prog 18 #[.pointer (some ⟨pb, 0, none⟩), .string ⟨#[]⟩] W fun e w' => ∃ p c, e = .returned (.tuple #[.slice p 1 c, .bool true]) ∧ Ext W w') := fun W hx => by
    have := list_any σ5 1 pb mb bases3 kA [] W 1 (HM5.out.ext hx) sound_kA (by omega) (by decide)
    refine this.mono fun e w' ⟨v, he, ho, hx⟩ => ?_
    rw [list_k] at he ho
    obtain ⟨_, p, c, rfl, _⟩ := Sl.ofOwns ho
    exact ⟨p, c, he, hx⟩
  have HLX : Hid (∀ W, Ext w5 W → Calls Tryz.prog 18 #[.pointer (some ⟨pb, 0, none⟩), .string ⟨#[120]⟩] W fun e w' => ∃ v, e = .returned (.tuple #[v, .bool false]) ∧ Ext W w') := fun W hx => by
    have := list_any σ5 1 pb mb bases3 kA [120] W 1 (HM5.out.ext hx) sound_kA (by omega) (by decide)
    refine this.mono fun e w' ⟨v, he, ho, hx⟩ => ?_
    rw [list_kx] at he
    exact ⟨v, he, hx⟩
  go_wp2_with fail
  refine (HL5.out _ ((Ext.rfl' w5).alloc _)).mono ?_
  rintro e w6 ⟨lp, lc, rfl, hx6⟩
  have hbd : w6.heap[w5.heap.size]? = some (.cells #[.int .i64 0, .string ⟨#[]⟩, .string ⟨#[]⟩] 32 (0, 0)) := by rw [hx6.block _ (by simp)]; exact heap_new w5 _
  have HBD6 := Lib.hid hbd
  have HX6 := Lib.hid (Ext.step ((Ext.rfl' w5).alloc _) hx6)
  clear hx6 hbd HL5
  go_wp2_with fail
  refine (HLX.out _ HX6.out).mono ?_
  rintro e w7 ⟨lv, rfl, hx7⟩
  have HX7 := Lib.hid (Ext.step HX6.out hx7)
  have HBD7 : Hid (w7.heap[w5.heap.size]? = some (.cells #[.int .i64 0, .string ⟨#[]⟩, .string ⟨#[]⟩] 32 (0, 0))) := (hx7.block _ (lt_heap HBD6.out)).trans HBD6.out
  clear hx7 HLX HX6 HBD6
  go_wp2_with fail
  refine (tell_any 1 3 9 3 4 0 w7).mono ?_
  rintro e w8 ⟨rfl, hx8⟩
  have HX8 := Lib.hid (Ext.step HX7.out hx8)
  have HBD8 : Hid (w8.heap[w5.heap.size]? = some (.cells #[.int .i64 0, .string ⟨#[]⟩, .string ⟨#[]⟩] 32 (0, 0))) := (hx8.block _ (lt_heap HBD7.out)).trans HBD7.out
  clear hx8 HX7 HBD7
  go_wp2_with fail
  have hbp := heap_new w8 (.cells #[.int .i64 1, .int .i64 3, .int .i64 9, .string ⟨#[]⟩, .string ⟨#[107]⟩, .string ⟨#[118]⟩, .int .i64 0, .int .i64 0, .int .i64 3, .int .i64 4, .int .i64 0, .string ⟨#[]⟩, .string ⟨#[]⟩, .int .u64 0] 38 (0, 0))
  have hxa := (Ext.rfl' w8).alloc (.cells #[.int .i64 1, .int .i64 3, .int .i64 9, .string ⟨#[]⟩, .string ⟨#[107]⟩, .string ⟨#[118]⟩, .int .i64 0, .int .i64 0, .int .i64 3, .int .i64 4, .int .i64 0, .string ⟨#[]⟩, .string ⟨#[]⟩, .int .u64 0] 38 (0, 0))
  generalize w8.alloc _ = W8 at hbp hxa ⊢
  have HBP := Lib.hid hbp
  have HXA := Lib.hid hxa
  have K0 := Lib.hid (keep14 hbp (Ext.rfl' W8))
  have K1 := Lib.hid (keep14 hbp (show Ext W8 W8.drew from Ext.drewN W8 1))
  clear hbp hxa
  have HT1 : Hid (∀ W, Calls Tryz.prog 15 #[.int .i64 1, .int .i64 2, .int .i64 4, .int .i64 1, .int .i64 2, .int .u64 1] W fun e w' => e = .returned (.agg #[.int .i64 1, .int .i64 2, .int .i64 4, .string ⟨#[]⟩, .string ⟨#[]⟩, .string ⟨#[]⟩, .int .i64 0, .int .i64 0, .int .i64 1, .int .i64 2, .int .i64 0, .string ⟨#[]⟩, .string ⟨#[]⟩, .int .u64 1]) ∧ Ext W w') := fun W => tell_any 1 2 4 1 2 1 W
  have HT2 : Hid (∀ W, Calls Tryz.prog 15 #[.int .i64 1, .int .i64 4, .int .i64 6, .int .i64 5, .int .i64 6, .int .u64 2] W fun e w' => e = .returned (.agg #[.int .i64 1, .int .i64 4, .int .i64 6, .string ⟨#[]⟩, .string ⟨#[]⟩, .string ⟨#[]⟩, .int .i64 0, .int .i64 0, .int .i64 5, .int .i64 6, .int .i64 0, .string ⟨#[]⟩, .string ⟨#[]⟩, .int .u64 2]) ∧ Ext W w') := fun W => tell_any 1 4 6 5 6 2 W
  go_region_held3 (fun w' => Ext W8 w' ∧ w'.cell? ⟨w8.heap.size, 0, none⟩ = some (.int .i64 1) ∧ w'.cell? ⟨w8.heap.size, 1, none⟩ = some (.int .i64 3) ∧ w'.cell? ⟨w8.heap.size, 2, none⟩ = some (.int .i64 9) ∧ w'.cell? ⟨w8.heap.size, 3, none⟩ = some (.string ⟨#[]⟩) ∧ w'.cell? ⟨w8.heap.size, 4, none⟩ = some (.string ⟨#[107]⟩) ∧ w'.cell? ⟨w8.heap.size, 5, none⟩ = some (.string ⟨#[118]⟩) ∧ w'.cell? ⟨w8.heap.size, 6, none⟩ = some (.int .i64 0) ∧ w'.cell? ⟨w8.heap.size, 7, none⟩ = some (.int .i64 0) ∧ w'.cell? ⟨w8.heap.size, 8, none⟩ = some (.int .i64 3) ∧ w'.cell? ⟨w8.heap.size, 9, none⟩ = some (.int .i64 4) ∧ w'.cell? ⟨w8.heap.size, 10, none⟩ = some (.int .i64 0) ∧ w'.cell? ⟨w8.heap.size, 11, none⟩ = some (.string ⟨#[]⟩) ∧ w'.cell? ⟨w8.heap.size, 12, none⟩ = some (.string ⟨#[]⟩) ∧ w'.cell? ⟨w8.heap.size, 13, none⟩ = some (.int .u64 0))
    (first | (with_reducible exact K10.out) | (with_reducible exact K9.out) | (with_reducible exact K1.out) | (with_reducible exact K0.out) | (with_reducible exact keep14 HBP.out (K10.out.1.alloc _)))
    (first
      | (go_at_call 15; with_reducible refine (HT1.out _).mono ?_; rintro e w9 ⟨rfl, hx9⟩
         have K9 := Lib.hid (keep14 HBP.out (show Ext W8 w9 from by first | (with_reducible exact hx9) | exact Ext.step K1.out.1 hx9)); clear hx9)
      | (go_at_call 15; with_reducible refine (HT2.out _).mono ?_; rintro e w10 ⟨rfl, hx10⟩
         have K10 := Lib.hid (keep14 HBP.out (show Ext W8 w10 from Ext.step K9.out.1 hx10)); clear hx10))
  have hT : Tolds (w10.alloc (.cells #[.int .i64 1, .int .i64 2, .int .i64 4, .string ⟨#[]⟩, .string ⟨#[]⟩, .string ⟨#[]⟩, .int .i64 0, .int .i64 0, .int .i64 1, .int .i64 2, .int .i64 0, .string ⟨#[]⟩, .string ⟨#[]⟩, .int .u64 1, .int .i64 1, .int .i64 3, .int .i64 9, .string ⟨#[]⟩, .string ⟨#[107]⟩, .string ⟨#[118]⟩, .int .i64 0, .int .i64 0, .int .i64 3, .int .i64 4, .int .i64 0, .string ⟨#[]⟩, .string ⟨#[]⟩, .int .u64 0, .int .i64 1, .int .i64 4, .int .i64 6, .string ⟨#[]⟩, .string ⟨#[]⟩, .string ⟨#[]⟩, .int .i64 0, .int .i64 0, .int .i64 5, .int .i64 6, .int .i64 0, .string ⟨#[]⟩, .string ⟨#[]⟩, .int .u64 2] 38)) (.slice (some ⟨w10.heap.size, 0, none⟩) 3 3) kH := tolds_lit w10 kH (by decide)
  have hx10 : Ext W8 (w10.alloc (.cells #[.int .i64 1, .int .i64 2, .int .i64 4, .string ⟨#[]⟩, .string ⟨#[]⟩, .string ⟨#[]⟩, .int .i64 0, .int .i64 0, .int .i64 1, .int .i64 2, .int .i64 0, .string ⟨#[]⟩, .string ⟨#[]⟩, .int .u64 1, .int .i64 1, .int .i64 3, .int .i64 9, .string ⟨#[]⟩, .string ⟨#[107]⟩, .string ⟨#[118]⟩, .int .i64 0, .int .i64 0, .int .i64 3, .int .i64 4, .int .i64 0, .string ⟨#[]⟩, .string ⟨#[]⟩, .int .u64 0, .int .i64 1, .int .i64 4, .int .i64 6, .string ⟨#[]⟩, .string ⟨#[]⟩, .string ⟨#[]⟩, .int .i64 0, .int .i64 0, .int .i64 5, .int .i64 6, .int .i64 0, .string ⟨#[]⟩, .string ⟨#[]⟩, .int .u64 2] 38)) := K10.out.1.alloc _
  generalize w10.alloc (.cells #[.int .i64 1, .int .i64 2, .int .i64 4, .string ⟨#[]⟩, .string ⟨#[]⟩, .string ⟨#[]⟩, .int .i64 0, .int .i64 0, .int .i64 1, .int .i64 2, .int .i64 0, .string ⟨#[]⟩, .string ⟨#[]⟩, .int .u64 1, .int .i64 1, .int .i64 3, .int .i64 9, .string ⟨#[]⟩, .string ⟨#[107]⟩, .string ⟨#[118]⟩, .int .i64 0, .int .i64 0, .int .i64 3, .int .i64 4, .int .i64 0, .string ⟨#[]⟩, .string ⟨#[]⟩, .int .u64 0, .int .i64 1, .int .i64 4, .int .i64 6, .string ⟨#[]⟩, .string ⟨#[]⟩, .string ⟨#[]⟩, .int .i64 0, .int .i64 0, .int .i64 5, .int .i64 6, .int .i64 0, .string ⟨#[]⟩, .string ⟨#[]⟩, .int .u64 2] 38) = W10 at hx10 hT ⊢
  have HT := Lib.hid hT
  have HXA10 : Hid (Ext w5 W10) := Ext.step HX8.out (Ext.step HXA.out hx10)
  have HXP10 := Lib.hid hx10
  have HVR := Lib.hid (versions_any _ kH W10 (HXA10.out.cell HE5.out) hT kH_ok)
  have HL3 : Hid (kH.length = 3) := rfl
  clear hT hx10 HX8 K0 K1 K9 K10 HT1 HT2
  go_wp2_with fail
  refine HVR.out.mono ?_
  rintro e w11 ⟨vmb, σv, vrows, rfl, hv, hx11, _, _⟩
  have hvn : vrows.length = 2 := hv.2.2.length.trans kH_n
  obtain ⟨pv2, hv2, hvp⟩ : ∃ a, mget 2 vrows = some a ∧ ∃ p, a = .pointer (some p) := by
    obtain ⟨A, hA⟩ := Option.isSome_iff_exists.1 kH_2
    obtain ⟨a, ha, hat⟩ := hv.2.2.get_some hA
    obtain ⟨pb', _, _, e, _⟩ := hat
    exact ⟨a, ha, _, e⟩
  obtain ⟨pa2, rfl⟩ := hvp
  have HV := Lib.hid hv.1
  have HVN := Lib.hid hvn
  have HV2 := Lib.hid hv2
  have HT11 := Lib.hid (HT.out.ext hx11)
  have HXA11 : Hid (Ext w5 w11) := Ext.step HXA10.out hx11
  have HXP11 : Hid (Ext W8 w11) := Ext.step HXP10.out hx11
  clear hv hvn hv2 hx11 HT HXA10 HXP10 HVR
  have HT3 : Hid (∀ W, Calls Tryz.prog 15 #[.int .i64 2, .int .i64 2, .int .i64 8, .int .i64 9, .int .i64 10, .int .u64 0] W fun e w' => e = .returned (.agg #[.int .i64 2, .int .i64 2, .int .i64 8, .string ⟨#[]⟩, .string ⟨#[]⟩, .string ⟨#[]⟩, .int .i64 0, .int .i64 0, .int .i64 9, .int .i64 10, .int .i64 0, .string ⟨#[]⟩, .string ⟨#[]⟩, .int .u64 0]) ∧ Ext W w') := fun W => tell_any 2 2 8 9 10 0 W
  go_wp2_with fail
  refine (HT3.out _).mono ?_
  rintro e w12 ⟨rfl, hx12⟩
  have HX12 := Lib.hid hx12
  clear hx12 HT3
  go_wp2_with fail
  have hbp := heap_new w12 (.cells #[.int .i64 2, .int .i64 2, .int .i64 8, .string ⟨#[]⟩, .string ⟨#[107]⟩, .string ⟨#[]⟩, .int .i64 0, .int .i64 0, .int .i64 9, .int .i64 10, .int .i64 0, .string ⟨#[]⟩, .string ⟨#[118]⟩, .int .u64 0] 38 (0, 0))
  have hxa := (Ext.rfl' w12).alloc (.cells #[.int .i64 2, .int .i64 2, .int .i64 8, .string ⟨#[]⟩, .string ⟨#[107]⟩, .string ⟨#[]⟩, .int .i64 0, .int .i64 0, .int .i64 9, .int .i64 10, .int .i64 0, .string ⟨#[]⟩, .string ⟨#[118]⟩, .int .u64 0] 38 (0, 0))
  generalize w12.alloc (.cells #[.int .i64 2, .int .i64 2, .int .i64 8, .string ⟨#[]⟩, .string ⟨#[107]⟩, .string ⟨#[]⟩, .int .i64 0, .int .i64 0, .int .i64 9, .int .i64 10, .int .i64 0, .string ⟨#[]⟩, .string ⟨#[118]⟩, .int .u64 0] 38) = W12 at hbp hxa ⊢
  have HBG := Lib.hid hbp
  have HXG := Lib.hid hxa
  have K0 := Lib.hid (keep14 hbp (Ext.rfl' W12))
  have K1 := Lib.hid (keep14 hbp (show Ext W12 W12.drew from Ext.drewN W12 1))
  have HTG : Hid (∀ W, Ext W12 W → Sl W 14 (.slice (some ⟨w10.heap.size, 0, none⟩) 3 3) 3 (kH.flatMap toldCells)) := fun W e => Sl.ext HT11.out (Ext.step HX12.out (Ext.step hxa e))
  clear hbp hxa
  have HT4 : Hid (∀ W, Calls Tryz.prog 15 #[.int .i64 2, .int .i64 1, .int .i64 3, .int .i64 7, .int .i64 8, .int .u64 2] W fun e w' => e = .returned (.agg #[.int .i64 2, .int .i64 1, .int .i64 3, .string ⟨#[]⟩, .string ⟨#[]⟩, .string ⟨#[]⟩, .int .i64 0, .int .i64 0, .int .i64 7, .int .i64 8, .int .i64 0, .string ⟨#[]⟩, .string ⟨#[]⟩, .int .u64 2]) ∧ Ext W w') := fun W => tell_any 2 1 3 7 8 2 W
  go_region_held3 (fun w' => Ext W12 w' ∧ w'.cell? ⟨w12.heap.size, 0, none⟩ = some (.int .i64 2) ∧ w'.cell? ⟨w12.heap.size, 1, none⟩ = some (.int .i64 2) ∧ w'.cell? ⟨w12.heap.size, 2, none⟩ = some (.int .i64 8) ∧ w'.cell? ⟨w12.heap.size, 3, none⟩ = some (.string ⟨#[]⟩) ∧ w'.cell? ⟨w12.heap.size, 4, none⟩ = some (.string ⟨#[107]⟩) ∧ w'.cell? ⟨w12.heap.size, 5, none⟩ = some (.string ⟨#[]⟩) ∧ w'.cell? ⟨w12.heap.size, 6, none⟩ = some (.int .i64 0) ∧ w'.cell? ⟨w12.heap.size, 7, none⟩ = some (.int .i64 0) ∧ w'.cell? ⟨w12.heap.size, 8, none⟩ = some (.int .i64 9) ∧ w'.cell? ⟨w12.heap.size, 9, none⟩ = some (.int .i64 10) ∧ w'.cell? ⟨w12.heap.size, 10, none⟩ = some (.int .i64 0) ∧ w'.cell? ⟨w12.heap.size, 11, none⟩ = some (.string ⟨#[]⟩) ∧ w'.cell? ⟨w12.heap.size, 12, none⟩ = some (.string ⟨#[118]⟩) ∧ w'.cell? ⟨w12.heap.size, 13, none⟩ = some (.int .u64 0))
    (first | (with_reducible exact K15.out) | (with_reducible exact K14.out) | (with_reducible exact K13.out) | (with_reducible exact K1.out) | (with_reducible exact K0.out) | (with_reducible exact keep14 HBG.out (K14.out.1.alloc _)))
    (first
      | (go_at_call 15; with_reducible refine (HT4.out _).mono ?_; rintro e w14 ⟨rfl, hx14⟩
         have K14 := Lib.hid (keep14 HBG.out (Ext.step K13.out.1 hx14))
         have HO14 := Lib.hid (owns_ext HO13.out hx14)
         clear hx14)
      | (refine step_append_sl _ (by rfl) _ _ _ (by rfl) W12.heap.size toldEl (.slice none 0 0) 0 [] (by rfl) (owns_nil _ _ _ _) _ 3 (kH.flatMap toldCells) (by rfl) (HTG.out _ (by first | (with_reducible exact K1.out.1) | (with_reducible exact K0.out.1))) (tolds_one kH) (by unfold maxLen; omega) (by omega) (by first | exact Nat.le_refl _ | exact K1.out.1.size) ?_
         intro v13 w13 hown13 hgrow13 hat13
         have e13 : Ext W12 w13 := by first | exact below_append K1.out.1 K1.out.1.size (owns_nil _ _ 38 14) hgrow13 | exact below_append K0.out.1 (Nat.le_refl _) (owns_nil _ _ 38 14) hgrow13
         have K13 := Lib.hid (keep14 HBG.out e13)
         have HO13 := Lib.hid hown13
         clear hown13 hgrow13 hat13 e13)
      | (refine step_append_sl _ (by rfl) _ _ _ (by rfl) W12.heap.size toldEl v13 3 (kH.flatMap toldCells) (by rfl) (owns_ext HO14.out ((Ext.rfl' w14).alloc _)) _ 2 ([tA 2 1 3 7 8 2, kGet [118]].flatMap toldCells) (by rfl) (tolds_lit w14 [tA 2 1 3 7 8 2, kGet [118]] (by decide)) (tolds_one _) (by unfold maxLen; omega) (by omega) (by have := K14.out.1.size; simp; omega) ?_
         intro v15 w15 hown15 hgrow15 hat15
         have e15 : Ext W12 w15 := below_append (K14.out.1.alloc _) (by have := K14.out.1.size; simp; omega) (owns_ext HO14.out ((Ext.rfl' w14).alloc _)) hgrow15
         have K15 := Lib.hid (keep14 HBG.out e15)
         have HO15 := Lib.hid hown15
         clear hown15 hgrow15 hat15 e15))
  have hT15 : Tolds w15 v15 (kG1 2 [118]) := Sl.ofOwns HO15.out
  have hx15 := K15.out.1
  have HX15 : Hid (Ext w11 w15) := Ext.step HX12.out (Ext.step HXG.out hx15)
  obtain ⟨_, p15, c15, rfl, _, _, hc15⟩ := hT15
  have HT15 : Hid (Tolds w15 (.slice p15 5 c15) (kG1 2 [118])) := Sl.ofOwns HO15.out
  clear hx15 hc15 HO13 HO14 HO15 K0 K1 K13 K14 K15 HT4 HTG HBG
  have HTS : Hid (∀ W, Ext w15 W → Sl W 14 (.slice p15 5 c15) 5 ((kG1 2 [118]).flatMap toldCells)) := fun W e => Sl.ext HT15.out e
  have hgd : Tryz.prog.eqGuardType Tryz.prog.depth 32 = false := by kernel_rfl
  have heq : ∀ W, (binOp .eql 32 (.agg #[.int .i64 0, .string ⟨#[]⟩, .string ⟨#[]⟩]) (.agg #[.int .i64 0, .string ⟨#[]⟩, .string ⟨#[]⟩])).run Tryz.prog W = .ok (.bool true) W := fun W => run_eql_rep ⟨0, [], []⟩ ⟨0, [], []⟩ W
  go_wp2_with (first
    | (at_builtin
       refine wpList_append_sl _ rfl _ _ 40 (by rfl) (w15).heap.size toldEl (.slice none 0 0) 0 [] (by rfl) (owns_nil _ _ _ _) _ 5 ((kG1 2 [118]).flatMap toldCells) (by rfl) (HTS.out _ (Ext.rfl' w15)) (tolds_one _) (by unfold maxLen; omega) (by omega) (Nat.le_refl _) ?_
       intro v16 w16 hown hgrow hat
       have e16 : Ext (w15) w16 := below_append (Ext.rfl' (w15)) (Nat.le_refl _) (owns_nil _ _ 38 14) hgrow
       rcases hown.2 with ⟨_, hz⟩ | ⟨g16, cap16, cur16, hv16, hgb16, _⟩
       · exact absurd hz (by omega)
       subst hv16
       have hset := owns_set (show w16.ownsRow (w15).heap.size 38 14 (.slice (some ⟨g16, 0, none⟩) 5 cap16) 5 ((kG1 2 [118]).flatMap toldCells) from hown) (i := 68) (by decide) (.string ⟨#[119]⟩) e16 (Nat.le_refl _)
       have c68 : w16.cell? ⟨g16, 68, none⟩ = some (.string ⟨#[118]⟩) := hset.2.2.1
       have f68 := hset.2.2.2
       have HSET16 : Hid (Tolds (w16.setCell ⟨g16, 68, none⟩ (.string ⟨#[119]⟩)) (.slice (some ⟨g16, 0, none⟩) 5 cap16) (kG1 2 [119]) ∧ Ext (w15) (w16.setCell ⟨g16, 68, none⟩ (.string ⟨#[119]⟩))) := ⟨hset.1, hset.2.1⟩
       have hcap16 : (5 : Nat) ≤ cap16 := by obtain ⟨_, p, c, hv, h1, _⟩ := hset.1; injection hv with _ _ hc; subst hc; exact h1
       clear hown hgrow hat e16 hgb16 hset
       simp only [Nat.zero_add])
    | (at_builtin
       refine wpList_append_sl _ rfl _ _ 40 (by rfl) (w16.setCell ⟨g16, 68, none⟩ (.string ⟨#[119]⟩)).heap.size toldEl (.slice none 0 0) 0 [] (by rfl) (owns_nil _ _ _ _) _ 5 ((kG1 2 [118]).flatMap toldCells) (by rfl) (HTS.out _ HSET16.out.2) (tolds_one _) (by unfold maxLen; omega) (by omega) (Nat.le_refl _) ?_
       intro v17 w17 hown hgrow hat
       have e17 : Ext (w16.setCell ⟨g16, 68, none⟩ (.string ⟨#[119]⟩)) w17 := below_append (Ext.rfl' (w16.setCell ⟨g16, 68, none⟩ (.string ⟨#[119]⟩))) (Nat.le_refl _) (owns_nil _ _ 38 14) hgrow
       rcases hown.2 with ⟨_, hz⟩ | ⟨g17, cap17, cur17, hv17, hgb17, _⟩
       · exact absurd hz (by omega)
       subst hv17
       have hset := owns_set (show w17.ownsRow (w16.setCell ⟨g16, 68, none⟩ (.string ⟨#[119]⟩)).heap.size 38 14 (.slice (some ⟨g17, 0, none⟩) 5 cap17) 5 ((kG1 2 [118]).flatMap toldCells) from hown) (i := 55) (by decide) (.int .u64 1) e17 (Nat.le_refl _)
       have c55 : w17.cell? ⟨g17, 55, none⟩ = some (.int .u64 2) := hset.2.2.1
       have f55 := hset.2.2.2
       have HSET17 : Hid (Tolds (w17.setCell ⟨g17, 55, none⟩ (.int .u64 1)) (.slice (some ⟨g17, 0, none⟩) 5 cap17) (kG1 1 [118]) ∧ Ext (w16.setCell ⟨g16, 68, none⟩ (.string ⟨#[119]⟩)) (w17.setCell ⟨g17, 55, none⟩ (.int .u64 1))) := ⟨hset.1, hset.2.1⟩
       have hcap17 : (5 : Nat) ≤ cap17 := by obtain ⟨_, p, c, hv, h1, _⟩ := hset.1; injection hv with _ _ hc; subst hc; exact h1
       have HE17 : Hid (Ext w15 (w17.setCell ⟨g17, 55, none⟩ (.int .u64 1))) := Ext.step HSET16.out.2 HSET17.out.2
       have e5 : Ext w5 (w17.setCell ⟨g17, 55, none⟩ (.int .u64 1)) := Ext.step (Ext.step HXA11.out HX15.out) HE17.out
       have e8 : Ext w8 (w17.setCell ⟨g17, 55, none⟩ (.int .u64 1)) := Ext.step HXA.out (Ext.step HXP11.out (Ext.step HX15.out HE17.out))
       have qa0 := e5.cell (show w5.cell? ⟨w2.heap.size, 0, none⟩ = some (.int .i64 0) by rw [cellAt HBA5.out 0]; rfl)
       have qa1 := e5.cell (show w5.cell? ⟨w2.heap.size, 1, none⟩ = some (.string ⟨#[]⟩) by rw [cellAt HBA5.out 1]; rfl)
       have qa2 := e5.cell (show w5.cell? ⟨w2.heap.size, 2, none⟩ = some (.string ⟨#[]⟩) by rw [cellAt HBA5.out 2]; rfl)
       have qb0 := e5.cell (show w5.cell? ⟨w3.heap.size, 0, none⟩ = some (.int .i64 0) by rw [cellAt HBB5.out 0]; rfl)
       have qb1 := e5.cell (show w5.cell? ⟨w3.heap.size, 1, none⟩ = some (.string ⟨#[]⟩) by rw [cellAt HBB5.out 1]; rfl)
       have qb2 := e5.cell (show w5.cell? ⟨w3.heap.size, 2, none⟩ = some (.string ⟨#[118]⟩) by rw [cellAt HBB5.out 2]; rfl)
       have qd0 := e8.cell (show w8.cell? ⟨w5.heap.size, 0, none⟩ = some (.int .i64 0) by rw [cellAt HBD8.out 0]; rfl)
       have qd1 := e8.cell (show w8.cell? ⟨w5.heap.size, 1, none⟩ = some (.string ⟨#[]⟩) by rw [cellAt HBD8.out 1]; rfl)
       have qd2 := e8.cell (show w8.cell? ⟨w5.heap.size, 2, none⟩ = some (.string ⟨#[]⟩) by rw [cellAt HBD8.out 2]; rfl)
       have hMv := HV.out.ext (Ext.step HX15.out HE17.out)
       have hlen : ∀ ty, (Builtin.len_ #[41] ty #[.map (some vmb)]).run Tryz.prog (w17.setCell ⟨g17, 55, none⟩ (.int .u64 1)) = .ok (.int .i64 2) (w17.setCell ⟨g17, 55, none⟩ (.int .u64 1)) := fun ty => by
         have := hMv.len (t := 41) (e := 24) Tryz.underlying41 ty
         rw [HVN.out] at this; exact this
       have hlk2 : (Instr.lookup 41 (.map (some vmb)) (.int .u64 2) false).run Tryz.prog (w17.setCell ⟨g17, 55, none⟩ (.int .u64 1)) = .ok (.pointer (some pa2)) (w17.setCell ⟨g17, 55, none⟩ (.int .u64 1)) := by
         have := hMv.look1 (t := 41) (e := 24) keyedU Tryz.underlying41 (z := .pointer none) (Tryz.zeroValue24 _) (key := .int .u64 2) (k := (2 : Nat)) (keyU (n := 2) (by omega))
         rw [HV2.out] at this; exact this
       have HE5W := Lib.hid e5
       clear e5 e8 hMv
       clear hown hgrow hat e17 hgb17 hset
       simp only [Nat.zero_add])
    | fail)
  have hw16 : Tolds (w17.setCell ⟨g17, 55, none⟩ (.int .u64 1)) (.slice (some ⟨g16, 0, none⟩) 5 cap16) (kG1 2 [119]) := HSET16.out.1.ext HSET17.out.2
  have hw17 := HSET17.out.1
  have hg15 : Tolds (w17.setCell ⟨g17, 55, none⟩ (.int .u64 1)) (.slice p15 5 c15) (kG1 2 [118]) := HT15.out.ext HE17.out
  have he17 : ErrType (w17.setCell ⟨g17, 55, none⟩ (.int .u64 1)) := HE5W.out.cell HE5.out
  have hm17 : ModIs (w17.setCell ⟨g17, 55, none⟩ (.int .u64 1)) σ5 1 pb mb bases3 kA := HM5.out.ext HE5W.out
  have hx17 : Ext w (w17.setCell ⟨g17, 55, none⟩ (.int .u64 1)) := Ext.step HX5.out HE5W.out
  clear hlen hlk2 c68 f68 c55 f55 qa0 qa1 qa2 qb0 qb1 qb2 qd0 qd1 qd2 HSET16 HSET17 HE17 HE5W HT15 HT11 HTS heq hgd
  generalize w17.setCell ⟨g17, 55, none⟩ (.int .u64 1) = W17 at hw16 hw17 hg15 he17 hm17 hx17 ⊢
  have HW16 : Hid (∀ W, Ext W17 W → Calls Tryz.prog 17 #[.slice (some ⟨g16, 0, none⟩) 5 cap16] W fun e w' => e = .returned (.bool false) ∧ Ext W w') := fun W e => by
    have := serial_any _ (kG1 2 [119]) W (e.cell he17) (hw16.ext e) kG_ok2; rw [kG_2] at this; exact this
  have HW17 : Hid (∀ W, Ext W17 W → Calls Tryz.prog 17 #[.slice (some ⟨g17, 0, none⟩) 5 cap17] W fun e w' => e = .returned (.bool false) ∧ Ext W w') := fun W e => by
    have := serial_any _ (kG1 1 [118]) W (e.cell he17) (hw17.ext e) kG_ok3; rw [kG_3] at this; exact this
  have HW15 : Hid (Calls Tryz.prog 17 #[.slice p15 5 c15] W17 fun e w' => e = .returned (.bool true) ∧ Ext W17 w') := by
    have := serial_any _ (kG1 2 [118]) W17 he17 hg15 kG_ok1; rw [kG_1] at this; exact this
  have HWN : Hid (∀ W, Ext W17 W → Calls Tryz.prog 17 #[.slice none 0 0] W fun e w' => e = .returned (.bool true) ∧ Ext W w') := fun W e => serial_nil W (e.cell he17)
  have HNM : Hid (∀ W, Ext W17 W → Calls Tryz.prog 19 #[.pointer (some ⟨pb, 0, none⟩)] W fun e w' => ∃ p c, e = .returned (.slice p 0 c) ∧ Ext W w') := fun W e => by
    have := names_any σ5 1 pb mb bases3 kA W 1 (hm17.ext e) sound_kA
    refine this.mono fun e w' ⟨v, he, ho, hx⟩ => ?_
    rw [names_k] at ho
    obtain ⟨_, p, c, rfl, _⟩ := Sl.ofOwns ho
    exact ⟨p, c, he, hx⟩
  have HXW := Lib.hid hx17
  clear hw16 hw17 hg15 he17 hm17 hx17
  refine HW15.out.mono ?_
  rintro e w18 ⟨rfl, h18⟩
  have H18 := Lib.hid h18
  clear h18 HW15
  go_wp2_with fail
  refine (HW16.out _ H18.out).mono ?_
  rintro e w19 ⟨rfl, h19⟩
  have H19 := Lib.hid (Ext.step H18.out h19)
  clear h19 HW16 H18
  go_wp2_with fail
  refine (HW17.out _ H19.out).mono ?_
  rintro e w20 ⟨rfl, h20⟩
  have H20 := Lib.hid (Ext.step H19.out h20)
  clear h20 HW17 H19
  go_wp2_with fail
  refine (HWN.out _ H20.out).mono ?_
  rintro e w21 ⟨rfl, h21⟩
  have H21 := Lib.hid (Ext.step H20.out h21)
  clear h21 HWN H20
  go_wp2_with fail
  refine (HNM.out _ H21.out).mono ?_
  rintro e w22 ⟨np, nc, rfl, h22⟩
  have H22 := Lib.hid (Ext.step H21.out h22)
  clear h22 HNM H21
  go_wp2_with fail
  go_ret
  exact ⟨rfl, Ext.step HXW.out H22.out⟩
end Go.Proofs.YtmkhjmldncegcaaGreatDoor

