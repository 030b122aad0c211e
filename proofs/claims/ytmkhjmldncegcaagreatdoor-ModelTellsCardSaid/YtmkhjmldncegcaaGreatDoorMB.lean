/-
  WALKS: past.Model.put.
-/
import Derived.Test.YtmkhjmldncegcaaGreatDoorMA
import Derived.Deep.QuietTactic
import Derived.BigQuiet
import Derived.StillTailTactics
import Derived.BigRegion
import Derived.Deep.RegionHeld3
set_option linter.unusedVariables false
set_option linter.unusedSimpArgs false
namespace Go.Proofs.YtmkhjmldncegcaaGreatDoor
open Go.RowKit Go.Maps Go.ChangeMaps Go.MapKept

theorem find_ok {A : ModA} {db : S} (hmain : (mget ([] : S) A.l).isSome = true) (h0 : (findA A db).2 = 0) : ∃ B, findA A db = (some B, 0) ∧ mget db A.l = some B := by
  unfold findA at h0 ⊢
  by_cases h1 : db = []
  · subst h1
    rw [if_pos rfl]
    obtain ⟨B, hB⟩ := Option.isSome_iff_exists.1 hmain
    exact ⟨B, by rw [hB], hB⟩
  · rw [if_neg h1] at h0 ⊢
    by_cases h2 : shortB db = false
    · rw [if_pos h2] at h0; exact absurd h0 (by decide)
    · rw [if_neg h2] at h0 ⊢
      by_cases h3 : (mget db (mainA A).m).isSome = true
      · rw [if_pos h3] at h0; exact absurd h0 (by decide)
      · rw [if_neg h3] at h0 ⊢
        by_cases h4 : (mget db A.l).isNone = true
        · rw [if_pos h4] at h0; exact absurd h0 (by decide)
        · rw [if_neg h4]
          cases hB : mget db A.l with
          | none => rw [hB] at h4; exact absurd rfl h4
          | some B => exact ⟨B, rfl, rfl⟩

theorem vals_codes {A : ModA} {op : OpA} {B : BaseA} (hf : findA A op.db = (some B, 0)) : (valuesA A op).2.2 = 0 ∨ (valuesA A op).2.2 = 21 ∨ (valuesA A op).2.2 = 22 ∨ (valuesA A op).2.2 = 23 := by
  unfold valuesA
  rw [hf, if_neg (by simp)]
  split
  · simp
  · split
    · simp
    · split <;> simp

/-- What every walk over a model leans on. -/
structure Sound (A : ModA) (m : Nat) : Prop where
  main : (mget ([] : S) A.l).isSome = true
  names : A.l.length ≤ 5
  db : A.db.length ≤ maxLen
  keys : ∀ n B, (n, B) ∈ A.l → B.m.length ≤ m
  vals : ∀ n B, (n, B) ∈ A.l → ∀ p ∈ B.m, p.2 ≠ [] ∧ p.2.length ≤ 12

theorem put_err1 {A : ModA} {op : OpA} (h : (findA A op.db).2 ≠ 0) : putA A op = (A, (findA A op.db).2) := by unfold putA; rw [if_pos h]

set_option maxHeartbeats 1000000 in
theorem put_err (σ : Sig) (i pb mb : Nat) (bases : List (S × Value)) (A : ModA) (op : OpA) (w : World) (hM : ModIs w σ i pb mb bases A) (hmain : (mget ([] : S) A.l).isSome = true) (hdb : op.db.length ≤ maxLen) (he : (findA A op.db).2 ≠ 0) :
    Calls Tryz.prog 43 #[.pointer (some ⟨pb, 0, none⟩), opV op] w fun e w' => e = .returned (errV (findA A op.db).2) ∧ Ext w w' := by
  have HC : Hid (∀ o, Calls Tryz.prog 77 #[.pointer (some ⟨pb, 0, none⟩), encStr op.db] (w.alloc o) fun e w' => e = .returned (.tuple #[.pointer none, .iface 71 (.int .i64 (findA A op.db).2)]) ∧ w' = w.alloc o) := fun o => by
    have h := find_any σ i pb mb bases A op.db (w.alloc o) (hM.ext ((Ext.rfl' w).alloc o)) hmain hdb
    unfold findV at h
    rw [find_err he, errV_ne he] at h
    exact h
  have HE := Lib.hid (errV_ne he)
  clear hM hmain he
  unfold opV opCells
  go_enter Tryz.func43, Tryz.ntmps43
  go_wp2_with (first | (go_at_call 77; refine (HC.out _).mono ?_; rintro e w' ⟨rfl, rfl⟩) | fail)
  go_ret
  exact ⟨by rw [HE.out]; rfl, (Ext.rfl' w).alloc _⟩

/-- The common ground of put's ways: the database is there. -/
theorem find_at {σ : Sig} {i pb mb : Nat} {bases : List (S × Value)} {A : ModA} {db : S} {w : World} (hM : ModIs w σ i pb mb bases A) (hmain : (mget ([] : S) A.l).isSome = true) (h0 : (findA A db).2 = 0) :
    ∃ B bb mb' rows, findA A db = (some B, 0) ∧ mget db A.l = some B ∧ mget db bases = some (.pointer (some ⟨bb, 0, none⟩)) ∧ BaseIs w σ i db bb mb' rows B := by
  obtain ⟨B, hf, hg⟩ := find_ok hmain h0
  obtain ⟨bv, hb, bb, mb', rows, rfl, hB⟩ := hM.2.2.2.2.get_some hg
  exact ⟨B, bb, mb', rows, hf, hg, hb, hB⟩
theorem find_call {σ : Sig} {i pb mb : Nat} {bases : List (S × Value)} {A : ModA} {db : S} {w : World} {B : BaseA} {bb : Nat} (hM : ModIs w σ i pb mb bases A) (hmain : (mget ([] : S) A.l).isSome = true) (hdb : db.length ≤ maxLen)
    (hf : findA A db = (some B, 0)) (hg : mget db bases = some (.pointer (some ⟨bb, 0, none⟩))) :
    ∀ o, Calls Tryz.prog 77 #[.pointer (some ⟨pb, 0, none⟩), encStr db] (w.alloc o) fun e w' => e = .returned (.tuple #[.pointer (some ⟨bb, 0, none⟩), .nilIface]) ∧ w' = w.alloc o := fun o => by
  have h := find_any σ i pb mb bases A db (w.alloc o) (hM.ext ((Ext.rfl' w).alloc o)) hmain hdb
  unfold findV at h
  rw [hf, hg] at h
  exact h
/-- The box of an op's fields. -/
theorem boxAt {w w' : World} {op : OpA} {t : TypeId} (h : Ext (w.alloc (.cells (opCells op) t (0, 0))) w') : w'.heap[w.heap.size]? = some (.cells (opCells op) t (0, 0)) := by
  rw [h.block _ (by simp)]; exact heap_new _ _

/-- Behind a store of a new row of one text at a key. -/
theorem put_new {σ : Sig} {i pb mb : Nat} {bases : List (S × Value)} {A : ModA} {w w1 w2 : World} {db key val : S} {bb mb' : Nat} {rows : List (S × Value)} {B : BaseA} (hn : Neat w σ) (hM : ModIs w σ i pb mb bases A) (hB : BaseIs w σ i db bb mb' rows B)
    (hg : mget db bases = some (.pointer (some ⟨bb, 0, none⟩))) (e1 : Ext w w1) (hM2 : MapOf w2 9 mb' (mput key (.slice (some ⟨w1.heap.size, 0, none⟩) 1 1) rows)) (ht : (w1.alloc (.cells #[encStr val] 9)).drew.mapTurned w2 mb') :
    ModIs w2 (lay σ w1.heap.size (i, .row db key)) i pb mb bases (setBase A db ⟨B.flags, mput key [val] B.m⟩) ∧ Moved σ i w (lay σ w1.heap.size (i, .row db key)) w2 := by
  have hlt : mb' < w.heap.size := hB.2.2.2.1.lt
  have hne : mb' ≠ w1.heap.size := by have := e1.size; omega
  have hs' : lay σ w1.heap.size (i, .row db key) mb' = (i, .vals db) := by rw [lay_other hne]; exact hB.2.2.1
  have k1 : Keep (fun l => l.1 = i ∧ l ≠ (i, .vals db) ∧ l ≠ (i, .row db key)) σ w (lay σ w1.heap.size (i, .row db key)) w2 := by
    refine ((Keep.ofExt e1 _ σ).trans e1.size (Keep.new (.cells #[encStr val] 9) (i, .row db key))).trans (by have := e1.size; simp; omega) ?_
    exact Keep.ofOnly ((Only.drew' (Only.refl mb' _)).trans (Only.ofMap ht)) (by rw [hs']; simp)
  have hrow : RowAt w2 (lay σ w1.heap.size (i, .row db key)) (i, .row db key) (.slice (some ⟨w1.heap.size, 0, none⟩) 1 1) [val] := by
    refine ⟨⟨rfl, .inr ⟨w1.heap.size, 1, #[encStr val], rfl, Nat.zero_le _, ?_, Nat.le_refl _, by unfold maxLen; omega, rfl, rfl⟩⟩, fun g hg => ?_⟩
    · rw [mapTurned_other ht (Ne.symm hne)]; exact heap_new w1 _
    · injection hg with hg; rw [← hg, lay_same]
  refine ⟨hM.rebase hg hB k1 hs' hM2 (Beside.put' (R := fun k v xs => RowAt w σ (i, .row db k) v xs) (R' := fun k v xs => RowAt w2 (lay σ w1.heap.size (i, .row db key)) (i, .row db k) v xs) (fun k a b hk h => RowAt.keep h k1 (by simp [hk])) hrow hB.2.2.2.2), ?_⟩
  have m1 : Moved σ i w (lay σ w1.heap.size (i, .row db key)) (w1.alloc (.cells #[encStr val] 9)).drew := ((Moved.ofExt hn e1 i).trans (Moved.new (hn.ext e1) _ _)).thenExt (Ext.drew' (Ext.rfl' _))
  exact m1.trans (Moved.ofMap m1.neat ht (by rw [hs']))

set_option maxHeartbeats 4000000 in
set_option maxRecDepth 100000 in
theorem put_size (σ : Sig) (i pb mb : Nat) (bases : List (S × Value)) (A : ModA) (op : OpA) (w : World) (hM : ModIs w σ i pb mb bases A) (hn : Neat w σ) (hmain : (mget ([] : S) A.l).isSome = true) (hdb : op.db.length ≤ maxLen) (hkey : op.key.length ≤ maxLen)
    (B : BaseA) (bb mb' : Nat) (rows : List (S × Value)) (hf : findA A op.db = (some B, 0)) (hg : mget op.db bases = some (.pointer (some ⟨bb, 0, none⟩))) (hB : BaseIs w σ i op.db bb mb' rows B) (hm : B.m.length ≤ 1000000)
    (hfl : B.flags = 0) (hv : 1000 < op.val.length) :
    Calls Tryz.prog 43 #[.pointer (some ⟨pb, 0, none⟩), opV op] w fun e w' => e = .returned (.iface 71 (.int .i64 22)) ∧ Ext w w' := by
  have HC := Lib.hid (find_call hM hmain hdb hf hg)
  have HV := Lib.hid fun o => values_ok σ i pb mb bases A op (w.alloc o) (hM.ext ((Ext.rfl' w).alloc o)) hmain hdb hkey B bb mb' rows hf hg (hB.ext ((Ext.rfl' w).alloc o))
  have HM := Lib.hid hM
  have HB := Lib.hid hB
  obtain ⟨g1, g2, g3, g4, g5⟩ := hB
  have hc0 := cellAt g2 0
  have hc1 := cellAt g2 1
  simp at hc0 hc1
  have HG := Lib.hid hg
  clear g1 g2 g3 g4 g5 hM hf hg
  rw [hfl] at hc0
  have HF := Lib.hid hfl
  clear hfl
  have d2 : decide ((1000 : Int) < (op.val.length : Int)) = true := by simp; omega
  clear hv
  have HC0 := Lib.hid hc0
  have HC1 := Lib.hid hc1
  have c0 := ((Ext.rfl' w).alloc (.cells (opCells op) 30 (0, 0))).cell hc0
  unfold opCells at c0
  clear hc0 hc1
  unfold opV opCells
  go_enter Tryz.func43, Tryz.ntmps43
  go_wp2_with (first | (go_at_call 77; refine (HC.out _).mono ?_; rintro e w' ⟨rfl, rfl⟩) | fail)
  go_ret
  exact ⟨rfl, (Ext.rfl' w).alloc _⟩

set_option maxHeartbeats 4000000 in
set_option maxRecDepth 100000 in
theorem put_plain21 (σ : Sig) (i pb mb : Nat) (bases : List (S × Value)) (A : ModA) (op : OpA) (w : World) (hM : ModIs w σ i pb mb bases A) (hn : Neat w σ) (hmain : (mget ([] : S) A.l).isSome = true) (hdb : op.db.length ≤ maxLen) (hkey : op.key.length ≤ maxLen)
    (B : BaseA) (bb mb' : Nat) (rows : List (S × Value)) (hf : findA A op.db = (some B, 0)) (hg : mget op.db bases = some (.pointer (some ⟨bb, 0, none⟩))) (hB : BaseIs w σ i op.db bb mb' rows B) (hm : B.m.length ≤ 1000000)
    (hfl : B.flags = 0) (hv : op.val.length ≤ 1000) (hc : (valuesA A op).2.2 = 21) :
    Calls Tryz.prog 43 #[.pointer (some ⟨pb, 0, none⟩), opV op] w fun e w' => e = .returned .nilIface ∧ ∃ σ', ModIs w' σ' i pb mb bases (setBase A op.db ⟨B.flags, mput op.key [op.val] B.m⟩) ∧ Moved σ i w σ' w' := by
  have HC := Lib.hid (find_call hM hmain hdb hf hg)
  have HV := Lib.hid fun o => values_ok σ i pb mb bases A op (w.alloc o) (hM.ext ((Ext.rfl' w).alloc o)) hmain hdb hkey B bb mb' rows hf hg (hB.ext ((Ext.rfl' w).alloc o))
  have HM := Lib.hid hM
  have HB := Lib.hid hB
  obtain ⟨g1, g2, g3, g4, g5⟩ := hB
  have hc0 := cellAt g2 0
  have hc1 := cellAt g2 1
  simp at hc0 hc1
  have HG := Lib.hid hg
  clear g1 g2 g3 g4 g5 hM hf hg
  rw [hfl] at hc0
  have HF := Lib.hid hfl
  clear hfl
  have d2 : decide ((1000 : Int) < (op.val.length : Int)) = false := by simp; omega
  clear hv
  rw [hc] at HV
  have HC0 := Lib.hid hc0
  have HC1 := Lib.hid hc1
  have c0 := ((Ext.rfl' w).alloc (.cells (opCells op) 30 (0, 0))).cell hc0
  unfold opCells at c0
  clear hc0 hc1
  unfold opV opCells
  go_enter Tryz.func43, Tryz.ntmps43
  go_wp2_with (first | (go_at_call 77; refine (HC.out _).mono ?_; rintro e w' ⟨rfl, rfl⟩) | fail)
  refine (HV.out _).mono ?_
  rintro e w1 ⟨bv, lv, rfl, hext, hv0, hv21⟩
  rw [errV_ne (by decide)]
  have hbox := boxAt hext
  have b2 := cellAt hbox 2
  have b3 := cellAt hbox 3
  have b4 := cellAt hbox 4
  simp [opCells] at b2 b3 b4
  have c0' := hext.cell (((Ext.rfl' w).alloc (.cells (opCells op) 30 (0, 0))).cell HC0.out)
  have c1' := hext.cell (((Ext.rfl' w).alloc (.cells (opCells op) 30 (0, 0))).cell HC1.out)
  have HX := Lib.hid hext
  have HV0 := Lib.hid hv0
  have HV21 := Lib.hid hv21
  clear hext hbox c0 hv0 hv21
  have E1 := run_eql_errno
  have E2 := run_neq_errno
  have E3 := run_eql_nil_errno
  have E4 := run_neq_nil_errno
  go_wp2_with fail
  obtain ⟨w2, hr, hM2, ht2⟩ := (((HB.out.2.2.2.1.ext ((Ext.rfl' w).alloc _)).ext HX.out).ext ((Ext.drew' ((Ext.rfl' w1).alloc (.cells #[encStr op.val] 9))))).store (t := 56) (e := 53) keyedS Tryz.underlying56 (by have := HB.out.2.2.2.2.length; unfold maxLen; omega) (keyS hkey) (.slice (some ⟨w1.heap.size, 0, none⟩) 1 1)
  have HM2 := Lib.hid hM2
  have HT2 := Lib.hid ht2
  clear hM2 ht2
  have b2' := ((Ext.rfl' w1).alloc (.cells #[encStr op.val] 9)).cell b2
  have c1'' := ((Ext.rfl' w1).alloc (.cells #[encStr op.val] 9)).cell c1'
  go_region
  go_wp2
  go_ret
  refine ⟨rfl, lay σ w1.heap.size (i, .row op.db op.key), ?_⟩
  exact put_new hn HM.out HB.out HG.out (Ext.step ((Ext.rfl' w).alloc _) HX.out) HM2.out HT2.out

set_option maxHeartbeats 4000000 in
set_option maxRecDepth 100000 in
theorem put_plain0 (σ : Sig) (i pb mb : Nat) (bases : List (S × Value)) (A : ModA) (op : OpA) (w : World) (hM : ModIs w σ i pb mb bases A) (hn : Neat w σ) (hmain : (mget ([] : S) A.l).isSome = true) (hdb : op.db.length ≤ maxLen) (hkey : op.key.length ≤ maxLen)
    (B : BaseA) (bb mb' : Nat) (rows : List (S × Value)) (hf : findA A op.db = (some B, 0)) (hg : mget op.db bases = some (.pointer (some ⟨bb, 0, none⟩))) (hB : BaseIs w σ i op.db bb mb' rows B) (hm : B.m.length ≤ 1000000)
    (hfl : B.flags = 0) (hv : op.val.length ≤ 1000) (hc : (valuesA A op).2.2 = 0) (ha : andB op.flags 1 = false) :
    Calls Tryz.prog 43 #[.pointer (some ⟨pb, 0, none⟩), opV op] w fun e w' => e = .returned .nilIface ∧ ∃ σ', ModIs w' σ' i pb mb bases (setBase A op.db ⟨B.flags, mput op.key [op.val] B.m⟩) ∧ Moved σ i w σ' w' := by
  have HC := Lib.hid (find_call hM hmain hdb hf hg)
  have HV := Lib.hid fun o => values_ok σ i pb mb bases A op (w.alloc o) (hM.ext ((Ext.rfl' w).alloc o)) hmain hdb hkey B bb mb' rows hf hg (hB.ext ((Ext.rfl' w).alloc o))
  have HM := Lib.hid hM
  have HB := Lib.hid hB
  obtain ⟨g1, g2, g3, g4, g5⟩ := hB
  have hc0 := cellAt g2 0
  have hc1 := cellAt g2 1
  simp at hc0 hc1
  have HG := Lib.hid hg
  clear g1 g2 g3 g4 g5 hM hf hg
  rw [hfl] at hc0
  have HF := Lib.hid hfl
  clear hfl
  have d2 : decide ((1000 : Int) < (op.val.length : Int)) = false := by simp; omega
  clear hv
  rw [hc] at HV
  unfold andB at ha
  have HC0 := Lib.hid hc0
  have HC1 := Lib.hid hc1
  have c0 := ((Ext.rfl' w).alloc (.cells (opCells op) 30 (0, 0))).cell hc0
  unfold opCells at c0
  clear hc0 hc1
  unfold opV opCells
  go_enter Tryz.func43, Tryz.ntmps43
  go_wp2_with (first | (go_at_call 77; refine (HC.out _).mono ?_; rintro e w' ⟨rfl, rfl⟩) | fail)
  refine (HV.out _).mono ?_
  rintro e w1 ⟨bv, lv, rfl, hext, hv0, hv21⟩
  rw [errV_0]
  have hbox := boxAt hext
  have b2 := cellAt hbox 2
  have b3 := cellAt hbox 3
  have b4 := cellAt hbox 4
  simp [opCells] at b2 b3 b4
  have c0' := hext.cell (((Ext.rfl' w).alloc (.cells (opCells op) 30 (0, 0))).cell HC0.out)
  have c1' := hext.cell (((Ext.rfl' w).alloc (.cells (opCells op) 30 (0, 0))).cell HC1.out)
  have HX := Lib.hid hext
  have HV0 := Lib.hid hv0
  have HV21 := Lib.hid hv21
  clear hext hbox c0 hv0 hv21
  have E1 := run_eql_errno
  have E2 := run_neq_errno
  have E3 := run_eql_nil_errno
  have E4 := run_neq_nil_errno
  go_wp2_with fail
  obtain ⟨w2, hr, hM2, ht2⟩ := (((HB.out.2.2.2.1.ext ((Ext.rfl' w).alloc _)).ext HX.out).ext ((Ext.drew' ((Ext.rfl' w1).alloc (.cells #[encStr op.val] 9))))).store (t := 56) (e := 53) keyedS Tryz.underlying56 (by have := HB.out.2.2.2.2.length; unfold maxLen; omega) (keyS hkey) (.slice (some ⟨w1.heap.size, 0, none⟩) 1 1)
  have HM2 := Lib.hid hM2
  have HT2 := Lib.hid ht2
  clear hM2 ht2
  have b2' := ((Ext.rfl' w1).alloc (.cells #[encStr op.val] 9)).cell b2
  have c1'' := ((Ext.rfl' w1).alloc (.cells #[encStr op.val] 9)).cell c1'
  go_region
  go_wp2
  go_ret
  refine ⟨rfl, lay σ w1.heap.size (i, .row op.db op.key), ?_⟩
  exact put_new hn HM.out HB.out HG.out (Ext.step ((Ext.rfl' w).alloc _) HX.out) HM2.out HT2.out

set_option maxHeartbeats 4000000 in
set_option maxRecDepth 100000 in
theorem put_vals22 (σ : Sig) (i pb mb : Nat) (bases : List (S × Value)) (A : ModA) (op : OpA) (w : World) (hM : ModIs w σ i pb mb bases A) (hn : Neat w σ) (hmain : (mget ([] : S) A.l).isSome = true) (hdb : op.db.length ≤ maxLen) (hkey : op.key.length ≤ maxLen)
    (B : BaseA) (bb mb' : Nat) (rows : List (S × Value)) (hf : findA A op.db = (some B, 0)) (hg : mget op.db bases = some (.pointer (some ⟨bb, 0, none⟩))) (hB : BaseIs w σ i op.db bb mb' rows B) (hm : B.m.length ≤ 1000000)
    (hfl : B.flags = 0) (hv : op.val.length ≤ 1000) (hc : (valuesA A op).2.2 = 22) :
    Calls Tryz.prog 43 #[.pointer (some ⟨pb, 0, none⟩), opV op] w fun e w' => e = .returned (.iface 71 (.int .i64 22)) ∧ Ext w w' := by
  have HC := Lib.hid (find_call hM hmain hdb hf hg)
  have HV := Lib.hid fun o => values_ok σ i pb mb bases A op (w.alloc o) (hM.ext ((Ext.rfl' w).alloc o)) hmain hdb hkey B bb mb' rows hf hg (hB.ext ((Ext.rfl' w).alloc o))
  have HM := Lib.hid hM
  have HB := Lib.hid hB
  obtain ⟨g1, g2, g3, g4, g5⟩ := hB
  have hc0 := cellAt g2 0
  have hc1 := cellAt g2 1
  simp at hc0 hc1
  have HG := Lib.hid hg
  clear g1 g2 g3 g4 g5 hM hf hg
  rw [hfl] at hc0
  have HF := Lib.hid hfl
  clear hfl
  have d2 : decide ((1000 : Int) < (op.val.length : Int)) = false := by simp; omega
  clear hv
  rw [hc] at HV
  have HC0 := Lib.hid hc0
  have HC1 := Lib.hid hc1
  have c0 := ((Ext.rfl' w).alloc (.cells (opCells op) 30 (0, 0))).cell hc0
  unfold opCells at c0
  clear hc0 hc1
  unfold opV opCells
  go_enter Tryz.func43, Tryz.ntmps43
  go_wp2_with (first | (go_at_call 77; refine (HC.out _).mono ?_; rintro e w' ⟨rfl, rfl⟩) | fail)
  refine (HV.out _).mono ?_
  rintro e w1 ⟨bv, lv, rfl, hext, hv0, hv21⟩
  rw [errV_ne (by decide)]
  have hbox := boxAt hext
  have b2 := cellAt hbox 2
  have b3 := cellAt hbox 3
  have b4 := cellAt hbox 4
  simp [opCells] at b2 b3 b4
  have c0' := hext.cell (((Ext.rfl' w).alloc (.cells (opCells op) 30 (0, 0))).cell HC0.out)
  have c1' := hext.cell (((Ext.rfl' w).alloc (.cells (opCells op) 30 (0, 0))).cell HC1.out)
  have HX := Lib.hid hext
  have HV0 := Lib.hid hv0
  have HV21 := Lib.hid hv21
  clear hext hbox c0 hv0 hv21
  have E1 := run_eql_errno
  have E2 := run_neq_errno
  have E3 := run_eql_nil_errno
  have E4 := run_neq_nil_errno
  go_wp2_with fail
  go_ret
  exact ⟨rfl, Ext.step ((Ext.rfl' w).alloc _) HX.out⟩

set_option maxHeartbeats 4000000 in
set_option maxRecDepth 100000 in
theorem put_valsd22 (σ : Sig) (i pb mb : Nat) (bases : List (S × Value)) (A : ModA) (op : OpA) (w : World) (hM : ModIs w σ i pb mb bases A) (hn : Neat w σ) (hmain : (mget ([] : S) A.l).isSome = true) (hdb : op.db.length ≤ maxLen) (hkey : op.key.length ≤ maxLen)
    (B : BaseA) (bb mb' : Nat) (rows : List (S × Value)) (hf : findA A op.db = (some B, 0)) (hg : mget op.db bases = some (.pointer (some ⟨bb, 0, none⟩))) (hB : BaseIs w σ i op.db bb mb' rows B) (hm : B.m.length ≤ 1000000)
    (hfl : B.flags ≠ 0) (hc : (valuesA A op).2.2 = 22) :
    Calls Tryz.prog 43 #[.pointer (some ⟨pb, 0, none⟩), opV op] w fun e w' => e = .returned (.iface 71 (.int .i64 22)) ∧ Ext w w' := by
  have HC := Lib.hid (find_call hM hmain hdb hf hg)
  have HV := Lib.hid fun o => values_ok σ i pb mb bases A op (w.alloc o) (hM.ext ((Ext.rfl' w).alloc o)) hmain hdb hkey B bb mb' rows hf hg (hB.ext ((Ext.rfl' w).alloc o))
  have HM := Lib.hid hM
  have HB := Lib.hid hB
  obtain ⟨g1, g2, g3, g4, g5⟩ := hB
  have hc0 := cellAt g2 0
  have hc1 := cellAt g2 1
  simp at hc0 hc1
  have HG := Lib.hid hg
  clear g1 g2 g3 g4 g5 hM hf hg
  have hfl' : (B.flags == 0) = false := by simpa using hfl
  have HF := Lib.hid hfl
  clear hfl
  rw [hc] at HV
  have HC0 := Lib.hid hc0
  have HC1 := Lib.hid hc1
  have c0 := ((Ext.rfl' w).alloc (.cells (opCells op) 30 (0, 0))).cell hc0
  unfold opCells at c0
  clear hc0 hc1
  unfold opV opCells
  go_enter Tryz.func43, Tryz.ntmps43
  go_wp2_with (first | (go_at_call 77; refine (HC.out _).mono ?_; rintro e w' ⟨rfl, rfl⟩) | fail)
  refine (HV.out _).mono ?_
  rintro e w1 ⟨bv, lv, rfl, hext, hv0, hv21⟩
  rw [errV_ne (by decide)]
  have hbox := boxAt hext
  have b2 := cellAt hbox 2
  have b3 := cellAt hbox 3
  have b4 := cellAt hbox 4
  simp [opCells] at b2 b3 b4
  have c0' := hext.cell (((Ext.rfl' w).alloc (.cells (opCells op) 30 (0, 0))).cell HC0.out)
  have c1' := hext.cell (((Ext.rfl' w).alloc (.cells (opCells op) 30 (0, 0))).cell HC1.out)
  have HX := Lib.hid hext
  have HV0 := Lib.hid hv0
  have HV21 := Lib.hid hv21
  clear hext hbox c0 hv0 hv21
  have E1 := run_eql_errno
  have E2 := run_neq_errno
  have E3 := run_eql_nil_errno
  have E4 := run_neq_nil_errno
  go_wp2_with fail
  go_ret
  exact ⟨rfl, Ext.step ((Ext.rfl' w).alloc _) HX.out⟩

set_option maxHeartbeats 4000000 in
set_option maxRecDepth 100000 in
theorem put_vals23 (σ : Sig) (i pb mb : Nat) (bases : List (S × Value)) (A : ModA) (op : OpA) (w : World) (hM : ModIs w σ i pb mb bases A) (hn : Neat w σ) (hmain : (mget ([] : S) A.l).isSome = true) (hdb : op.db.length ≤ maxLen) (hkey : op.key.length ≤ maxLen)
    (B : BaseA) (bb mb' : Nat) (rows : List (S × Value)) (hf : findA A op.db = (some B, 0)) (hg : mget op.db bases = some (.pointer (some ⟨bb, 0, none⟩))) (hB : BaseIs w σ i op.db bb mb' rows B) (hm : B.m.length ≤ 1000000)
    (hfl : B.flags = 0) (hv : op.val.length ≤ 1000) (hc : (valuesA A op).2.2 = 23) :
    Calls Tryz.prog 43 #[.pointer (some ⟨pb, 0, none⟩), opV op] w fun e w' => e = .returned (.iface 71 (.int .i64 23)) ∧ Ext w w' := by
  have HC := Lib.hid (find_call hM hmain hdb hf hg)
  have HV := Lib.hid fun o => values_ok σ i pb mb bases A op (w.alloc o) (hM.ext ((Ext.rfl' w).alloc o)) hmain hdb hkey B bb mb' rows hf hg (hB.ext ((Ext.rfl' w).alloc o))
  have HM := Lib.hid hM
  have HB := Lib.hid hB
  obtain ⟨g1, g2, g3, g4, g5⟩ := hB
  have hc0 := cellAt g2 0
  have hc1 := cellAt g2 1
  simp at hc0 hc1
  have HG := Lib.hid hg
  clear g1 g2 g3 g4 g5 hM hf hg
  rw [hfl] at hc0
  have HF := Lib.hid hfl
  clear hfl
  have d2 : decide ((1000 : Int) < (op.val.length : Int)) = false := by simp; omega
  clear hv
  rw [hc] at HV
  have HC0 := Lib.hid hc0
  have HC1 := Lib.hid hc1
  have c0 := ((Ext.rfl' w).alloc (.cells (opCells op) 30 (0, 0))).cell hc0
  unfold opCells at c0
  clear hc0 hc1
  unfold opV opCells
  go_enter Tryz.func43, Tryz.ntmps43
  go_wp2_with (first | (go_at_call 77; refine (HC.out _).mono ?_; rintro e w' ⟨rfl, rfl⟩) | fail)
  refine (HV.out _).mono ?_
  rintro e w1 ⟨bv, lv, rfl, hext, hv0, hv21⟩
  rw [errV_ne (by decide)]
  have hbox := boxAt hext
  have b2 := cellAt hbox 2
  have b3 := cellAt hbox 3
  have b4 := cellAt hbox 4
  simp [opCells] at b2 b3 b4
  have c0' := hext.cell (((Ext.rfl' w).alloc (.cells (opCells op) 30 (0, 0))).cell HC0.out)
  have c1' := hext.cell (((Ext.rfl' w).alloc (.cells (opCells op) 30 (0, 0))).cell HC1.out)
  have HX := Lib.hid hext
  have HV0 := Lib.hid hv0
  have HV21 := Lib.hid hv21
  clear hext hbox c0 hv0 hv21
  have E1 := run_eql_errno
  have E2 := run_neq_errno
  have E3 := run_eql_nil_errno
  have E4 := run_neq_nil_errno
  go_wp2_with fail
  go_ret
  exact ⟨rfl, Ext.step ((Ext.rfl' w).alloc _) HX.out⟩

set_option maxHeartbeats 4000000 in
set_option maxRecDepth 100000 in
theorem put_valsd23 (σ : Sig) (i pb mb : Nat) (bases : List (S × Value)) (A : ModA) (op : OpA) (w : World) (hM : ModIs w σ i pb mb bases A) (hn : Neat w σ) (hmain : (mget ([] : S) A.l).isSome = true) (hdb : op.db.length ≤ maxLen) (hkey : op.key.length ≤ maxLen)
    (B : BaseA) (bb mb' : Nat) (rows : List (S × Value)) (hf : findA A op.db = (some B, 0)) (hg : mget op.db bases = some (.pointer (some ⟨bb, 0, none⟩))) (hB : BaseIs w σ i op.db bb mb' rows B) (hm : B.m.length ≤ 1000000)
    (hfl : B.flags ≠ 0) (hc : (valuesA A op).2.2 = 23) :
    Calls Tryz.prog 43 #[.pointer (some ⟨pb, 0, none⟩), opV op] w fun e w' => e = .returned (.iface 71 (.int .i64 23)) ∧ Ext w w' := by
  have HC := Lib.hid (find_call hM hmain hdb hf hg)
  have HV := Lib.hid fun o => values_ok σ i pb mb bases A op (w.alloc o) (hM.ext ((Ext.rfl' w).alloc o)) hmain hdb hkey B bb mb' rows hf hg (hB.ext ((Ext.rfl' w).alloc o))
  have HM := Lib.hid hM
  have HB := Lib.hid hB
  obtain ⟨g1, g2, g3, g4, g5⟩ := hB
  have hc0 := cellAt g2 0
  have hc1 := cellAt g2 1
  simp at hc0 hc1
  have HG := Lib.hid hg
  clear g1 g2 g3 g4 g5 hM hf hg
  have hfl' : (B.flags == 0) = false := by simpa using hfl
  have HF := Lib.hid hfl
  clear hfl
  rw [hc] at HV
  have HC0 := Lib.hid hc0
  have HC1 := Lib.hid hc1
  have c0 := ((Ext.rfl' w).alloc (.cells (opCells op) 30 (0, 0))).cell hc0
  unfold opCells at c0
  clear hc0 hc1
  unfold opV opCells
  go_enter Tryz.func43, Tryz.ntmps43
  go_wp2_with (first | (go_at_call 77; refine (HC.out _).mono ?_; rintro e w' ⟨rfl, rfl⟩) | fail)
  refine (HV.out _).mono ?_
  rintro e w1 ⟨bv, lv, rfl, hext, hv0, hv21⟩
  rw [errV_ne (by decide)]
  have hbox := boxAt hext
  have b2 := cellAt hbox 2
  have b3 := cellAt hbox 3
  have b4 := cellAt hbox 4
  simp [opCells] at b2 b3 b4
  have c0' := hext.cell (((Ext.rfl' w).alloc (.cells (opCells op) 30 (0, 0))).cell HC0.out)
  have c1' := hext.cell (((Ext.rfl' w).alloc (.cells (opCells op) 30 (0, 0))).cell HC1.out)
  have HX := Lib.hid hext
  have HV0 := Lib.hid hv0
  have HV21 := Lib.hid hv21
  clear hext hbox c0 hv0 hv21
  have E1 := run_eql_errno
  have E2 := run_neq_errno
  have E3 := run_eql_nil_errno
  have E4 := run_neq_nil_errno
  go_wp2_with fail
  go_ret
  exact ⟨rfl, Ext.step ((Ext.rfl' w).alloc _) HX.out⟩

set_option maxHeartbeats 4000000 in
set_option maxRecDepth 100000 in
theorem put_over (σ : Sig) (i pb mb : Nat) (bases : List (S × Value)) (A : ModA) (op : OpA) (w : World) (hM : ModIs w σ i pb mb bases A) (hn : Neat w σ) (hmain : (mget ([] : S) A.l).isSome = true) (hdb : op.db.length ≤ maxLen) (hkey : op.key.length ≤ maxLen)
    (B : BaseA) (bb mb' : Nat) (rows : List (S × Value)) (hf : findA A op.db = (some B, 0)) (hg : mget op.db bases = some (.pointer (some ⟨bb, 0, none⟩))) (hB : BaseIs w σ i op.db bb mb' rows B) (hm : B.m.length ≤ 1000000)
    (hfl : B.flags = 0) (hv : op.val.length ≤ 1000) (hc : (valuesA A op).2.2 = 0) (ha : andB op.flags 1 = true) :
    Calls Tryz.prog 43 #[.pointer (some ⟨pb, 0, none⟩), opV op] w fun e w' => e = .returned (.iface 71 (.int .i64 20)) ∧ Ext w w' := by
  have HC := Lib.hid (find_call hM hmain hdb hf hg)
  have HV := Lib.hid fun o => values_ok σ i pb mb bases A op (w.alloc o) (hM.ext ((Ext.rfl' w).alloc o)) hmain hdb hkey B bb mb' rows hf hg (hB.ext ((Ext.rfl' w).alloc o))
  have HM := Lib.hid hM
  have HB := Lib.hid hB
  obtain ⟨g1, g2, g3, g4, g5⟩ := hB
  have hc0 := cellAt g2 0
  have hc1 := cellAt g2 1
  simp at hc0 hc1
  have HG := Lib.hid hg
  clear g1 g2 g3 g4 g5 hM hf hg
  rw [hfl] at hc0
  have HF := Lib.hid hfl
  clear hfl
  have d2 : decide ((1000 : Int) < (op.val.length : Int)) = false := by simp; omega
  clear hv
  rw [hc] at HV
  unfold andB at ha
  have HC0 := Lib.hid hc0
  have HC1 := Lib.hid hc1
  have c0 := ((Ext.rfl' w).alloc (.cells (opCells op) 30 (0, 0))).cell hc0
  unfold opCells at c0
  clear hc0 hc1
  unfold opV opCells
  go_enter Tryz.func43, Tryz.ntmps43
  go_wp2_with (first | (go_at_call 77; refine (HC.out _).mono ?_; rintro e w' ⟨rfl, rfl⟩) | fail)
  refine (HV.out _).mono ?_
  rintro e w1 ⟨bv, lv, rfl, hext, hv0, hv21⟩
  rw [errV_0]
  have hbox := boxAt hext
  have b2 := cellAt hbox 2
  have b3 := cellAt hbox 3
  have b4 := cellAt hbox 4
  simp [opCells] at b2 b3 b4
  have c0' := hext.cell (((Ext.rfl' w).alloc (.cells (opCells op) 30 (0, 0))).cell HC0.out)
  have c1' := hext.cell (((Ext.rfl' w).alloc (.cells (opCells op) 30 (0, 0))).cell HC1.out)
  have HX := Lib.hid hext
  have HV0 := Lib.hid hv0
  have HV21 := Lib.hid hv21
  clear hext hbox c0 hv0 hv21
  have E1 := run_eql_errno
  have E2 := run_neq_errno
  have E3 := run_eql_nil_errno
  have E4 := run_neq_nil_errno
  go_wp2_with fail
  go_ret
  exact ⟨rfl, Ext.step ((Ext.rfl' w).alloc _) HX.out⟩

set_option maxHeartbeats 4000000 in
set_option maxRecDepth 100000 in
theorem put_overd (σ : Sig) (i pb mb : Nat) (bases : List (S × Value)) (A : ModA) (op : OpA) (w : World) (hM : ModIs w σ i pb mb bases A) (hn : Neat w σ) (hmain : (mget ([] : S) A.l).isSome = true) (hdb : op.db.length ≤ maxLen) (hkey : op.key.length ≤ maxLen)
    (B : BaseA) (bb mb' : Nat) (rows : List (S × Value)) (hf : findA A op.db = (some B, 0)) (hg : mget op.db bases = some (.pointer (some ⟨bb, 0, none⟩))) (hB : BaseIs w σ i op.db bb mb' rows B) (hm : B.m.length ≤ 1000000)
    (hfl : B.flags ≠ 0) (hc : (valuesA A op).2.2 = 0) (ha : andB op.flags 1 = true) :
    Calls Tryz.prog 43 #[.pointer (some ⟨pb, 0, none⟩), opV op] w fun e w' => e = .returned (.iface 71 (.int .i64 20)) ∧ Ext w w' := by
  have HC := Lib.hid (find_call hM hmain hdb hf hg)
  have HV := Lib.hid fun o => values_ok σ i pb mb bases A op (w.alloc o) (hM.ext ((Ext.rfl' w).alloc o)) hmain hdb hkey B bb mb' rows hf hg (hB.ext ((Ext.rfl' w).alloc o))
  have HM := Lib.hid hM
  have HB := Lib.hid hB
  obtain ⟨g1, g2, g3, g4, g5⟩ := hB
  have hc0 := cellAt g2 0
  have hc1 := cellAt g2 1
  simp at hc0 hc1
  have HG := Lib.hid hg
  clear g1 g2 g3 g4 g5 hM hf hg
  have hfl' : (B.flags == 0) = false := by simpa using hfl
  have HF := Lib.hid hfl
  clear hfl
  rw [hc] at HV
  unfold andB at ha
  have HC0 := Lib.hid hc0
  have HC1 := Lib.hid hc1
  have c0 := ((Ext.rfl' w).alloc (.cells (opCells op) 30 (0, 0))).cell hc0
  unfold opCells at c0
  clear hc0 hc1
  unfold opV opCells
  go_enter Tryz.func43, Tryz.ntmps43
  go_wp2_with (first | (go_at_call 77; refine (HC.out _).mono ?_; rintro e w' ⟨rfl, rfl⟩) | fail)
  refine (HV.out _).mono ?_
  rintro e w1 ⟨bv, lv, rfl, hext, hv0, hv21⟩
  rw [errV_0]
  have hbox := boxAt hext
  have b2 := cellAt hbox 2
  have b3 := cellAt hbox 3
  have b4 := cellAt hbox 4
  simp [opCells] at b2 b3 b4
  have c0' := hext.cell (((Ext.rfl' w).alloc (.cells (opCells op) 30 (0, 0))).cell HC0.out)
  have c1' := hext.cell (((Ext.rfl' w).alloc (.cells (opCells op) 30 (0, 0))).cell HC1.out)
  have HX := Lib.hid hext
  have HV0 := Lib.hid hv0
  have HV21 := Lib.hid hv21
  clear hext hbox c0 hv0 hv21
  have E1 := run_eql_errno
  have E2 := run_neq_errno
  have E3 := run_eql_nil_errno
  have E4 := run_neq_nil_errno
  go_wp2_with fail
  go_ret
  exact ⟨rfl, Ext.step ((Ext.rfl' w).alloc _) HX.out⟩

end Go.Proofs.YtmkhjmldncegcaaGreatDoor

/-
  WALKS: past.Model.put at a database of many values.
-/
set_option linter.unusedVariables false
set_option linter.unusedSimpArgs false
namespace Go.Proofs.YtmkhjmldncegcaaGreatDoor
open Go.RowKit Go.Maps Go.ChangeMaps Go.MapKept

/-- Behind an insertion into a row, stored at its key. -/
theorem put_ins {σ : Sig} {i pb mb : Nat} {bases : List (S × Value)} {A : ModA} {w W3 w4 w5 : World} {db key : S} {bb mb' : Nat} {rows : List (S × Value)} {B : BaseA} {lv v' : Value} {ys : List S} (hn : Neat w σ) (hM : ModIs w σ i pb mb bases A) (hB : BaseIs w σ i db bb mb' rows B)
    (hg : mget db bases = some (.pointer (some ⟨bb, 0, none⟩))) (e3 : Ext w W3) (hl : ∀ g, lv.ownBlock = some g → g < w.heap.size ∧ σ g = (i, .row db key)) (hown : w4.ownsRow 0 9 1 v' ys.length (ys.map encStr)) (hgrow : W3.grownBy w4 lv.ownBlock)
    (hat : v'.ownBlock = lv.ownBlock ∨ v'.ownBlock = some W3.heap.size) (hM5 : MapOf w5 9 mb' (mput key v' rows)) (ht : w4.mapTurned w5 mb') :
    ∃ σ', ModIs w5 σ' i pb mb bases (setBase A db ⟨B.flags, mput key ys B.m⟩) ∧ Moved σ i w σ' w5 := by
  have hlt : mb' < w.heap.size := hB.2.2.2.1.lt
  have hmb := hB.2.2.1
  have s4 := hgrow.size
  have s5 := mapTurned_size ht
  have s3 := e3.size
  have hblk : ∀ k, k < w.heap.size → k ≠ mb' → lv.ownBlock ≠ some k → w5.heap[k]? = w.heap[k]? := fun k hk h1 h2 => by
    rw [mapTurned_other ht h1, hgrow.block k (by omega) (Ne.symm h2)]
    exact e3.block k hk
  -- the row's label, whichever block it has
  obtain ⟨σ', hse, hne', hrl⟩ : ∃ σ', SigExt w σ σ' ∧ Neat w5 σ' ∧ ∀ g, v'.ownBlock = some g → σ' g = (i, .row db key) := by
    rcases hat with hat | hat
    · exact ⟨σ, fun _ _ => rfl, fun k hk => hn k (by omega), fun g e => (hl g (by rw [← hat]; exact e)).2⟩
    · refine ⟨lay σ W3.heap.size (i, .row db key), fun k hk => lay_other (by omega), fun k hk => ?_, fun g e => by rw [hat] at e; injection e with e; rw [← e, lay_same]⟩
      have : W3.heap.size < w5.heap.size := by
        have := (hown.lt _ hat).2; omega
      rw [lay_other (by omega)]; exact hn k (by omega)
  have k1 : Keep (fun l => l.1 = i ∧ l ≠ (i, .vals db) ∧ l ≠ (i, .row db key)) σ w σ' w5 := fun k hk hp =>
    ⟨hblk k hk (fun e => hp.2.1 (by rw [e]; exact hmb)) (fun e => hp.2.2 (hl k e).2), hse k hk⟩
  have hs' : σ' mb' = (i, .vals db) := by rw [hse _ hlt]; exact hmb
  have hrow : RowAt w5 σ' (i, .row db key) v' ys := by
    refine ⟨⟨hown.1, ?_⟩, hrl⟩
    rcases hown.2 with h | ⟨g, cap, cur, rfl, h1, h2, r⟩
    · exact .inl h
    · refine .inr ⟨g, cap, cur, rfl, h1, ?_, r⟩
      rw [mapTurned_other ht ?_]
      · exact h2
      · intro e
        have := hrl g rfl
        rw [e, hs'] at this
        cases this
  refine ⟨σ', hM.rebase hg hB k1 hs' hM5 (Beside.put' (R := fun k v xs => RowAt w σ (i, .row db k) v xs) (R' := fun k v xs => RowAt w5 σ' (i, .row db k) v xs) (fun k a b hk h => RowAt.keep h k1 (by simp [hk])) hrow hB.2.2.2.2), hse, hne', ?_, ?_, ?_, by omega, fun k hk hp => hblk k hk (fun e => hp (by rw [e, hmb])) (fun e => hp (by rw [(hl k e).2]))⟩
  · rw [(Only.ofMap ht).os, hgrow.os, e3.os]
  · rw [(Only.ofMap ht).tape, hgrow.tape, e3.tape]
  · rw [(Only.ofMap ht).output, hgrow.output, e3.output]

set_option maxHeartbeats 4000000 in
set_option maxRecDepth 100000 in
theorem dup_empty0 (σ : Sig) (i pb mb : Nat) (bases : List (S × Value)) (A : ModA) (op : OpA) (w : World) (hM : ModIs w σ i pb mb bases A) (hn : Neat w σ) (hmain : (mget ([] : S) A.l).isSome = true) (hdb : op.db.length ≤ maxLen) (hkey : op.key.length ≤ maxLen)
    (B : BaseA) (bb mb' : Nat) (rows : List (S × Value)) (hf : findA A op.db = (some B, 0)) (hg : mget op.db bases = some (.pointer (some ⟨bb, 0, none⟩))) (hB : BaseIs w σ i op.db bb mb' rows B) (hm : B.m.length ≤ 1000000)
    (hfl : B.flags ≠ 0) (hc : (valuesA A op).2.2 = 0) (ha : andB op.flags 1 = false) (hlen : (valuesA A op).2.1.length ≤ 12) (hv : op.val = []) :
    Calls Tryz.prog 43 #[.pointer (some ⟨pb, 0, none⟩), opV op] w fun e w' => e = .returned (.iface 71 (.int .i64 22)) ∧ Ext w w' := by
  have HC := Lib.hid (find_call hM hmain hdb hf hg)
  have HV := Lib.hid fun o => values_ok σ i pb mb bases A op (w.alloc o) (hM.ext ((Ext.rfl' w).alloc o)) hmain hdb hkey B bb mb' rows hf hg (hB.ext ((Ext.rfl' w).alloc o))
  have HM := Lib.hid hM
  have HB := Lib.hid hB
  obtain ⟨g1, g2, g3, g4, g5⟩ := hB
  have hc0 := cellAt g2 0
  have hc1 := cellAt g2 1
  simp at hc0 hc1
  have HG := Lib.hid hg
  clear g1 g2 g3 g4 g5 hM hf hg
  have hfl' : (B.flags == 0) = false := by simpa using hfl
  have HF := Lib.hid hfl
  clear hfl
  have hc2 := hc
  rw [hc] at HV
  clear hc2
  unfold andB at ha
  have HLEN := Lib.hid hlen
  clear hlen
  have HVE := Lib.hid hv
  clear hv
  have HC0 := Lib.hid hc0
  have HC1 := Lib.hid hc1
  have c0 := ((Ext.rfl' w).alloc (.cells (opCells op) 30 (0, 0))).cell hc0
  unfold opCells at c0
  clear hc0 hc1
  unfold opV opCells
  go_enter Tryz.func43, Tryz.ntmps43
  go_wp2_with (first | (go_at_call 77; refine (HC.out _).mono ?_; rintro e w' ⟨rfl, rfl⟩) | fail)
  refine (HV.out _).mono ?_
  rintro e w1 ⟨bv, lv, rfl, hext, hv0, hv21⟩
  rw [errV_0]
  have hbox := boxAt hext
  have b2 := cellAt hbox 2
  have b3 := cellAt hbox 3
  have b4 := cellAt hbox 4
  simp [opCells] at b2 b3 b4
  have c0' := hext.cell (((Ext.rfl' w).alloc (.cells (opCells op) 30 (0, 0))).cell HC0.out)
  have c1' := hext.cell (((Ext.rfl' w).alloc (.cells (opCells op) 30 (0, 0))).cell HC1.out)
  have HX := Lib.hid hext
  have HV0 := Lib.hid hv0
  have HV21 := Lib.hid hv21
  clear hext hbox c0 hv0 hv21
  obtain ⟨xs, hxs, hrow, hlab⟩ : ∃ xs, (valuesA A op).2.1 = xs ∧ w1.ownsRow 0 9 1 lv xs.length (xs.map encStr) ∧ ∀ g, lv.ownBlock = some g → g < w.heap.size ∧ σ g = (i, .row op.db op.key) := by
    obtain ⟨_, xs, h1, h2, h3, h4⟩ := HV0.out trivial
    obtain ⟨lv', h5, h6⟩ := HB.out.2.2.2.2.get_some h2
    rw [h1] at h5
    injection h5 with h5
    subst h5
    exact ⟨xs, by rw [h3], owns_ext h4.1 HX.out, fun g e => ⟨(h6.1.lt g e).2, h6.2 g e⟩⟩
  have HXS := Lib.hid hxs
  have HLAB := Lib.hid hlab
  have HROW := Lib.hid hrow
  clear hxs hlab hrow
  have E1 := run_eql_errno
  have E2 := run_neq_errno
  have E3 := run_eql_nil_errno
  have E4 := run_neq_nil_errno
  have HBS := Lib.hid (bsS_any lv xs op.val w1 HROW.out (by have := HLEN.out; rw [HXS.out] at this; omega))
  go_wp2_with fail
  refine HBS.out.mono ?_
  rintro e w2 ⟨rfl, hq⟩
  have hx2 : Ext w1 w2 := Ext.ofDraws hq
  have b2q := hx2.cell b2
  have b3q := hx2.cell b3
  have b4q := hx2.cell b4
  have c1q := hx2.cell c1'
  have HX2 := Lib.hid hx2
  clear hx2 b2 b3 b4 c1' c0' hq
  rw [HVE.out] at b3q
  go_wp2_with fail
  go_ret
  exact ⟨rfl, Ext.step (Ext.step ((Ext.rfl' w).alloc _) HX.out) HX2.out⟩

set_option maxHeartbeats 4000000 in
set_option maxRecDepth 100000 in
theorem dup_long0 (σ : Sig) (i pb mb : Nat) (bases : List (S × Value)) (A : ModA) (op : OpA) (w : World) (hM : ModIs w σ i pb mb bases A) (hn : Neat w σ) (hmain : (mget ([] : S) A.l).isSome = true) (hdb : op.db.length ≤ maxLen) (hkey : op.key.length ≤ maxLen)
    (B : BaseA) (bb mb' : Nat) (rows : List (S × Value)) (hf : findA A op.db = (some B, 0)) (hg : mget op.db bases = some (.pointer (some ⟨bb, 0, none⟩))) (hB : BaseIs w σ i op.db bb mb' rows B) (hm : B.m.length ≤ 1000000)
    (hfl : B.flags ≠ 0) (hc : (valuesA A op).2.2 = 0) (ha : andB op.flags 1 = false) (hlen : (valuesA A op).2.1.length ≤ 12) (hv : 12 < op.val.length) :
    Calls Tryz.prog 43 #[.pointer (some ⟨pb, 0, none⟩), opV op] w fun e w' => e = .returned (.iface 71 (.int .i64 22)) ∧ Ext w w' := by
  have HC := Lib.hid (find_call hM hmain hdb hf hg)
  have HV := Lib.hid fun o => values_ok σ i pb mb bases A op (w.alloc o) (hM.ext ((Ext.rfl' w).alloc o)) hmain hdb hkey B bb mb' rows hf hg (hB.ext ((Ext.rfl' w).alloc o))
  have HM := Lib.hid hM
  have HB := Lib.hid hB
  obtain ⟨g1, g2, g3, g4, g5⟩ := hB
  have hc0 := cellAt g2 0
  have hc1 := cellAt g2 1
  simp at hc0 hc1
  have HG := Lib.hid hg
  clear g1 g2 g3 g4 g5 hM hf hg
  have hfl' : (B.flags == 0) = false := by simpa using hfl
  have HF := Lib.hid hfl
  clear hfl
  have hc2 := hc
  rw [hc] at HV
  clear hc2
  unfold andB at ha
  have HLEN := Lib.hid hlen
  clear hlen
  have HC0 := Lib.hid hc0
  have HC1 := Lib.hid hc1
  have c0 := ((Ext.rfl' w).alloc (.cells (opCells op) 30 (0, 0))).cell hc0
  unfold opCells at c0
  clear hc0 hc1
  unfold opV opCells
  go_enter Tryz.func43, Tryz.ntmps43
  go_wp2_with (first | (go_at_call 77; refine (HC.out _).mono ?_; rintro e w' ⟨rfl, rfl⟩) | fail)
  refine (HV.out _).mono ?_
  rintro e w1 ⟨bv, lv, rfl, hext, hv0, hv21⟩
  rw [errV_0]
  have hbox := boxAt hext
  have b2 := cellAt hbox 2
  have b3 := cellAt hbox 3
  have b4 := cellAt hbox 4
  simp [opCells] at b2 b3 b4
  have c0' := hext.cell (((Ext.rfl' w).alloc (.cells (opCells op) 30 (0, 0))).cell HC0.out)
  have c1' := hext.cell (((Ext.rfl' w).alloc (.cells (opCells op) 30 (0, 0))).cell HC1.out)
  have HX := Lib.hid hext
  have HV0 := Lib.hid hv0
  have HV21 := Lib.hid hv21
  clear hext hbox c0 hv0 hv21
  obtain ⟨xs, hxs, hrow, hlab⟩ : ∃ xs, (valuesA A op).2.1 = xs ∧ w1.ownsRow 0 9 1 lv xs.length (xs.map encStr) ∧ ∀ g, lv.ownBlock = some g → g < w.heap.size ∧ σ g = (i, .row op.db op.key) := by
    obtain ⟨_, xs, h1, h2, h3, h4⟩ := HV0.out trivial
    obtain ⟨lv', h5, h6⟩ := HB.out.2.2.2.2.get_some h2
    rw [h1] at h5
    injection h5 with h5
    subst h5
    exact ⟨xs, by rw [h3], owns_ext h4.1 HX.out, fun g e => ⟨(h6.1.lt g e).2, h6.2 g e⟩⟩
  have HXS := Lib.hid hxs
  have HLAB := Lib.hid hlab
  have HROW := Lib.hid hrow
  clear hxs hlab hrow
  have E1 := run_eql_errno
  have E2 := run_neq_errno
  have E3 := run_eql_nil_errno
  have E4 := run_neq_nil_errno
  have HBS := Lib.hid (bsS_any lv xs op.val w1 HROW.out (by have := HLEN.out; rw [HXS.out] at this; omega))
  go_wp2_with fail
  refine HBS.out.mono ?_
  rintro e w2 ⟨rfl, hq⟩
  have hx2 : Ext w1 w2 := Ext.ofDraws hq
  have b2q := hx2.cell b2
  have b3q := hx2.cell b3
  have b4q := hx2.cell b4
  have c1q := hx2.cell c1'
  have HX2 := Lib.hid hx2
  clear hx2 b2 b3 b4 c1' c0' hq
  obtain ⟨a, r, hv'⟩ : ∃ a r, op.val = a :: r := by cases h : op.val with | nil => rw [h] at hv; simp at hv | cons a r => exact ⟨a, r, rfl⟩
  rw [hv'] at b3q hv
  have d3 : decide ((12 : Int) < (r.length : Int) + 1) = true := by simp at hv ⊢; omega
  clear hv
  go_wp2_with fail
  go_ret
  exact ⟨rfl, Ext.step (Ext.step ((Ext.rfl' w).alloc _) HX.out) HX2.out⟩

set_option maxHeartbeats 4000000 in
set_option maxRecDepth 100000 in
theorem dup_empty21 (σ : Sig) (i pb mb : Nat) (bases : List (S × Value)) (A : ModA) (op : OpA) (w : World) (hM : ModIs w σ i pb mb bases A) (hn : Neat w σ) (hmain : (mget ([] : S) A.l).isSome = true) (hdb : op.db.length ≤ maxLen) (hkey : op.key.length ≤ maxLen)
    (B : BaseA) (bb mb' : Nat) (rows : List (S × Value)) (hf : findA A op.db = (some B, 0)) (hg : mget op.db bases = some (.pointer (some ⟨bb, 0, none⟩))) (hB : BaseIs w σ i op.db bb mb' rows B) (hm : B.m.length ≤ 1000000)
    (hfl : B.flags ≠ 0) (hc : (valuesA A op).2.2 = 21) (hlen : (valuesA A op).2.1.length ≤ 12) (hv : op.val = []) :
    Calls Tryz.prog 43 #[.pointer (some ⟨pb, 0, none⟩), opV op] w fun e w' => e = .returned (.iface 71 (.int .i64 22)) ∧ Ext w w' := by
  have HC := Lib.hid (find_call hM hmain hdb hf hg)
  have HV := Lib.hid fun o => values_ok σ i pb mb bases A op (w.alloc o) (hM.ext ((Ext.rfl' w).alloc o)) hmain hdb hkey B bb mb' rows hf hg (hB.ext ((Ext.rfl' w).alloc o))
  have HM := Lib.hid hM
  have HB := Lib.hid hB
  obtain ⟨g1, g2, g3, g4, g5⟩ := hB
  have hc0 := cellAt g2 0
  have hc1 := cellAt g2 1
  simp at hc0 hc1
  have HG := Lib.hid hg
  clear g1 g2 g3 g4 g5 hM hf hg
  have hfl' : (B.flags == 0) = false := by simpa using hfl
  have HF := Lib.hid hfl
  clear hfl
  have hc2 := hc
  rw [hc] at HV
  clear hc2
  have HLEN := Lib.hid hlen
  clear hlen
  have HVE := Lib.hid hv
  clear hv
  have HC0 := Lib.hid hc0
  have HC1 := Lib.hid hc1
  have c0 := ((Ext.rfl' w).alloc (.cells (opCells op) 30 (0, 0))).cell hc0
  unfold opCells at c0
  clear hc0 hc1
  unfold opV opCells
  go_enter Tryz.func43, Tryz.ntmps43
  go_wp2_with (first | (go_at_call 77; refine (HC.out _).mono ?_; rintro e w' ⟨rfl, rfl⟩) | fail)
  refine (HV.out _).mono ?_
  rintro e w1 ⟨bv, lv, rfl, hext, hv0, hv21⟩
  rw [errV_ne (by decide)]
  have hbox := boxAt hext
  have b2 := cellAt hbox 2
  have b3 := cellAt hbox 3
  have b4 := cellAt hbox 4
  simp [opCells] at b2 b3 b4
  have c0' := hext.cell (((Ext.rfl' w).alloc (.cells (opCells op) 30 (0, 0))).cell HC0.out)
  have c1' := hext.cell (((Ext.rfl' w).alloc (.cells (opCells op) 30 (0, 0))).cell HC1.out)
  have HX := Lib.hid hext
  have HV0 := Lib.hid hv0
  have HV21 := Lib.hid hv21
  clear hext hbox c0 hv0 hv21
  obtain ⟨xs, hxs, hrow, hlab⟩ : ∃ xs, (valuesA A op).2.1 = xs ∧ w1.ownsRow 0 9 1 lv xs.length (xs.map encStr) ∧ ∀ g, lv.ownBlock = some g → g < w.heap.size ∧ σ g = (i, .row op.db op.key) := by
    obtain ⟨h1, h2⟩ := HV21.out trivial
    subst h1
    exact ⟨[], h2, owns_nil _ _ _ _, fun g e => by cases e⟩
  have HXS := Lib.hid hxs
  have HLAB := Lib.hid hlab
  have HROW := Lib.hid hrow
  clear hxs hlab hrow
  have E1 := run_eql_errno
  have E2 := run_neq_errno
  have E3 := run_eql_nil_errno
  have E4 := run_neq_nil_errno
  have HBS := Lib.hid (bsS_any lv xs op.val w1 HROW.out (by have := HLEN.out; rw [HXS.out] at this; omega))
  go_wp2_with fail
  refine HBS.out.mono ?_
  rintro e w2 ⟨rfl, hq⟩
  have hx2 : Ext w1 w2 := Ext.ofDraws hq
  have b2q := hx2.cell b2
  have b3q := hx2.cell b3
  have b4q := hx2.cell b4
  have c1q := hx2.cell c1'
  have HX2 := Lib.hid hx2
  clear hx2 b2 b3 b4 c1' c0' hq
  rw [HVE.out] at b3q
  go_wp2_with fail
  go_ret
  exact ⟨rfl, Ext.step (Ext.step ((Ext.rfl' w).alloc _) HX.out) HX2.out⟩

set_option maxHeartbeats 4000000 in
set_option maxRecDepth 100000 in
theorem dup_long21 (σ : Sig) (i pb mb : Nat) (bases : List (S × Value)) (A : ModA) (op : OpA) (w : World) (hM : ModIs w σ i pb mb bases A) (hn : Neat w σ) (hmain : (mget ([] : S) A.l).isSome = true) (hdb : op.db.length ≤ maxLen) (hkey : op.key.length ≤ maxLen)
    (B : BaseA) (bb mb' : Nat) (rows : List (S × Value)) (hf : findA A op.db = (some B, 0)) (hg : mget op.db bases = some (.pointer (some ⟨bb, 0, none⟩))) (hB : BaseIs w σ i op.db bb mb' rows B) (hm : B.m.length ≤ 1000000)
    (hfl : B.flags ≠ 0) (hc : (valuesA A op).2.2 = 21) (hlen : (valuesA A op).2.1.length ≤ 12) (hv : 12 < op.val.length) :
    Calls Tryz.prog 43 #[.pointer (some ⟨pb, 0, none⟩), opV op] w fun e w' => e = .returned (.iface 71 (.int .i64 22)) ∧ Ext w w' := by
  have HC := Lib.hid (find_call hM hmain hdb hf hg)
  have HV := Lib.hid fun o => values_ok σ i pb mb bases A op (w.alloc o) (hM.ext ((Ext.rfl' w).alloc o)) hmain hdb hkey B bb mb' rows hf hg (hB.ext ((Ext.rfl' w).alloc o))
  have HM := Lib.hid hM
  have HB := Lib.hid hB
  obtain ⟨g1, g2, g3, g4, g5⟩ := hB
  have hc0 := cellAt g2 0
  have hc1 := cellAt g2 1
  simp at hc0 hc1
  have HG := Lib.hid hg
  clear g1 g2 g3 g4 g5 hM hf hg
  have hfl' : (B.flags == 0) = false := by simpa using hfl
  have HF := Lib.hid hfl
  clear hfl
  have hc2 := hc
  rw [hc] at HV
  clear hc2
  have HLEN := Lib.hid hlen
  clear hlen
  have HC0 := Lib.hid hc0
  have HC1 := Lib.hid hc1
  have c0 := ((Ext.rfl' w).alloc (.cells (opCells op) 30 (0, 0))).cell hc0
  unfold opCells at c0
  clear hc0 hc1
  unfold opV opCells
  go_enter Tryz.func43, Tryz.ntmps43
  go_wp2_with (first | (go_at_call 77; refine (HC.out _).mono ?_; rintro e w' ⟨rfl, rfl⟩) | fail)
  refine (HV.out _).mono ?_
  rintro e w1 ⟨bv, lv, rfl, hext, hv0, hv21⟩
  rw [errV_ne (by decide)]
  have hbox := boxAt hext
  have b2 := cellAt hbox 2
  have b3 := cellAt hbox 3
  have b4 := cellAt hbox 4
  simp [opCells] at b2 b3 b4
  have c0' := hext.cell (((Ext.rfl' w).alloc (.cells (opCells op) 30 (0, 0))).cell HC0.out)
  have c1' := hext.cell (((Ext.rfl' w).alloc (.cells (opCells op) 30 (0, 0))).cell HC1.out)
  have HX := Lib.hid hext
  have HV0 := Lib.hid hv0
  have HV21 := Lib.hid hv21
  clear hext hbox c0 hv0 hv21
  obtain ⟨xs, hxs, hrow, hlab⟩ : ∃ xs, (valuesA A op).2.1 = xs ∧ w1.ownsRow 0 9 1 lv xs.length (xs.map encStr) ∧ ∀ g, lv.ownBlock = some g → g < w.heap.size ∧ σ g = (i, .row op.db op.key) := by
    obtain ⟨h1, h2⟩ := HV21.out trivial
    subst h1
    exact ⟨[], h2, owns_nil _ _ _ _, fun g e => by cases e⟩
  have HXS := Lib.hid hxs
  have HLAB := Lib.hid hlab
  have HROW := Lib.hid hrow
  clear hxs hlab hrow
  have E1 := run_eql_errno
  have E2 := run_neq_errno
  have E3 := run_eql_nil_errno
  have E4 := run_neq_nil_errno
  have HBS := Lib.hid (bsS_any lv xs op.val w1 HROW.out (by have := HLEN.out; rw [HXS.out] at this; omega))
  go_wp2_with fail
  refine HBS.out.mono ?_
  rintro e w2 ⟨rfl, hq⟩
  have hx2 : Ext w1 w2 := Ext.ofDraws hq
  have b2q := hx2.cell b2
  have b3q := hx2.cell b3
  have b4q := hx2.cell b4
  have c1q := hx2.cell c1'
  have HX2 := Lib.hid hx2
  clear hx2 b2 b3 b4 c1' c0' hq
  obtain ⟨a, r, hv'⟩ : ∃ a r, op.val = a :: r := by cases h : op.val with | nil => rw [h] at hv; simp at hv | cons a r => exact ⟨a, r, rfl⟩
  rw [hv'] at b3q hv
  have d3 : decide ((12 : Int) < (r.length : Int) + 1) = true := by simp at hv ⊢; omega
  clear hv
  go_wp2_with fail
  go_ret
  exact ⟨rfl, Ext.step (Ext.step ((Ext.rfl' w).alloc _) HX.out) HX2.out⟩

end Go.Proofs.YtmkhjmldncegcaaGreatDoor

/-
  WALKS: past.Model.put at a database of many values, a value that may be.
-/
set_option linter.unusedVariables false
set_option linter.unusedSimpArgs false
namespace Go.Proofs.YtmkhjmldncegcaaGreatDoor
open Go.RowKit Go.Maps Go.ChangeMaps Go.MapKept

theorem bsGo_le (less : Nat → Bool) : ∀ (f lo hi : Nat), lo ≤ hi → Lib.bsGo less f lo hi ≤ hi
  | 0, lo, hi, h => h
  | f + 1, lo, hi, h => by
    unfold Lib.bsGo
    split
    · split
      · exact bsGo_le less f _ hi (by omega)
      · exact Nat.le_trans (bsGo_le less f lo _ (by omega)) (by omega)
    · exact h
theorem placeA_le (xs : List S) (v : S) : placeA xs v ≤ xs.length := bsGo_le _ _ _ _ (Nat.zero_le _)

set_option maxHeartbeats 4000000 in
set_option maxRecDepth 100000 in
theorem dup_twice0 (σ : Sig) (i pb mb : Nat) (bases : List (S × Value)) (A : ModA) (op : OpA) (w : World) (hM : ModIs w σ i pb mb bases A) (hn : Neat w σ) (hmain : (mget ([] : S) A.l).isSome = true) (hdb : op.db.length ≤ maxLen) (hkey : op.key.length ≤ maxLen)
    (B : BaseA) (bb mb' : Nat) (rows : List (S × Value)) (hf : findA A op.db = (some B, 0)) (hg : mget op.db bases = some (.pointer (some ⟨bb, 0, none⟩))) (hB : BaseIs w σ i op.db bb mb' rows B) (hm : B.m.length ≤ 1000000)
    (hfl : B.flags ≠ 0) (hc : (valuesA A op).2.2 = 0) (ha : andB op.flags 1 = false) (hlen : (valuesA A op).2.1.length ≤ 12) (hv0 : op.val ≠ []) (hv : op.val.length ≤ 12) (hth : thereA (valuesA A op).2.1 op.val = true) (ha2 : andB op.flags 2 = true) :
    Calls Tryz.prog 43 #[.pointer (some ⟨pb, 0, none⟩), opV op] w fun e w' => e = .returned (.iface 71 (.int .i64 20)) ∧ Ext w w' := by
  have HC := Lib.hid (find_call hM hmain hdb hf hg)
  have HV := Lib.hid fun o => values_ok σ i pb mb bases A op (w.alloc o) (hM.ext ((Ext.rfl' w).alloc o)) hmain hdb hkey B bb mb' rows hf hg (hB.ext ((Ext.rfl' w).alloc o))
  have HM := Lib.hid hM
  have HB := Lib.hid hB
  obtain ⟨g1, g2, g3, g4, g5⟩ := hB
  have hc0 := cellAt g2 0
  have hc1 := cellAt g2 1
  simp at hc0 hc1
  have HG := Lib.hid hg
  clear g1 g2 g3 g4 g5 hM hf hg
  have hfl' : (B.flags == 0) = false := by simpa using hfl
  have HF := Lib.hid hfl
  clear hfl
  have hc2 := hc
  rw [hc] at HV
  clear hc2
  unfold andB at ha
  have HLEN := Lib.hid hlen
  have HTH := Lib.hid hth
  have HV00 := Lib.hid hv0
  have HVL := Lib.hid hv
  clear hlen hth hv0 hv
  unfold andB at ha2
  have HC0 := Lib.hid hc0
  have HC1 := Lib.hid hc1
  have c0 := ((Ext.rfl' w).alloc (.cells (opCells op) 30 (0, 0))).cell hc0
  unfold opCells at c0
  clear hc0 hc1
  unfold opV opCells
  go_enter Tryz.func43, Tryz.ntmps43
  go_wp2_with (first | (go_at_call 77; refine (HC.out _).mono ?_; rintro e w' ⟨rfl, rfl⟩) | fail)
  refine (HV.out _).mono ?_
  rintro e w1 ⟨bv, lv, rfl, hext, hv0, hv21⟩
  rw [errV_0]
  have hbox := boxAt hext
  have b2 := cellAt hbox 2
  have b3 := cellAt hbox 3
  have b4 := cellAt hbox 4
  simp [opCells] at b2 b3 b4
  have c0' := hext.cell (((Ext.rfl' w).alloc (.cells (opCells op) 30 (0, 0))).cell HC0.out)
  have c1' := hext.cell (((Ext.rfl' w).alloc (.cells (opCells op) 30 (0, 0))).cell HC1.out)
  have HX := Lib.hid hext
  have HV0 := Lib.hid hv0
  have HV21 := Lib.hid hv21
  clear hext hbox c0 hv0 hv21
  obtain ⟨xs, hxs, hrow, hlab⟩ : ∃ xs, (valuesA A op).2.1 = xs ∧ w1.ownsRow 0 9 1 lv xs.length (xs.map encStr) ∧ ∀ g, lv.ownBlock = some g → g < w.heap.size ∧ σ g = (i, .row op.db op.key) := by
    obtain ⟨_, xs, h1, h2, h3, h4⟩ := HV0.out trivial
    obtain ⟨lv', h5, h6⟩ := HB.out.2.2.2.2.get_some h2
    rw [h1] at h5
    injection h5 with h5
    subst h5
    exact ⟨xs, by rw [h3], owns_ext h4.1 HX.out, fun g e => ⟨(h6.1.lt g e).2, h6.2 g e⟩⟩
  have HXS := Lib.hid hxs
  have HLAB := Lib.hid hlab
  have HROW := Lib.hid hrow
  clear hxs hlab hrow
  have E1 := run_eql_errno
  have E2 := run_neq_errno
  have E3 := run_eql_nil_errno
  have E4 := run_neq_nil_errno
  have HBS := Lib.hid (bsS_any lv xs op.val w1 HROW.out (by have := HLEN.out; rw [HXS.out] at this; omega))
  have HTH' : Hid (thereA xs op.val = true) := by have := HTH.out; rw [HXS.out] at this; exact this
  rw [HTH'.out] at HBS
  go_wp2_with fail
  refine HBS.out.mono ?_
  rintro e w2 ⟨rfl, hq⟩
  have hx2 : Ext w1 w2 := Ext.ofDraws hq
  have b2q := hx2.cell b2
  have b3q := hx2.cell b3
  have b4q := hx2.cell b4
  have c1q := hx2.cell c1'
  have HX2 := Lib.hid hx2
  clear hx2 b2 b3 b4 c1' c0' hq
  obtain ⟨a, r, hv', hlr⟩ : ∃ a r, op.val = a :: r ∧ r.length + 1 ≤ 12 := by
    have hv := HVL.out
    cases h : op.val with
    | nil => exact absurd h HV00.out
    | cons a r => rw [h] at hv; exact ⟨a, r, rfl, by simpa using hv⟩
  have HVV := Lib.hid hv'
  have b3r : w2.cell? ⟨w.heap.size, 3, none⟩ = some (encStr (a :: r)) := by rw [← HVV.out]; exact b3q
  have d3 : decide ((12 : Int) < (r.length : Int) + 1) = false := by simp; omega
  clear hv' b3q
  go_wp2_with fail
  go_ret
  exact ⟨rfl, Ext.step (Ext.step ((Ext.rfl' w).alloc _) HX.out) HX2.out⟩

set_option maxHeartbeats 4000000 in
set_option maxRecDepth 100000 in
theorem dup_there0 (σ : Sig) (i pb mb : Nat) (bases : List (S × Value)) (A : ModA) (op : OpA) (w : World) (hM : ModIs w σ i pb mb bases A) (hn : Neat w σ) (hmain : (mget ([] : S) A.l).isSome = true) (hdb : op.db.length ≤ maxLen) (hkey : op.key.length ≤ maxLen)
    (B : BaseA) (bb mb' : Nat) (rows : List (S × Value)) (hf : findA A op.db = (some B, 0)) (hg : mget op.db bases = some (.pointer (some ⟨bb, 0, none⟩))) (hB : BaseIs w σ i op.db bb mb' rows B) (hm : B.m.length ≤ 1000000)
    (hfl : B.flags ≠ 0) (hc : (valuesA A op).2.2 = 0) (ha : andB op.flags 1 = false) (hlen : (valuesA A op).2.1.length ≤ 12) (hv0 : op.val ≠ []) (hv : op.val.length ≤ 12) (hth : thereA (valuesA A op).2.1 op.val = true) (ha2 : andB op.flags 2 = false) :
    Calls Tryz.prog 43 #[.pointer (some ⟨pb, 0, none⟩), opV op] w fun e w' => e = .returned (.nilIface) ∧ Ext w w' := by
  have HC := Lib.hid (find_call hM hmain hdb hf hg)
  have HV := Lib.hid fun o => values_ok σ i pb mb bases A op (w.alloc o) (hM.ext ((Ext.rfl' w).alloc o)) hmain hdb hkey B bb mb' rows hf hg (hB.ext ((Ext.rfl' w).alloc o))
  have HM := Lib.hid hM
  have HB := Lib.hid hB
  obtain ⟨g1, g2, g3, g4, g5⟩ := hB
  have hc0 := cellAt g2 0
  have hc1 := cellAt g2 1
  simp at hc0 hc1
  have HG := Lib.hid hg
  clear g1 g2 g3 g4 g5 hM hf hg
  have hfl' : (B.flags == 0) = false := by simpa using hfl
  have HF := Lib.hid hfl
  clear hfl
  have hc2 := hc
  rw [hc] at HV
  clear hc2
  unfold andB at ha
  have HLEN := Lib.hid hlen
  have HTH := Lib.hid hth
  have HV00 := Lib.hid hv0
  have HVL := Lib.hid hv
  clear hlen hth hv0 hv
  unfold andB at ha2
  have HC0 := Lib.hid hc0
  have HC1 := Lib.hid hc1
  have c0 := ((Ext.rfl' w).alloc (.cells (opCells op) 30 (0, 0))).cell hc0
  unfold opCells at c0
  clear hc0 hc1
  unfold opV opCells
  go_enter Tryz.func43, Tryz.ntmps43
  go_wp2_with (first | (go_at_call 77; refine (HC.out _).mono ?_; rintro e w' ⟨rfl, rfl⟩) | fail)
  refine (HV.out _).mono ?_
  rintro e w1 ⟨bv, lv, rfl, hext, hv0, hv21⟩
  rw [errV_0]
  have hbox := boxAt hext
  have b2 := cellAt hbox 2
  have b3 := cellAt hbox 3
  have b4 := cellAt hbox 4
  simp [opCells] at b2 b3 b4
  have c0' := hext.cell (((Ext.rfl' w).alloc (.cells (opCells op) 30 (0, 0))).cell HC0.out)
  have c1' := hext.cell (((Ext.rfl' w).alloc (.cells (opCells op) 30 (0, 0))).cell HC1.out)
  have HX := Lib.hid hext
  have HV0 := Lib.hid hv0
  have HV21 := Lib.hid hv21
  clear hext hbox c0 hv0 hv21
  obtain ⟨xs, hxs, hrow, hlab⟩ : ∃ xs, (valuesA A op).2.1 = xs ∧ w1.ownsRow 0 9 1 lv xs.length (xs.map encStr) ∧ ∀ g, lv.ownBlock = some g → g < w.heap.size ∧ σ g = (i, .row op.db op.key) := by
    obtain ⟨_, xs, h1, h2, h3, h4⟩ := HV0.out trivial
    obtain ⟨lv', h5, h6⟩ := HB.out.2.2.2.2.get_some h2
    rw [h1] at h5
    injection h5 with h5
    subst h5
    exact ⟨xs, by rw [h3], owns_ext h4.1 HX.out, fun g e => ⟨(h6.1.lt g e).2, h6.2 g e⟩⟩
  have HXS := Lib.hid hxs
  have HLAB := Lib.hid hlab
  have HROW := Lib.hid hrow
  clear hxs hlab hrow
  have E1 := run_eql_errno
  have E2 := run_neq_errno
  have E3 := run_eql_nil_errno
  have E4 := run_neq_nil_errno
  have HBS := Lib.hid (bsS_any lv xs op.val w1 HROW.out (by have := HLEN.out; rw [HXS.out] at this; omega))
  have HTH' : Hid (thereA xs op.val = true) := by have := HTH.out; rw [HXS.out] at this; exact this
  rw [HTH'.out] at HBS
  go_wp2_with fail
  refine HBS.out.mono ?_
  rintro e w2 ⟨rfl, hq⟩
  have hx2 : Ext w1 w2 := Ext.ofDraws hq
  have b2q := hx2.cell b2
  have b3q := hx2.cell b3
  have b4q := hx2.cell b4
  have c1q := hx2.cell c1'
  have HX2 := Lib.hid hx2
  clear hx2 b2 b3 b4 c1' c0' hq
  obtain ⟨a, r, hv', hlr⟩ : ∃ a r, op.val = a :: r ∧ r.length + 1 ≤ 12 := by
    have hv := HVL.out
    cases h : op.val with
    | nil => exact absurd h HV00.out
    | cons a r => rw [h] at hv; exact ⟨a, r, rfl, by simpa using hv⟩
  have HVV := Lib.hid hv'
  have b3r : w2.cell? ⟨w.heap.size, 3, none⟩ = some (encStr (a :: r)) := by rw [← HVV.out]; exact b3q
  have d3 : decide ((12 : Int) < (r.length : Int) + 1) = false := by simp; omega
  clear hv' b3q
  go_wp2_with fail
  go_ret
  exact ⟨rfl, Ext.step (Ext.step ((Ext.rfl' w).alloc _) HX.out) HX2.out⟩

set_option maxHeartbeats 4000000 in
set_option maxRecDepth 100000 in
theorem dup_full0 (σ : Sig) (i pb mb : Nat) (bases : List (S × Value)) (A : ModA) (op : OpA) (w : World) (hM : ModIs w σ i pb mb bases A) (hn : Neat w σ) (hmain : (mget ([] : S) A.l).isSome = true) (hdb : op.db.length ≤ maxLen) (hkey : op.key.length ≤ maxLen)
    (B : BaseA) (bb mb' : Nat) (rows : List (S × Value)) (hf : findA A op.db = (some B, 0)) (hg : mget op.db bases = some (.pointer (some ⟨bb, 0, none⟩))) (hB : BaseIs w σ i op.db bb mb' rows B) (hm : B.m.length ≤ 1000000)
    (hfl : B.flags ≠ 0) (hc : (valuesA A op).2.2 = 0) (ha : andB op.flags 1 = false) (hlen : (valuesA A op).2.1.length ≤ 12) (hv0 : op.val ≠ []) (hv : op.val.length ≤ 12) (hth : thereA (valuesA A op).2.1 op.val = false) (hfull : 12 ≤ (valuesA A op).2.1.length) :
    Calls Tryz.prog 43 #[.pointer (some ⟨pb, 0, none⟩), opV op] w fun e w' => e = .returned (.iface 71 (.int .i64 28)) ∧ Ext w w' := by
  have HC := Lib.hid (find_call hM hmain hdb hf hg)
  have HV := Lib.hid fun o => values_ok σ i pb mb bases A op (w.alloc o) (hM.ext ((Ext.rfl' w).alloc o)) hmain hdb hkey B bb mb' rows hf hg (hB.ext ((Ext.rfl' w).alloc o))
  have HM := Lib.hid hM
  have HB := Lib.hid hB
  obtain ⟨g1, g2, g3, g4, g5⟩ := hB
  have hc0 := cellAt g2 0
  have hc1 := cellAt g2 1
  simp at hc0 hc1
  have HG := Lib.hid hg
  clear g1 g2 g3 g4 g5 hM hf hg
  have hfl' : (B.flags == 0) = false := by simpa using hfl
  have HF := Lib.hid hfl
  clear hfl
  have hc2 := hc
  rw [hc] at HV
  clear hc2
  unfold andB at ha
  have HLEN := Lib.hid hlen
  have HTH := Lib.hid hth
  have HV00 := Lib.hid hv0
  have HVL := Lib.hid hv
  clear hlen hth hv0 hv
  have HFULL := Lib.hid hfull
  clear hfull
  have HC0 := Lib.hid hc0
  have HC1 := Lib.hid hc1
  have c0 := ((Ext.rfl' w).alloc (.cells (opCells op) 30 (0, 0))).cell hc0
  unfold opCells at c0
  clear hc0 hc1
  unfold opV opCells
  go_enter Tryz.func43, Tryz.ntmps43
  go_wp2_with (first | (go_at_call 77; refine (HC.out _).mono ?_; rintro e w' ⟨rfl, rfl⟩) | fail)
  refine (HV.out _).mono ?_
  rintro e w1 ⟨bv, lv, rfl, hext, hv0, hv21⟩
  rw [errV_0]
  have hbox := boxAt hext
  have b2 := cellAt hbox 2
  have b3 := cellAt hbox 3
  have b4 := cellAt hbox 4
  simp [opCells] at b2 b3 b4
  have c0' := hext.cell (((Ext.rfl' w).alloc (.cells (opCells op) 30 (0, 0))).cell HC0.out)
  have c1' := hext.cell (((Ext.rfl' w).alloc (.cells (opCells op) 30 (0, 0))).cell HC1.out)
  have HX := Lib.hid hext
  have HV0 := Lib.hid hv0
  have HV21 := Lib.hid hv21
  clear hext hbox c0 hv0 hv21
  obtain ⟨xs, hxs, hrow, hlab⟩ : ∃ xs, (valuesA A op).2.1 = xs ∧ w1.ownsRow 0 9 1 lv xs.length (xs.map encStr) ∧ ∀ g, lv.ownBlock = some g → g < w.heap.size ∧ σ g = (i, .row op.db op.key) := by
    obtain ⟨_, xs, h1, h2, h3, h4⟩ := HV0.out trivial
    obtain ⟨lv', h5, h6⟩ := HB.out.2.2.2.2.get_some h2
    rw [h1] at h5
    injection h5 with h5
    subst h5
    exact ⟨xs, by rw [h3], owns_ext h4.1 HX.out, fun g e => ⟨(h6.1.lt g e).2, h6.2 g e⟩⟩
  have HXS := Lib.hid hxs
  have HLAB := Lib.hid hlab
  have HROW := Lib.hid hrow
  clear hxs hlab hrow
  have E1 := run_eql_errno
  have E2 := run_neq_errno
  have E3 := run_eql_nil_errno
  have E4 := run_neq_nil_errno
  have HBS := Lib.hid (bsS_any lv xs op.val w1 HROW.out (by have := HLEN.out; rw [HXS.out] at this; omega))
  have HTH' : Hid (thereA xs op.val = false) := by have := HTH.out; rw [HXS.out] at this; exact this
  rw [HTH'.out] at HBS
  go_wp2_with fail
  refine HBS.out.mono ?_
  rintro e w2 ⟨rfl, hq⟩
  have hx2 : Ext w1 w2 := Ext.ofDraws hq
  have b2q := hx2.cell b2
  have b3q := hx2.cell b3
  have b4q := hx2.cell b4
  have c1q := hx2.cell c1'
  have HX2 := Lib.hid hx2
  clear hx2 b2 b3 b4 c1' c0' hq
  obtain ⟨a, r, hv', hlr⟩ : ∃ a r, op.val = a :: r ∧ r.length + 1 ≤ 12 := by
    have hv := HVL.out
    cases h : op.val with
    | nil => exact absurd h HV00.out
    | cons a r => rw [h] at hv; exact ⟨a, r, rfl, by simpa using hv⟩
  have HVV := Lib.hid hv'
  have b3r : w2.cell? ⟨w.heap.size, 3, none⟩ = some (encStr (a :: r)) := by rw [← HVV.out]; exact b3q
  have d3 : decide ((12 : Int) < (r.length : Int) + 1) = false := by simp; omega
  clear hv' b3q
  obtain ⟨lp, lc, hlv⟩ : ∃ lp lc, lv = .slice lp xs.length lc := by obtain ⟨_, p, c, h, _⟩ := Sl.ofOwns HROW.out; exact ⟨p, c, h⟩
  subst hlv
  have d4 : decide ((12 : Int) ≤ (xs.length : Int)) = true := by have := HFULL.out; rw [HXS.out] at this; simp; omega
  go_wp2_with fail
  go_ret
  exact ⟨rfl, Ext.step (Ext.step ((Ext.rfl' w).alloc _) HX.out) HX2.out⟩

set_option maxHeartbeats 4000000 in
set_option maxRecDepth 100000 in
theorem dup_ins0 (σ : Sig) (i pb mb : Nat) (bases : List (S × Value)) (A : ModA) (op : OpA) (w : World) (hM : ModIs w σ i pb mb bases A) (hn : Neat w σ) (hmain : (mget ([] : S) A.l).isSome = true) (hdb : op.db.length ≤ maxLen) (hkey : op.key.length ≤ maxLen)
    (B : BaseA) (bb mb' : Nat) (rows : List (S × Value)) (hf : findA A op.db = (some B, 0)) (hg : mget op.db bases = some (.pointer (some ⟨bb, 0, none⟩))) (hB : BaseIs w σ i op.db bb mb' rows B) (hm : B.m.length ≤ 1000000)
    (hfl : B.flags ≠ 0) (hc : (valuesA A op).2.2 = 0) (ha : andB op.flags 1 = false) (hlen : (valuesA A op).2.1.length ≤ 12) (hv0 : op.val ≠ []) (hv : op.val.length ≤ 12) (hth : thereA (valuesA A op).2.1 op.val = false) (hroom : (valuesA A op).2.1.length < 12) :
    Calls Tryz.prog 43 #[.pointer (some ⟨pb, 0, none⟩), opV op] w fun e w' => e = .returned .nilIface ∧ ∃ σ', ModIs w' σ' i pb mb bases (setBase A op.db ⟨B.flags, mput op.key ((valuesA A op).2.1.take (placeA (valuesA A op).2.1 op.val) ++ op.val :: (valuesA A op).2.1.drop (placeA (valuesA A op).2.1 op.val)) B.m⟩) ∧ Moved σ i w σ' w' := by
  have HC := Lib.hid (find_call hM hmain hdb hf hg)
  have HV := Lib.hid fun o => values_ok σ i pb mb bases A op (w.alloc o) (hM.ext ((Ext.rfl' w).alloc o)) hmain hdb hkey B bb mb' rows hf hg (hB.ext ((Ext.rfl' w).alloc o))
  have HM := Lib.hid hM
  have HB := Lib.hid hB
  obtain ⟨g1, g2, g3, g4, g5⟩ := hB
  have hc0 := cellAt g2 0
  have hc1 := cellAt g2 1
  simp at hc0 hc1
  have HG := Lib.hid hg
  clear g1 g2 g3 g4 g5 hM hf hg
  have hfl' : (B.flags == 0) = false := by simpa using hfl
  have HF := Lib.hid hfl
  clear hfl
  have hc2 := hc
  rw [hc] at HV
  clear hc2
  unfold andB at ha
  have HLEN := Lib.hid hlen
  have HTH := Lib.hid hth
  have HV00 := Lib.hid hv0
  have HVL := Lib.hid hv
  clear hlen hth hv0 hv
  have HROOM := Lib.hid hroom
  clear hroom
  have HC0 := Lib.hid hc0
  have HC1 := Lib.hid hc1
  have c0 := ((Ext.rfl' w).alloc (.cells (opCells op) 30 (0, 0))).cell hc0
  unfold opCells at c0
  clear hc0 hc1
  unfold opV opCells
  go_enter Tryz.func43, Tryz.ntmps43
  go_wp2_with (first | (go_at_call 77; refine (HC.out _).mono ?_; rintro e w' ⟨rfl, rfl⟩) | fail)
  refine (HV.out _).mono ?_
  rintro e w1 ⟨bv, lv, rfl, hext, hv0, hv21⟩
  rw [errV_0]
  have hbox := boxAt hext
  have b2 := cellAt hbox 2
  have b3 := cellAt hbox 3
  have b4 := cellAt hbox 4
  simp [opCells] at b2 b3 b4
  have c0' := hext.cell (((Ext.rfl' w).alloc (.cells (opCells op) 30 (0, 0))).cell HC0.out)
  have c1' := hext.cell (((Ext.rfl' w).alloc (.cells (opCells op) 30 (0, 0))).cell HC1.out)
  have HX := Lib.hid hext
  have HV0 := Lib.hid hv0
  have HV21 := Lib.hid hv21
  clear hext hbox c0 hv0 hv21
  obtain ⟨xs, hxs, hrow, hlab⟩ : ∃ xs, (valuesA A op).2.1 = xs ∧ w1.ownsRow 0 9 1 lv xs.length (xs.map encStr) ∧ ∀ g, lv.ownBlock = some g → g < w.heap.size ∧ σ g = (i, .row op.db op.key) := by
    obtain ⟨_, xs, h1, h2, h3, h4⟩ := HV0.out trivial
    obtain ⟨lv', h5, h6⟩ := HB.out.2.2.2.2.get_some h2
    rw [h1] at h5
    injection h5 with h5
    subst h5
    exact ⟨xs, by rw [h3], owns_ext h4.1 HX.out, fun g e => ⟨(h6.1.lt g e).2, h6.2 g e⟩⟩
  have HXS := Lib.hid hxs
  have HLAB := Lib.hid hlab
  have HROW := Lib.hid hrow
  clear hxs hlab hrow
  have E1 := run_eql_errno
  have E2 := run_neq_errno
  have E3 := run_eql_nil_errno
  have E4 := run_neq_nil_errno
  have HBS := Lib.hid (bsS_any lv xs op.val w1 HROW.out (by have := HLEN.out; rw [HXS.out] at this; omega))
  have HTH' : Hid (thereA xs op.val = false) := by have := HTH.out; rw [HXS.out] at this; exact this
  rw [HTH'.out] at HBS
  go_wp2_with fail
  refine HBS.out.mono ?_
  rintro e w2 ⟨rfl, hq⟩
  have hx2 : Ext w1 w2 := Ext.ofDraws hq
  have b2q := hx2.cell b2
  have b3q := hx2.cell b3
  have b4q := hx2.cell b4
  have c1q := hx2.cell c1'
  have HX2 := Lib.hid hx2
  clear hx2 b2 b3 b4 c1' c0' hq
  obtain ⟨a, r, hv', hlr⟩ : ∃ a r, op.val = a :: r ∧ r.length + 1 ≤ 12 := by
    have hv := HVL.out
    cases h : op.val with
    | nil => exact absurd h HV00.out
    | cons a r => rw [h] at hv; exact ⟨a, r, rfl, by simpa using hv⟩
  have HVV := Lib.hid hv'
  have b3r : w2.cell? ⟨w.heap.size, 3, none⟩ = some (encStr (a :: r)) := by rw [← HVV.out]; exact b3q
  have d3 : decide ((12 : Int) < (r.length : Int) + 1) = false := by simp; omega
  clear hv' b3q
  obtain ⟨lp, lc, hlv⟩ : ∃ lp lc, lv = .slice lp xs.length lc := by obtain ⟨_, p, c, h, _⟩ := Sl.ofOwns HROW.out; exact ⟨p, c, h⟩
  subst hlv
  have d4 : decide ((12 : Int) ≤ (xs.length : Int)) = false := by have := HROOM.out; rw [HXS.out] at this; simp; omega
  go_wp2_with fail
  have hXw2 : Ext w w2 := Ext.step (Ext.step ((Ext.rfl' w).alloc _) HX.out) HX2.out
  have HXW := Lib.hid hXw2
  have HI := Lib.hid fun (W3 : World) (hx : Ext w2 W3) (hc : W3.heap[w2.heap.size]? = some (.cells #[encStr (a :: r)] 9 (0, 0))) => insertS_own (.slice lp xs.length lc) xs (placeA xs op.val) w2.heap.size (a :: r) 9 W3 (owns_ext HROW.out (Ext.step HX2.out hx)) (placeA_le _ _)
    (by have := HLEN.out; rw [HXS.out] at this; omega) hc (fun e => by have := (HLAB.out _ e).1; have := hXw2.size; omega)
  clear hXw2
  go_region_held3 (fun w' => w'.cell? ⟨bb, 1, none⟩ = some (.map (some mb')) ∧ w'.cell? ⟨w.heap.size, 2, none⟩ = some (encStr op.key) ∧ w'.cell? ⟨w.heap.size, 3, none⟩ = some (encStr (a :: r)))
    (first | exact ⟨c1q, b2q, b3r⟩ | exact K5.out | exact K4.out | exact ⟨((Ext.rfl' w2).alloc _).cell c1q, ((Ext.rfl' w2).alloc _).cell b2q, ((Ext.rfl' w2).alloc _).cell b3r⟩)
    (first
      | (go_at_call 80; refine (HI.out _ (by first | exact Ext.alloc (Ext.rfl' w2) _ | exact (Ext.alloc (Ext.rfl' w2) _).drew | exact (Ext.alloc (Ext.drew' (Ext.rfl' w2)) _)) (by first | exact heap_new w2 _ | exact heap_new w2.drew _)).mono ?_; rintro e w4 ⟨v', rfl, hown4, hgrow4, hat4⟩
         have hKK : ∀ g o u, g < w2.heap.size → σ g ≠ (i, .row op.db op.key) ∨ w.heap.size ≤ g → w2.cell? ⟨g, o, none⟩ = some u → w4.cell? ⟨g, o, none⟩ = some u := fun g o u hg hl hc => by
           rw [World.cell?_of_block (w := w2) (w' := w4) (a := ⟨g, o, none⟩) ?_]; exact hc
           have h1 := hgrow4.block g (by simp; omega) (fun e => by
             have := HLAB.out _ e.symm
             rcases hl with hl | hl
             · exact hl this.2
             · omega)
           rw [h1]
           exact (Ext.alloc (Ext.rfl' w2) _).block g hg
         have K4 := Lib.hid (And.intro (hKK bb 1 _ (lt_of_cell c1q) (.inl (by rw [HB.out.1]; simp)) c1q) (And.intro (hKK w.heap.size 2 _ (lt_of_cell b2q) (.inr (Nat.le_refl _)) b2q) (hKK w.heap.size 3 _ (lt_of_cell b3r) (.inr (Nat.le_refl _)) b3r)))
         obtain ⟨w5, hr, hM5, ht5⟩ := (HB.out.2.2.2.1.same (w' := w4) (by
            rw [hgrow4.block mb' (by have := HB.out.2.2.2.1.lt; have := HXW.out.size; simp; omega) (fun e => by
              have h1 := (HLAB.out _ e.symm).2
              rw [HB.out.2.2.1] at h1
              cases h1)]
            exact (Ext.alloc HXW.out _).block mb' HB.out.2.2.2.1.lt)).store (t := 56) (e := 53) keyedS Tryz.underlying56 (by have := HB.out.2.2.2.2.length; unfold maxLen; omega) (keyS hkey) v'
         have HO4 := Lib.hid hown4
         have HG4 := Lib.hid hgrow4
         have HA4 := Lib.hid hat4
         have HM5 := Lib.hid hM5
         have HT5 := Lib.hid ht5
         have K5 : Hid (w5.cell? ⟨bb, 1, none⟩ = some (.map (some mb')) ∧ w5.cell? ⟨w.heap.size, 2, none⟩ = some (encStr op.key) ∧ w5.cell? ⟨w.heap.size, 3, none⟩ = some (encStr (a :: r))) := by
           have hne : bb ≠ mb' := fun e => by have h1 := HB.out.1; have h2 := HB.out.2.2.1; rw [e, h2] at h1; cases h1
           have hne2 : w.heap.size ≠ mb' := fun e => by have := HB.out.2.2.2.1.lt; omega
           refine ⟨?_, ?_, ?_⟩
           · rw [World.cell?_of_block (w := w4) (w' := w5) (a := ⟨bb, 1, none⟩) (mapTurned_other ht5 hne)]; exact K4.out.1
           · rw [World.cell?_of_block (w := w4) (w' := w5) (a := ⟨w.heap.size, 2, none⟩) (mapTurned_other ht5 hne2)]; exact K4.out.2.1
           · rw [World.cell?_of_block (w := w4) (w' := w5) (a := ⟨w.heap.size, 3, none⟩) (mapTurned_other ht5 hne2)]; exact K4.out.2.2
         clear hown4 hgrow4 hat4 hM5 ht5 hKK))
  go_wp2
  go_ret
  refine ⟨rfl, ?_⟩
  have hl : (xs.take (placeA xs op.val) ++ (a :: r) :: xs.drop (placeA xs op.val)).length = xs.length + 1 := by have := placeA_le xs op.val; simp; omega
  have ho := HO4.out
  rw [← hl] at ho
  have := put_ins hn HM.out HB.out HG.out (by first | exact Ext.alloc HXW.out _ | exact (Ext.alloc HXW.out _).drew | exact Ext.alloc (Ext.drew' HXW.out) _) HLAB.out ho HG4.out HA4.out HM5.out HT5.out
  rw [HXS.out, HVV.out]
  rw [HVV.out] at this
  exact this

set_option maxHeartbeats 4000000 in
set_option maxRecDepth 100000 in
theorem dup_ins21 (σ : Sig) (i pb mb : Nat) (bases : List (S × Value)) (A : ModA) (op : OpA) (w : World) (hM : ModIs w σ i pb mb bases A) (hn : Neat w σ) (hmain : (mget ([] : S) A.l).isSome = true) (hdb : op.db.length ≤ maxLen) (hkey : op.key.length ≤ maxLen)
    (B : BaseA) (bb mb' : Nat) (rows : List (S × Value)) (hf : findA A op.db = (some B, 0)) (hg : mget op.db bases = some (.pointer (some ⟨bb, 0, none⟩))) (hB : BaseIs w σ i op.db bb mb' rows B) (hm : B.m.length ≤ 1000000)
    (hfl : B.flags ≠ 0) (hc : (valuesA A op).2.2 = 21) (hlen : (valuesA A op).2.1.length ≤ 12) (hv0 : op.val ≠ []) (hv : op.val.length ≤ 12) (hth : thereA (valuesA A op).2.1 op.val = false) (hroom : (valuesA A op).2.1.length < 12) :
    Calls Tryz.prog 43 #[.pointer (some ⟨pb, 0, none⟩), opV op] w fun e w' => e = .returned .nilIface ∧ ∃ σ', ModIs w' σ' i pb mb bases (setBase A op.db ⟨B.flags, mput op.key ((valuesA A op).2.1.take (placeA (valuesA A op).2.1 op.val) ++ op.val :: (valuesA A op).2.1.drop (placeA (valuesA A op).2.1 op.val)) B.m⟩) ∧ Moved σ i w σ' w' := by
  have HC := Lib.hid (find_call hM hmain hdb hf hg)
  have HV := Lib.hid fun o => values_ok σ i pb mb bases A op (w.alloc o) (hM.ext ((Ext.rfl' w).alloc o)) hmain hdb hkey B bb mb' rows hf hg (hB.ext ((Ext.rfl' w).alloc o))
  have HM := Lib.hid hM
  have HB := Lib.hid hB
  obtain ⟨g1, g2, g3, g4, g5⟩ := hB
  have hc0 := cellAt g2 0
  have hc1 := cellAt g2 1
  simp at hc0 hc1
  have HG := Lib.hid hg
  clear g1 g2 g3 g4 g5 hM hf hg
  have hfl' : (B.flags == 0) = false := by simpa using hfl
  have HF := Lib.hid hfl
  clear hfl
  have hc2 := hc
  rw [hc] at HV
  clear hc2
  have HLEN := Lib.hid hlen
  have HTH := Lib.hid hth
  have HV00 := Lib.hid hv0
  have HVL := Lib.hid hv
  clear hlen hth hv0 hv
  have HROOM := Lib.hid hroom
  clear hroom
  have HC0 := Lib.hid hc0
  have HC1 := Lib.hid hc1
  have c0 := ((Ext.rfl' w).alloc (.cells (opCells op) 30 (0, 0))).cell hc0
  unfold opCells at c0
  clear hc0 hc1
  unfold opV opCells
  go_enter Tryz.func43, Tryz.ntmps43
  go_wp2_with (first | (go_at_call 77; refine (HC.out _).mono ?_; rintro e w' ⟨rfl, rfl⟩) | fail)
  refine (HV.out _).mono ?_
  rintro e w1 ⟨bv, lv, rfl, hext, hv0, hv21⟩
  rw [errV_ne (by decide)]
  have hbox := boxAt hext
  have b2 := cellAt hbox 2
  have b3 := cellAt hbox 3
  have b4 := cellAt hbox 4
  simp [opCells] at b2 b3 b4
  have c0' := hext.cell (((Ext.rfl' w).alloc (.cells (opCells op) 30 (0, 0))).cell HC0.out)
  have c1' := hext.cell (((Ext.rfl' w).alloc (.cells (opCells op) 30 (0, 0))).cell HC1.out)
  have HX := Lib.hid hext
  have HV0 := Lib.hid hv0
  have HV21 := Lib.hid hv21
  clear hext hbox c0 hv0 hv21
  obtain ⟨xs, hxs, hrow, hlab⟩ : ∃ xs, (valuesA A op).2.1 = xs ∧ w1.ownsRow 0 9 1 lv xs.length (xs.map encStr) ∧ ∀ g, lv.ownBlock = some g → g < w.heap.size ∧ σ g = (i, .row op.db op.key) := by
    obtain ⟨h1, h2⟩ := HV21.out trivial
    subst h1
    exact ⟨[], h2, owns_nil _ _ _ _, fun g e => by cases e⟩
  have HXS := Lib.hid hxs
  have HLAB := Lib.hid hlab
  have HROW := Lib.hid hrow
  clear hxs hlab hrow
  have E1 := run_eql_errno
  have E2 := run_neq_errno
  have E3 := run_eql_nil_errno
  have E4 := run_neq_nil_errno
  have HBS := Lib.hid (bsS_any lv xs op.val w1 HROW.out (by have := HLEN.out; rw [HXS.out] at this; omega))
  have HTH' : Hid (thereA xs op.val = false) := by have := HTH.out; rw [HXS.out] at this; exact this
  rw [HTH'.out] at HBS
  go_wp2_with fail
  refine HBS.out.mono ?_
  rintro e w2 ⟨rfl, hq⟩
  have hx2 : Ext w1 w2 := Ext.ofDraws hq
  have b2q := hx2.cell b2
  have b3q := hx2.cell b3
  have b4q := hx2.cell b4
  have c1q := hx2.cell c1'
  have HX2 := Lib.hid hx2
  clear hx2 b2 b3 b4 c1' c0' hq
  obtain ⟨a, r, hv', hlr⟩ : ∃ a r, op.val = a :: r ∧ r.length + 1 ≤ 12 := by
    have hv := HVL.out
    cases h : op.val with
    | nil => exact absurd h HV00.out
    | cons a r => rw [h] at hv; exact ⟨a, r, rfl, by simpa using hv⟩
  have HVV := Lib.hid hv'
  have b3r : w2.cell? ⟨w.heap.size, 3, none⟩ = some (encStr (a :: r)) := by rw [← HVV.out]; exact b3q
  have d3 : decide ((12 : Int) < (r.length : Int) + 1) = false := by simp; omega
  clear hv' b3q
  obtain ⟨lp, lc, hlv⟩ : ∃ lp lc, lv = .slice lp xs.length lc := by obtain ⟨_, p, c, h, _⟩ := Sl.ofOwns HROW.out; exact ⟨p, c, h⟩
  subst hlv
  have d4 : decide ((12 : Int) ≤ (xs.length : Int)) = false := by have := HROOM.out; rw [HXS.out] at this; simp; omega
  go_wp2_with fail
  have hXw2 : Ext w w2 := Ext.step (Ext.step ((Ext.rfl' w).alloc _) HX.out) HX2.out
  have HXW := Lib.hid hXw2
  have HI := Lib.hid fun (W3 : World) (hx : Ext w2 W3) (hc : W3.heap[w2.heap.size]? = some (.cells #[encStr (a :: r)] 9 (0, 0))) => insertS_own (.slice lp xs.length lc) xs (placeA xs op.val) w2.heap.size (a :: r) 9 W3 (owns_ext HROW.out (Ext.step HX2.out hx)) (placeA_le _ _)
    (by have := HLEN.out; rw [HXS.out] at this; omega) hc (fun e => by have := (HLAB.out _ e).1; have := hXw2.size; omega)
  clear hXw2
  go_region_held3 (fun w' => w'.cell? ⟨bb, 1, none⟩ = some (.map (some mb')) ∧ w'.cell? ⟨w.heap.size, 2, none⟩ = some (encStr op.key) ∧ w'.cell? ⟨w.heap.size, 3, none⟩ = some (encStr (a :: r)))
    (first | exact ⟨c1q, b2q, b3r⟩ | exact K5.out | exact K4.out | exact ⟨((Ext.rfl' w2).alloc _).cell c1q, ((Ext.rfl' w2).alloc _).cell b2q, ((Ext.rfl' w2).alloc _).cell b3r⟩)
    (first
      | (go_at_call 80; refine (HI.out _ (by first | exact Ext.alloc (Ext.rfl' w2) _ | exact (Ext.alloc (Ext.rfl' w2) _).drew | exact (Ext.alloc (Ext.drew' (Ext.rfl' w2)) _)) (by first | exact heap_new w2 _ | exact heap_new w2.drew _)).mono ?_; rintro e w4 ⟨v', rfl, hown4, hgrow4, hat4⟩
         have hKK : ∀ g o u, g < w2.heap.size → σ g ≠ (i, .row op.db op.key) ∨ w.heap.size ≤ g → w2.cell? ⟨g, o, none⟩ = some u → w4.cell? ⟨g, o, none⟩ = some u := fun g o u hg hl hc => by
           rw [World.cell?_of_block (w := w2) (w' := w4) (a := ⟨g, o, none⟩) ?_]; exact hc
           have h1 := hgrow4.block g (by simp; omega) (fun e => by
             have := HLAB.out _ e.symm
             rcases hl with hl | hl
             · exact hl this.2
             · omega)
           rw [h1]
           exact (Ext.alloc (Ext.rfl' w2) _).block g hg
         have K4 := Lib.hid (And.intro (hKK bb 1 _ (lt_of_cell c1q) (.inl (by rw [HB.out.1]; simp)) c1q) (And.intro (hKK w.heap.size 2 _ (lt_of_cell b2q) (.inr (Nat.le_refl _)) b2q) (hKK w.heap.size 3 _ (lt_of_cell b3r) (.inr (Nat.le_refl _)) b3r)))
         obtain ⟨w5, hr, hM5, ht5⟩ := (HB.out.2.2.2.1.same (w' := w4) (by
            rw [hgrow4.block mb' (by have := HB.out.2.2.2.1.lt; have := HXW.out.size; simp; omega) (fun e => by
              have h1 := (HLAB.out _ e.symm).2
              rw [HB.out.2.2.1] at h1
              cases h1)]
            exact (Ext.alloc HXW.out _).block mb' HB.out.2.2.2.1.lt)).store (t := 56) (e := 53) keyedS Tryz.underlying56 (by have := HB.out.2.2.2.2.length; unfold maxLen; omega) (keyS hkey) v'
         have HO4 := Lib.hid hown4
         have HG4 := Lib.hid hgrow4
         have HA4 := Lib.hid hat4
         have HM5 := Lib.hid hM5
         have HT5 := Lib.hid ht5
         have K5 : Hid (w5.cell? ⟨bb, 1, none⟩ = some (.map (some mb')) ∧ w5.cell? ⟨w.heap.size, 2, none⟩ = some (encStr op.key) ∧ w5.cell? ⟨w.heap.size, 3, none⟩ = some (encStr (a :: r))) := by
           have hne : bb ≠ mb' := fun e => by have h1 := HB.out.1; have h2 := HB.out.2.2.1; rw [e, h2] at h1; cases h1
           have hne2 : w.heap.size ≠ mb' := fun e => by have := HB.out.2.2.2.1.lt; omega
           refine ⟨?_, ?_, ?_⟩
           · rw [World.cell?_of_block (w := w4) (w' := w5) (a := ⟨bb, 1, none⟩) (mapTurned_other ht5 hne)]; exact K4.out.1
           · rw [World.cell?_of_block (w := w4) (w' := w5) (a := ⟨w.heap.size, 2, none⟩) (mapTurned_other ht5 hne2)]; exact K4.out.2.1
           · rw [World.cell?_of_block (w := w4) (w' := w5) (a := ⟨w.heap.size, 3, none⟩) (mapTurned_other ht5 hne2)]; exact K4.out.2.2
         clear hown4 hgrow4 hat4 hM5 ht5 hKK))
  go_wp2
  go_ret
  refine ⟨rfl, ?_⟩
  have hl : (xs.take (placeA xs op.val) ++ (a :: r) :: xs.drop (placeA xs op.val)).length = xs.length + 1 := by have := placeA_le xs op.val; simp; omega
  have ho := HO4.out
  rw [← hl] at ho
  have := put_ins hn HM.out HB.out HG.out (by first | exact Ext.alloc HXW.out _ | exact (Ext.alloc HXW.out _).drew | exact Ext.alloc (Ext.drew' HXW.out) _) HLAB.out ho HG4.out HA4.out HM5.out HT5.out
  rw [HXS.out, HVV.out]
  rw [HVV.out] at this
  exact this

end Go.Proofs.YtmkhjmldncegcaaGreatDoor

/-
  past.Model.put: all its ways in one contract.
-/
set_option linter.unusedVariables false
set_option linter.unusedSimpArgs false
namespace Go.Proofs.YtmkhjmldncegcaaGreatDoor
open Go.RowKit Go.Maps Go.ChangeMaps Go.MapKept

theorem quiet_way {σ : Sig} {i pb mb : Nat} {bases : List (S × Value)} {A : ModA} {w : World} {f : FuncId} {args : Array Value} {v v' : Value} (hM : ModIs w σ i pb mb bases A) (hn : Neat w σ) (hv : v = v')
    (h : Calls Tryz.prog f args w fun e w' => e = .returned v ∧ Ext w w') : Calls Tryz.prog f args w fun e w' => e = .returned v' ∧ ∃ σ', ModIs w' σ' i pb mb bases A ∧ Moved σ i w σ' w' :=
  h.mono fun e w' ⟨h1, h2⟩ => ⟨by rw [h1, hv], σ, hM.ext h2, Moved.ofExt hn h2 i⟩

theorem vals_found {A : ModA} {op : OpA} {B : BaseA} (hf : findA A op.db = (some B, 0)) (h : (valuesA A op).2.2 = 0) : ∃ xs, mget op.key B.m = some xs ∧ (valuesA A op).2.1 = xs ∧ (valuesA A op).1 = some B := by
  unfold valuesA at h ⊢
  rw [hf] at h ⊢
  rw [if_neg (by simp)] at h ⊢
  split at h
  · exact absurd h (by decide)
  · rename_i h1
    rw [if_neg h1]
    split at h
    · exact absurd h (by decide)
    · rename_i h2
      rw [if_neg h2]
      simp only [Option.getD_some] at h ⊢
      cases hg : mget op.key B.m with
      | none => rw [hg] at h; exact absurd h (by simp)
      | some xs => exact ⟨xs, rfl, rfl, rfl⟩
theorem vals_none {A : ModA} {op : OpA} {B : BaseA} (hf : findA A op.db = (some B, 0)) (h : (valuesA A op).2.2 ≠ 0) : (valuesA A op).2.1 = [] := by
  unfold valuesA at h ⊢
  rw [hf] at h ⊢
  rw [if_neg (by simp)] at h ⊢
  split at h
  · rename_i h1; rw [if_pos h1]
  · rename_i h1
    rw [if_neg h1]
    split at h
    · rename_i h2; rw [if_pos h2]
    · rename_i h2
      rw [if_neg h2]
      simp only [Option.getD_some] at h ⊢
      cases hg : mget op.key B.m with
      | none => rfl
      | some xs => rw [hg] at h; exact absurd rfl h

theorem put_any (σ : Sig) (i pb mb : Nat) (bases : List (S × Value)) (A : ModA) (op : OpA) (w : World) (m : Nat) (hM : ModIs w σ i pb mb bases A) (hn : Neat w σ) (hs : Sound A m) (hm : m ≤ 1000000) (hdb : op.db.length ≤ maxLen) (hkey : op.key.length ≤ maxLen) :
    Calls Tryz.prog 43 #[.pointer (some ⟨pb, 0, none⟩), opV op] w fun e w' => e = .returned (errV (putA A op).2) ∧ ∃ σ', ModIs w' σ' i pb mb bases (putA A op).1 ∧ Moved σ i w σ' w' := by
  by_cases h0 : (findA A op.db).2 = 0
  · obtain ⟨B, bb, mb', rows, hf, hgA, hg, hB⟩ := find_at hM hs.main h0
    have hBm : B.m.length ≤ 1000000 := Nat.le_trans (hs.keys _ _ (mget_mem hgA)) hm
    have hlen : (valuesA A op).2.1.length ≤ 12 := by
      by_cases hc : (valuesA A op).2.2 = 0
      · obtain ⟨xs, h1, h2, _⟩ := vals_found hf hc
        rw [h2]; exact (hs.vals _ _ (mget_mem hgA) _ (mget_mem h1)).2
      · rw [vals_none hf hc]; simp
    have hP : putA A op = if B.flags = 0 ∧ op.val.length > 1000 then (A, 22) else
      if (valuesA A op).2.2 ≠ 21 ∧ (valuesA A op).2.2 ≠ 0 then (A, (valuesA A op).2.2)
      else if (valuesA A op).2.2 = 0 ∧ andB op.flags 1 = true then (A, 20)
      else if B.flags = 0 then (setBase A op.db ⟨B.flags, mput op.key [op.val] B.m⟩, 0)
      else if op.val = [] ∨ op.val.length > 12 then (A, 22)
      else if thereA (valuesA A op).2.1 op.val = true ∧ andB op.flags 2 = true then (A, 20)
      else if thereA (valuesA A op).2.1 op.val = true then (A, 0)
      else if (valuesA A op).2.1.length ≥ 12 then (A, 28)
      else (setBase A op.db ⟨B.flags, mput op.key ((valuesA A op).2.1.take (placeA (valuesA A op).2.1 op.val) ++ op.val :: (valuesA A op).2.1.drop (placeA (valuesA A op).2.1 op.val)) B.m⟩, 0) := by
      unfold putA
      rw [hf]
      rfl
    rw [hP]
    by_cases hfl : B.flags = 0
    · by_cases hv : op.val.length > 1000
      · rw [if_pos ⟨hfl, hv⟩]
        exact quiet_way hM hn rfl (put_size σ i pb mb bases A op w hM hn hs.main hdb hkey B bb mb' rows hf hg hB hBm hfl hv)
      · rw [if_neg (fun h => hv h.2)]
        have hv' : op.val.length ≤ 1000 := by omega
        rcases vals_codes hf with hc | hc | hc | hc
        · rw [if_neg (fun h => h.2 hc)]
          cases ha : andB op.flags 1 with
          | true =>
            rw [if_pos ⟨hc, rfl⟩]
            exact quiet_way hM hn rfl (put_over σ i pb mb bases A op w hM hn hs.main hdb hkey B bb mb' rows hf hg hB hBm hfl hv' hc ha)
          | false =>
            rw [if_neg (fun h => by cases h.2), if_pos hfl]
            exact put_plain0 σ i pb mb bases A op w hM hn hs.main hdb hkey B bb mb' rows hf hg hB hBm hfl hv' hc ha
        · rw [if_neg (fun h => h.1 hc), if_neg (fun h => by have := h.1; rw [hc] at this; exact absurd this (by decide)), if_pos hfl]
          exact put_plain21 σ i pb mb bases A op w hM hn hs.main hdb hkey B bb mb' rows hf hg hB hBm hfl hv' hc
        · rw [if_pos (by rw [hc]; decide), hc]
          exact quiet_way hM hn rfl (put_vals22 σ i pb mb bases A op w hM hn hs.main hdb hkey B bb mb' rows hf hg hB hBm hfl hv' hc)
        · rw [if_pos (by rw [hc]; decide), hc]
          exact quiet_way hM hn rfl (put_vals23 σ i pb mb bases A op w hM hn hs.main hdb hkey B bb mb' rows hf hg hB hBm hfl hv' hc)
    · rw [if_neg (fun h => hfl h.1)]
      have main : ((valuesA A op).2.2 = 21 ∨ ((valuesA A op).2.2 = 0 ∧ andB op.flags 1 = false)) → Calls Tryz.prog 43 #[.pointer (some ⟨pb, 0, none⟩), opV op] w fun e w' => e = .returned (errV (if op.val = [] ∨ op.val.length > 12 then (A, (22 : Int))
        else if thereA (valuesA A op).2.1 op.val = true ∧ andB op.flags 2 = true then (A, 20)
        else if thereA (valuesA A op).2.1 op.val = true then (A, 0)
        else if (valuesA A op).2.1.length ≥ 12 then (A, 28)
        else (setBase A op.db ⟨B.flags, mput op.key ((valuesA A op).2.1.take (placeA (valuesA A op).2.1 op.val) ++ op.val :: (valuesA A op).2.1.drop (placeA (valuesA A op).2.1 op.val)) B.m⟩, 0)).2) ∧ ∃ σ', ModIs w' σ' i pb mb bases (if op.val = [] ∨ op.val.length > 12 then (A, (22 : Int))
        else if thereA (valuesA A op).2.1 op.val = true ∧ andB op.flags 2 = true then (A, 20)
        else if thereA (valuesA A op).2.1 op.val = true then (A, 0)
        else if (valuesA A op).2.1.length ≥ 12 then (A, 28)
        else (setBase A op.db ⟨B.flags, mput op.key ((valuesA A op).2.1.take (placeA (valuesA A op).2.1 op.val) ++ op.val :: (valuesA A op).2.1.drop (placeA (valuesA A op).2.1 op.val)) B.m⟩, 0)).1 ∧ Moved σ i w σ' w' := by
        intro hcc
        by_cases hv0 : op.val = []
        · rw [if_pos (.inl hv0)]
          rcases hcc with hc | ⟨hc, ha⟩
          · exact quiet_way hM hn rfl (dup_empty21 σ i pb mb bases A op w hM hn hs.main hdb hkey B bb mb' rows hf hg hB hBm hfl hc hlen hv0)
          · exact quiet_way hM hn rfl (dup_empty0 σ i pb mb bases A op w hM hn hs.main hdb hkey B bb mb' rows hf hg hB hBm hfl hc ha hlen hv0)
        · by_cases hv : op.val.length > 12
          · rw [if_pos (.inr hv)]
            rcases hcc with hc | ⟨hc, ha⟩
            · exact quiet_way hM hn rfl (dup_long21 σ i pb mb bases A op w hM hn hs.main hdb hkey B bb mb' rows hf hg hB hBm hfl hc hlen hv)
            · exact quiet_way hM hn rfl (dup_long0 σ i pb mb bases A op w hM hn hs.main hdb hkey B bb mb' rows hf hg hB hBm hfl hc ha hlen hv)
          · rw [if_neg (by rintro (h | h); exact hv0 h; exact hv h)]
            have hv' : op.val.length ≤ 12 := by omega
            rcases hcc with hc | ⟨hc, ha⟩
            · have hx := vals_none hf (by rw [hc]; decide)
              have hth : thereA (valuesA A op).2.1 op.val = false := by rw [hx]; simp [thereA]
              have hroom : (valuesA A op).2.1.length < 12 := by rw [hx]; simp
              rw [if_neg (by rw [hth]; simp), if_neg (by rw [hth]; simp), if_neg (by omega)]
              exact dup_ins21 σ i pb mb bases A op w hM hn hs.main hdb hkey B bb mb' rows hf hg hB hBm hfl hc hlen hv0 hv' hth hroom
            · cases hth : thereA (valuesA A op).2.1 op.val with
              | true =>
                cases ha2 : andB op.flags 2 with
                | true =>
                  rw [if_pos ⟨rfl, rfl⟩]
                  exact quiet_way hM hn rfl (dup_twice0 σ i pb mb bases A op w hM hn hs.main hdb hkey B bb mb' rows hf hg hB hBm hfl hc ha hlen hv0 hv' hth ha2)
                | false =>
                  rw [if_neg (fun h => by cases h.2), if_pos rfl]
                  exact quiet_way hM hn rfl (dup_there0 σ i pb mb bases A op w hM hn hs.main hdb hkey B bb mb' rows hf hg hB hBm hfl hc ha hlen hv0 hv' hth ha2)
              | false =>
                rw [if_neg (fun h => by cases h.1), if_neg (by simp)]
                by_cases hfull : (valuesA A op).2.1.length ≥ 12
                · rw [if_pos hfull]
                  exact quiet_way hM hn rfl (dup_full0 σ i pb mb bases A op w hM hn hs.main hdb hkey B bb mb' rows hf hg hB hBm hfl hc ha hlen hv0 hv' hth hfull)
                · rw [if_neg hfull]
                  exact dup_ins0 σ i pb mb bases A op w hM hn hs.main hdb hkey B bb mb' rows hf hg hB hBm hfl hc ha hlen hv0 hv' hth (by omega)
      rcases vals_codes hf with hc | hc | hc | hc
      · rw [if_neg (fun h => h.2 hc)]
        cases ha : andB op.flags 1 with
        | true =>
          rw [if_pos ⟨hc, rfl⟩]
          exact quiet_way hM hn rfl (put_overd σ i pb mb bases A op w hM hn hs.main hdb hkey B bb mb' rows hf hg hB hBm hfl hc ha)
        | false =>
          rw [if_neg (fun h => by cases h.2), if_neg hfl]
          exact main (.inr ⟨hc, ha⟩)
      · rw [if_neg (fun h => h.1 hc), if_neg (fun h => by have := h.1; rw [hc] at this; exact absurd this (by decide)), if_neg hfl]
        exact main (.inl hc)
      · rw [if_pos (by rw [hc]; decide), hc]
        exact quiet_way hM hn rfl (put_valsd22 σ i pb mb bases A op w hM hn hs.main hdb hkey B bb mb' rows hf hg hB hBm hfl hc)
      · rw [if_pos (by rw [hc]; decide), hc]
        exact quiet_way hM hn rfl (put_valsd23 σ i pb mb bases A op w hM hn hs.main hdb hkey B bb mb' rows hf hg hB hBm hfl hc)
  · have hP : putA A op = (A, (findA A op.db).2) := put_err1 h0
    rw [hP]
    exact quiet_way hM hn rfl (put_err σ i pb mb bases A op w hM hs.main hdb h0)
end Go.Proofs.YtmkhjmldncegcaaGreatDoor

/-
  WALKS: past.Model.del.
-/
set_option linter.unusedVariables false
set_option linter.unusedSimpArgs false
namespace Go.Proofs.YtmkhjmldncegcaaGreatDoor
open Go.RowKit Go.Maps Go.ChangeMaps Go.MapKept

theorem mdel_mins {κ α : Type} [Ky κ] (k : κ) (v : α) : ∀ l : List (κ × α), mdel k (mins (k, v) l) = mdel k l
  | [] => by simp [mins, mdel, sameK_self]
  | y :: r => by
    have ih := mdel_mins k v r
    unfold mins
    split
    · unfold mdel; rw [List.filter_cons]; simp [sameK_self]
    · unfold mdel at ih ⊢; rw [List.filter_cons, List.filter_cons, ih]
theorem mdel_put {κ α : Type} [Ky κ] (k : κ) (v : α) (l : List (κ × α)) : mdel k (mput k v l) = mdel k l := by
  unfold mput
  rw [mdel_mins]
  unfold mdel
  rw [List.filter_filter]
  simp
theorem mset_set {κ α : Type} [Ky κ] (k : κ) (v v' : α) (l : List (κ × α)) : mset k v' (mset k v l) = mset k v' l := by
  unfold mset
  rw [List.map_map]
  congr 1
  funext p
  show (if sameK (if sameK p.1 k then (p.1, v) else p).1 k then ((if sameK p.1 k then (p.1, v) else p).1, v') else (if sameK p.1 k then (p.1, v) else p)) = _
  cases e : sameK p.1 k <;> simp [e]

theorem MapOf.unique {w : World} {kt : TypeId} {b : Nat} {κ : Type} [Ky κ] {vs vs' : List (κ × Value)} (h : MapOf w kt b vs) (h' : MapOf w kt b vs') : vs = vs' := by
  obtain ⟨es, c, hb, F, hs, hD⟩ := h
  obtain ⟨es', c', hb', F', hs', hD'⟩ := h'
  rw [hb] at hb'
  injection hb' with hb'
  injection hb' with e1 e2
  subst e1
  rw [← hD'] at hD
  unfold toD at hD
  injection hD with hD
  have inj : ∀ (a b : List (κ × Value)), a.map (fun p => (Ky.lit p.1, (DataW.held p.2 : DataW Value))) = b.map (fun p => (Ky.lit p.1, DataW.held p.2)) → a = b := by
    intro a
    induction a with
    | nil => intro b h; cases b with | nil => rfl | cons _ _ => simp at h
    | cons x r ih =>
      intro b h
      cases b with
      | nil => simp at h
      | cons y s =>
        simp only [List.map_cons, List.cons.injEq, Prod.mk.injEq] at h
        obtain ⟨⟨h1, h2⟩, h3⟩ := h
        have e1 := Ky.inj _ _ h1
        injection h2 with h2
        rw [ih s h3, show x = y from Prod.ext e1 h2]
  exact inj _ _ hD

/-- Behind a deletion of a key. -/
theorem del_key {σ : Sig} {i pb mb : Nat} {bases : List (S × Value)} {A : ModA} {w w1 w2 : World} {db key : S} {bb mb' : Nat} {rows : List (S × Value)} {B : BaseA} (hn : Neat w σ) (hM : ModIs w σ i pb mb bases A) (hB : BaseIs w σ i db bb mb' rows B)
    (hg : mget db bases = some (.pointer (some ⟨bb, 0, none⟩))) (e1 : Ext w w1) (hM2 : MapOf w2 9 mb' (mdel key rows)) (ht : w1.mapTurned w2 mb') :
    ModIs w2 σ i pb mb bases (setBase A db ⟨B.flags, mdel key B.m⟩) ∧ Moved σ i w σ w2 := by
  have hmb := hB.2.2.1
  have k1 : Keep (fun l => l.1 = i ∧ l ≠ (i, .vals db) ∧ l ≠ (i, .row db key)) σ w σ w2 :=
    (Keep.ofExt e1 _ σ).trans e1.size (Keep.ofOnly (Only.ofMap ht) (by rw [hmb]; simp))
  refine ⟨hM.rebase hg hB k1 hmb hM2 (Beside.del' (R := fun k v xs => RowAt w σ (i, .row db k) v xs) (R' := fun k v xs => RowAt w2 σ (i, .row db k) v xs) (fun k a b hk h => RowAt.keep h k1 (by simp [hk])) hB.2.2.2.2), ?_⟩
  exact (Moved.ofExt hn e1 i).trans (Moved.ofMap (hn.ext e1) ht (by rw [hmb]))

set_option maxHeartbeats 1000000 in
set_option maxRecDepth 100000 in
theorem del_err (σ : Sig) (i pb mb : Nat) (bases : List (S × Value)) (A : ModA) (op : OpA) (w : World) (hM : ModIs w σ i pb mb bases A) (hmain : (mget ([] : S) A.l).isSome = true) (hdb : op.db.length ≤ maxLen) (he : (findA A op.db).2 ≠ 0) :
    Calls Tryz.prog 44 #[.pointer (some ⟨pb, 0, none⟩), opV op] w fun e w' => e = .returned (errV (findA A op.db).2) ∧ Ext w w' := by
  have HV := Lib.hid fun o => values_err σ i pb mb bases A op (w.alloc o) (hM.ext ((Ext.rfl' w).alloc o)) hmain hdb he
  have HE := Lib.hid (errV_ne he)
  clear hM hmain he
  unfold opV opCells
  go_enter Tryz.func44, Tryz.ntmps44
  go_wp2_with fail
  refine (HV.out _).mono ?_
  rintro e w1 ⟨rfl, hext⟩
  rw [HE.out]
  have HX := Lib.hid hext
  clear hext
  go_wp2_with fail
  go_ret
  exact ⟨by first | rfl | (rw [HE.out]; rfl), Ext.step ((Ext.rfl' w).alloc _) HX.out⟩

set_option maxHeartbeats 4000000 in
set_option maxRecDepth 100000 in
theorem del_vals21 (σ : Sig) (i pb mb : Nat) (bases : List (S × Value)) (A : ModA) (op : OpA) (w : World) (hM : ModIs w σ i pb mb bases A) (hn : Neat w σ) (hmain : (mget ([] : S) A.l).isSome = true) (hdb : op.db.length ≤ maxLen) (hkey : op.key.length ≤ maxLen)
    (B : BaseA) (bb mb' : Nat) (rows : List (S × Value)) (hf : findA A op.db = (some B, 0)) (hg : mget op.db bases = some (.pointer (some ⟨bb, 0, none⟩))) (hB : BaseIs w σ i op.db bb mb' rows B) (hm : B.m.length ≤ 1000000)
    (hc : (valuesA A op).2.2 = 21) :
    Calls Tryz.prog 44 #[.pointer (some ⟨pb, 0, none⟩), opV op] w fun e w' => e = .returned (.iface 71 (.int .i64 21)) ∧ Ext w w' := by
  have HV := Lib.hid fun o => values_ok σ i pb mb bases A op (w.alloc o) (hM.ext ((Ext.rfl' w).alloc o)) hmain hdb hkey B bb mb' rows hf hg (hB.ext ((Ext.rfl' w).alloc o))
  have HM := Lib.hid hM
  have HB := Lib.hid hB
  obtain ⟨g1, g2, g3, g4, g5⟩ := hB
  have hc1 := cellAt g2 1
  simp at hc1
  have HG := Lib.hid hg
  have HC1 := Lib.hid hc1
  clear g1 g2 g3 g4 g5 hM hf hg hc1
  rw [hc] at HV
  unfold opV opCells
  go_enter Tryz.func44, Tryz.ntmps44
  go_wp2_with fail
  refine (HV.out _).mono ?_
  rintro e w1 ⟨bv, lv, rfl, hext, hv0, hv21⟩
  rw [errV_ne (by decide)]
  have HX := Lib.hid hext
  have HV0 := Lib.hid hv0
  clear hv0 hv21
  clear hext
  go_wp2_with fail
  go_ret
  exact ⟨rfl, Ext.step ((Ext.rfl' w).alloc _) HX.out⟩

set_option maxHeartbeats 4000000 in
set_option maxRecDepth 100000 in
theorem del_vals22 (σ : Sig) (i pb mb : Nat) (bases : List (S × Value)) (A : ModA) (op : OpA) (w : World) (hM : ModIs w σ i pb mb bases A) (hn : Neat w σ) (hmain : (mget ([] : S) A.l).isSome = true) (hdb : op.db.length ≤ maxLen) (hkey : op.key.length ≤ maxLen)
    (B : BaseA) (bb mb' : Nat) (rows : List (S × Value)) (hf : findA A op.db = (some B, 0)) (hg : mget op.db bases = some (.pointer (some ⟨bb, 0, none⟩))) (hB : BaseIs w σ i op.db bb mb' rows B) (hm : B.m.length ≤ 1000000)
    (hc : (valuesA A op).2.2 = 22) :
    Calls Tryz.prog 44 #[.pointer (some ⟨pb, 0, none⟩), opV op] w fun e w' => e = .returned (.iface 71 (.int .i64 22)) ∧ Ext w w' := by
  have HV := Lib.hid fun o => values_ok σ i pb mb bases A op (w.alloc o) (hM.ext ((Ext.rfl' w).alloc o)) hmain hdb hkey B bb mb' rows hf hg (hB.ext ((Ext.rfl' w).alloc o))
  have HM := Lib.hid hM
  have HB := Lib.hid hB
  obtain ⟨g1, g2, g3, g4, g5⟩ := hB
  have hc1 := cellAt g2 1
  simp at hc1
  have HG := Lib.hid hg
  have HC1 := Lib.hid hc1
  clear g1 g2 g3 g4 g5 hM hf hg hc1
  rw [hc] at HV
  unfold opV opCells
  go_enter Tryz.func44, Tryz.ntmps44
  go_wp2_with fail
  refine (HV.out _).mono ?_
  rintro e w1 ⟨bv, lv, rfl, hext, hv0, hv21⟩
  rw [errV_ne (by decide)]
  have HX := Lib.hid hext
  have HV0 := Lib.hid hv0
  clear hv0 hv21
  clear hext
  go_wp2_with fail
  go_ret
  exact ⟨rfl, Ext.step ((Ext.rfl' w).alloc _) HX.out⟩

set_option maxHeartbeats 4000000 in
set_option maxRecDepth 100000 in
theorem del_vals23 (σ : Sig) (i pb mb : Nat) (bases : List (S × Value)) (A : ModA) (op : OpA) (w : World) (hM : ModIs w σ i pb mb bases A) (hn : Neat w σ) (hmain : (mget ([] : S) A.l).isSome = true) (hdb : op.db.length ≤ maxLen) (hkey : op.key.length ≤ maxLen)
    (B : BaseA) (bb mb' : Nat) (rows : List (S × Value)) (hf : findA A op.db = (some B, 0)) (hg : mget op.db bases = some (.pointer (some ⟨bb, 0, none⟩))) (hB : BaseIs w σ i op.db bb mb' rows B) (hm : B.m.length ≤ 1000000)
    (hc : (valuesA A op).2.2 = 23) :
    Calls Tryz.prog 44 #[.pointer (some ⟨pb, 0, none⟩), opV op] w fun e w' => e = .returned (.iface 71 (.int .i64 23)) ∧ Ext w w' := by
  have HV := Lib.hid fun o => values_ok σ i pb mb bases A op (w.alloc o) (hM.ext ((Ext.rfl' w).alloc o)) hmain hdb hkey B bb mb' rows hf hg (hB.ext ((Ext.rfl' w).alloc o))
  have HM := Lib.hid hM
  have HB := Lib.hid hB
  obtain ⟨g1, g2, g3, g4, g5⟩ := hB
  have hc1 := cellAt g2 1
  simp at hc1
  have HG := Lib.hid hg
  have HC1 := Lib.hid hc1
  clear g1 g2 g3 g4 g5 hM hf hg hc1
  rw [hc] at HV
  unfold opV opCells
  go_enter Tryz.func44, Tryz.ntmps44
  go_wp2_with fail
  refine (HV.out _).mono ?_
  rintro e w1 ⟨bv, lv, rfl, hext, hv0, hv21⟩
  rw [errV_ne (by decide)]
  have HX := Lib.hid hext
  have HV0 := Lib.hid hv0
  clear hv0 hv21
  clear hext
  go_wp2_with fail
  go_ret
  exact ⟨rfl, Ext.step ((Ext.rfl' w).alloc _) HX.out⟩

set_option maxHeartbeats 4000000 in
set_option maxRecDepth 100000 in
theorem del_all (σ : Sig) (i pb mb : Nat) (bases : List (S × Value)) (A : ModA) (op : OpA) (w : World) (hM : ModIs w σ i pb mb bases A) (hn : Neat w σ) (hmain : (mget ([] : S) A.l).isSome = true) (hdb : op.db.length ≤ maxLen) (hkey : op.key.length ≤ maxLen)
    (B : BaseA) (bb mb' : Nat) (rows : List (S × Value)) (hf : findA A op.db = (some B, 0)) (hg : mget op.db bases = some (.pointer (some ⟨bb, 0, none⟩))) (hB : BaseIs w σ i op.db bb mb' rows B) (hm : B.m.length ≤ 1000000)
    (hc : (valuesA A op).2.2 = 0) (hlen : (valuesA A op).2.1.length ≤ 12) (hv : op.val = []) :
    Calls Tryz.prog 44 #[.pointer (some ⟨pb, 0, none⟩), opV op] w fun e w' => e = .returned .nilIface ∧ ∃ σ', ModIs w' σ' i pb mb bases (setBase A op.db ⟨B.flags, mdel op.key B.m⟩) ∧ Moved σ i w σ' w' := by
  have HV := Lib.hid fun o => values_ok σ i pb mb bases A op (w.alloc o) (hM.ext ((Ext.rfl' w).alloc o)) hmain hdb hkey B bb mb' rows hf hg (hB.ext ((Ext.rfl' w).alloc o))
  have HM := Lib.hid hM
  have HB := Lib.hid hB
  obtain ⟨g1, g2, g3, g4, g5⟩ := hB
  have hc1 := cellAt g2 1
  simp at hc1
  have HG := Lib.hid hg
  have HC1 := Lib.hid hc1
  clear g1 g2 g3 g4 g5 hM hf hg hc1
  rw [hc] at HV
  have HLEN := Lib.hid hlen
  clear hlen
  have HVE := Lib.hid hv
  clear hv
  unfold opV opCells
  go_enter Tryz.func44, Tryz.ntmps44
  go_wp2_with fail
  refine (HV.out _).mono ?_
  rintro e w1 ⟨bv, lv, rfl, hext, hv0, hv21⟩
  rw [errV_0]
  have HX := Lib.hid hext
  have HV0 := Lib.hid hv0
  clear hv0 hv21
  have hbox := boxAt hext
  have b2 := cellAt hbox 2
  have b3 := cellAt hbox 3
  simp [opCells] at b2 b3
  have c1' := hext.cell (((Ext.rfl' w).alloc (.cells (opCells op) 30 (0, 0))).cell HC1.out)
  clear hext hbox
  obtain ⟨hbv, xs, hlv, hmx, hxs, hrow⟩ := HV0.out trivial
  subst hbv
  have hgl : RowAt w σ (i, .row op.db op.key) lv xs := by
    obtain ⟨lv', h5, h6⟩ := HB.out.2.2.2.2.get_some hmx
    rw [hlv] at h5
    injection h5 with h5
    rw [h5]; exact h6
  have HROW := Lib.hid (owns_ext hrow.1 HX.out)
  have HLAB : Hid (∀ g, lv.ownBlock = some g → g < w.heap.size ∧ σ g = (i, .row op.db op.key)) := Lib.hid fun g e => ⟨(hgl.1.lt g e).2, hgl.2 g e⟩
  have HXS := Lib.hid hxs
  have HLV := Lib.hid hlv
  have HMX := Lib.hid hmx
  clear hrow hgl hxs hlv hmx
  have HBS := Lib.hid (bsS_any lv xs op.val w1 HROW.out (by have : xs.length ≤ 12 := (by have := HLEN.out; rw [HXS.out] at this; exact this); omega))
  obtain ⟨lp, lc, hlvf⟩ : ∃ lp lc, lv = .slice lp xs.length lc := by obtain ⟨_, p, c, h, _⟩ := Sl.ofOwns HROW.out; exact ⟨p, c, h⟩
  subst hlvf
  go_wp2_with fail
  refine HBS.out.mono ?_
  rintro e w2 ⟨rfl, hq⟩
  have hx2 : Ext w1 w2 := Ext.ofDraws hq
  have b2q := hx2.cell b2
  have b3q := hx2.cell b3
  have c1q := hx2.cell c1'
  have HX2 := Lib.hid hx2
  clear hx2 b2 b3 c1' hq
  rw [HVE.out] at b3q
  go_wp2_with fail
  have hXw : Ext w w2.drew := (Ext.step (Ext.step ((Ext.rfl' w).alloc _) HX.out) HX2.out).drew
  obtain ⟨w3, hr, hM3, ht3⟩ := (HB.out.2.2.2.1.ext hXw).drop (t := 56) (e := 53) keyedS Tryz.underlying56 (keyS hkey) 0
  have HM3 := Lib.hid hM3
  have HT3 := Lib.hid ht3
  have HXW := Lib.hid hXw
  clear hM3 ht3 hXw
  go_region
  go_wp2
  go_ret
  exact ⟨rfl, σ, del_key hn HM.out HB.out HG.out HXW.out HM3.out HT3.out⟩

set_option maxHeartbeats 4000000 in
set_option maxRecDepth 100000 in
theorem del_not (σ : Sig) (i pb mb : Nat) (bases : List (S × Value)) (A : ModA) (op : OpA) (w : World) (hM : ModIs w σ i pb mb bases A) (hn : Neat w σ) (hmain : (mget ([] : S) A.l).isSome = true) (hdb : op.db.length ≤ maxLen) (hkey : op.key.length ≤ maxLen)
    (B : BaseA) (bb mb' : Nat) (rows : List (S × Value)) (hf : findA A op.db = (some B, 0)) (hg : mget op.db bases = some (.pointer (some ⟨bb, 0, none⟩))) (hB : BaseIs w σ i op.db bb mb' rows B) (hm : B.m.length ≤ 1000000)
    (hc : (valuesA A op).2.2 = 0) (hlen : (valuesA A op).2.1.length ≤ 12) (hv : op.val ≠ []) (hth : thereA (valuesA A op).2.1 op.val = false) :
    Calls Tryz.prog 44 #[.pointer (some ⟨pb, 0, none⟩), opV op] w fun e w' => e = .returned (.iface 71 (.int .i64 21)) ∧ Ext w w' := by
  have HV := Lib.hid fun o => values_ok σ i pb mb bases A op (w.alloc o) (hM.ext ((Ext.rfl' w).alloc o)) hmain hdb hkey B bb mb' rows hf hg (hB.ext ((Ext.rfl' w).alloc o))
  have HM := Lib.hid hM
  have HB := Lib.hid hB
  obtain ⟨g1, g2, g3, g4, g5⟩ := hB
  have hc1 := cellAt g2 1
  simp at hc1
  have HG := Lib.hid hg
  have HC1 := Lib.hid hc1
  clear g1 g2 g3 g4 g5 hM hf hg hc1
  rw [hc] at HV
  have HLEN := Lib.hid hlen
  clear hlen
  have HVE := Lib.hid hv
  have HTH := Lib.hid hth
  clear hv hth
  unfold opV opCells
  go_enter Tryz.func44, Tryz.ntmps44
  go_wp2_with fail
  refine (HV.out _).mono ?_
  rintro e w1 ⟨bv, lv, rfl, hext, hv0, hv21⟩
  rw [errV_0]
  have HX := Lib.hid hext
  have HV0 := Lib.hid hv0
  clear hv0 hv21
  have hbox := boxAt hext
  have b2 := cellAt hbox 2
  have b3 := cellAt hbox 3
  simp [opCells] at b2 b3
  have c1' := hext.cell (((Ext.rfl' w).alloc (.cells (opCells op) 30 (0, 0))).cell HC1.out)
  clear hext hbox
  obtain ⟨hbv, xs, hlv, hmx, hxs, hrow⟩ := HV0.out trivial
  subst hbv
  have hgl : RowAt w σ (i, .row op.db op.key) lv xs := by
    obtain ⟨lv', h5, h6⟩ := HB.out.2.2.2.2.get_some hmx
    rw [hlv] at h5
    injection h5 with h5
    rw [h5]; exact h6
  have HROW := Lib.hid (owns_ext hrow.1 HX.out)
  have HLAB : Hid (∀ g, lv.ownBlock = some g → g < w.heap.size ∧ σ g = (i, .row op.db op.key)) := Lib.hid fun g e => ⟨(hgl.1.lt g e).2, hgl.2 g e⟩
  have HXS := Lib.hid hxs
  have HLV := Lib.hid hlv
  have HMX := Lib.hid hmx
  clear hrow hgl hxs hlv hmx
  have HBS := Lib.hid (bsS_any lv xs op.val w1 HROW.out (by have : xs.length ≤ 12 := (by have := HLEN.out; rw [HXS.out] at this; exact this); omega))
  obtain ⟨lp, lc, hlvf⟩ : ∃ lp lc, lv = .slice lp xs.length lc := by obtain ⟨_, p, c, h, _⟩ := Sl.ofOwns HROW.out; exact ⟨p, c, h⟩
  subst hlvf
  have HTH' : Hid (thereA xs op.val = false) := by have := HTH.out; rw [HXS.out] at this; exact this
  rw [HTH'.out] at HBS
  go_wp2_with fail
  refine HBS.out.mono ?_
  rintro e w2 ⟨rfl, hq⟩
  have hx2 : Ext w1 w2 := Ext.ofDraws hq
  have b2q := hx2.cell b2
  have b3q := hx2.cell b3
  have c1q := hx2.cell c1'
  have HX2 := Lib.hid hx2
  clear hx2 b2 b3 c1' hq
  obtain ⟨a, r, hv'⟩ : ∃ a r, op.val = a :: r := by
    cases h : op.val with
    | nil => exact absurd h HVE.out
    | cons a r => exact ⟨a, r, rfl⟩
  rw [hv'] at b3q
  clear hv'
  go_wp2_with fail
  go_ret
  exact ⟨rfl, Ext.step (Ext.step ((Ext.rfl' w).alloc _) HX.out) HX2.out⟩

end Go.Proofs.YtmkhjmldncegcaaGreatDoor

