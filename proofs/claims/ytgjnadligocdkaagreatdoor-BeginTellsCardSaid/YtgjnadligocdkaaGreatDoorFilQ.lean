/-
  The document's file: made, written.
-/
import Derived.Test.YtgjnadligocdkaaGreatDoorFilP
set_option linter.unusedVariables false
set_option linter.unusedSimpArgs false
set_option maxRecDepth 100000
namespace Go.Proofs.YtgjnadligocdkaaGreatDoor
open Go.RowKit
open Go.Ev (LB CellOk LBs lofB csB Got packL mkPtr mkSl mkMap nameQ rowIs tupIs liveB)
def losV (st L l lk : Nat) : Value := if st = 0 then .slice none 0 0 else .slice (some ⟨L, l, none⟩) st lk
def fqV (R β c : Nat) (S lo : Value) : List Value := [.slice (some ⟨R, β, none⟩) 2 c, S, lo]
def FiqAt (w : World) (F R β c st L l lk : Nat) (A B : ByteArray) (S : Value) : Prop := Blk w F (fqV R β c S (losV st L l lk)).toArray ∧ BlkR w R β #[.string A, .string B] c ∧ 2 ≤ c ∧ Ev.One S ∧ F ≠ R ∧ (st ≠ 0 → BlkR w L l ((List.range st).map fun (i : Nat) => Value.int .i64 (i : Int)).toArray lk ∧ st ≤ lk ∧ F ≠ L ∧ R ≠ L)
theorem one_s (s : ByteArray) : Ev.One (.string s) := ⟨fun _ e => Value.noConfusion e, fun _ e => Value.noConfusion e⟩
theorem one_sl {a : Option Addr} {n c : Nat} : Ev.One (.slice a n c) := ⟨fun _ e => Value.noConfusion e, fun _ e => Value.noConfusion e⟩
theorem new_q {w : World} {P β c : Nat} {A B : ByteArray} (h : BlkR w P β #[.string A, .string B] c) (hc : 2 ≤ c) : Calls Tryz.prog 7 #[.slice (some ⟨P, β, none⟩) 2 c] w fun e w' => ∃ F R β' c' S, e = .returned (.pointer (some ⟨F, 0, none⟩)) ∧ FiqAt w' F R β' c' 0 0 0 0 A B S ∧ w.heap.size ≤ F ∧ w.heap.size ≤ R ∧ Turned [P] w w' := by
  refine (lc (w := w) Tryz.func7 (by decide +kernel) [.string A, .string B] ?_ (by show 2 < 1000; decide) (pgB P β c A B) (by show 1 < 1000; decide) (by simp [pgB]) ⟨?_, trivial⟩ [(mkSl 1 0 2 8388609, .slice (some ⟨P, β, none⟩) 2 c)] ?_ nq_run).mono ?_
  · intro v hv
    simp only [List.mem_cons, List.not_mem_nil, or_false] at hv
    rcases hv with rfl | rfl <;> exact one_s _
  · exact okT_of (vs := [.string A, .string B]) h ⟨by decide, hc⟩ (lt_all (by decide +kernel)) ⟨nm_d rfl (by decide), nm_d rfl (by decide), trivial⟩
  · intro x hx
    obtain rfl := List.mem_singleton.1 hx
    exact .inr (List.mem_cons_self ..)
  · rintro e w' ⟨v, c', H, nx, I, σ, cs, rfl, h⟩
    have hc := h.chk
    unfold chkQ at hc
    simp only [Bool.and_eq_true] at hc
    obtain ⟨k1, k3, k4, k5, k6⟩ := hc
    have hval := h.post.val
    rw [Nat.eq_of_beq_eq_true k1] at hval
    have h14 : Ev.hi (mkPtr 5 0) = 14 := Ev.hi_mkPtr (by omega) (by decide)
    have hip : Ev.isPtr (mkPtr 5 0) = true := by
      unfold Ev.isPtr
      rw [Ev.and'_eq, h14, Ev.some_mkPtr (by omega)]; rfl
    obtain ⟨eF, f1, f2, f3, f4⟩ := Ev.isPtr_inv hval hip
    rw [Ev.blk_mkPtr (by omega)] at f1
    rw [Ev.off_mkPtr (by omega) (by decide)] at f4
    obtain ⟨uf, F1, F2, F3⟩ := Ev.row_at h.post.rel f1 k4
    have hβ := cl_at h.post.rel f1 k5
    have d : ∀ c ∈ [mkSl 2 0 2 8388609, mkSl 3 0 2 8388609, 1188422437713965063903159255040], c < 2 ^ 128 := lt_all (by decide +kernel)
    have F2' : uf.size = 3 := F2
    have g0 := F3 0 (by omega)
    have g1 := F3 1 (by omega)
    have g2 := F3 2 (by omega)
    rw [Ev.dig_cl d] at g0 g1 g2
    obtain ⟨eR, r1, r2⟩ := Ev.sl_key (b := 2) ⟨by decide, by decide⟩ g0
    obtain ⟨eS, s1, s2⟩ := Ev.sl_key (b := 3) ⟨by decide, by decide⟩ g1
    have n2 := nil_det g2
    obtain ⟨R', β', c2, ur, q1, q2, q3, q4⟩ := h.newSl (by show 1 < 1000; decide) k6 ⟨by show 1 < 2; decide, by decide, by decide⟩ k3 g0
    have hR := two_names h rfl rfl q4
    have hq : (.slice (some ⟨eR.B, eR.β, none⟩) 2 eR.K : Value) = .slice (some ⟨R', β', none⟩) 2 c2 := r2.symm.trans q1
    injection hq with hq1 hq2 hq3
    injection hq1 with hq1
    injection hq1 with hq4 hq5
    have n1 : eF.B ≠ eR.B := fun q => absurd (h.post.rel.inj _ _ _ _ f1 r1 q (Ev.rowIs_live k4) (Ev.rowIs_live k3)) (by decide)
    rw [hq4] at n1
    have huf : uf = (fqV R' β' c2 (.slice (some ⟨eS.B, eS.β, none⟩) 2 eS.K) (losV 0 0 0 0)).toArray := by
      apply Array.ext
      · rw [F2']; rfl
      · intro j j1 j2
        have hj : j = 0 ∨ j = 1 ∨ j = 2 := by omega
        rcases hj with rfl | rfl | rfl
        · exact q1
        · exact s2
        · exact n2
    rw [huf, hβ] at F1
    exact ⟨eF.B, R', β', c2, _, by rw [f4, hβ], ⟨cut_of F1, hR, q2, one_sl, n1, fun q => absurd rfl q⟩, h.isNew (by show 1 < 1000; decide) k6 (by show 1 < 5; decide) f1 (Ev.rowIs_live k4), q3, turned h⟩
def wqB00 (F R β c L l lk : Nat) (A B : ByteArray) (S : Value) : List LB := [⟨F, [mkSl 1 0 2 8388609, nameQ 3 0, 1188422437713965063903159255040], 118, (fqV R β c S (losV 0 L l lk)).toArray, 0, 3, 0⟩, ⟨R, [nameQ 1 0, nameQ 2 0], 9, #[.string A, .string B], 2, c, β⟩]
noncomputable def chkq00 (c : Nat) (H : Ev.HT) (_nx : Nat) : Bool := Nat.beq c (iC 0) && (rowIs H 3 2 (packL (0 :: [nameQ 4 0, nameQ 2 0])) && (rowIs H 2 3 (packL (0 :: [mkSl 3 0 2 8388609, nameQ 3 0, mkSl 5 0 1 8388609])) && (rowIs H 5 1 (packL (0 :: ([0] : List Nat).map iC)) && liveB H 2)))
theorem wq_run00 : runA 25 Tryz.f25 [mkPtr 2 0, iC 0, nameQ 4 0] (wqB00 0 0 0 0 0 0 0 ⟨#[]⟩ ⟨#[]⟩ undef) chkq00 = true := by decide +kernel
theorem write_q00 {w : World} {F R β c L l lk : Nat} {A B s : ByteArray} {S : Value} (h : FiqAt w F R β c 0 L l lk A B S) : Calls Tryz.prog 25 #[.pointer (some ⟨F, 0, none⟩), .int .i64 ((0 : Nat) : Int), .string s] w fun e w' => ∃ R' β' c' L' l' lk', e = .returned (.int .i64 0) ∧ FiqAt w' F R' β' c' 1 L' l' lk' s B S ∧ (R' = R ∨ w.heap.size ≤ R') ∧ (L' = L ∨ w.heap.size ≤ L') ∧ Turned [F, R] w w' := by
  obtain ⟨h1, h2, h3, h4, h5, h6⟩ := h
  refine (lc (w := w) Tryz.func25 (by decide +kernel) [.string A, .string B, S, .string s] ?_ (by show 4 < 1000; decide) (wqB00 F R β c L l lk A B S) (by show 2 < 1000; decide) ?_ ⟨?_, ?_, trivial⟩ [(mkPtr 2 0, .pointer (some ⟨F, 0, none⟩)), (iC 0, .int .i64 ((0 : Nat) : Int)), (nameQ 4 0, .string s)] ?_ wq_run00).mono ?_
  · intro v hv
    simp only [List.mem_cons, List.not_mem_nil, or_false] at hv
    rcases hv with rfl | rfl | rfl | rfl
    · exact one_s _
    · exact one_s _
    · exact h4
    · exact one_s _
  · show [F, R].Nodup
    simp only [List.nodup_cons, List.mem_cons, List.not_mem_nil, or_false]
    exact ⟨h5, fun q => q, List.nodup_nil⟩
  · exact okT_of h1 ⟨by decide, by decide⟩ (lt_all (by decide +kernel)) ⟨sl_d ⟨by decide, by decide⟩ (List.mem_cons_self ..), nm_d rfl (by decide), nil_d, trivial⟩
  · exact okT_of (vs := [.string A, .string B]) h2 ⟨by decide, h3⟩ (lt_all (by decide +kernel)) ⟨nm_d rfl (by decide), nm_d rfl (by decide), trivial⟩
  · intro x hx
    simp only [List.mem_cons, List.not_mem_nil, or_false] at hx
    rcases hx with rfl | rfl | rfl
    · exact .inr (List.mem_cons_of_mem _ (List.mem_cons_self ..))
    · exact .inl (iC_ok (by decide))
    · exact .inl (nm_ok rfl (by decide))
  · rintro e w' ⟨v, c', H, nx, I, σ, cs, rfl, h⟩
    have hc := h.chk
    unfold chkq00 at hc
    simp only [Bool.and_eq_true] at hc
    obtain ⟨k1, k3, k4, k5, k6⟩ := hc
    have hval := h.post.val
    rw [Nat.eq_of_beq_eq_true k1] at hval
    obtain ⟨eF, f1, f2, f3⟩ := h.sig (k := 0) rfl (by show 2 < 1000; decide)
    have hFB : eF.B = F := f2
    have hFβ : eF.β = 0 := f3
    obtain ⟨uf, F1, F2, F3⟩ := Ev.row_at h.post.rel f1 k4
    have d : ∀ c ∈ [mkSl 3 0 2 8388609, nameQ 3 0, mkSl 5 0 1 8388609], c < 2 ^ 128 := lt_all (by decide +kernel)
    have F2' : uf.size = 3 := F2
    have g0 := F3 0 (by omega)
    have g1 := F3 1 (by omega)
    have g2 := F3 2 (by omega)
    rw [Ev.dig_cl d] at g0 g1 g2
    obtain ⟨eR, r1, r2⟩ := Ev.sl_key (b := 3) ⟨by decide, by decide⟩ g0
    obtain ⟨R', β', c2, ur, q1, q2, q3, q4⟩ := h.newSl (by show 2 < 1000; decide) k6 ⟨by show 2 < 3; decide, by decide, by decide⟩ k3 g0
    have hR : BlkR w' R' β' #[.string s, .string B] c2 := by
      obtain ⟨y1, y2, y3⟩ := q4
      have d2 : ∀ c ∈ [nameQ 4 0, nameQ 2 0], c < 2 ^ 128 := lt_all (by decide +kernel)
      have z0 := y3 0 (by omega)
      have z1 := y3 1 (by omega)
      rw [Ev.dig_cl d2] at z0 z1
      have hn : ∀ j, j < 1000 → Ev.hi (nameQ (j + 1) 0) = 28 := fun j hj => (Ev.nameQ_at (j := j + 1) (q := 0) (by omega) (by decide)).1
      have e := array2 y2 (h.det (nm_ok (i := 3) rfl (by decide)) (.inr (hn _ (by decide))) z0) (h.det (nm_ok (i := 1) rfl (by decide)) (.inr (hn _ (by decide))) z1)
      rw [e] at y1
      exact y1
    have hq : (.slice (some ⟨eR.B, eR.β, none⟩) 2 eR.K : Value) = .slice (some ⟨R', β', none⟩) 2 c2 := r2.symm.trans q1
    injection hq with hq1 hq2 hq3
    injection hq1 with hq1
    injection hq1 with hq4 hq5
    obtain ⟨eL, l1, l2, l3, l4, l5⟩ := got_sl h (b := 5) (m := 1) (is := [0]) ⟨by decide, by decide⟩ (by decide) k5 g2
    have n1 : eF.B ≠ eR.B := fun q => absurd (h.post.rel.inj _ _ _ _ f1 r1 q (Ev.rowIs_live k4) (Ev.rowIs_live k3)) (by show ¬ 2 = 3; decide)
    have n2 : eF.B ≠ eL.B := fun q => absurd (h.post.rel.inj _ _ _ _ f1 l1 q (Ev.rowIs_live k4) (Ev.rowIs_live k5)) (by show ¬ 2 = 5; decide)
    have n3 : eR.B ≠ eL.B := fun q => absurd (h.post.rel.inj _ _ _ _ r1 l1 q (Ev.rowIs_live k3) (Ev.rowIs_live k5)) (by decide)
    rw [hq4] at n1 n3
    rw [hFB] at n1 n2
    have huf : uf = (fqV R' β' c2 S (losV 1 eL.B eL.β eL.K)).toArray := by
      apply Array.ext
      · rw [F2']; rfl
      · intro j j1 j2
        have hj : j = 0 ∨ j = 1 ∨ j = 2 := by omega
        rcases hj with rfl | rfl | rfl
        · exact q1
        · exact h.det (nm_ok (i := 2) rfl (by decide)) (.inr ((Ev.nameQ_at (j := 3) (q := 0) (by omega) (by decide)).1)) g1
        · exact l3
    rw [huf, hFB, hFβ] at F1
    have hv : v = .int .i64 0 := i0_det σ I v hval
    exact ⟨R', β', c2, eL.B, eL.β, eL.K, by rw [hv], ⟨cut_of F1, hR, q2, h4, n1, fun _ => ⟨l5, l4, n2, n3⟩⟩, .inr q3, .inr (h.isNew (by show 2 < 1000; decide) k6 (by show 2 < 5; decide) l1 (Ev.rowIs_live k5)), turned h⟩
def wqB11 (F R β c L l lk : Nat) (A B : ByteArray) (S : Value) : List LB := [⟨F, [mkSl 2 0 2 8388609, nameQ 3 0, mkSl 1 0 1 8388609], 118, (fqV R β c S (losV 1 L l lk)).toArray, 0, 3, 0⟩, ⟨R, [nameQ 1 0, nameQ 2 0], 9, #[.string A, .string B], 2, c, β⟩, ⟨L, [iC 0], 3, ((List.range 1).map fun (i : Nat) => Value.int .i64 (i : Int)).toArray, 1, lk, l⟩]
noncomputable def chkq11 (c : Nat) (H : Ev.HT) (_nx : Nat) : Bool := Nat.beq c (iC 0) && (rowIs H 4 2 (packL (0 :: [nameQ 1 0, nameQ 4 0])) && (rowIs H 3 3 (packL (0 :: [mkSl 4 0 2 8388609, nameQ 3 0, mkSl 7 0 2 8388609])) && (rowIs H 7 2 (packL (0 :: ([0, 1] : List Nat).map iC)) && liveB H 3)))
theorem wq_run11 : runA 25 Tryz.f25 [mkPtr 3 0, iC 1, nameQ 4 0] (wqB11 0 0 0 0 0 0 0 ⟨#[]⟩ ⟨#[]⟩ undef) chkq11 = true := by decide +kernel
theorem write_q11 {w : World} {F R β c L l lk : Nat} {A B s : ByteArray} {S : Value} (h : FiqAt w F R β c 1 L l lk A B S) : Calls Tryz.prog 25 #[.pointer (some ⟨F, 0, none⟩), .int .i64 ((1 : Nat) : Int), .string s] w fun e w' => ∃ R' β' c' L' l' lk', e = .returned (.int .i64 0) ∧ FiqAt w' F R' β' c' 2 L' l' lk' A s S ∧ (R' = R ∨ w.heap.size ≤ R') ∧ (L' = L ∨ w.heap.size ≤ L') ∧ Turned [F, R, L] w w' := by
  obtain ⟨h1, h2, h3, h4, h5, h6⟩ := h
  obtain ⟨o1, o2, o3, o4⟩ := h6 (by decide)
  refine (lc (w := w) Tryz.func25 (by decide +kernel) [.string A, .string B, S, .string s] ?_ (by show 4 < 1000; decide) (wqB11 F R β c L l lk A B S) (by show 3 < 1000; decide) ?_ ⟨?_, ?_, ?_, trivial⟩ [(mkPtr 3 0, .pointer (some ⟨F, 0, none⟩)), (iC 1, .int .i64 ((1 : Nat) : Int)), (nameQ 4 0, .string s)] ?_ wq_run11).mono ?_
  · intro v hv
    simp only [List.mem_cons, List.not_mem_nil, or_false] at hv
    rcases hv with rfl | rfl | rfl | rfl
    · exact one_s _
    · exact one_s _
    · exact h4
    · exact one_s _
  · show [F, R, L].Nodup
    simp only [List.nodup_cons, List.mem_cons, List.not_mem_nil, or_false, not_or]
    exact ⟨⟨h5, o3⟩, o4, fun q => q, List.nodup_nil⟩
  · exact okT_of h1 ⟨by decide, by decide⟩ (lt_all (by decide +kernel)) ⟨sl_d ⟨by decide, by decide⟩ (List.mem_cons_self ..), nm_d rfl (by decide), sl_d ⟨by decide, by decide⟩ (List.mem_cons_of_mem _ (List.mem_cons_of_mem _ (List.mem_cons_self ..))), trivial⟩
  · exact okT_of (vs := [.string A, .string B]) h2 ⟨by decide, h3⟩ (lt_all (by decide +kernel)) ⟨nm_d rfl (by decide), nm_d rfl (by decide), trivial⟩
  · exact okT_of (vs := (List.range 1).map fun (i : Nat) => Value.int .i64 (i : Int)) o1 ⟨by decide, o2⟩ (lt_all (by decide +kernel)) ⟨iC_d (by decide), trivial⟩
  · intro x hx
    simp only [List.mem_cons, List.not_mem_nil, or_false] at hx
    rcases hx with rfl | rfl | rfl
    · exact .inr (List.mem_cons_of_mem _ (List.mem_cons_self ..))
    · exact .inl (iC_ok (by decide))
    · exact .inl (nm_ok rfl (by decide))
  · rintro e w' ⟨v, c', H, nx, I, σ, cs, rfl, h⟩
    have hc := h.chk
    unfold chkq11 at hc
    simp only [Bool.and_eq_true] at hc
    obtain ⟨k1, k3, k4, k5, k6⟩ := hc
    have hval := h.post.val
    rw [Nat.eq_of_beq_eq_true k1] at hval
    obtain ⟨eF, f1, f2, f3⟩ := h.sig (k := 0) rfl (by show 3 < 1000; decide)
    have hFB : eF.B = F := f2
    have hFβ : eF.β = 0 := f3
    obtain ⟨uf, F1, F2, F3⟩ := Ev.row_at h.post.rel f1 k4
    have d : ∀ c ∈ [mkSl 4 0 2 8388609, nameQ 3 0, mkSl 7 0 2 8388609], c < 2 ^ 128 := lt_all (by decide +kernel)
    have F2' : uf.size = 3 := F2
    have g0 := F3 0 (by omega)
    have g1 := F3 1 (by omega)
    have g2 := F3 2 (by omega)
    rw [Ev.dig_cl d] at g0 g1 g2
    obtain ⟨eR, r1, r2⟩ := Ev.sl_key (b := 4) ⟨by decide, by decide⟩ g0
    obtain ⟨R', β', c2, ur, q1, q2, q3, q4⟩ := h.newSl (by show 3 < 1000; decide) k6 ⟨by show 3 < 4; decide, by decide, by decide⟩ k3 g0
    have hR : BlkR w' R' β' #[.string A, .string s] c2 := by
      obtain ⟨y1, y2, y3⟩ := q4
      have d2 : ∀ c ∈ [nameQ 1 0, nameQ 4 0], c < 2 ^ 128 := lt_all (by decide +kernel)
      have z0 := y3 0 (by omega)
      have z1 := y3 1 (by omega)
      rw [Ev.dig_cl d2] at z0 z1
      have hn : ∀ j, j < 1000 → Ev.hi (nameQ (j + 1) 0) = 28 := fun j hj => (Ev.nameQ_at (j := j + 1) (q := 0) (by omega) (by decide)).1
      have e := array2 y2 (h.det (nm_ok (i := 0) rfl (by decide)) (.inr (hn _ (by decide))) z0) (h.det (nm_ok (i := 3) rfl (by decide)) (.inr (hn _ (by decide))) z1)
      rw [e] at y1
      exact y1
    have hq : (.slice (some ⟨eR.B, eR.β, none⟩) 2 eR.K : Value) = .slice (some ⟨R', β', none⟩) 2 c2 := r2.symm.trans q1
    injection hq with hq1 hq2 hq3
    injection hq1 with hq1
    injection hq1 with hq4 hq5
    obtain ⟨eL, l1, l2, l3, l4, l5⟩ := got_sl h (b := 7) (m := 2) (is := [0, 1]) ⟨by decide, by decide⟩ (by decide) k5 g2
    have n1 : eF.B ≠ eR.B := fun q => absurd (h.post.rel.inj _ _ _ _ f1 r1 q (Ev.rowIs_live k4) (Ev.rowIs_live k3)) (by show ¬ 3 = 4; decide)
    have n2 : eF.B ≠ eL.B := fun q => absurd (h.post.rel.inj _ _ _ _ f1 l1 q (Ev.rowIs_live k4) (Ev.rowIs_live k5)) (by show ¬ 3 = 7; decide)
    have n3 : eR.B ≠ eL.B := fun q => absurd (h.post.rel.inj _ _ _ _ r1 l1 q (Ev.rowIs_live k3) (Ev.rowIs_live k5)) (by decide)
    rw [hq4] at n1 n3
    rw [hFB] at n1 n2
    have huf : uf = (fqV R' β' c2 S (losV 2 eL.B eL.β eL.K)).toArray := by
      apply Array.ext
      · rw [F2']; rfl
      · intro j j1 j2
        have hj : j = 0 ∨ j = 1 ∨ j = 2 := by omega
        rcases hj with rfl | rfl | rfl
        · exact q1
        · exact h.det (nm_ok (i := 2) rfl (by decide)) (.inr ((Ev.nameQ_at (j := 3) (q := 0) (by omega) (by decide)).1)) g1
        · exact l3
    rw [huf, hFB, hFβ] at F1
    have hv : v = .int .i64 0 := i0_det σ I v hval
    exact ⟨R', β', c2, eL.B, eL.β, eL.K, by rw [hv], ⟨cut_of F1, hR, q2, h4, n1, fun _ => ⟨l5, l4, n2, n3⟩⟩, .inr q3, .inr (h.isNew (by show 3 < 1000; decide) k6 (by show 3 < 7; decide) l1 (Ev.rowIs_live k5)), turned h⟩
def wqB20 (F R β c L l lk : Nat) (A B : ByteArray) (S : Value) : List LB := [⟨F, [mkSl 2 0 2 8388609, nameQ 3 0, mkSl 1 0 2 8388609], 118, (fqV R β c S (losV 2 L l lk)).toArray, 0, 3, 0⟩, ⟨R, [nameQ 1 0, nameQ 2 0], 9, #[.string A, .string B], 2, c, β⟩, ⟨L, [iC 0, iC 1], 3, ((List.range 2).map fun (i : Nat) => Value.int .i64 (i : Int)).toArray, 2, lk, l⟩]
noncomputable def chkq20 (c : Nat) (H : Ev.HT) (_nx : Nat) : Bool := Nat.beq c (iC 0) && (rowIs H 4 2 (packL (0 :: [nameQ 4 0, nameQ 2 0])) && (rowIs H 3 3 (packL (0 :: [mkSl 4 0 2 8388609, nameQ 3 0, mkSl 1 0 2 8388609])) && (rowIs H 1 2 (packL (0 :: ([0, 1] : List Nat).map iC)) && liveB H 3)))
theorem wq_run20 : runA 25 Tryz.f25 [mkPtr 3 0, iC 0, nameQ 4 0] (wqB20 0 0 0 0 0 0 0 ⟨#[]⟩ ⟨#[]⟩ undef) chkq20 = true := by decide +kernel
theorem write_q20 {w : World} {F R β c L l lk : Nat} {A B s : ByteArray} {S : Value} (h : FiqAt w F R β c 2 L l lk A B S) : Calls Tryz.prog 25 #[.pointer (some ⟨F, 0, none⟩), .int .i64 ((0 : Nat) : Int), .string s] w fun e w' => ∃ R' β' c' L' l' lk', e = .returned (.int .i64 0) ∧ FiqAt w' F R' β' c' 2 L' l' lk' s B S ∧ (R' = R ∨ w.heap.size ≤ R') ∧ (L' = L ∨ w.heap.size ≤ L') ∧ Turned [F, R, L] w w' := by
  obtain ⟨h1, h2, h3, h4, h5, h6⟩ := h
  obtain ⟨o1, o2, o3, o4⟩ := h6 (by decide)
  refine (lc (w := w) Tryz.func25 (by decide +kernel) [.string A, .string B, S, .string s] ?_ (by show 4 < 1000; decide) (wqB20 F R β c L l lk A B S) (by show 3 < 1000; decide) ?_ ⟨?_, ?_, ?_, trivial⟩ [(mkPtr 3 0, .pointer (some ⟨F, 0, none⟩)), (iC 0, .int .i64 ((0 : Nat) : Int)), (nameQ 4 0, .string s)] ?_ wq_run20).mono ?_
  · intro v hv
    simp only [List.mem_cons, List.not_mem_nil, or_false] at hv
    rcases hv with rfl | rfl | rfl | rfl
    · exact one_s _
    · exact one_s _
    · exact h4
    · exact one_s _
  · show [F, R, L].Nodup
    simp only [List.nodup_cons, List.mem_cons, List.not_mem_nil, or_false, not_or]
    exact ⟨⟨h5, o3⟩, o4, fun q => q, List.nodup_nil⟩
  · exact okT_of h1 ⟨by decide, by decide⟩ (lt_all (by decide +kernel)) ⟨sl_d ⟨by decide, by decide⟩ (List.mem_cons_self ..), nm_d rfl (by decide), sl_d ⟨by decide, by decide⟩ (List.mem_cons_of_mem _ (List.mem_cons_of_mem _ (List.mem_cons_self ..))), trivial⟩
  · exact okT_of (vs := [.string A, .string B]) h2 ⟨by decide, h3⟩ (lt_all (by decide +kernel)) ⟨nm_d rfl (by decide), nm_d rfl (by decide), trivial⟩
  · exact okT_of (vs := (List.range 2).map fun (i : Nat) => Value.int .i64 (i : Int)) o1 ⟨by decide, o2⟩ (lt_all (by decide +kernel)) ⟨iC_d (by decide), iC_d (by decide), trivial⟩
  · intro x hx
    simp only [List.mem_cons, List.not_mem_nil, or_false] at hx
    rcases hx with rfl | rfl | rfl
    · exact .inr (List.mem_cons_of_mem _ (List.mem_cons_self ..))
    · exact .inl (iC_ok (by decide))
    · exact .inl (nm_ok rfl (by decide))
  · rintro e w' ⟨v, c', H, nx, I, σ, cs, rfl, h⟩
    have hc := h.chk
    unfold chkq20 at hc
    simp only [Bool.and_eq_true] at hc
    obtain ⟨k1, k3, k4, k5, k6⟩ := hc
    have hval := h.post.val
    rw [Nat.eq_of_beq_eq_true k1] at hval
    obtain ⟨eF, f1, f2, f3⟩ := h.sig (k := 0) rfl (by show 3 < 1000; decide)
    have hFB : eF.B = F := f2
    have hFβ : eF.β = 0 := f3
    obtain ⟨uf, F1, F2, F3⟩ := Ev.row_at h.post.rel f1 k4
    have d : ∀ c ∈ [mkSl 4 0 2 8388609, nameQ 3 0, mkSl 1 0 2 8388609], c < 2 ^ 128 := lt_all (by decide +kernel)
    have F2' : uf.size = 3 := F2
    have g0 := F3 0 (by omega)
    have g1 := F3 1 (by omega)
    have g2 := F3 2 (by omega)
    rw [Ev.dig_cl d] at g0 g1 g2
    obtain ⟨eR, r1, r2⟩ := Ev.sl_key (b := 4) ⟨by decide, by decide⟩ g0
    obtain ⟨R', β', c2, ur, q1, q2, q3, q4⟩ := h.newSl (by show 3 < 1000; decide) k6 ⟨by show 3 < 4; decide, by decide, by decide⟩ k3 g0
    have hR : BlkR w' R' β' #[.string s, .string B] c2 := by
      obtain ⟨y1, y2, y3⟩ := q4
      have d2 : ∀ c ∈ [nameQ 4 0, nameQ 2 0], c < 2 ^ 128 := lt_all (by decide +kernel)
      have z0 := y3 0 (by omega)
      have z1 := y3 1 (by omega)
      rw [Ev.dig_cl d2] at z0 z1
      have hn : ∀ j, j < 1000 → Ev.hi (nameQ (j + 1) 0) = 28 := fun j hj => (Ev.nameQ_at (j := j + 1) (q := 0) (by omega) (by decide)).1
      have e := array2 y2 (h.det (nm_ok (i := 3) rfl (by decide)) (.inr (hn _ (by decide))) z0) (h.det (nm_ok (i := 1) rfl (by decide)) (.inr (hn _ (by decide))) z1)
      rw [e] at y1
      exact y1
    have hq : (.slice (some ⟨eR.B, eR.β, none⟩) 2 eR.K : Value) = .slice (some ⟨R', β', none⟩) 2 c2 := r2.symm.trans q1
    injection hq with hq1 hq2 hq3
    injection hq1 with hq1
    injection hq1 with hq4 hq5
    obtain ⟨eL, l1, l2, l3, l4, l5⟩ := got_sl h (b := 1) (m := 2) (is := [0, 1]) ⟨by decide, by decide⟩ (by decide) k5 g2
    have n1 : eF.B ≠ eR.B := fun q => absurd (h.post.rel.inj _ _ _ _ f1 r1 q (Ev.rowIs_live k4) (Ev.rowIs_live k3)) (by show ¬ 3 = 4; decide)
    have n2 : eF.B ≠ eL.B := fun q => absurd (h.post.rel.inj _ _ _ _ f1 l1 q (Ev.rowIs_live k4) (Ev.rowIs_live k5)) (by show ¬ 3 = 1; decide)
    have n3 : eR.B ≠ eL.B := fun q => absurd (h.post.rel.inj _ _ _ _ r1 l1 q (Ev.rowIs_live k3) (Ev.rowIs_live k5)) (by decide)
    rw [hq4] at n1 n3
    rw [hFB] at n1 n2
    have huf : uf = (fqV R' β' c2 S (losV 2 eL.B eL.β eL.K)).toArray := by
      apply Array.ext
      · rw [F2']; rfl
      · intro j j1 j2
        have hj : j = 0 ∨ j = 1 ∨ j = 2 := by omega
        rcases hj with rfl | rfl | rfl
        · exact q1
        · exact h.det (nm_ok (i := 2) rfl (by decide)) (.inr ((Ev.nameQ_at (j := 3) (q := 0) (by omega) (by decide)).1)) g1
        · exact l3
    rw [huf, hFB, hFβ] at F1
    have hv : v = .int .i64 0 := i0_det σ I v hval
    obtain ⟨eL', y1, y2, y3⟩ := h.sig (k := 2) rfl (by show 3 < 1000; decide)
    have hL : eL.B = L := by
      have y1' : σ 1 = some eL' := y1
      rw [l1] at y1'
      injection y1' with y1'
      rw [y1']; exact y2
    exact ⟨R', β', c2, eL.B, eL.β, eL.K, by rw [hv], ⟨cut_of F1, hR, q2, h4, n1, fun _ => ⟨l5, l4, n2, n3⟩⟩, .inr q3, .inl hL, turned h⟩
def wqB21 (F R β c L l lk : Nat) (A B : ByteArray) (S : Value) : List LB := [⟨F, [mkSl 2 0 2 8388609, nameQ 3 0, mkSl 1 0 2 8388609], 118, (fqV R β c S (losV 2 L l lk)).toArray, 0, 3, 0⟩, ⟨R, [nameQ 1 0, nameQ 2 0], 9, #[.string A, .string B], 2, c, β⟩, ⟨L, [iC 0, iC 1], 3, ((List.range 2).map fun (i : Nat) => Value.int .i64 (i : Int)).toArray, 2, lk, l⟩]
noncomputable def chkq21 (c : Nat) (H : Ev.HT) (_nx : Nat) : Bool := Nat.beq c (iC 0) && (rowIs H 4 2 (packL (0 :: [nameQ 1 0, nameQ 4 0])) && (rowIs H 3 3 (packL (0 :: [mkSl 4 0 2 8388609, nameQ 3 0, mkSl 1 0 2 8388609])) && (rowIs H 1 2 (packL (0 :: ([0, 1] : List Nat).map iC)) && liveB H 3)))
theorem wq_run21 : runA 25 Tryz.f25 [mkPtr 3 0, iC 1, nameQ 4 0] (wqB21 0 0 0 0 0 0 0 ⟨#[]⟩ ⟨#[]⟩ undef) chkq21 = true := by decide +kernel
theorem write_q21 {w : World} {F R β c L l lk : Nat} {A B s : ByteArray} {S : Value} (h : FiqAt w F R β c 2 L l lk A B S) : Calls Tryz.prog 25 #[.pointer (some ⟨F, 0, none⟩), .int .i64 ((1 : Nat) : Int), .string s] w fun e w' => ∃ R' β' c' L' l' lk', e = .returned (.int .i64 0) ∧ FiqAt w' F R' β' c' 2 L' l' lk' A s S ∧ (R' = R ∨ w.heap.size ≤ R') ∧ (L' = L ∨ w.heap.size ≤ L') ∧ Turned [F, R, L] w w' := by
  obtain ⟨h1, h2, h3, h4, h5, h6⟩ := h
  obtain ⟨o1, o2, o3, o4⟩ := h6 (by decide)
  refine (lc (w := w) Tryz.func25 (by decide +kernel) [.string A, .string B, S, .string s] ?_ (by show 4 < 1000; decide) (wqB21 F R β c L l lk A B S) (by show 3 < 1000; decide) ?_ ⟨?_, ?_, ?_, trivial⟩ [(mkPtr 3 0, .pointer (some ⟨F, 0, none⟩)), (iC 1, .int .i64 ((1 : Nat) : Int)), (nameQ 4 0, .string s)] ?_ wq_run21).mono ?_
  · intro v hv
    simp only [List.mem_cons, List.not_mem_nil, or_false] at hv
    rcases hv with rfl | rfl | rfl | rfl
    · exact one_s _
    · exact one_s _
    · exact h4
    · exact one_s _
  · show [F, R, L].Nodup
    simp only [List.nodup_cons, List.mem_cons, List.not_mem_nil, or_false, not_or]
    exact ⟨⟨h5, o3⟩, o4, fun q => q, List.nodup_nil⟩
  · exact okT_of h1 ⟨by decide, by decide⟩ (lt_all (by decide +kernel)) ⟨sl_d ⟨by decide, by decide⟩ (List.mem_cons_self ..), nm_d rfl (by decide), sl_d ⟨by decide, by decide⟩ (List.mem_cons_of_mem _ (List.mem_cons_of_mem _ (List.mem_cons_self ..))), trivial⟩
  · exact okT_of (vs := [.string A, .string B]) h2 ⟨by decide, h3⟩ (lt_all (by decide +kernel)) ⟨nm_d rfl (by decide), nm_d rfl (by decide), trivial⟩
  · exact okT_of (vs := (List.range 2).map fun (i : Nat) => Value.int .i64 (i : Int)) o1 ⟨by decide, o2⟩ (lt_all (by decide +kernel)) ⟨iC_d (by decide), iC_d (by decide), trivial⟩
  · intro x hx
    simp only [List.mem_cons, List.not_mem_nil, or_false] at hx
    rcases hx with rfl | rfl | rfl
    · exact .inr (List.mem_cons_of_mem _ (List.mem_cons_self ..))
    · exact .inl (iC_ok (by decide))
    · exact .inl (nm_ok rfl (by decide))
  · rintro e w' ⟨v, c', H, nx, I, σ, cs, rfl, h⟩
    have hc := h.chk
    unfold chkq21 at hc
    simp only [Bool.and_eq_true] at hc
    obtain ⟨k1, k3, k4, k5, k6⟩ := hc
    have hval := h.post.val
    rw [Nat.eq_of_beq_eq_true k1] at hval
    obtain ⟨eF, f1, f2, f3⟩ := h.sig (k := 0) rfl (by show 3 < 1000; decide)
    have hFB : eF.B = F := f2
    have hFβ : eF.β = 0 := f3
    obtain ⟨uf, F1, F2, F3⟩ := Ev.row_at h.post.rel f1 k4
    have d : ∀ c ∈ [mkSl 4 0 2 8388609, nameQ 3 0, mkSl 1 0 2 8388609], c < 2 ^ 128 := lt_all (by decide +kernel)
    have F2' : uf.size = 3 := F2
    have g0 := F3 0 (by omega)
    have g1 := F3 1 (by omega)
    have g2 := F3 2 (by omega)
    rw [Ev.dig_cl d] at g0 g1 g2
    obtain ⟨eR, r1, r2⟩ := Ev.sl_key (b := 4) ⟨by decide, by decide⟩ g0
    obtain ⟨R', β', c2, ur, q1, q2, q3, q4⟩ := h.newSl (by show 3 < 1000; decide) k6 ⟨by show 3 < 4; decide, by decide, by decide⟩ k3 g0
    have hR : BlkR w' R' β' #[.string A, .string s] c2 := by
      obtain ⟨y1, y2, y3⟩ := q4
      have d2 : ∀ c ∈ [nameQ 1 0, nameQ 4 0], c < 2 ^ 128 := lt_all (by decide +kernel)
      have z0 := y3 0 (by omega)
      have z1 := y3 1 (by omega)
      rw [Ev.dig_cl d2] at z0 z1
      have hn : ∀ j, j < 1000 → Ev.hi (nameQ (j + 1) 0) = 28 := fun j hj => (Ev.nameQ_at (j := j + 1) (q := 0) (by omega) (by decide)).1
      have e := array2 y2 (h.det (nm_ok (i := 0) rfl (by decide)) (.inr (hn _ (by decide))) z0) (h.det (nm_ok (i := 3) rfl (by decide)) (.inr (hn _ (by decide))) z1)
      rw [e] at y1
      exact y1
    have hq : (.slice (some ⟨eR.B, eR.β, none⟩) 2 eR.K : Value) = .slice (some ⟨R', β', none⟩) 2 c2 := r2.symm.trans q1
    injection hq with hq1 hq2 hq3
    injection hq1 with hq1
    injection hq1 with hq4 hq5
    obtain ⟨eL, l1, l2, l3, l4, l5⟩ := got_sl h (b := 1) (m := 2) (is := [0, 1]) ⟨by decide, by decide⟩ (by decide) k5 g2
    have n1 : eF.B ≠ eR.B := fun q => absurd (h.post.rel.inj _ _ _ _ f1 r1 q (Ev.rowIs_live k4) (Ev.rowIs_live k3)) (by show ¬ 3 = 4; decide)
    have n2 : eF.B ≠ eL.B := fun q => absurd (h.post.rel.inj _ _ _ _ f1 l1 q (Ev.rowIs_live k4) (Ev.rowIs_live k5)) (by show ¬ 3 = 1; decide)
    have n3 : eR.B ≠ eL.B := fun q => absurd (h.post.rel.inj _ _ _ _ r1 l1 q (Ev.rowIs_live k3) (Ev.rowIs_live k5)) (by decide)
    rw [hq4] at n1 n3
    rw [hFB] at n1 n2
    have huf : uf = (fqV R' β' c2 S (losV 2 eL.B eL.β eL.K)).toArray := by
      apply Array.ext
      · rw [F2']; rfl
      · intro j j1 j2
        have hj : j = 0 ∨ j = 1 ∨ j = 2 := by omega
        rcases hj with rfl | rfl | rfl
        · exact q1
        · exact h.det (nm_ok (i := 2) rfl (by decide)) (.inr ((Ev.nameQ_at (j := 3) (q := 0) (by omega) (by decide)).1)) g1
        · exact l3
    rw [huf, hFB, hFβ] at F1
    have hv : v = .int .i64 0 := i0_det σ I v hval
    obtain ⟨eL', y1, y2, y3⟩ := h.sig (k := 2) rfl (by show 3 < 1000; decide)
    have hL : eL.B = L := by
      have y1' : σ 1 = some eL' := y1
      rw [l1] at y1'
      injection y1' with y1'
      rw [y1']; exact y2
    exact ⟨R', β', c2, eL.B, eL.β, eL.K, by rw [hv], ⟨cut_of F1, hR, q2, h4, n1, fun _ => ⟨l5, l4, n2, n3⟩⟩, .inr q3, .inl hL, turned h⟩
end Go.Proofs.YtgjnadligocdkaaGreatDoor
