/-
  The program's file: written.
-/
import Derived.Test.YtgjnadligocdkaaGreatDoorLocM
import Derived.Test.YtgjnadligocdkaaGreatDoorMc
set_option linter.unusedVariables false
set_option linter.unusedSimpArgs false
set_option maxRecDepth 100000
namespace Go.Ev
theorem sl_key {σ : Sig} {I : Imm} {b m : Nat} (hb : b < 1000 ∧ m ≤ 100) {u : Value} (hu : VR σ I (mkSl b 0 m 8388609) u) : ∃ e, σ b = some e ∧ u = .slice (some ⟨e.B, e.β, none⟩) m e.K := by
  have h15 : hi (mkSl b 0 m 8388609) = 15 := hi_mkSl (by omega) (by decide) (by omega) (by decide)
  have his : isSl (mkSl b 0 m 8388609) = true := by
    unfold isSl
    rw [and'_eq, h15]
    have : some' (mkSl b 0 m 8388609) = true := by
      rw [some'_def, mkSl_def]; simp; omega
    rw [this]; rfl
  obtain ⟨e, cap, hs⟩ := isSl_inv hu his
  have e1 := hs.at_
  rw [blk_mkSl (by omega)] at e1
  have e2 := hs.val
  rw [off_mkSl (by omega) (by decide), sln_mkSl (by omega) (by decide) (by omega)] at e2
  have e3 := hs.opens (by rw [scp_mkSl (by omega) (by decide) (by omega) (by decide)]; decide)
  rw [scp_mkSl (by omega) (by decide) (by omega) (by decide), off_mkSl (by omega) (by decide)] at e3
  have hes : e.s = 1 := by omega
  have hK : cap = e.K := by rw [← e3.2.2, hes]; omega
  refine ⟨e, e1, ?_⟩
  rw [e2, hK]; rfl
theorem sl_det {σ : Sig} {I : Imm} {b m : Nat} (hb : b < 1000 ∧ m ≤ 100) {u v : Value} (hu : VR σ I (mkSl b 0 m 8388609) u) (hv : VR σ I (mkSl b 0 m 8388609) v) : u = v := by
  obtain ⟨e, e1, e2⟩ := sl_key hb hu
  obtain ⟨e', e3, e4⟩ := sl_key hb hv
  rw [e1] at e3
  injection e3 with e3
  subst e3
  rw [e2, e4]
theorem map_det {σ : Sig} {I : Imm} {b : Nat} (hb : b < 1000) {u v : Value} (hu : VR σ I (mkMap b) u) (hv : VR σ I (mkMap b) v) : u = v := by
  obtain ⟨e, e1, e2⟩ := map_cell (by omega) hu
  obtain ⟨e', e3, e4⟩ := map_cell (by omega) hv
  rw [e1] at e3
  injection e3 with e3
  subst e3
  rw [e2, e4]
theorem ptr_sig {σ : Sig} {I : Imm} {k B β : Nat} (hk : k < 1000) (hp : VR σ I (mkPtr k 0) (.pointer (some ⟨B, β, none⟩))) : ∃ e, σ k = some e ∧ e.B = B ∧ e.β = β := by
  have h14 : hi (mkPtr k 0) = 14 := hi_mkPtr (by omega) (by decide)
  have hip : isPtr (mkPtr k 0) = true := by
    unfold isPtr
    rw [and'_eq, h14, some_mkPtr (by omega)]; rfl
  obtain ⟨e, e1, e2, e3, e4⟩ := isPtr_inv hp hip
  rw [blk_mkPtr (by omega)] at e1
  injection e4 with e4
  injection e4 with e4
  injection e4 with e5 e6
  rw [off_mkPtr (by omega) (by decide)] at e6
  exact ⟨e, e1, e5.symm, by omega⟩
theorem GotM.det {ns : List Value} {M : Nat} {bl : List LB} {chk : Nat → HT → Nat → Bool} {w0 w : World} {v : Value} {c : Nat} {H : HT} {nx : Nat} {I : Imm} {σ : Sig} {cs : List (Nat × Value)} (h : GotM ns M bl chk w0 v w c H nx I σ cs) {d : Nat} {u x : Value} (hd : CellOk ns d x) (hp : hi d ≤ 12 ∨ hi d = 28) (hu : VR σ I d u) : u = x := by
  have hx : VR σ I d x := by
    rcases hd.2 with ⟨i, q1, q2⟩ | q
    · have k := h.nm i x q1
      rw [← q2] at k
      exact h.post.cells (d, x) k
    · exact q σ I
  rcases hp with hp | hp
  · exact det_plain hu hx hd.1.1 hp
  · exact det_name hu hx hp
end Go.Ev
namespace Go.Proofs.YtgjnadligocdkaaGreatDoor
open Go.RowKit
open Go.Ev (LB CellOk LBsO lofO csO Got GotM MapTold packL mkPtr mkSl mkMap nameQ rowIs tupIs mapIs liveB ML)
noncomputable def mst : Nat → Nat × Nat × ML
  | 0 => (0, 0, .nil)
  | 1 => (1, 1, .cons (iC 0) (Ev.boolC true) 0 .nil)
  | _ => (2, 2, .cons (iC 1) (Ev.boolC true) 1 (.cons (iC 0) (Ev.boolC true) 0 .nil))
def filC : List Nat := [mkSl 2 0 2 8388609, nameQ 3 0, mkMap 1]
def filV (R β c M : Nat) (S : Value) : List Value := [.slice (some ⟨R, β, none⟩) 2 c, S, .map (some M)]
def FilAt (w : World) (F R β M st c : Nat) (A B : ByteArray) (S : Value) : Prop := Blk w F (filV R β c M S).toArray ∧ BlkR w R β #[.string A, .string B] c ∧ MapTold w M (mst st).1 (mst st).2.1 (mst st).2.2 ∧ [F, R, M].Nodup ∧ 2 ≤ c ∧ Ev.One S
def filB (F R β c M : Nat) (A B : ByteArray) (S : Value) : List LB := [⟨F, filC, 115, (filV R β c M S).toArray, 0, 3, 0⟩, ⟨R, [nameQ 1 0, nameQ 2 0], 9, #[.string A, .string B], 2, c, β⟩]
noncomputable def chkW (i s' : Nat) (c : Nat) (H : Ev.HT) (_nx : Nat) : Bool := Nat.beq c nE && (mapIs H 1 (mst s').1 (mst s').2.1 (mst s').2.2 && (rowIs H 2 2 (packL [0, if i = 0 then nameQ 4 0 else nameQ 1 0, if i = 0 then nameQ 2 0 else nameQ 4 0]) && rowIs H 3 3 (packL (0 :: filC))))
noncomputable def wrR (s i s' : Nat) : Bool := runM 23 Tryz.f23 [mkPtr 3 0, iC i, nameQ 4 0] (mst s).1 (mst s).2.1 (mst s).2.2 (filB 0 0 0 0 0 ⟨#[]⟩ ⟨#[]⟩ undef) (chkW i s')
theorem wr_001 : wrR 0 0 1 = true := by decide +kernel
theorem wr_112 : wrR 1 1 2 = true := by decide +kernel
theorem wr_202 : wrR 2 0 2 = true := by decide +kernel
theorem wr_212 : wrR 2 1 2 = true := by decide +kernel
theorem write_p {w : World} {F R β M st i s' c : Nat} {A B s : ByteArray} {S : Value} (h : FilAt w F R β M st c A B S) (hi : i < 2) (hv : ∀ v ∈ Ev.valsM (mst s').2.2, 3 ≤ Ev.hi v ∧ Ev.hi v ≤ 12) (hr : wrR st i s' = true) : Calls Tryz.prog 23 #[.pointer (some ⟨F, 0, none⟩), .int .i64 (i : Int), .string s] w fun e w' => e = .returned .nilIface ∧ FilAt w' F R β M s' c (if i = 0 then s else A) (if i = 0 then B else s) S ∧ Turned [F, R, M] w w' := by
  obtain ⟨h1, h2, h3, h4, h5, h6⟩ := h
  have e1 : ∀ s : ByteArray, Ev.One (.string s) := fun s => ⟨fun _ e => Value.noConfusion e, fun _ e => Value.noConfusion e⟩
  have n1 := nm_ok (ns := [.string A, .string B, S, .string s]) (i := 0) rfl (by decide)
  have n2 := nm_ok (ns := [.string A, .string B, S, .string s]) (i := 1) rfl (by decide)
  have n3 := nm_ok (ns := [.string A, .string B, S, .string s]) (i := 2) rfl (by decide)
  have n4 := nm_ok (ns := [.string A, .string B, S, .string s]) (i := 3) rfl (by decide)
  have hn28 : ∀ j, j < 1000 → Ev.hi (nameQ (j + 1) 0) = 28 := fun j hj => (Ev.nameQ_at (j := j + 1) (q := 0) (by omega) (by decide)).1
  have hn128 : ∀ j, j < 1000 → nameQ (j + 1) 0 < 2 ^ 128 := fun j hj => by unfold nameQ; omega
  refine (lm (w := w) Tryz.func23 (by decide +kernel) [.string A, .string B, S, .string s] ?_ (by show 4 < 1000; decide) h3 (filB F R β c M A B S) (by show 2 < 1000; decide) h4 ⟨?_, ?_, trivial⟩ [(mkPtr 3 0, .pointer (some ⟨F, 0, none⟩)), (iC i, .int .i64 (i : Int)), (nameQ 4 0, .string s)] ?_ hr).mono ?_
  · intro v hv
    simp only [List.mem_cons, List.not_mem_nil, or_false] at hv
    rcases hv with rfl | rfl | rfl | rfl
    · exact e1 _
    · exact e1 _
    · exact h6
    · exact e1 _
  · refine okT_of h1 ⟨by decide, by decide⟩ (lt_all (by decide +kernel)) ⟨sl_d ⟨by decide, by decide⟩ ?_, .inl ⟨n3, .inr (.inl (hn28 2 (by decide)))⟩, .inr ⟨by decide +kernel, ?_⟩, trivial⟩
    · exact List.mem_append_left _ (List.mem_cons_self ..)
    · exact List.mem_append_right _ (List.mem_cons_self ..)
  · exact okT_of (vs := [.string A, .string B]) h2 ⟨by decide, h5⟩ (lt_all (by decide +kernel)) ⟨.inl ⟨n1, .inr (.inl (hn28 0 (by decide)))⟩, .inl ⟨n2, .inr (.inl (hn28 1 (by decide)))⟩, trivial⟩
  · intro x hx
    simp only [List.mem_cons, List.not_mem_nil, or_false] at hx
    rcases hx with rfl | rfl | rfl
    · exact .inr (List.mem_cons_of_mem _ (List.mem_cons_self ..))
    · exact .inl (iC_ok (by omega))
    · exact .inl n4
  · rintro e w' ⟨v, c', H, nx, I, σ, cs, rfl, h⟩
    have hc := h.chk
    unfold chkW at hc
    simp only [Bool.and_eq_true] at hc
    obtain ⟨k1, k2, k3, k4⟩ := hc
    have hc' : c' = nE := Nat.eq_of_beq_eq_true k1
    have hval := h.post.val
    rw [hc'] at hval
    have hm0 : Ev.VR σ I (mkMap 1) (.map (some M)) := h.post.cells (mkMap 1, .map (some M)) h.map
    have hp2 : Ev.VR σ I (mkPtr 2 0) (.pointer (some ⟨R, β, none⟩)) := h.post.cells (mkPtr 2 0, .pointer (some ⟨R, β, none⟩)) (h.ptr _ (List.mem_cons_of_mem _ (List.mem_cons_of_mem _ (List.mem_cons_of_mem _ (List.mem_cons_self ..)))))
    have hs2 : Ev.VR σ I (mkSl 2 0 2 8388609) (.slice (some ⟨R, β, none⟩) 2 c) := h.post.cells (mkSl 2 0 2 8388609, .slice (some ⟨R, β, none⟩) 2 c) (h.ptr _ (List.mem_cons_of_mem _ (List.mem_cons_of_mem _ (List.mem_cons_self ..))))
    have hp3 : Ev.VR σ I (mkPtr 3 0) (.pointer (some ⟨F, 0, none⟩)) := h.post.cells (mkPtr 3 0, .pointer (some ⟨F, 0, none⟩)) (h.ptr _ (List.mem_cons_of_mem _ (List.mem_cons_self ..)))
    obtain ⟨em, m1, m2⟩ := Ev.map_cell (b := 1) (by decide) hm0
    obtain ⟨eR, r1, r2, r3⟩ := Ev.ptr_sig (k := 2) (by decide) hp2
    obtain ⟨eF, f1, f2, f3⟩ := Ev.ptr_sig (k := 3) (by decide) hp3
    injection m2 with m2
    injection m2 with m2
    have hmt := Ev.map_told h.post.rel m1 k2 hv
    rw [← m2] at hmt
    obtain ⟨eR', q1, q2⟩ := Ev.sl_key (b := 2) ⟨by decide, by decide⟩ hs2
    rw [r1] at q1
    injection q1 with q1
    subst q1
    have hK : eR.K = c := by injection q2 with _ _ q3; exact q3.symm
    obtain ⟨ur, R1, R2, R3⟩ := Ev.row_at h.post.rel r1 k3
    obtain ⟨uf, F1, F2, F3⟩ := Ev.row_at h.post.rel f1 k4
    rw [r2, r3, hK] at R1
    rw [f2, f3] at F1
    have nd : ∀ {j : Nat} {u x : Value}, CellOk [.string A, .string B, S, .string s] (nameQ (j + 1) 0) x → j < 1000 → Ev.VR σ I (nameQ (j + 1) 0) u → u = x := fun hd hj hu => h.det hd (.inr (hn28 _ hj)) hu
    have hur : ur = #[.string (if i = 0 then s else A), .string (if i = 0 then B else s)] := by
      have d : ∀ c ∈ [if i = 0 then nameQ 4 0 else nameQ 1 0, if i = 0 then nameQ 2 0 else nameQ 4 0], c < 2 ^ 128 := fun c hc => by
        simp only [List.mem_cons, List.not_mem_nil, or_false] at hc
        rcases hc with rfl | rfl <;> split <;> exact hn128 _ (by decide)
      have g0 := R3 0 (by omega)
      have g1 := R3 1 (by omega)
      rw [Ev.dig_cl d] at g0 g1
      refine array2 R2 ?_ ?_
      · by_cases hi0 : i = 0
        · rw [if_pos hi0]; simp only [if_pos hi0] at g0; exact nd n4 (by decide) g0
        · rw [if_neg hi0]; simp only [if_neg hi0] at g0; exact nd n1 (by decide) g0
      · by_cases hi0 : i = 0
        · rw [if_pos hi0]; simp only [if_pos hi0] at g1; exact nd n2 (by decide) g1
        · rw [if_neg hi0]; simp only [if_neg hi0] at g1; exact nd n4 (by decide) g1
    have huf : uf = (filV R β c M S).toArray := by
      have d : ∀ c ∈ filC, c < 2 ^ 128 := lt_all (by decide +kernel)
      have F2' : uf.size = 3 := F2
      have g0 := F3 0 (by omega)
      have g1 := F3 1 (by omega)
      have g2 := F3 2 (by omega)
      rw [Ev.dig_cl d] at g0 g1 g2
      apply Array.ext
      · rw [F2']; rfl
      · intro j j1 j2
        have hj : j = 0 ∨ j = 1 ∨ j = 2 := by omega
        rcases hj with rfl | rfl | rfl
        · exact Ev.sl_det ⟨by decide, by decide⟩ g0 hs2
        · exact nd n3 (by decide) g1
        · exact Ev.map_det (by decide) g2 hm0
    rw [hur] at R1
    rw [huf] at F1
    have hnil : v = .nilIface := nE_det σ I v hval
    refine ⟨by rw [hnil], ⟨cut_of F1, R1, hmt, h4, h5, h6⟩, ⟨h.post.turned.size, h.post.turned.os, h.post.turned.out, h.post.turned.same⟩⟩
noncomputable def clB (H : Ev.HT) (b : Nat) : Bool := match Ev.get H b with | .row _ _ _ op => !op | _ => false
theorem cl_at {σ : Ev.Sig} {I : Ev.Imm} {H : Ev.HT} {nx b : Nat} {w : World} {e : Ev.SE} (h : Ev.SRel σ I H nx w) (he : σ b = some e) (hc : clB H b = true) : e.β = 0 := by
  have ho := h.obj b e he
  unfold clB at hc
  split at hc
  · rename_i n N et op hg
    rw [hg] at ho
    exact ho.2 (by simpa using hc)
  · cases hc
theorem map_live {H : Ev.HT} {b c q : Nat} {l : ML} (h : mapIs H b c q l = true) : Ev.get H b ≠ .dead := by
  rw [Ev.mapIs_at h]; exact fun e => by cases e
def pgB (P β c : Nat) (A B : ByteArray) : List LB := [⟨P, [nameQ 1 0, nameQ 2 0], 9, #[.string A, .string B], 2, c, β⟩]
def r12 : Nat := packL [0, nameQ 1 0, nameQ 2 0]
noncomputable def chkN (c : Nat) (H : Ev.HT) (_nx : Nat) : Bool := Nat.beq c (mkPtr 8 0) && (mapIs H 6 0 0 .nil && (rowIs H 3 2 r12 && (rowIs H 8 3 (packL [0, mkSl 3 0 2 8388609, mkSl 5 0 2 8388609, mkMap 6]) && (clB H 8 && liveB H 1))))
theorem nw_run : runA 5 Tryz.f5 [mkSl 1 0 2 8388609] (pgB 0 0 0 ⟨#[]⟩ ⟨#[]⟩) chkN = true := by decide +kernel
noncomputable def chkQ (c : Nat) (H : Ev.HT) (_nx : Nat) : Bool := Nat.beq c (mkPtr 5 0) && (rowIs H 2 2 r12 && (rowIs H 5 3 (packL [0, mkSl 2 0 2 8388609, mkSl 3 0 2 8388609, 1188422437713965063903159255040]) && (clB H 5 && liveB H 1)))
theorem nq_run : runA 7 Tryz.f7 [mkSl 1 0 2 8388609] (pgB 0 0 0 ⟨#[]⟩ ⟨#[]⟩) chkQ = true := by decide +kernel
theorem two_names {ns : List Value} {bl : List LB} {chk : Nat → Ev.HT → Nat → Bool} {w0 w : World} {v : Value} {c : Nat} {H : Ev.HT} {nx : Nat} {I : Ev.Imm} {σ : Ev.Sig} {cs : List (Nat × Value)} (h : Got ns bl chk w0 v w c H nx I σ cs) {x y : Value} (h0 : ns[0]? = some x) (h1 : ns[1]? = some y) {B β K : Nat} {us : Array Value} (hr : Ev.RowAt w B β us K 2 r12 I σ) : BlkR w B β #[x, y] K := by
  obtain ⟨k1, k2, k3⟩ := hr
  have d : ∀ c ∈ [nameQ 1 0, nameQ 2 0], c < 2 ^ 128 := lt_all (by decide +kernel)
  have g0 := k3 0 (by omega)
  have g1 := k3 1 (by omega)
  unfold r12 at g0 g1
  rw [Ev.dig_cl d] at g0 g1
  have hn : ∀ j, j < 1000 → Ev.hi (nameQ (j + 1) 0) = 28 := fun j hj => (Ev.nameQ_at (j := j + 1) (q := 0) (by omega) (by decide)).1
  have e := array2 k2 (h.det (nm_ok h0 (by decide)) (.inr (hn 0 (by decide))) g0) (h.det (nm_ok h1 (by decide)) (.inr (hn 1 (by decide))) g1)
  rw [e] at k1
  exact k1
theorem new_p {w : World} {P β c : Nat} {A B : ByteArray} (h : BlkR w P β #[.string A, .string B] c) (hc : 2 ≤ c) : Calls Tryz.prog 5 #[.slice (some ⟨P, β, none⟩) 2 c] w fun e w' => ∃ F R β' M c' S, e = .returned (.pointer (some ⟨F, 0, none⟩)) ∧ FilAt w' F R β' M 0 c' A B S ∧ w.heap.size ≤ F ∧ w.heap.size ≤ R ∧ w.heap.size ≤ M ∧ Turned [P] w w' := by
  have e1 : ∀ s : ByteArray, Ev.One (.string s) := fun s => ⟨fun _ e => Value.noConfusion e, fun _ e => Value.noConfusion e⟩
  refine (lc (w := w) Tryz.func5 (by decide +kernel) [.string A, .string B] ?_ (by show 2 < 1000; decide) (pgB P β c A B) (by show 1 < 1000; decide) (by simp [pgB]) ⟨?_, trivial⟩ [(mkSl 1 0 2 8388609, .slice (some ⟨P, β, none⟩) 2 c)] ?_ nw_run).mono ?_
  · intro v hv
    simp only [List.mem_cons, List.not_mem_nil, or_false] at hv
    rcases hv with rfl | rfl <;> exact e1 _
  · exact okT_of (vs := [.string A, .string B]) h ⟨by decide, hc⟩ (lt_all (by decide +kernel)) ⟨nm_d rfl (by decide), nm_d rfl (by decide), trivial⟩
  · intro x hx
    obtain rfl := List.mem_singleton.1 hx
    exact .inr (List.mem_cons_self ..)
  · rintro e w' ⟨v, c', H, nx, I, σ, cs, rfl, h⟩
    have hc := h.chk
    unfold chkN at hc
    simp only [Bool.and_eq_true] at hc
    obtain ⟨k1, k2, k3, k4, k5, k6⟩ := hc
    have hval := h.post.val
    rw [Nat.eq_of_beq_eq_true k1] at hval
    have h14 : Ev.hi (mkPtr 8 0) = 14 := Ev.hi_mkPtr (by omega) (by decide)
    have hip : Ev.isPtr (mkPtr 8 0) = true := by
      unfold Ev.isPtr
      rw [Ev.and'_eq, h14, Ev.some_mkPtr (by omega)]; rfl
    obtain ⟨eF, f1, f2, f3, f4⟩ := Ev.isPtr_inv hval hip
    rw [Ev.blk_mkPtr (by omega)] at f1
    rw [Ev.off_mkPtr (by omega) (by decide)] at f4
    obtain ⟨uf, F1, F2, F3⟩ := Ev.row_at h.post.rel f1 k4
    have hβ := cl_at h.post.rel f1 k5
    have d : ∀ c ∈ [mkSl 3 0 2 8388609, mkSl 5 0 2 8388609, mkMap 6], c < 2 ^ 128 := lt_all (by decide +kernel)
    have F2' : uf.size = 3 := F2
    have g0 := F3 0 (by omega)
    have g1 := F3 1 (by omega)
    have g2 := F3 2 (by omega)
    rw [Ev.dig_cl d] at g0 g1 g2
    obtain ⟨eR, r1, r2⟩ := Ev.sl_key (b := 3) ⟨by decide, by decide⟩ g0
    obtain ⟨eS, s1, s2⟩ := Ev.sl_key (b := 5) ⟨by decide, by decide⟩ g1
    obtain ⟨eM, m1, m2⟩ := Ev.map_cell (b := 6) (by decide) g2
    obtain ⟨R', β', c2, ur, q1, q2, q3, q4⟩ := h.newSl (by show 1 < 1000; decide) k6 ⟨by show 1 < 3; decide, by decide, by decide⟩ k3 g0
    have hmt := Ev.map_told h.post.rel m1 k2 (by intro v hv; cases hv)
    have hR := two_names h rfl rfl q4
    have hq : (.slice (some ⟨eR.B, eR.β, none⟩) 2 eR.K : Value) = .slice (some ⟨R', β', none⟩) 2 c2 := r2.symm.trans q1
    injection hq with hq1 hq2 hq3
    injection hq1 with hq1
    injection hq1 with hq4 hq5
    have n1 : eF.B ≠ eR.B := fun q => absurd (h.post.rel.inj _ _ _ _ f1 r1 q (Ev.rowIs_live k4) (Ev.rowIs_live k3)) (by decide)
    have n2 : eF.B ≠ eM.B := fun q => absurd (h.post.rel.inj _ _ _ _ f1 m1 q (Ev.rowIs_live k4) (map_live k2)) (by decide)
    have n3 : eR.B ≠ eM.B := fun q => absurd (h.post.rel.inj _ _ _ _ r1 m1 q (Ev.rowIs_live k3) (map_live k2)) (by decide)
    rw [hq4] at n1 n3
    have huf : uf = (filV R' β' c2 eM.B (.slice (some ⟨eS.B, eS.β, none⟩) 2 eS.K)).toArray := by
      apply Array.ext
      · rw [F2']; rfl
      · intro j j1 j2
        have hj : j = 0 ∨ j = 1 ∨ j = 2 := by omega
        rcases hj with rfl | rfl | rfl
        · exact q1
        · exact s2
        · exact m2
    rw [huf, hβ] at F1
    refine ⟨eF.B, R', β', eM.B, c2, _, by rw [f4, hβ], ⟨cut_of F1, hR, hmt, ?_, q2, ⟨fun _ e => Value.noConfusion e, fun _ e => Value.noConfusion e⟩⟩, h.isNew (by show 1 < 1000; decide) k6 (by show 1 < 8; decide) f1 (Ev.rowIs_live k4), q3, h.isNew (by show 1 < 1000; decide) k6 (by show 1 < 6; decide) m1 (map_live k2), turned h⟩
    simp only [List.nodup_cons, List.mem_cons, List.not_mem_nil, or_false, not_or]
    exact ⟨⟨n1, n2⟩, n3, fun q => q, List.nodup_nil⟩
end Go.Proofs.YtgjnadligocdkaaGreatDoor
