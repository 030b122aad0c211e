/-
  WALKS: past.play: data, ends, takes (where no transaction lies within another one).
-/
import Derived.Test.YtmkhjmldncegcaaGreatDoorMF
import Derived.Laws.StructEq
set_option linter.unusedVariables false
set_option linter.unusedSimpArgs false
namespace Go.Proofs.YtmkhjmldncegcaaGreatDoor
open Go.RowKit Go.Maps Go.ChangeMaps Go.MapKept Go.Sort

theorem rep_fields : Tryz.prog.underlying 32 = some (.struct (Tryz.prog.fieldsOf 32)) := by kernel_rfl
theorem rep_held : Tryz.prog.stoodInHeld 32 = false := by kernel_rfl
def sameRep (r s : RepA) : Bool := decide (r = s)
theorem sameRep_eq (r s : RepA) : sameRep r s = (r.code == s.code && (r.key == s.key && r.val == s.val)) := by
  obtain ⟨a, b, c⟩ := r
  obtain ⟨d, e, f⟩ := s
  unfold sameRep
  rw [Bool.eq_iff_iff]
  simp
theorem run_eql_rep (r s : RepA) (w : World) : (binOp .eql 32 (repV r) (repV s)).run Tryz.prog w = .ok (.bool (sameRep r s)) w := by
  obtain ⟨a, b, c⟩ := r
  obtain ⟨d, e, f⟩ := s
  rw [sameRep_eq]
  unfold repV
  rw [run_eql_struct, run_equalIn_agg w 9999 _ _ _ rep_fields rep_held]
  have h2 := Tryz.underlying3
  have h3 := Tryz.underlying9
  simp [Program.fieldsOf, Tryz.underlying32, Op.eqFields, go_sem]
  by_cases q1 : a = d <;> by_cases q2 : b = e <;> by_cases q3 : c = f <;> simp [q1, q2, q3]

/-- What a process is in: a model, or none; whether it reads. -/
structure PlA where
  m : Option ModA
  reads : Bool
def PlIs (w : World) (σ : Sig) (p : Int) (plb : Nat) (s : PlA) : Prop :=
  σ plb = (oPl p, .top) ∧ ∃ ov, w.heap[plb]? = some (.cells #[ov, .bool s.reads] 93 (0, 0)) ∧
    match s.m with
    | none => ov = .slice none 0 0
    | some A => ∃ g pb mb bases, ov = .slice (some ⟨g, 0, none⟩) 1 1 ∧ σ g = (oPl p, .names) ∧ w.heap[g]? = some (.cells #[.pointer (some ⟨pb, 0, none⟩)] 24 (0, 0)) ∧ ModIs w σ (oMo p) pb mb bases A
def PlAt (w : World) (σ : Sig) (p : Int) (v : Value) (s : PlA) : Prop := ∃ plb, v = .pointer (some ⟨plb, 0, none⟩) ∧ PlIs w σ p plb s
def mine (p : Int) (l : Lab) : Prop := l.1 = oPl p ∨ l.1 = oMo p
theorem PlIs.keep {w w' : World} {σ σ' : Sig} {p : Int} {plb : Nat} {s : PlA} (h : PlIs w σ p plb s) (k : Keep (mine p) σ w σ' w') : PlIs w' σ' p plb s := by
  obtain ⟨a1, ov, a2, a3⟩ := h
  have kg := k plb (lt_heap a2) (by rw [a1]; exact .inl rfl)
  refine ⟨by rw [kg.2, a1], ov, by rw [kg.1, a2], ?_⟩
  cases hm : s.m with
  | none => rw [hm] at a3; exact a3
  | some A =>
    rw [hm] at a3
    obtain ⟨g, pb, mb, bases, b1, b2, b3, b4⟩ := a3
    have k2 := k g (lt_heap b3) (by rw [b2]; exact .inl rfl)
    exact ⟨g, pb, mb, bases, b1, by rw [k2.2, b2], by rw [k2.1, b3], b4.keep (k.weak fun l hl => .inr hl)⟩
theorem PlIs.ext {w w' : World} {σ : Sig} {p : Int} {plb : Nat} {s : PlA} (h : PlIs w σ p plb s) (e : Ext w w') : PlIs w' σ p plb s := h.keep (Keep.ofExt e _ σ)

/-- A step of a process's: its play's blocks, its model's. -/
structure Moved2 (σ : Sig) (i j : Nat) (w : World) (σ' : Sig) (w' : World) : Prop where
  ext : SigExt w σ σ'
  neat : Neat w' σ'
  os : w'.os = w.os
  tape : w'.tape = w.tape
  output : w'.output = w.output
  size : w.heap.size ≤ w'.heap.size
  block : ∀ k, k < w.heap.size → (σ k).1 ≠ i → (σ k).1 ≠ j → w'.heap[k]? = w.heap[k]?
theorem Moved2.ofExt {σ : Sig} {w w' : World} (n : Neat w σ) (e : Ext w w') (i j : Nat) : Moved2 σ i j w σ w' := ⟨fun _ _ => rfl, n.ext e, e.os, e.tape, e.output, e.size, fun k hk _ _ => e.block k hk⟩
theorem Moved2.left {σ σ' : Sig} {i j : Nat} {w w' : World} (m : Moved σ i w σ' w') : Moved2 σ i j w σ' w' := ⟨m.ext, m.neat, m.turn.os, m.turn.tape, m.turn.output, m.turn.size, fun k hk h _ => m.turn.block k hk h⟩
theorem Moved2.right {σ σ' : Sig} {i j : Nat} {w w' : World} (m : Moved σ j w σ' w') : Moved2 σ i j w σ' w' := ⟨m.ext, m.neat, m.turn.os, m.turn.tape, m.turn.output, m.turn.size, fun k hk _ h => m.turn.block k hk h⟩
theorem Moved2.trans {σ σ' σ'' : Sig} {i j : Nat} {w w' w'' : World} (h : Moved2 σ i j w σ' w') (k : Moved2 σ' i j w' σ'' w'') : Moved2 σ i j w σ'' w'' :=
  ⟨fun b hb => (k.ext b (Nat.lt_of_lt_of_le hb h.size)).trans (h.ext b hb), k.neat, k.os.trans h.os, k.tape.trans h.tape, k.output.trans h.output, Nat.le_trans h.size k.size, fun b hb h1 h2 =>
    (k.block b (Nat.lt_of_lt_of_le hb h.size) (by rw [h.ext b hb]; exact h1) (by rw [h.ext b hb]; exact h2)).trans (h.block b hb h1 h2)⟩
theorem oPl_0 (p : Int) : oPl p ≠ 0 := by unfold oPl; omega
theorem oMo_0 (p : Int) : oMo p ≠ 0 := by unfold oMo; omega
theorem oPl_Mo (p q : Int) : oPl p ≠ oMo q := by unfold oPl oMo; omega

theorem may_no (c : Int) (w : World) (h1 : c ≠ 14) (h2 : c ≠ 17) (h3 : c ≠ 12) : Calls Tryz.prog 90 #[.int .i64 c] w fun e w' => e = .returned (.bool false) ∧ w' = w := by
  have b1 : (c == 14) = false := by simpa using h1
  have b2 : (c == 17) = false := by simpa using h2
  have b3 : (c == 12) = false := by simpa using h3
  clear h1 h2 h3
  go_enter Tryz.func90, Tryz.ntmps90
  go_wp2
  go_ret
  exact ⟨rfl, rfl⟩
theorem change8 (w : World) : Calls Tryz.prog 91 #[.int .i64 8] w fun e w' => e = .returned (.bool false) ∧ w' = w := by
  go_enter Tryz.func91, Tryz.ntmps91
  go_wp2
  go_ret
  exact ⟨rfl, rfl⟩

/-- Behind an op on a process's model. -/
theorem pl_did {σ σ3 : Sig} {p : Int} {plb g pb mb : Nat} {A A' : ModA} {reads : Bool} {w W w3 : World} {bases3 : List (S × Value)} (hn : Neat w σ) (h : PlIs w σ p plb ⟨some A, reads⟩) (e : Ext w W) (hg : σ g = (oPl p, .names)) (hb : w.heap[g]? = some (.cells #[.pointer (some ⟨pb, 0, none⟩)] 24 (0, 0)))
    (hI : ModIs w3 σ3 (oMo p) pb mb bases3 A') (hm : Moved σ (oMo p) W σ3 w3) (hov : w.cell? ⟨plb, 0, none⟩ = some (.slice (some ⟨g, 0, none⟩) 1 1)) : PlIs w3 σ3 p plb ⟨some A', reads⟩ ∧ Moved2 σ (oPl p) (oMo p) w σ3 w3 := by
  obtain ⟨a1, ov, a2, _⟩ := h
  have hov' := cellAt a2 0
  rw [hov] at hov'
  have hovv : ov = .slice (some ⟨g, 0, none⟩) 1 1 := by simpa using hov'.symm
  subst hovv
  have k : Keep (fun l => l.1 = oPl p) σ w σ3 w3 := (Keep.ofExt e _ σ).trans e.size (Keep.ofMoved hm (oPl_Mo p p))
  have k1 := k plb (lt_heap a2) (by rw [a1])
  have k2 := k g (lt_heap hb) (by rw [hg])
  exact ⟨⟨by rw [k1.2, a1], _, by rw [k1.1, a2], g, pb, mb, bases3, rfl, by rw [k2.2, hg], by rw [k2.1, hb], hI⟩, (Moved2.ofExt hn e _ _).trans (Moved2.right hm)⟩
/-- What a call of data leaves. -/
def DataPost (σ : Sig) (p : Int) (plb : Nat) (A : ModA) (reads : Bool) (t : ToldA) (w : World) (e : Ending) (w' : World) : Prop :=
  e = .returned (.bool (sameRep (doA A t.op).2 t.rep)) ∧ ∃ σ', PlIs w' σ' p plb ⟨some (doA A t.op).1, reads⟩ ∧ Moved2 σ (oPl p) (oMo p) w σ' w'

set_option maxHeartbeats 4000000 in
set_option maxRecDepth 100000 in
theorem data_getr (σ : Sig) (p : Int) (plb : Nat) (A : ModA) (t : ToldA) (w : World) (m : Nat) (hn : Neat w σ) (hgr : Ground σ w) (h : PlIs w σ p plb ⟨some A, true⟩) (hs : Sound A m) (hm : m ≤ 1000000) (hop : OpOk t.op)
    (h1 : t.rep.code ≠ 14) (h2 : t.rep.code ≠ 17) (h3 : t.rep.code ≠ 12) (hk : t.op.kind = 8) :
    Calls Tryz.prog 72 #[.pointer (some ⟨plb, 0, none⟩), toldV t] w (DataPost σ p plb A true t w) := by
  obtain ⟨pid, number, ⟨kind, db, key, val, flags, n⟩, frm, till, ⟨code, rk, rv⟩, txn⟩ := t
  obtain rfl : kind = 8 := hk
  obtain ⟨o, ho⟩ : ∃ o : OpA, o = ⟨8, db, key, val, flags, n⟩ := ⟨_, rfl⟩
  obtain ⟨r, hr⟩ : ∃ r : RepA, r = ⟨code, rk, rv⟩ := ⟨_, rfl⟩
  have HI := Lib.hid h
  obtain ⟨X, hX⟩ : ∃ X, (doA A o).2 = X := ⟨_, rfl⟩
  obtain ⟨xc, xk, xv⟩ := X
  obtain ⟨a1, ov, a2, g, pb, mb, bases, rfl, b2, b3, b4⟩ := h
  have c0 := fun o => ((Ext.rfl' w).alloc o).cell (show w.cell? ⟨plb, 0, none⟩ = some (.slice (some ⟨g, 0, none⟩) 1 1) by rw [cellAt a2 0]; rfl)
  have c1 := fun o => ((Ext.rfl' w).alloc o).cell (show w.cell? ⟨plb, 1, none⟩ = some (.bool true) by rw [cellAt a2 1]; rfl)
  have c2 := fun o => ((Ext.rfl' w).alloc o).cell (show w.cell? ⟨g, 0, none⟩ = some (.pointer (some ⟨pb, 0, none⟩)) by rw [cellAt b3 0]; rfl)
  have HMAY := Lib.hid fun W => may_no code W h1 h2 h3
  have HDO : Hid (∀ W, Ext w W → Calls Tryz.prog 10 #[.pointer (some ⟨pb, 0, none⟩), .agg #[.int .i64 8, encStr db, encStr key, encStr val, .int .i64 flags, .int .i64 n]] W fun e w' => e = .returned (.agg #[.int .i64 xc, encStr xk, encStr xv]) ∧ ∃ σ' bases', ModIs w' σ' (oMo p) pb mb bases' (doA A o).1 ∧ Moved σ (oMo p) W σ' w') := fun W hx => by
    have := do_any σ (oMo p) pb mb bases A o W m (b4.ext hx) (hn.ext hx) hs hm (by rw [ho]; exact hop.1) (by rw [ho]; exact hop.2) (oMo_0 p) (hgr.ext hx)
    have hV : opV o = .agg #[.int .i64 8, encStr db, encStr key, encStr val, .int .i64 flags, .int .i64 n] := by rw [ho]; rfl
    rw [hV] at this
    refine this.mono fun e w' hh => ?_
    obtain ⟨h1, h2⟩ := hh
    rw [hX] at h1
    exact ⟨h1, h2⟩
  have HEQ : Hid (∀ W, (binOp .eql 32 (.agg #[.int .i64 xc, encStr xk, encStr xv]) (.agg #[.int .i64 code, encStr rk, encStr rv])).run Tryz.prog W = .ok (.bool (sameRep ⟨xc, xk, xv⟩ r)) W) := fun W => by rw [hr]; exact run_eql_rep ⟨xc, xk, xv⟩ ⟨code, rk, rv⟩ W
  have HP2 : Hid (DataPost σ p plb A true ⟨pid, number, ⟨8, db, key, val, flags, n⟩, frm, till, ⟨code, rk, rv⟩, txn⟩ w = fun e w' => e = .returned (.bool (sameRep (doA A o).2 r)) ∧ ∃ σ', PlIs w' σ' p plb ⟨some (doA A o).1, true⟩ ∧ Moved2 σ (oPl p) (oMo p) w σ' w') := by show _ = _; rw [ho, hr]; rfl
  rw [hX] at HP2
  have hgd : Tryz.prog.eqGuardType Tryz.prog.depth 32 = false := by kernel_rfl
  have HB2 := Lib.hid b2
  have HB3 := Lib.hid b3
  have HA1 := Lib.hid a1
  have HA2 := Lib.hid a2
  have HHN := Lib.hid hn
  have i1 : IntKind.i64.wrap ((1 : Int) - 1) = 0 := by decide
  have i2 : IntKind.i64.wrap (0 : Int) = 0 := by decide
  clear h1 h2 h3 hop hgr hs a1 a2 b2 b3 b4 ho hr hX
  unfold toldV toldCells
  go_enter Tryz.func72, Tryz.ntmps72
  go_wp2_with fail
  go_quiet (fail)
  generalize hW : World.drewN (w.alloc (Obj.cells _ 38)) nq = W
  have eW : Ext w W := by rw [← hW]; exact Ext.step ((Ext.rfl' w).alloc _) (Ext.drewN _ _)
  have hbx : W.heap[w.heap.size]? = some (.cells (toldCells ⟨pid, number, ⟨8, db, key, val, flags, n⟩, frm, till, ⟨code, rk, rv⟩, txn⟩).toArray 38 (0, 0)) := by rw [← hW]; exact heap_new w _
  have k1 : W.cell? ⟨plb, 1, none⟩ = some (.bool true) := eW.cell (show w.cell? ⟨plb, 1, none⟩ = some (.bool true) by rw [cellAt HA2.out 1]; rfl)
  have q2 := cellAt hbx 2
  have q3 := cellAt hbx 3
  have q4 := cellAt hbx 4
  have q5 := cellAt hbx 5
  have q6 := cellAt hbx 6
  have q7 := cellAt hbx 7
  have q10 := cellAt hbx 10
  have q11 := cellAt hbx 11
  have q12 := cellAt hbx 12
  simp [toldCells] at q2 q3 q4 q5 q6 q7 q10 q11 q12
  have HBX := Lib.hid hbx
  have HEW := Lib.hid eW
  have hdo := HDO.out W eW
  have hdo2 := HDO.out W.drew (Ext.step eW (Ext.drewN W 1))
  have HD1 := Lib.hid hdo
  have HD2 := Lib.hid hdo2
  clear hW eW hbx c0 c1 c2 i1 i2 hdo hdo2
  go_wp2_with (first | (go_at_call 90; refine (HMAY.out _).mono ?_; rintro e w' ⟨rfl, hw'⟩; obtain rfl := hw'.symm; clear hw') | (go_at_call 91; refine (change8 _).mono ?_; rintro e w' ⟨rfl, hw'⟩; obtain rfl := hw'.symm; clear hw') | fail)
  have heq := HEQ.out
  go_region_held3 (fun w' => w'.cell? ⟨w.heap.size, 2, none⟩ = some (.int .i64 8) ∧ w'.cell? ⟨w.heap.size, 3, none⟩ = some (encStr db) ∧ w'.cell? ⟨w.heap.size, 4, none⟩ = some (encStr key) ∧ w'.cell? ⟨w.heap.size, 5, none⟩ = some (encStr val) ∧ w'.cell? ⟨w.heap.size, 6, none⟩ = some (.int .i64 flags) ∧ w'.cell? ⟨w.heap.size, 7, none⟩ = some (.int .i64 n) ∧ w'.cell? ⟨w.heap.size, 10, none⟩ = some (.int .i64 code) ∧ w'.cell? ⟨w.heap.size, 11, none⟩ = some (encStr rk) ∧ w'.cell? ⟨w.heap.size, 12, none⟩ = some (encStr rv))
    (first | exact ⟨q2, q3, q4, q5, q6, q7, q10, q11, q12⟩ | exact K3.out)
    (first
      | (go_at_call 10; (first | (with_reducible refine HD1.out.mono ?_) | (with_reducible refine HD2.out.mono ?_)); rintro e w3 ⟨rfl, σ3, bases3, hI3, hM3⟩
         have hM3' : Moved σ (oMo p) W σ3 w3 := by first | exact hM3 | exact Moved.afterExt (HHN.out.ext HEW.out) (Ext.drewN W 1) hM3
         have hb3 : w3.heap[w.heap.size]? = W.heap[w.heap.size]? := hM3'.turn.block _ (lt_heap HBX.out) (by rw [HHN.out _ (Nat.le_refl _)]; exact fun e => oMo_0 p e.symm)
         have hc3 : ∀ o u, W.cell? ⟨w.heap.size, o, none⟩ = some u → w3.cell? ⟨w.heap.size, o, none⟩ = some u := fun o u hc => by
           rw [World.cell?_of_block (w := W) (w' := w3) (a := ⟨w.heap.size, o, none⟩) hb3]; exact hc
         have K3 := Lib.hid (And.intro (hc3 _ _ q2) (And.intro (hc3 _ _ q3) (And.intro (hc3 _ _ q4) (And.intro (hc3 _ _ q5) (And.intro (hc3 _ _ q6) (And.intro (hc3 _ _ q7) (And.intro (hc3 _ _ q10) (And.intro (hc3 _ _ q11) (hc3 _ _ q12)))))))))
         have HI3 := Lib.hid hI3
         have HM3 := Lib.hid hM3'
         clear hI3 hM3 hM3' hb3 hc3))
  go_wp2
  go_ret
  rw [HP2.out]
  exact ⟨rfl, σ3, pl_did HHN.out HI.out HEW.out HB2.out HB3.out HI3.out HM3.out (by rw [cellAt HA2.out 0]; rfl)⟩

set_option maxHeartbeats 4000000 in
set_option maxRecDepth 100000 in
theorem data_getw (σ : Sig) (p : Int) (plb : Nat) (A : ModA) (t : ToldA) (w : World) (m : Nat) (hn : Neat w σ) (hgr : Ground σ w) (h : PlIs w σ p plb ⟨some A, false⟩) (hs : Sound A m) (hm : m ≤ 1000000) (hop : OpOk t.op)
    (h1 : t.rep.code ≠ 14) (h2 : t.rep.code ≠ 17) (h3 : t.rep.code ≠ 12) (hk : t.op.kind = 8) :
    Calls Tryz.prog 72 #[.pointer (some ⟨plb, 0, none⟩), toldV t] w (DataPost σ p plb A false t w) := by
  obtain ⟨pid, number, ⟨kind, db, key, val, flags, n⟩, frm, till, ⟨code, rk, rv⟩, txn⟩ := t
  obtain rfl : kind = 8 := hk
  obtain ⟨o, ho⟩ : ∃ o : OpA, o = ⟨8, db, key, val, flags, n⟩ := ⟨_, rfl⟩
  obtain ⟨r, hr⟩ : ∃ r : RepA, r = ⟨code, rk, rv⟩ := ⟨_, rfl⟩
  have HI := Lib.hid h
  obtain ⟨X, hX⟩ : ∃ X, (doA A o).2 = X := ⟨_, rfl⟩
  obtain ⟨xc, xk, xv⟩ := X
  obtain ⟨a1, ov, a2, g, pb, mb, bases, rfl, b2, b3, b4⟩ := h
  have c0 := fun o => ((Ext.rfl' w).alloc o).cell (show w.cell? ⟨plb, 0, none⟩ = some (.slice (some ⟨g, 0, none⟩) 1 1) by rw [cellAt a2 0]; rfl)
  have c1 := fun o => ((Ext.rfl' w).alloc o).cell (show w.cell? ⟨plb, 1, none⟩ = some (.bool false) by rw [cellAt a2 1]; rfl)
  have c2 := fun o => ((Ext.rfl' w).alloc o).cell (show w.cell? ⟨g, 0, none⟩ = some (.pointer (some ⟨pb, 0, none⟩)) by rw [cellAt b3 0]; rfl)
  have HMAY := Lib.hid fun W => may_no code W h1 h2 h3
  have HDO : Hid (∀ W, Ext w W → Calls Tryz.prog 10 #[.pointer (some ⟨pb, 0, none⟩), .agg #[.int .i64 8, encStr db, encStr key, encStr val, .int .i64 flags, .int .i64 n]] W fun e w' => e = .returned (.agg #[.int .i64 xc, encStr xk, encStr xv]) ∧ ∃ σ' bases', ModIs w' σ' (oMo p) pb mb bases' (doA A o).1 ∧ Moved σ (oMo p) W σ' w') := fun W hx => by
    have := do_any σ (oMo p) pb mb bases A o W m (b4.ext hx) (hn.ext hx) hs hm (by rw [ho]; exact hop.1) (by rw [ho]; exact hop.2) (oMo_0 p) (hgr.ext hx)
    have hV : opV o = .agg #[.int .i64 8, encStr db, encStr key, encStr val, .int .i64 flags, .int .i64 n] := by rw [ho]; rfl
    rw [hV] at this
    refine this.mono fun e w' hh => ?_
    obtain ⟨h1, h2⟩ := hh
    rw [hX] at h1
    exact ⟨h1, h2⟩
  have HEQ : Hid (∀ W, (binOp .eql 32 (.agg #[.int .i64 xc, encStr xk, encStr xv]) (.agg #[.int .i64 code, encStr rk, encStr rv])).run Tryz.prog W = .ok (.bool (sameRep ⟨xc, xk, xv⟩ r)) W) := fun W => by rw [hr]; exact run_eql_rep ⟨xc, xk, xv⟩ ⟨code, rk, rv⟩ W
  have HP2 : Hid (DataPost σ p plb A false ⟨pid, number, ⟨8, db, key, val, flags, n⟩, frm, till, ⟨code, rk, rv⟩, txn⟩ w = fun e w' => e = .returned (.bool (sameRep (doA A o).2 r)) ∧ ∃ σ', PlIs w' σ' p plb ⟨some (doA A o).1, false⟩ ∧ Moved2 σ (oPl p) (oMo p) w σ' w') := by show _ = _; rw [ho, hr]; rfl
  rw [hX] at HP2
  have hgd : Tryz.prog.eqGuardType Tryz.prog.depth 32 = false := by kernel_rfl
  have HB2 := Lib.hid b2
  have HB3 := Lib.hid b3
  have HA1 := Lib.hid a1
  have HA2 := Lib.hid a2
  have HHN := Lib.hid hn
  have i1 : IntKind.i64.wrap ((1 : Int) - 1) = 0 := by decide
  have i2 : IntKind.i64.wrap (0 : Int) = 0 := by decide
  clear h1 h2 h3 hop hgr hs a1 a2 b2 b3 b4 ho hr hX
  unfold toldV toldCells
  go_enter Tryz.func72, Tryz.ntmps72
  go_wp2_with fail
  go_quiet (fail)
  generalize hW : World.drewN (w.alloc (Obj.cells _ 38)) nq = W
  have eW : Ext w W := by rw [← hW]; exact Ext.step ((Ext.rfl' w).alloc _) (Ext.drewN _ _)
  have hbx : W.heap[w.heap.size]? = some (.cells (toldCells ⟨pid, number, ⟨8, db, key, val, flags, n⟩, frm, till, ⟨code, rk, rv⟩, txn⟩).toArray 38 (0, 0)) := by rw [← hW]; exact heap_new w _
  have k1 : W.cell? ⟨plb, 1, none⟩ = some (.bool false) := eW.cell (show w.cell? ⟨plb, 1, none⟩ = some (.bool false) by rw [cellAt HA2.out 1]; rfl)
  have q2 := cellAt hbx 2
  have q3 := cellAt hbx 3
  have q4 := cellAt hbx 4
  have q5 := cellAt hbx 5
  have q6 := cellAt hbx 6
  have q7 := cellAt hbx 7
  have q10 := cellAt hbx 10
  have q11 := cellAt hbx 11
  have q12 := cellAt hbx 12
  simp [toldCells] at q2 q3 q4 q5 q6 q7 q10 q11 q12
  have HBX := Lib.hid hbx
  have HEW := Lib.hid eW
  have hdo := HDO.out W eW
  have hdo2 := HDO.out W.drew (Ext.step eW (Ext.drewN W 1))
  have HD1 := Lib.hid hdo
  have HD2 := Lib.hid hdo2
  clear hW eW hbx c0 c1 c2 i1 i2 hdo hdo2
  go_wp2_with (first | (go_at_call 90; refine (HMAY.out _).mono ?_; rintro e w' ⟨rfl, hw'⟩; obtain rfl := hw'.symm; clear hw') | (go_at_call 91; refine (change8 _).mono ?_; rintro e w' ⟨rfl, hw'⟩; obtain rfl := hw'.symm; clear hw') | fail)
  have heq := HEQ.out
  go_region_held3 (fun w' => w'.cell? ⟨w.heap.size, 2, none⟩ = some (.int .i64 8) ∧ w'.cell? ⟨w.heap.size, 3, none⟩ = some (encStr db) ∧ w'.cell? ⟨w.heap.size, 4, none⟩ = some (encStr key) ∧ w'.cell? ⟨w.heap.size, 5, none⟩ = some (encStr val) ∧ w'.cell? ⟨w.heap.size, 6, none⟩ = some (.int .i64 flags) ∧ w'.cell? ⟨w.heap.size, 7, none⟩ = some (.int .i64 n) ∧ w'.cell? ⟨w.heap.size, 10, none⟩ = some (.int .i64 code) ∧ w'.cell? ⟨w.heap.size, 11, none⟩ = some (encStr rk) ∧ w'.cell? ⟨w.heap.size, 12, none⟩ = some (encStr rv))
    (first | exact ⟨q2, q3, q4, q5, q6, q7, q10, q11, q12⟩ | exact K3.out)
    (first
      | (go_at_call 10; (first | (with_reducible refine HD1.out.mono ?_) | (with_reducible refine HD2.out.mono ?_)); rintro e w3 ⟨rfl, σ3, bases3, hI3, hM3⟩
         have hM3' : Moved σ (oMo p) W σ3 w3 := by first | exact hM3 | exact Moved.afterExt (HHN.out.ext HEW.out) (Ext.drewN W 1) hM3
         have hb3 : w3.heap[w.heap.size]? = W.heap[w.heap.size]? := hM3'.turn.block _ (lt_heap HBX.out) (by rw [HHN.out _ (Nat.le_refl _)]; exact fun e => oMo_0 p e.symm)
         have hc3 : ∀ o u, W.cell? ⟨w.heap.size, o, none⟩ = some u → w3.cell? ⟨w.heap.size, o, none⟩ = some u := fun o u hc => by
           rw [World.cell?_of_block (w := W) (w' := w3) (a := ⟨w.heap.size, o, none⟩) hb3]; exact hc
         have K3 := Lib.hid (And.intro (hc3 _ _ q2) (And.intro (hc3 _ _ q3) (And.intro (hc3 _ _ q4) (And.intro (hc3 _ _ q5) (And.intro (hc3 _ _ q6) (And.intro (hc3 _ _ q7) (And.intro (hc3 _ _ q10) (And.intro (hc3 _ _ q11) (hc3 _ _ q12)))))))))
         have HI3 := Lib.hid hI3
         have HM3 := Lib.hid hM3'
         clear hI3 hM3 hM3' hb3 hc3))
  go_wp2
  go_ret
  rw [HP2.out]
  exact ⟨rfl, σ3, pl_did HHN.out HI.out HEW.out HB2.out HB3.out HI3.out HM3.out (by rw [cellAt HA2.out 0]; rfl)⟩

set_option maxHeartbeats 4000000 in
set_option maxRecDepth 100000 in
theorem data_put (σ : Sig) (p : Int) (plb : Nat) (A : ModA) (t : ToldA) (w : World) (m : Nat) (hn : Neat w σ) (hgr : Ground σ w) (h : PlIs w σ p plb ⟨some A, false⟩) (hs : Sound A m) (hm : m ≤ 1000000) (hop : OpOk t.op)
    (h1 : t.rep.code ≠ 14) (h2 : t.rep.code ≠ 17) (h3 : t.rep.code ≠ 12) (hk : t.op.kind = 9) :
    Calls Tryz.prog 72 #[.pointer (some ⟨plb, 0, none⟩), toldV t] w (DataPost σ p plb A false t w) := by
  obtain ⟨pid, number, ⟨kind, db, key, val, flags, n⟩, frm, till, ⟨code, rk, rv⟩, txn⟩ := t
  obtain rfl : kind = 9 := hk
  obtain ⟨o, ho⟩ : ∃ o : OpA, o = ⟨9, db, key, val, flags, n⟩ := ⟨_, rfl⟩
  obtain ⟨r, hr⟩ : ∃ r : RepA, r = ⟨code, rk, rv⟩ := ⟨_, rfl⟩
  have HI := Lib.hid h
  obtain ⟨X, hX⟩ : ∃ X, (doA A o).2 = X := ⟨_, rfl⟩
  obtain ⟨xc, xk, xv⟩ := X
  obtain ⟨a1, ov, a2, g, pb, mb, bases, rfl, b2, b3, b4⟩ := h
  have c0 := fun o => ((Ext.rfl' w).alloc o).cell (show w.cell? ⟨plb, 0, none⟩ = some (.slice (some ⟨g, 0, none⟩) 1 1) by rw [cellAt a2 0]; rfl)
  have c1 := fun o => ((Ext.rfl' w).alloc o).cell (show w.cell? ⟨plb, 1, none⟩ = some (.bool false) by rw [cellAt a2 1]; rfl)
  have c2 := fun o => ((Ext.rfl' w).alloc o).cell (show w.cell? ⟨g, 0, none⟩ = some (.pointer (some ⟨pb, 0, none⟩)) by rw [cellAt b3 0]; rfl)
  have HMAY := Lib.hid fun W => may_no code W h1 h2 h3
  have HDO : Hid (∀ W, Ext w W → Calls Tryz.prog 10 #[.pointer (some ⟨pb, 0, none⟩), .agg #[.int .i64 9, encStr db, encStr key, encStr val, .int .i64 flags, .int .i64 n]] W fun e w' => e = .returned (.agg #[.int .i64 xc, encStr xk, encStr xv]) ∧ ∃ σ' bases', ModIs w' σ' (oMo p) pb mb bases' (doA A o).1 ∧ Moved σ (oMo p) W σ' w') := fun W hx => by
    have := do_any σ (oMo p) pb mb bases A o W m (b4.ext hx) (hn.ext hx) hs hm (by rw [ho]; exact hop.1) (by rw [ho]; exact hop.2) (oMo_0 p) (hgr.ext hx)
    have hV : opV o = .agg #[.int .i64 9, encStr db, encStr key, encStr val, .int .i64 flags, .int .i64 n] := by rw [ho]; rfl
    rw [hV] at this
    refine this.mono fun e w' hh => ?_
    obtain ⟨h1, h2⟩ := hh
    rw [hX] at h1
    exact ⟨h1, h2⟩
  have HEQ : Hid (∀ W, (binOp .eql 32 (.agg #[.int .i64 xc, encStr xk, encStr xv]) (.agg #[.int .i64 code, encStr rk, encStr rv])).run Tryz.prog W = .ok (.bool (sameRep ⟨xc, xk, xv⟩ r)) W) := fun W => by rw [hr]; exact run_eql_rep ⟨xc, xk, xv⟩ ⟨code, rk, rv⟩ W
  have HP2 : Hid (DataPost σ p plb A false ⟨pid, number, ⟨9, db, key, val, flags, n⟩, frm, till, ⟨code, rk, rv⟩, txn⟩ w = fun e w' => e = .returned (.bool (sameRep (doA A o).2 r)) ∧ ∃ σ', PlIs w' σ' p plb ⟨some (doA A o).1, false⟩ ∧ Moved2 σ (oPl p) (oMo p) w σ' w') := by show _ = _; rw [ho, hr]; rfl
  rw [hX] at HP2
  have hgd : Tryz.prog.eqGuardType Tryz.prog.depth 32 = false := by kernel_rfl
  have HB2 := Lib.hid b2
  have HB3 := Lib.hid b3
  have HA1 := Lib.hid a1
  have HA2 := Lib.hid a2
  have HHN := Lib.hid hn
  have i1 : IntKind.i64.wrap ((1 : Int) - 1) = 0 := by decide
  have i2 : IntKind.i64.wrap (0 : Int) = 0 := by decide
  clear h1 h2 h3 hop hgr hs a1 a2 b2 b3 b4 ho hr hX
  unfold toldV toldCells
  go_enter Tryz.func72, Tryz.ntmps72
  go_wp2_with fail
  go_quiet (fail)
  generalize hW : World.drewN (w.alloc (Obj.cells _ 38)) nq = W
  have eW : Ext w W := by rw [← hW]; exact Ext.step ((Ext.rfl' w).alloc _) (Ext.drewN _ _)
  have hbx : W.heap[w.heap.size]? = some (.cells (toldCells ⟨pid, number, ⟨9, db, key, val, flags, n⟩, frm, till, ⟨code, rk, rv⟩, txn⟩).toArray 38 (0, 0)) := by rw [← hW]; exact heap_new w _
  have k1 : W.cell? ⟨plb, 1, none⟩ = some (.bool false) := eW.cell (show w.cell? ⟨plb, 1, none⟩ = some (.bool false) by rw [cellAt HA2.out 1]; rfl)
  have q2 := cellAt hbx 2
  have q3 := cellAt hbx 3
  have q4 := cellAt hbx 4
  have q5 := cellAt hbx 5
  have q6 := cellAt hbx 6
  have q7 := cellAt hbx 7
  have q10 := cellAt hbx 10
  have q11 := cellAt hbx 11
  have q12 := cellAt hbx 12
  simp [toldCells] at q2 q3 q4 q5 q6 q7 q10 q11 q12
  have HBX := Lib.hid hbx
  have HEW := Lib.hid eW
  have hdo := HDO.out W eW
  have hdo2 := HDO.out W.drew (Ext.step eW (Ext.drewN W 1))
  have HD1 := Lib.hid hdo
  have HD2 := Lib.hid hdo2
  clear hW eW hbx c0 c1 c2 i1 i2 hdo hdo2
  go_wp2_with (first | (go_at_call 90; refine (HMAY.out _).mono ?_; rintro e w' ⟨rfl, hw'⟩; obtain rfl := hw'.symm; clear hw') | (go_at_call 91; refine (change8 _).mono ?_; rintro e w' ⟨rfl, hw'⟩; obtain rfl := hw'.symm; clear hw') | fail)
  have heq := HEQ.out
  go_region_held3 (fun w' => w'.cell? ⟨w.heap.size, 2, none⟩ = some (.int .i64 9) ∧ w'.cell? ⟨w.heap.size, 3, none⟩ = some (encStr db) ∧ w'.cell? ⟨w.heap.size, 4, none⟩ = some (encStr key) ∧ w'.cell? ⟨w.heap.size, 5, none⟩ = some (encStr val) ∧ w'.cell? ⟨w.heap.size, 6, none⟩ = some (.int .i64 flags) ∧ w'.cell? ⟨w.heap.size, 7, none⟩ = some (.int .i64 n) ∧ w'.cell? ⟨w.heap.size, 10, none⟩ = some (.int .i64 code) ∧ w'.cell? ⟨w.heap.size, 11, none⟩ = some (encStr rk) ∧ w'.cell? ⟨w.heap.size, 12, none⟩ = some (encStr rv))
    (first | exact ⟨q2, q3, q4, q5, q6, q7, q10, q11, q12⟩ | exact K3.out)
    (first
      | (go_at_call 10; (first | (with_reducible refine HD1.out.mono ?_) | (with_reducible refine HD2.out.mono ?_)); rintro e w3 ⟨rfl, σ3, bases3, hI3, hM3⟩
         have hM3' : Moved σ (oMo p) W σ3 w3 := by first | exact hM3 | exact Moved.afterExt (HHN.out.ext HEW.out) (Ext.drewN W 1) hM3
         have hb3 : w3.heap[w.heap.size]? = W.heap[w.heap.size]? := hM3'.turn.block _ (lt_heap HBX.out) (by rw [HHN.out _ (Nat.le_refl _)]; exact fun e => oMo_0 p e.symm)
         have hc3 : ∀ o u, W.cell? ⟨w.heap.size, o, none⟩ = some u → w3.cell? ⟨w.heap.size, o, none⟩ = some u := fun o u hc => by
           rw [World.cell?_of_block (w := W) (w' := w3) (a := ⟨w.heap.size, o, none⟩) hb3]; exact hc
         have K3 := Lib.hid (And.intro (hc3 _ _ q2) (And.intro (hc3 _ _ q3) (And.intro (hc3 _ _ q4) (And.intro (hc3 _ _ q5) (And.intro (hc3 _ _ q6) (And.intro (hc3 _ _ q7) (And.intro (hc3 _ _ q10) (And.intro (hc3 _ _ q11) (hc3 _ _ q12)))))))))
         have HI3 := Lib.hid hI3
         have HM3 := Lib.hid hM3'
         clear hI3 hM3 hM3' hb3 hc3))
  go_wp2
  go_ret
  rw [HP2.out]
  exact ⟨rfl, σ3, pl_did HHN.out HI.out HEW.out HB2.out HB3.out HI3.out HM3.out (by rw [cellAt HA2.out 0]; rfl)⟩

end Go.Proofs.YtmkhjmldncegcaaGreatDoor

/-
  WALKS: past.play: ends, takes.
-/
set_option linter.unusedVariables false
set_option linter.unusedSimpArgs false
namespace Go.Proofs.YtmkhjmldncegcaaGreatDoor
open Go.RowKit Go.Maps Go.ChangeMaps Go.MapKept Go.Sort

def PlPost (σ : Sig) (p : Int) (plb : Nat) (s' : PlA) (r : Bool) (w : World) (e : Ending) (w' : World) : Prop :=
  e = .returned (.bool r) ∧ ∃ σ', PlIs w' σ' p plb s' ∧ Moved2 σ (oPl p) (oMo p) w σ' w'

set_option maxHeartbeats 4000000 in
set_option maxRecDepth 100000 in
theorem pends_any (σ : Sig) (p : Int) (plb : Nat) (A : ModA) (reads : Bool) (t : ToldA) (w : World) (hn : Neat w σ) (h : PlIs w σ p plb ⟨some A, reads⟩) (h6 : t.op.kind = 6) :
    Calls Tryz.prog 70 #[.pointer (some ⟨plb, 0, none⟩), toldV t] w fun e w' => e = .returned (.tuple #[]) ∧ PlIs w' σ p plb ⟨none, false⟩ ∧ Moved σ (oPl p) w σ w' := by
  obtain ⟨pid, number, ⟨kind, db, key, val, flags, n⟩, frm, till, ⟨code, rk, rv⟩, txn⟩ := t
  obtain rfl : kind = 6 := h6
  obtain ⟨a1, ov, a2, g, pb, mb, bases, rfl, b2, b3, b4⟩ := h
  have hlt := lt_heap a2
  have c0 := cellAt a2 0
  have c1 := cellAt a2 1
  have f0 := frozenAt a2 0
  have f1 := frozenAt a2 1
  simp at c0 c1
  have n1 : ¬ plb = w.heap.size := by omega
  have n2 : ¬ w.heap.size = plb := by omega
  have HA1 := Lib.hid a1
  have HA2 := Lib.hid a2
  clear a1 a2 b2 b3 b4
  unfold toldV toldCells
  go_enter Tryz.func70, Tryz.ntmps70
  go_wp2_with fail
  go_end0
  have o := ((Only.refl plb w).setCell 0 (.slice none 0 0)).setCell 1 (.bool false)
  have hr := heap_setCell_row (heap_setCell_row HA2.out 0 (.slice none 0 0)) 1 (.bool false)
  have hp : PlIs ((w.setCell ⟨plb, 0, none⟩ (.slice none 0 0)).setCell ⟨plb, 1, none⟩ (.bool false)) σ p plb ⟨none, false⟩ := ⟨HA1.out, _, hr, rfl⟩
  exact ⟨rfl, hp.ext ((Ext.rfl' _).alloc _), (Moved.ofOnly hn o (by rw [HA1.out])).thenExt ((Ext.rfl' _).alloc _)⟩

set_option maxHeartbeats 4000000 in
set_option maxRecDepth 100000 in
theorem ptakes_com (σ : Sig) (p : Int) (plb : Nat) (A : ModA) (reads : Bool) (t : ToldA) (va vm : Value) (w : World) (hn : Neat w σ) (h : PlIs w σ p plb ⟨some A, reads⟩) (h6 : t.op.kind = 6) (hc : t.rep.code = 0) :
    Calls Tryz.prog 38 #[.pointer (some ⟨plb, 0, none⟩), va, vm, toldV t] w (PlPost σ p plb ⟨none, false⟩ true w) := by
  have HEN : Hid (∀ o, Calls Tryz.prog 70 #[.pointer (some ⟨plb, 0, none⟩), toldV t] (w.alloc o) fun e w' => e = .returned (.tuple #[]) ∧ PlIs w' σ p plb ⟨none, false⟩ ∧ Moved σ (oPl p) (w.alloc o) σ w') := fun o =>
    pends_any σ p plb A reads t (w.alloc o) (hn.ext ((Ext.rfl' w).alloc o)) (h.ext ((Ext.rfl' w).alloc o)) h6
  obtain ⟨pid, number, ⟨kind, db, key, val, flags, n⟩, frm, till, ⟨code, rk, rv⟩, txn⟩ := t
  obtain rfl : kind = 6 := h6
  obtain rfl : code = 0 := hc
  obtain ⟨a1, ov, a2, g, pb, mb, bases, rfl, b2, b3, b4⟩ := h
  have c0 := fun o => ((Ext.rfl' w).alloc o).cell (show w.cell? ⟨plb, 0, none⟩ = some (.slice (some ⟨g, 0, none⟩) 1 1) by rw [cellAt a2 0]; rfl)
  clear a1 a2 b2 b3 b4
  unfold toldV toldCells at HEN ⊢
  go_enter Tryz.func38, Tryz.ntmps38
  go_wp2_with fail
  refine (HEN.out _).mono ?_
  rintro e w1 ⟨rfl, h1, h2⟩
  have H1 := Lib.hid h1
  have H2 := Lib.hid h2
  clear h1 h2
  go_wp2_with fail
  go_ret
  exact ⟨rfl, σ, H1.out, (Moved2.ofExt hn ((Ext.rfl' w).alloc _) _ _).trans (Moved2.left H2.out)⟩

theorem isData8 (w : World) : Calls Tryz.prog 71 #[.int .i64 8] w fun e w' => e = .returned (.bool true) ∧ w = w' := by
  go_enter Tryz.func71, Tryz.ntmps71
  go_wp2
  go_ret
  exact ⟨rfl, rfl⟩
theorem isData9 (w : World) : Calls Tryz.prog 71 #[.int .i64 9] w fun e w' => e = .returned (.bool true) ∧ w = w' := by
  go_enter Tryz.func71, Tryz.ntmps71
  go_wp2
  go_ret
  exact ⟨rfl, rfl⟩

set_option maxHeartbeats 4000000 in
set_option maxRecDepth 100000 in
theorem ptakes_getr (σ : Sig) (p : Int) (plb : Nat) (A : ModA) (t : ToldA) (va vm : Value) (w : World) (m : Nat) (hn : Neat w σ) (hgr : Ground σ w) (h : PlIs w σ p plb ⟨some A, true⟩) (hs : Sound A m) (hm : m ≤ 1000000) (hop : OpOk t.op)
    (h1 : t.rep.code ≠ 14) (h2 : t.rep.code ≠ 17) (h3 : t.rep.code ≠ 12) (hk : t.op.kind = 8) :
    Calls Tryz.prog 38 #[.pointer (some ⟨plb, 0, none⟩), va, vm, toldV t] w (PlPost σ p plb ⟨some (doA A t.op).1, true⟩ (sameRep (doA A t.op).2 t.rep) w) := by
  have HD : Hid (∀ o, Calls Tryz.prog 72 #[.pointer (some ⟨plb, 0, none⟩), toldV t] (w.alloc o) (DataPost σ p plb A true t (w.alloc o))) := fun o =>
    data_getr σ p plb A t (w.alloc o) m (hn.ext ((Ext.rfl' w).alloc o)) (hgr.ext ((Ext.rfl' w).alloc o)) (h.ext ((Ext.rfl' w).alloc o)) hs hm hop h1 h2 h3 hk
  obtain ⟨r, hr⟩ : ∃ r, sameRep (doA A t.op).2 t.rep = r := ⟨_, rfl⟩
  obtain ⟨A', hA'⟩ : ∃ A', (doA A t.op).1 = A' := ⟨_, rfl⟩
  unfold DataPost at HD
  rw [hr, hA'] at HD ⊢
  clear hr hA' hop hs hgr h1 h2 h3
  obtain ⟨pid, number, ⟨kind, db, key, val, flags, n⟩, frm, till, ⟨code, rk, rv⟩, txn⟩ := t
  obtain rfl : kind = 8 := hk
  obtain ⟨a1, ov, a2, g, pb, mb, bases, rfl, b2, b3, b4⟩ := h
  have c0 := fun o => ((Ext.rfl' w).alloc o).cell (show w.cell? ⟨plb, 0, none⟩ = some (.slice (some ⟨g, 0, none⟩) 1 1) by rw [cellAt a2 0]; rfl)
  clear a1 a2 b2 b3 b4
  unfold toldV toldCells at HD ⊢
  go_enter Tryz.func38, Tryz.ntmps38
  go_wp2_with fail
  refine (isData8 _).mono ?_
  rintro e w' ⟨rfl, rfl⟩
  go_wp2_with fail
  refine (HD.out _).mono ?_
  rintro e w1 ⟨rfl, σ1, h1, h2⟩
  have H1 := Lib.hid h1
  have H2 := Lib.hid h2
  clear h1 h2
  go_wp2_with fail
  go_ret
  exact ⟨rfl, σ1, H1.out, (Moved2.ofExt hn ((Ext.rfl' w).alloc _) _ _).trans H2.out⟩

set_option maxHeartbeats 4000000 in
set_option maxRecDepth 100000 in
theorem ptakes_getw (σ : Sig) (p : Int) (plb : Nat) (A : ModA) (t : ToldA) (va vm : Value) (w : World) (m : Nat) (hn : Neat w σ) (hgr : Ground σ w) (h : PlIs w σ p plb ⟨some A, false⟩) (hs : Sound A m) (hm : m ≤ 1000000) (hop : OpOk t.op)
    (h1 : t.rep.code ≠ 14) (h2 : t.rep.code ≠ 17) (h3 : t.rep.code ≠ 12) (hk : t.op.kind = 8) :
    Calls Tryz.prog 38 #[.pointer (some ⟨plb, 0, none⟩), va, vm, toldV t] w (PlPost σ p plb ⟨some (doA A t.op).1, false⟩ (sameRep (doA A t.op).2 t.rep) w) := by
  have HD : Hid (∀ o, Calls Tryz.prog 72 #[.pointer (some ⟨plb, 0, none⟩), toldV t] (w.alloc o) (DataPost σ p plb A false t (w.alloc o))) := fun o =>
    data_getw σ p plb A t (w.alloc o) m (hn.ext ((Ext.rfl' w).alloc o)) (hgr.ext ((Ext.rfl' w).alloc o)) (h.ext ((Ext.rfl' w).alloc o)) hs hm hop h1 h2 h3 hk
  obtain ⟨r, hr⟩ : ∃ r, sameRep (doA A t.op).2 t.rep = r := ⟨_, rfl⟩
  obtain ⟨A', hA'⟩ : ∃ A', (doA A t.op).1 = A' := ⟨_, rfl⟩
  unfold DataPost at HD
  rw [hr, hA'] at HD ⊢
  clear hr hA' hop hs hgr h1 h2 h3
  obtain ⟨pid, number, ⟨kind, db, key, val, flags, n⟩, frm, till, ⟨code, rk, rv⟩, txn⟩ := t
  obtain rfl : kind = 8 := hk
  obtain ⟨a1, ov, a2, g, pb, mb, bases, rfl, b2, b3, b4⟩ := h
  have c0 := fun o => ((Ext.rfl' w).alloc o).cell (show w.cell? ⟨plb, 0, none⟩ = some (.slice (some ⟨g, 0, none⟩) 1 1) by rw [cellAt a2 0]; rfl)
  clear a1 a2 b2 b3 b4
  unfold toldV toldCells at HD ⊢
  go_enter Tryz.func38, Tryz.ntmps38
  go_wp2_with fail
  refine (isData8 _).mono ?_
  rintro e w' ⟨rfl, rfl⟩
  go_wp2_with fail
  refine (HD.out _).mono ?_
  rintro e w1 ⟨rfl, σ1, h1, h2⟩
  have H1 := Lib.hid h1
  have H2 := Lib.hid h2
  clear h1 h2
  go_wp2_with fail
  go_ret
  exact ⟨rfl, σ1, H1.out, (Moved2.ofExt hn ((Ext.rfl' w).alloc _) _ _).trans H2.out⟩

set_option maxHeartbeats 4000000 in
set_option maxRecDepth 100000 in
theorem ptakes_put (σ : Sig) (p : Int) (plb : Nat) (A : ModA) (t : ToldA) (va vm : Value) (w : World) (m : Nat) (hn : Neat w σ) (hgr : Ground σ w) (h : PlIs w σ p plb ⟨some A, false⟩) (hs : Sound A m) (hm : m ≤ 1000000) (hop : OpOk t.op)
    (h1 : t.rep.code ≠ 14) (h2 : t.rep.code ≠ 17) (h3 : t.rep.code ≠ 12) (hk : t.op.kind = 9) :
    Calls Tryz.prog 38 #[.pointer (some ⟨plb, 0, none⟩), va, vm, toldV t] w (PlPost σ p plb ⟨some (doA A t.op).1, false⟩ (sameRep (doA A t.op).2 t.rep) w) := by
  have HD : Hid (∀ o, Calls Tryz.prog 72 #[.pointer (some ⟨plb, 0, none⟩), toldV t] (w.alloc o) (DataPost σ p plb A false t (w.alloc o))) := fun o =>
    data_put σ p plb A t (w.alloc o) m (hn.ext ((Ext.rfl' w).alloc o)) (hgr.ext ((Ext.rfl' w).alloc o)) (h.ext ((Ext.rfl' w).alloc o)) hs hm hop h1 h2 h3 hk
  obtain ⟨r, hr⟩ : ∃ r, sameRep (doA A t.op).2 t.rep = r := ⟨_, rfl⟩
  obtain ⟨A', hA'⟩ : ∃ A', (doA A t.op).1 = A' := ⟨_, rfl⟩
  unfold DataPost at HD
  rw [hr, hA'] at HD ⊢
  clear hr hA' hop hs hgr h1 h2 h3
  obtain ⟨pid, number, ⟨kind, db, key, val, flags, n⟩, frm, till, ⟨code, rk, rv⟩, txn⟩ := t
  obtain rfl : kind = 9 := hk
  obtain ⟨a1, ov, a2, g, pb, mb, bases, rfl, b2, b3, b4⟩ := h
  have c0 := fun o => ((Ext.rfl' w).alloc o).cell (show w.cell? ⟨plb, 0, none⟩ = some (.slice (some ⟨g, 0, none⟩) 1 1) by rw [cellAt a2 0]; rfl)
  clear a1 a2 b2 b3 b4
  unfold toldV toldCells at HD ⊢
  go_enter Tryz.func38, Tryz.ntmps38
  go_wp2_with fail
  refine (isData9 _).mono ?_
  rintro e w' ⟨rfl, rfl⟩
  go_wp2_with fail
  refine (HD.out _).mono ?_
  rintro e w1 ⟨rfl, σ1, h1, h2⟩
  have H1 := Lib.hid h1
  have H2 := Lib.hid h2
  clear h1 h2
  go_wp2_with fail
  go_ret
  exact ⟨rfl, σ1, H1.out, (Moved2.ofExt hn ((Ext.rfl' w).alloc _) _ _).trans H2.out⟩
end Go.Proofs.YtmkhjmldncegcaaGreatDoor

/-
  WALKS: past.play.takes at a begin.
-/
set_option linter.unusedVariables false
set_option linter.unusedSimpArgs false
namespace Go.Proofs.YtmkhjmldncegcaaGreatDoor
open Go.RowKit Go.Maps Go.ChangeMaps Go.MapKept Go.Sort

/-- Behind a begin that stands. -/
theorem pl_begun {σ σ4 : Sig} {p : Int} {plb pb4 mb4 : Nat} {bases4 : List (S × Value)} {A : ModA} {reads : Bool} {w w3 w4 : World} {ov rv : Value} (hn : Neat w σ) (a1 : σ plb = (oPl p, .top)) (a2 : w.heap[plb]? = some (.cells #[ov, rv] 93 (0, 0)))
    (e3 : Ext w w3) (e4 : Ext w w4) (hs : SigExt w3 σ σ4) (hn4 : Neat w4 σ4) (hI : ModIs w4 σ4 (oMo p) pb4 mb4 bases4 A) (w6 : World)
    (h6 : w6 = (((w4.alloc (.cells #[.pointer (some ⟨pb4, 0, none⟩)] 24)).setCell ⟨plb, 0, none⟩ (.slice (some ⟨w4.heap.size, 0, none⟩) 1 1)).setCell ⟨plb, 1, none⟩ (.bool reads))) :
    ∃ σ', PlIs w6 σ' p plb ⟨some A, reads⟩ ∧ Moved2 σ (oPl p) (oMo p) w σ' w6 := by
  have hpl := lt_heap a2
  have hse : SigExt w σ σ4 := fun k hk => hs k (Nat.lt_of_lt_of_le hk e3.size)
  have m1 : Moved σ (oPl p) w σ4 w4 := ⟨hse, hn4, Turn.ofExt e4 σ _⟩
  have m2 := m1.trans (Moved.new hn4 (.cells #[.pointer (some ⟨pb4, 0, none⟩)] 24) (oPl p, .names))
  have hI2 := hI.keep (Keep.new (w := w4) (.cells #[.pointer (some ⟨pb4, 0, none⟩)] 24) (oPl p, .names))
  have hg : (w4.alloc (.cells #[.pointer (some ⟨pb4, 0, none⟩)] 24)).heap[w4.heap.size]? = some (.cells #[.pointer (some ⟨pb4, 0, none⟩)] 24 (0, 0)) := heap_new w4 _
  have hp : (w4.alloc (.cells #[.pointer (some ⟨pb4, 0, none⟩)] 24)).heap[plb]? = some (.cells #[ov, rv] 93 (0, 0)) := by rw [(Ext.step e4 ((Ext.rfl' w4).alloc _)).block plb hpl]; exact a2
  have hl : (lay σ4 w4.heap.size (oPl p, .names)) plb = (oPl p, .top) := by rw [m2.ext plb hpl]; exact a1
  have hlg : (lay σ4 w4.heap.size (oPl p, .names)) w4.heap.size = (oPl p, .names) := by unfold lay; rw [if_pos rfl]
  have hne : w4.heap.size ≠ plb := by have := e4.size; omega
  generalize w4.alloc (.cells #[.pointer (some ⟨pb4, 0, none⟩)] 24) = W5 at *
  generalize lay σ4 w4.heap.size (oPl p, .names) = σ5 at *
  have o : Only plb W5 w6 := by rw [h6]; exact ((Only.refl plb W5).setCell 0 _).setCell 1 _
  refine ⟨σ5, ⟨hl, .slice (some ⟨w4.heap.size, 0, none⟩) 1 1, ?_, w4.heap.size, pb4, mb4, bases4, rfl, hlg, ?_, hI2.only o (by rw [hl]; exact oPl_Mo p p)⟩, Moved2.left (m2.trans (Moved.ofOnly m2.neat o (by rw [hl])))⟩
  · rw [h6]; exact heap_setCell_row (heap_setCell_row hp 0 _) 1 _
  · rw [o.block _ hne]; exact hg

set_option maxHeartbeats 4000000 in
set_option maxRecDepth 100000 in
theorem ptakes_begin_none (σ : Sig) (p : Int) (plb vmb : Nat) (vrows : List (Nat × Value)) (vs : List (Nat × ModA)) (t : ToldA) (va : Value) (w : World) (hn : Neat w σ) (h : PlIs w σ p plb ⟨none, false⟩)
    (hv : VsAt w σ vmb vrows vs) (ht : t.txn < 18446744073709551616) (hk : t.op.kind = 3) (hc : t.rep.code = 0) (hm : mget t.txn vs = none) :
    Calls Tryz.prog 38 #[.pointer (some ⟨plb, 0, none⟩), va, .map (some vmb), toldV t] w (PlPost σ p plb ⟨none, false⟩ false w) := by
  have hlk := fun o => (hv.1.ext ((Ext.rfl' w).alloc o)).look1 (t := 41) (e := 24) keyedU Tryz.underlying41 (z := .pointer none) (Tryz.zeroValue24 _) (k := t.txn) (keyU (by omega))
  have hrow : mget t.txn vrows = none := hv.2.2.get_none hm
  rw [hrow] at hlk
  simp only [Option.getD_none] at hlk
  have HP := Lib.hid h
  obtain ⟨pid, number, ⟨kind, db, key, val, flags, n⟩, frm, till, ⟨code, rk, rv⟩, txn⟩ := t
  obtain rfl : kind = 3 := hk
  obtain rfl : code = 0 := hc
  obtain ⟨a1, ov, a2, rfl⟩ := h
  have c0 := fun o => ((Ext.rfl' w).alloc o).cell (show w.cell? ⟨plb, 0, none⟩ = some (.slice none 0 0) by rw [cellAt a2 0]; rfl)
  clear a1 a2 hv hm hrow
  unfold toldV toldCells
  go_enter Tryz.func38, Tryz.ntmps38
  go_wp2_with fail
  go_quiet (fail)
  go_wp2_with fail
  go_ret
  exact ⟨rfl, σ, HP.out.ext (by first | exact Ext.step ((Ext.rfl' w).alloc _) (Ext.drewN _ _) | exact (Ext.rfl' w).alloc _), Moved2.ofExt hn (by first | exact Ext.step ((Ext.rfl' w).alloc _) (Ext.drewN _ _) | exact (Ext.rfl' w).alloc _) _ _⟩

set_option maxHeartbeats 4000000 in
set_option maxRecDepth 100000 in
theorem ptakes_begin_old (σ : Sig) (p : Int) (plb vmb : Nat) (vrows : List (Nat × Value)) (vs : List (Nat × ModA)) (t : ToldA) (va : Value) (l : List ToldA) (A : ModA) (w : World) (hn : Neat w σ) (h : PlIs w σ p plb ⟨none, false⟩)
    (hl : Tolds w va l) (hll : l.length ≤ 1000) (hlt : ∀ t ∈ l, t.txn < 18446744073709551616)
    (hv : VsAt w σ vmb vrows vs) (ht : t.txn < 18446744073709551616) (hk : t.op.kind = 3) (hc : t.rep.code = 0) (hm : mget t.txn vs = some A) (ho : t.txn < toldA l t.frm) :
    Calls Tryz.prog 38 #[.pointer (some ⟨plb, 0, none⟩), va, .map (some vmb), toldV t] w (PlPost σ p plb ⟨none, false⟩ false w) := by
  have hlk := fun o => (hv.1.ext ((Ext.rfl' w).alloc o)).look1 (t := 41) (e := 24) keyedU Tryz.underlying41 (z := .pointer none) (Tryz.zeroValue24 _) (k := t.txn) (keyU (by omega))
  obtain ⟨av, hrow, pbA, mbA, basesA, rfl, hIA⟩ := hv.2.2.get_some hm
  rw [hrow] at hlk
  simp only [Option.getD_some] at hlk
  have HP := Lib.hid h
  have HTD : Hid (∀ w', Ext w w' → Calls Tryz.prog 69 #[va, .int .i64 t.frm] w' fun e w'' => e = .returned (.int .u64 (toldA l t.frm)) ∧ Ext w' w'') := fun w' e => told_any va l t.frm w' (hl.ext e) hll hlt
  have hD : decide (t.txn < toldA l t.frm) = true := decide_eq_true ho
  obtain ⟨tb, htb⟩ : ∃ tb, toldA l t.frm = tb := ⟨_, rfl⟩
  rw [htb] at hD HTD
  obtain ⟨pid, number, ⟨kind, db, key, val, flags, n⟩, frm, till, ⟨code, rk, rv⟩, txn⟩ := t
  obtain rfl : kind = 3 := hk
  obtain rfl : code = 0 := hc
  obtain ⟨a1, ov, a2, rfl⟩ := h
  have c0 := fun o => ((Ext.rfl' w).alloc o).cell (show w.cell? ⟨plb, 0, none⟩ = some (.slice none 0 0) by rw [cellAt a2 0]; rfl)
  clear a1 a2 hv hm hrow hIA ho htb hlt hll hl
  unfold toldV toldCells
  go_enter Tryz.func38, Tryz.ntmps38
  go_wp2_with fail
  generalize hW : w.alloc (Obj.cells _ 38) = W
  have eW : Ext w W := by rw [← hW]; exact (Ext.rfl' w).alloc _
  have hbx : W.heap[w.heap.size]? = some (.cells (toldCells ⟨pid, number, ⟨3, db, key, val, flags, n⟩, frm, till, ⟨0, rk, rv⟩, txn⟩).toArray 38 (0, 0)) := by rw [← hW]; exact heap_new w _
  have b13 := cellAt hbx 13
  have b8 := cellAt hbx 8
  simp [toldCells] at b13 b8
  have EW := Lib.hid eW
  clear hW eW hbx
  go_region_held3 (fun w' => w'.cell? ⟨w.heap.size, 13, none⟩ = some (.int .u64 txn) ∧ w'.cell? ⟨w.heap.size, 8, none⟩ = some (.int .i64 frm))
    (first | exact ⟨b13, b8⟩ | exact K3.out)
    (first
      | (go_at_call 69; refine (HTD.out _ (by first | exact EW.out | exact Ext.step EW.out (Ext.drewN W 1))).mono ?_; rintro e w3 ⟨rfl, hext3⟩
         have K3 := Lib.hid (And.intro (hext3.cell b13) (hext3.cell b8))
         have E3 : Hid (Ext W w3) := by first | exact hext3 | exact Ext.step (Ext.drewN W 1) hext3
         clear hext3))
  go_wp2_with fail
  go_ret
  exact ⟨rfl, σ, HP.out.ext (Ext.step EW.out E3.out), Moved2.ofExt hn (Ext.step EW.out E3.out) _ _⟩

set_option maxHeartbeats 4000000 in
set_option maxRecDepth 100000 in
theorem ptakes_begin_yes (σ : Sig) (p : Int) (plb vmb : Nat) (vrows : List (Nat × Value)) (vs : List (Nat × ModA)) (t : ToldA) (va : Value) (l : List ToldA) (A : ModA) (w : World) (hn : Neat w σ) (h : PlIs w σ p plb ⟨none, false⟩)
    (hl : Tolds w va l) (hll : l.length ≤ 1000) (hlt : ∀ t ∈ l, t.txn < 18446744073709551616)
    (hv : VsAt w σ vmb vrows vs) (ht : t.txn < 18446744073709551616) (hk : t.op.kind = 3) (hc : t.rep.code = 0) (hm : mget t.txn vs = some A) (ho : ¬ t.txn < toldA l t.frm) (m : Nat) (hsd : Sound A m) (hm6 : m ≤ 1000000) :
    Calls Tryz.prog 38 #[.pointer (some ⟨plb, 0, none⟩), va, .map (some vmb), toldV t] w (PlPost σ p plb ⟨some A, true⟩ true w) := by
  have hlk := fun o => (hv.1.ext ((Ext.rfl' w).alloc o)).look1 (t := 41) (e := 24) keyedU Tryz.underlying41 (z := .pointer none) (Tryz.zeroValue24 _) (k := t.txn) (keyU (by omega))
  obtain ⟨av, hrow, pbA, mbA, basesA, rfl, hIA⟩ := hv.2.2.get_some hm
  rw [hrow] at hlk
  simp only [Option.getD_some] at hlk
  have HP := Lib.hid h
  have HTD : Hid (∀ w', Ext w w' → Calls Tryz.prog 69 #[va, .int .i64 t.frm] w' fun e w'' => e = .returned (.int .u64 (toldA l t.frm)) ∧ Ext w' w'') := fun w' e => told_any va l t.frm w' (hl.ext e) hll hlt
  have HCP : Hid (∀ w', Ext w w' → Calls Tryz.prog 13 #[.pointer (some ⟨pbA, 0, none⟩)] w' fun e w'' => ∃ pv, e = .returned pv ∧ ∃ σ', ModAt w'' σ' (oMo p) pv A ∧ Ext w' w'' ∧ SigExt w' σ σ' ∧ Neat w'' σ') := fun w' e => copy_any σ _ (oMo p) pbA mbA basesA A w' m (hIA.ext e) (hn.ext e) hsd hm6
  have hD : decide (t.txn < toldA l t.frm) = false := decide_eq_false ho
  obtain ⟨tb, htb⟩ : ∃ tb, toldA l t.frm = tb := ⟨_, rfl⟩
  rw [htb] at hD HTD
  obtain ⟨pid, number, ⟨kind, db, key, val, flags, n⟩, frm, till, ⟨code, rk, rv⟩, txn⟩ := t
  obtain rfl : kind = 3 := hk
  obtain rfl : code = 0 := hc
  obtain ⟨a1, ov, a2, rfl⟩ := h
  have c0 := fun o => ((Ext.rfl' w).alloc o).cell (show w.cell? ⟨plb, 0, none⟩ = some (.slice none 0 0) by rw [cellAt a2 0]; rfl)
  have HA1 := Lib.hid a1
  have HA2 := Lib.hid a2
  have hpl := lt_heap a2
  clear a1 a2 hv hm hrow hIA ho htb hlt hll hl hsd hm6
  unfold toldV toldCells
  go_enter Tryz.func38, Tryz.ntmps38
  go_wp2_with fail
  generalize hW : w.alloc (Obj.cells _ 38) = W
  have eW : Ext w W := by rw [← hW]; exact (Ext.rfl' w).alloc _
  have hbx : W.heap[w.heap.size]? = some (.cells (toldCells ⟨pid, number, ⟨3, db, key, val, flags, n⟩, frm, till, ⟨0, rk, rv⟩, txn⟩).toArray 38 (0, 0)) := by rw [← hW]; exact heap_new w _
  have b13 := cellAt hbx 13
  have b8 := cellAt hbx 8
  simp [toldCells] at b13 b8
  have EW := Lib.hid eW
  clear hW eW hbx
  go_region_held3 (fun w' => w'.cell? ⟨w.heap.size, 13, none⟩ = some (.int .u64 txn) ∧ w'.cell? ⟨w.heap.size, 8, none⟩ = some (.int .i64 frm))
    (first | exact ⟨b13, b8⟩ | exact K3.out)
    (first
      | (go_at_call 69; refine (HTD.out _ (by first | exact EW.out | exact Ext.step EW.out (Ext.drewN W 1))).mono ?_; rintro e w3 ⟨rfl, hext3⟩
         have K3 := Lib.hid (And.intro (hext3.cell b13) (hext3.cell b8))
         have E3 : Hid (Ext W w3) := by first | exact hext3 | exact Ext.step (Ext.drewN W 1) hext3
         clear hext3))
  go_wp2_with (first | (go_at_call 13; refine (HCP.out _ (Ext.step EW.out E3.out)).mono ?_
                        rintro e w4 ⟨pv, rfl, σ4, ⟨pb4, mb4, bases4, rfl, hI4⟩, hext4, hse4, hn4⟩
                        have e04 : Ext w w4 := Ext.step (Ext.step EW.out E3.out) hext4
                        have a4 : ∀ o, (w4.alloc o).heap[plb]? = some (.cells #[.slice none 0 0, .bool false] 93 (0, 0)) := fun o => by rw [(Ext.step e04 ((Ext.rfl' w4).alloc o)).block plb hpl]; exact HA2.out
                        have A4 := Lib.hid a4
                        have y0 := fun o => cellAt (a4 o) 0
                        have y1 := fun o => cellAt (a4 o) 1
                        have g0 := fun o => frozenAt (a4 o) 0
                        have g1 := fun o => frozenAt (a4 o) 1
                        simp at y0 y1
                        have HI4 := Lib.hid hI4
                        have E04 := Lib.hid e04
                        have HSE4 := Lib.hid hse4
                        have HN4 := Lib.hid hn4
                        clear a4 hI4 hext4 hse4 hn4 e04) | fail)
  go_ret
  exact ⟨rfl, pl_begun hn HA1.out HA2.out (Ext.step EW.out E3.out) E04.out HSE4.out HN4.out HI4.out _ rfl⟩

set_option maxHeartbeats 4000000 in
set_option maxRecDepth 100000 in
theorem ptakes_beginw_none (σ : Sig) (p : Int) (plb vmb : Nat) (vrows : List (Nat × Value)) (vs : List (Nat × ModA)) (t : ToldA) (va : Value) (w : World) (hn : Neat w σ) (h : PlIs w σ p plb ⟨none, false⟩)
    (hv : VsAt w σ vmb vrows vs) (ht : t.txn < 18446744073709551616) (hk : t.op.kind = 4) (hc : t.rep.code = 0) (hm : mget t.txn vs = none) :
    Calls Tryz.prog 38 #[.pointer (some ⟨plb, 0, none⟩), va, .map (some vmb), toldV t] w (PlPost σ p plb ⟨none, false⟩ false w) := by
  have hlk := fun o => (hv.1.ext ((Ext.rfl' w).alloc o)).look1 (t := 41) (e := 24) keyedU Tryz.underlying41 (z := .pointer none) (Tryz.zeroValue24 _) (k := t.txn) (keyU (by omega))
  have hrow : mget t.txn vrows = none := hv.2.2.get_none hm
  rw [hrow] at hlk
  simp only [Option.getD_none] at hlk
  have HP := Lib.hid h
  obtain ⟨pid, number, ⟨kind, db, key, val, flags, n⟩, frm, till, ⟨code, rk, rv⟩, txn⟩ := t
  obtain rfl : kind = 4 := hk
  obtain rfl : code = 0 := hc
  obtain ⟨a1, ov, a2, rfl⟩ := h
  have c0 := fun o => ((Ext.rfl' w).alloc o).cell (show w.cell? ⟨plb, 0, none⟩ = some (.slice none 0 0) by rw [cellAt a2 0]; rfl)
  clear a1 a2 hv hm hrow
  unfold toldV toldCells
  go_enter Tryz.func38, Tryz.ntmps38
  go_wp2_with fail
  go_quiet (fail)
  go_wp2_with fail
  go_ret
  exact ⟨rfl, σ, HP.out.ext (by first | exact Ext.step ((Ext.rfl' w).alloc _) (Ext.drewN _ _) | exact (Ext.rfl' w).alloc _), Moved2.ofExt hn (by first | exact Ext.step ((Ext.rfl' w).alloc _) (Ext.drewN _ _) | exact (Ext.rfl' w).alloc _) _ _⟩

set_option maxHeartbeats 4000000 in
set_option maxRecDepth 100000 in
theorem ptakes_beginw_old (σ : Sig) (p : Int) (plb vmb : Nat) (vrows : List (Nat × Value)) (vs : List (Nat × ModA)) (t : ToldA) (va : Value) (l : List ToldA) (A : ModA) (w : World) (hn : Neat w σ) (h : PlIs w σ p plb ⟨none, false⟩)
    (hl : Tolds w va l) (hll : l.length ≤ 1000) (hlt : ∀ t ∈ l, t.txn < 18446744073709551616)
    (hv : VsAt w σ vmb vrows vs) (ht : t.txn < 18446744073709551616) (hk : t.op.kind = 4) (hc : t.rep.code = 0) (hm : mget t.txn vs = some A) (ho : t.txn < toldA l t.frm) :
    Calls Tryz.prog 38 #[.pointer (some ⟨plb, 0, none⟩), va, .map (some vmb), toldV t] w (PlPost σ p plb ⟨none, false⟩ false w) := by
  have hlk := fun o => (hv.1.ext ((Ext.rfl' w).alloc o)).look1 (t := 41) (e := 24) keyedU Tryz.underlying41 (z := .pointer none) (Tryz.zeroValue24 _) (k := t.txn) (keyU (by omega))
  obtain ⟨av, hrow, pbA, mbA, basesA, rfl, hIA⟩ := hv.2.2.get_some hm
  rw [hrow] at hlk
  simp only [Option.getD_some] at hlk
  have HP := Lib.hid h
  have HTD : Hid (∀ w', Ext w w' → Calls Tryz.prog 69 #[va, .int .i64 t.frm] w' fun e w'' => e = .returned (.int .u64 (toldA l t.frm)) ∧ Ext w' w'') := fun w' e => told_any va l t.frm w' (hl.ext e) hll hlt
  have hD : decide (t.txn < toldA l t.frm) = true := decide_eq_true ho
  obtain ⟨tb, htb⟩ : ∃ tb, toldA l t.frm = tb := ⟨_, rfl⟩
  rw [htb] at hD HTD
  obtain ⟨pid, number, ⟨kind, db, key, val, flags, n⟩, frm, till, ⟨code, rk, rv⟩, txn⟩ := t
  obtain rfl : kind = 4 := hk
  obtain rfl : code = 0 := hc
  obtain ⟨a1, ov, a2, rfl⟩ := h
  have c0 := fun o => ((Ext.rfl' w).alloc o).cell (show w.cell? ⟨plb, 0, none⟩ = some (.slice none 0 0) by rw [cellAt a2 0]; rfl)
  clear a1 a2 hv hm hrow hIA ho htb hlt hll hl
  unfold toldV toldCells
  go_enter Tryz.func38, Tryz.ntmps38
  go_wp2_with fail
  generalize hW : w.alloc (Obj.cells _ 38) = W
  have eW : Ext w W := by rw [← hW]; exact (Ext.rfl' w).alloc _
  have hbx : W.heap[w.heap.size]? = some (.cells (toldCells ⟨pid, number, ⟨4, db, key, val, flags, n⟩, frm, till, ⟨0, rk, rv⟩, txn⟩).toArray 38 (0, 0)) := by rw [← hW]; exact heap_new w _
  have b13 := cellAt hbx 13
  have b8 := cellAt hbx 8
  simp [toldCells] at b13 b8
  have EW := Lib.hid eW
  clear hW eW hbx
  go_region_held3 (fun w' => w'.cell? ⟨w.heap.size, 13, none⟩ = some (.int .u64 txn) ∧ w'.cell? ⟨w.heap.size, 8, none⟩ = some (.int .i64 frm))
    (first | exact ⟨b13, b8⟩ | exact K3.out)
    (first
      | (go_at_call 69; refine (HTD.out _ (by first | exact EW.out | exact Ext.step EW.out (Ext.drewN W 1))).mono ?_; rintro e w3 ⟨rfl, hext3⟩
         have K3 := Lib.hid (And.intro (hext3.cell b13) (hext3.cell b8))
         have E3 : Hid (Ext W w3) := by first | exact hext3 | exact Ext.step (Ext.drewN W 1) hext3
         clear hext3))
  go_wp2_with fail
  go_ret
  exact ⟨rfl, σ, HP.out.ext (Ext.step EW.out E3.out), Moved2.ofExt hn (Ext.step EW.out E3.out) _ _⟩

set_option maxHeartbeats 4000000 in
set_option maxRecDepth 100000 in
theorem ptakes_beginw_yes (σ : Sig) (p : Int) (plb vmb : Nat) (vrows : List (Nat × Value)) (vs : List (Nat × ModA)) (t : ToldA) (va : Value) (l : List ToldA) (A : ModA) (w : World) (hn : Neat w σ) (h : PlIs w σ p plb ⟨none, false⟩)
    (hl : Tolds w va l) (hll : l.length ≤ 1000) (hlt : ∀ t ∈ l, t.txn < 18446744073709551616)
    (hv : VsAt w σ vmb vrows vs) (ht : t.txn < 18446744073709551616) (hk : t.op.kind = 4) (hc : t.rep.code = 0) (hm : mget t.txn vs = some A) (ho : ¬ t.txn < toldA l t.frm) (m : Nat) (hsd : Sound A m) (hm6 : m ≤ 1000000) :
    Calls Tryz.prog 38 #[.pointer (some ⟨plb, 0, none⟩), va, .map (some vmb), toldV t] w (PlPost σ p plb ⟨some A, false⟩ true w) := by
  have hlk := fun o => (hv.1.ext ((Ext.rfl' w).alloc o)).look1 (t := 41) (e := 24) keyedU Tryz.underlying41 (z := .pointer none) (Tryz.zeroValue24 _) (k := t.txn) (keyU (by omega))
  obtain ⟨av, hrow, pbA, mbA, basesA, rfl, hIA⟩ := hv.2.2.get_some hm
  rw [hrow] at hlk
  simp only [Option.getD_some] at hlk
  have HP := Lib.hid h
  have HTD : Hid (∀ w', Ext w w' → Calls Tryz.prog 69 #[va, .int .i64 t.frm] w' fun e w'' => e = .returned (.int .u64 (toldA l t.frm)) ∧ Ext w' w'') := fun w' e => told_any va l t.frm w' (hl.ext e) hll hlt
  have HCP : Hid (∀ w', Ext w w' → Calls Tryz.prog 13 #[.pointer (some ⟨pbA, 0, none⟩)] w' fun e w'' => ∃ pv, e = .returned pv ∧ ∃ σ', ModAt w'' σ' (oMo p) pv A ∧ Ext w' w'' ∧ SigExt w' σ σ' ∧ Neat w'' σ') := fun w' e => copy_any σ _ (oMo p) pbA mbA basesA A w' m (hIA.ext e) (hn.ext e) hsd hm6
  have hD : decide (t.txn < toldA l t.frm) = false := decide_eq_false ho
  obtain ⟨tb, htb⟩ : ∃ tb, toldA l t.frm = tb := ⟨_, rfl⟩
  rw [htb] at hD HTD
  obtain ⟨pid, number, ⟨kind, db, key, val, flags, n⟩, frm, till, ⟨code, rk, rv⟩, txn⟩ := t
  obtain rfl : kind = 4 := hk
  obtain rfl : code = 0 := hc
  obtain ⟨a1, ov, a2, rfl⟩ := h
  have c0 := fun o => ((Ext.rfl' w).alloc o).cell (show w.cell? ⟨plb, 0, none⟩ = some (.slice none 0 0) by rw [cellAt a2 0]; rfl)
  have HA1 := Lib.hid a1
  have HA2 := Lib.hid a2
  have hpl := lt_heap a2
  clear a1 a2 hv hm hrow hIA ho htb hlt hll hl hsd hm6
  unfold toldV toldCells
  go_enter Tryz.func38, Tryz.ntmps38
  go_wp2_with fail
  generalize hW : w.alloc (Obj.cells _ 38) = W
  have eW : Ext w W := by rw [← hW]; exact (Ext.rfl' w).alloc _
  have hbx : W.heap[w.heap.size]? = some (.cells (toldCells ⟨pid, number, ⟨4, db, key, val, flags, n⟩, frm, till, ⟨0, rk, rv⟩, txn⟩).toArray 38 (0, 0)) := by rw [← hW]; exact heap_new w _
  have b13 := cellAt hbx 13
  have b8 := cellAt hbx 8
  simp [toldCells] at b13 b8
  have EW := Lib.hid eW
  clear hW eW hbx
  go_region_held3 (fun w' => w'.cell? ⟨w.heap.size, 13, none⟩ = some (.int .u64 txn) ∧ w'.cell? ⟨w.heap.size, 8, none⟩ = some (.int .i64 frm))
    (first | exact ⟨b13, b8⟩ | exact K3.out)
    (first
      | (go_at_call 69; refine (HTD.out _ (by first | exact EW.out | exact Ext.step EW.out (Ext.drewN W 1))).mono ?_; rintro e w3 ⟨rfl, hext3⟩
         have K3 := Lib.hid (And.intro (hext3.cell b13) (hext3.cell b8))
         have E3 : Hid (Ext W w3) := by first | exact hext3 | exact Ext.step (Ext.drewN W 1) hext3
         clear hext3))
  go_wp2_with (first | (go_at_call 13; refine (HCP.out _ (Ext.step EW.out E3.out)).mono ?_
                        rintro e w4 ⟨pv, rfl, σ4, ⟨pb4, mb4, bases4, rfl, hI4⟩, hext4, hse4, hn4⟩
                        have e04 : Ext w w4 := Ext.step (Ext.step EW.out E3.out) hext4
                        have a4 : ∀ o, (w4.alloc o).heap[plb]? = some (.cells #[.slice none 0 0, .bool false] 93 (0, 0)) := fun o => by rw [(Ext.step e04 ((Ext.rfl' w4).alloc o)).block plb hpl]; exact HA2.out
                        have A4 := Lib.hid a4
                        have y0 := fun o => cellAt (a4 o) 0
                        have y1 := fun o => cellAt (a4 o) 1
                        have g0 := fun o => frozenAt (a4 o) 0
                        have g1 := fun o => frozenAt (a4 o) 1
                        simp at y0 y1
                        have HI4 := Lib.hid hI4
                        have E04 := Lib.hid e04
                        have HSE4 := Lib.hid hse4
                        have HN4 := Lib.hid hn4
                        clear a4 hI4 hext4 hse4 hn4 e04) | fail)
  go_ret
  exact ⟨rfl, pl_begun hn HA1.out HA2.out (Ext.step EW.out E3.out) E04.out HSE4.out HN4.out HI4.out _ rfl⟩
end Go.Proofs.YtmkhjmldncegcaaGreatDoor

/-
  past.play.takes, every way that is spoken of, as one contract.
-/
set_option linter.unusedVariables false
set_option linter.unusedSimpArgs false
namespace Go.Proofs.YtmkhjmldncegcaaGreatDoor
open Go.RowKit Go.Maps Go.ChangeMaps Go.MapKept Go.Sort

/-- The steps of a play that are spoken of. -/
def wayP (s : PlA) (t : ToldA) : Bool :=
  match s.m with
  | none => !s.reads && (t.op.kind == 3 || t.op.kind == 4) && t.rep.code == 0
  | some _ => (t.op.kind == 6 && t.rep.code == 0) || ((t.op.kind == 8 || (t.op.kind == 9 && !s.reads)) && t.rep.code != 14 && t.rep.code != 17 && t.rep.code != 12)
/-- What takes does. -/
def stepP (l : List ToldA) (vs : List (Nat × ModA)) (s : PlA) (t : ToldA) : PlA × Bool :=
  match s.m with
  | none => match mget t.txn vs with
    | none => (⟨none, false⟩, false)
    | some A => if t.txn < toldA l t.frm then (⟨none, false⟩, false) else (⟨some A, t.op.kind == 3⟩, true)
  | some A => if t.op.kind = 6 then (⟨none, false⟩, true) else (⟨some (doA A t.op).1, s.reads⟩, sameRep (doA A t.op).2 t.rep)

theorem ptakes_any (σ : Sig) (p : Int) (plb vmb : Nat) (vrows : List (Nat × Value)) (vs : List (Nat × ModA)) (s : PlA) (t : ToldA) (va : Value) (l : List ToldA) (w : World) (m : Nat) (hn : Neat w σ) (hgr : Ground σ w) (h : PlIs w σ p plb s)
    (hl : Tolds w va l) (hll : l.length ≤ 1000) (hlt : ∀ t ∈ l, t.txn < 18446744073709551616) (hv : VsAt w σ vmb vrows vs) (ht : t.txn < 18446744073709551616) (hop : OpOk t.op)
    (hw : wayP s t = true) (hs : ∀ A, s.m = some A → Sound A m) (hvs : ∀ n A, mget n vs = some A → Sound A m) (hm : m ≤ 1000000) :
    Calls Tryz.prog 38 #[.pointer (some ⟨plb, 0, none⟩), va, .map (some vmb), toldV t] w (PlPost σ p plb (stepP l vs s t).1 (stepP l vs s t).2 w) := by
  obtain ⟨sm, reads⟩ := s
  cases sm with
  | none =>
    simp only [wayP, Bool.and_eq_true, Bool.or_eq_true, Bool.not_eq_true', beq_iff_eq] at hw
    obtain ⟨⟨rfl, hk⟩, hc⟩ := hw
    cases hA : mget t.txn vs with
    | none =>
      have hst : stepP l vs ⟨none, false⟩ t = (⟨none, false⟩, false) := by simp only [stepP, hA]
      rw [hst]
      rcases hk with hk | hk
      · exact ptakes_begin_none σ p plb vmb vrows vs t va w hn h hv ht hk hc hA
      · exact ptakes_beginw_none σ p plb vmb vrows vs t va w hn h hv ht hk hc hA
    | some A =>
      by_cases ho : t.txn < toldA l t.frm
      · have hst : stepP l vs ⟨none, false⟩ t = (⟨none, false⟩, false) := by simp only [stepP, hA, if_pos ho]
        rw [hst]
        rcases hk with hk | hk
        · exact ptakes_begin_old σ p plb vmb vrows vs t va l A w hn h hl hll hlt hv ht hk hc hA ho
        · exact ptakes_beginw_old σ p plb vmb vrows vs t va l A w hn h hl hll hlt hv ht hk hc hA ho
      · have hst : stepP l vs ⟨none, false⟩ t = (⟨some A, t.op.kind == 3⟩, true) := by simp only [stepP, hA, if_neg ho]
        rw [hst]
        rcases hk with hk | hk
        · rw [hk]; exact ptakes_begin_yes σ p plb vmb vrows vs t va l A w hn h hl hll hlt hv ht hk hc hA ho m (hvs _ _ hA) hm
        · rw [hk]; exact ptakes_beginw_yes σ p plb vmb vrows vs t va l A w hn h hl hll hlt hv ht hk hc hA ho m (hvs _ _ hA) hm
  | some A =>
    simp only [wayP, Bool.and_eq_true, Bool.or_eq_true, Bool.not_eq_true', beq_iff_eq, bne_iff_ne, ne_eq] at hw
    have hsA := hs A rfl
    rcases hw with ⟨h6, hc⟩ | ⟨⟨⟨hk, h1⟩, h2⟩, h3⟩
    · have hst : stepP l vs ⟨some A, reads⟩ t = (⟨none, false⟩, true) := by simp only [stepP, if_pos h6]
      rw [hst]
      exact ptakes_com σ p plb A reads t va _ w hn h h6 hc
    · have hn6 : ¬ t.op.kind = 6 := by rcases hk with h | ⟨h, _⟩ <;> rw [h] <;> decide
      have hst : stepP l vs ⟨some A, reads⟩ t = (⟨some (doA A t.op).1, reads⟩, sameRep (doA A t.op).2 t.rep) := by simp only [stepP, if_neg hn6]
      rw [hst]
      rcases hk with hk | ⟨hk, rfl⟩
      · cases reads with
        | true => exact ptakes_getr σ p plb A t va _ w m hn hgr h hsA hm hop h1 h2 h3 hk
        | false => exact ptakes_getw σ p plb A t va _ w m hn hgr h hsA hm hop h1 h2 h3 hk
      · exact ptakes_put σ p plb A t va _ w m hn hgr h hsA hm hop h1 h2 h3 hk
end Go.Proofs.YtmkhjmldncegcaaGreatDoor

/-
  PLAIN: each process's play, by Serial's map: frames.
-/
set_option linter.unusedVariables false
set_option linter.unusedSimpArgs false
namespace Go.Proofs.YtmkhjmldncegcaaGreatDoor
open Go.RowKit Go.Maps Go.ChangeMaps Go.MapKept Go.Sort

theorem Keep.ofMoved2 {σ σ' : Sig} {i j : Nat} {w w' : World} {P : Lab → Prop} (h : Moved2 σ i j w σ' w') (hp : ∀ l, P l → l.1 ≠ i ∧ l.1 ≠ j) : Keep P σ w σ' w' :=
  fun k hk e => ⟨h.block k hk (hp _ e).1 (hp _ e).2, h.ext k hk⟩
theorem mine_ne {p q : Int} (h : q ≠ p) (l : Lab) (hl : mine q l) : l.1 ≠ oPl p ∧ l.1 ≠ oMo p := by
  have he : encI q ≠ encI p := fun e => h (encI_inj e)
  rcases hl with e | e <;> rw [e] <;> unfold oPl oMo <;> omega
theorem PlAt.keep {w w' : World} {σ σ' : Sig} {p : Int} {v : Value} {s : PlA} (h : PlAt w σ p v s) (k : Keep (mine p) σ w σ' w') : PlAt w' σ' p v s := by
  obtain ⟨b, hb, h⟩ := h
  exact ⟨b, hb, h.keep k⟩

/-- Each process's play, by the map. -/
def PsAt (w : World) (σ : Sig) (mb : Nat) (rows : List (Int × Value)) (pls : List (Int × PlA)) : Prop :=
  MapOf w 3 mb rows ∧ σ mb = mapLab ∧ Beside (fun p v s => PlAt w σ p v s) rows pls

theorem PsAt.ext {w w' : World} {σ : Sig} {mb : Nat} {rows : List (Int × Value)} {pls : List (Int × PlA)} (h : PsAt w σ mb rows pls) (e : Ext w w') : PsAt w' σ mb rows pls :=
  ⟨h.1.ext e, h.2.1, h.2.2.imp fun _ _ _ hs => hs.keep (Keep.ofExt e _ σ)⟩

/-- A step of one process that is there. -/
theorem PsAt.step {w w' : World} {σ σ' : Sig} {mb plb : Nat} {rows : List (Int × Value)} {pls : List (Int × PlA)} {p : Int} {s' : PlA} (h : PsAt w σ mb rows pls) (hr : mget p rows = some (.pointer (some ⟨plb, 0, none⟩)))
    (hs : PlIs w' σ' p plb s') (m : Moved2 σ (oPl p) (oMo p) w σ' w') : PsAt w' σ' mb rows (mset p s' pls) := by
  obtain ⟨h1, h2, h3⟩ := h
  have hl := h1.lt
  refine ⟨h1.same (m.block mb hl (by rw [h2]; unfold oPl mapLab; simp) (by rw [h2]; unfold oMo mapLab; simp)), by rw [m.ext mb hl]; exact h2, Beside.set h3 (fun q a b hne hb => hb.keep (Keep.ofMoved2 m (mine_ne hne))) fun a ha => ?_⟩
  have : a = .pointer (some ⟨plb, 0, none⟩) := by
    have := mget_of_mem (h1.nodup keyedI) ha
    rw [hr] at this
    injection this with this
    exact this.symm
  exact ⟨plb, this, hs⟩

/-- The versions, behind a play's step. -/
theorem VsAt.moved2 {w w' : World} {σ σ' : Sig} {mb : Nat} {p : Int} {rows : List (Nat × Value)} {vs : List (Nat × ModA)} (h : VsAt w σ mb rows vs) (m : Moved2 σ (oPl p) (oMo p) w σ' w') : VsAt w' σ' mb rows vs := by
  have hl := h.1.lt
  refine ⟨h.1.same (m.block mb hl (by rw [h.2.1]; unfold oPl mapLab; simp) (by rw [h.2.1]; unfold oMo mapLab; simp)), by rw [m.ext mb hl]; exact h.2.1, h.2.2.imp fun n v A ha => ha.keep (Keep.ofMoved2 m fun l e => by rw [e]; unfold oVe oPl oMo; omega)⟩

/-- A new process. -/
theorem PsAt.new {w w1 w' : World} {σ : Sig} {mb : Nat} {rows : List (Int × Value)} {pls : List (Int × PlA)} {p : Int} (hn : Neat w σ) (h : PsAt w σ mb rows pls) (e1 : Ext w w1) 
    (hM : MapOf w' 3 mb (mput p (.pointer (some ⟨w1.heap.size, 0, none⟩)) rows)) (ht : (w1.alloc (.cells #[.slice none 0 0, .bool false] 93)).mapTurned w' mb) :
    PsAt w' (lay σ w1.heap.size (oPl p, .top)) mb (mput p (.pointer (some ⟨w1.heap.size, 0, none⟩)) rows) (mput p ⟨none, false⟩ pls) ∧ Neat w' (lay σ w1.heap.size (oPl p, .top)) ∧
      PlIs w' (lay σ w1.heap.size (oPl p, .top)) p w1.heap.size ⟨none, false⟩ := by
  obtain ⟨h1, h2, h3⟩ := h
  have hl := h1.lt
  have hs1 := e1.size
  have o := Only.ofMap ht
  have hs : w'.heap.size = w1.heap.size + 1 := by rw [o.size]; simp
  have hb : w'.heap[w1.heap.size]? = some (.cells #[.slice none 0 0, .bool false] 93 (0, 0)) := by
    rw [o.block _ (by omega)]; exact heap_new _ _
  have hst : PlIs w' (lay σ w1.heap.size (oPl p, .top)) p w1.heap.size ⟨none, false⟩ := ⟨lay_same _ _ _, _, hb, rfl⟩
  have kk : ∀ q : Int, Keep (mine q) σ w (lay σ w1.heap.size (oPl p, .top)) w' := fun q k hk e => by
    refine ⟨?_, lay_other (by omega)⟩
    have hne : k ≠ mb := fun h => by rw [h, h2] at e; rcases e with e | e <;> (first | (unfold oPl at e) | (unfold oMo at e)) <;> unfold mapLab at e <;> simp at e
    rw [o.block k hne, ((Ext.rfl' w1).alloc _).block k (by omega), e1.block k hk]
  refine ⟨⟨hM, by rw [lay_other (by omega)]; exact h2, Beside.put' (fun q a b _ hb => hb.keep (kk q)) ⟨_, rfl, hst⟩ h3⟩, fun k hk => ?_, hst⟩
  rw [lay_other (by omega)]; exact hn k (by omega)

/-- The versions, behind a new process. -/
theorem VsAt.newProc {w w1 w' : World} {σ : Sig} {mb vmb : Nat} {rows : List (Nat × Value)} {vs : List (Nat × ModA)} {l : Lab} {o : Obj} (h : VsAt w σ vmb rows vs) (hmb : σ mb = mapLab) (hne : vmb ≠ mb) (e1 : Ext w w1) (ht : (w1.alloc o).mapTurned w' mb) :
    VsAt w' (lay σ w1.heap.size l) vmb rows vs := by
  have hl := h.1.lt
  have hs1 := e1.size
  have oo := Only.ofMap ht
  have kk : ∀ n, Keep (fun l => l.1 = oVe n) σ w (lay σ w1.heap.size l) w' := fun n k hk e => by
    have hk2 : k ≠ mb := fun q => by rw [q, hmb] at e; exact oVe_0 n e.symm
    exact ⟨by rw [oo.block k hk2, ((Ext.rfl' w1).alloc _).block k (by omega), e1.block k hk], lay_other (by omega)⟩
  have hb : w'.heap[vmb]? = w.heap[vmb]? := by rw [oo.block vmb hne, ((Ext.rfl' w1).alloc _).block vmb (by omega), e1.block vmb hl]
  exact ⟨h.1.same hb, by rw [lay_other (by omega)]; exact h.2.1, h.2.2.imp fun n v A ha => ha.keep (kk n)⟩

/-! ### Serial, plain -/
/-- A step of Serial: the plays, and whether all went well so far. -/
def serStep (l : List ToldA) (vs : List (Nat × ModA)) (x : List (Int × PlA) × Bool) (t : ToldA) : List (Int × PlA) × Bool :=
  if x.2 = true then
    if t.till = 0 then (mupd t.pid ((mget t.pid x.1).getD ⟨none, false⟩) x.1, true)
    else (mupd t.pid (stepP l vs ((mget t.pid x.1).getD ⟨none, false⟩) t).1 x.1, (stepP l vs ((mget t.pid x.1).getD ⟨none, false⟩) t).2)
  else x
def serFold (l : List ToldA) (vs : List (Nat × ModA)) (o : List ToldA) : List (Int × PlA) × Bool := o.foldl (serStep l vs) ([], true)
/-- What Serial answers. -/
def serialA (l : List ToldA) : Bool := (serFold l (versA l) (orderA l)).2
/-- Whether every step is one that is spoken of. -/
def serOks (l : List ToldA) (vs : List (Nat × ModA)) : List (Int × PlA) × Bool → List ToldA → Bool
  | _, [] => true
  | x, t :: o => (!x.2 || t.till == 0 || (decide (0 < t.till) && wayP ((mget t.pid x.1).getD ⟨none, false⟩) t)) && serOks l vs (serStep l vs x t) o
theorem serFold_stop (l : List ToldA) (vs : List (Nat × ModA)) : ∀ (o : List ToldA) (x : List (Int × PlA) × Bool), x.2 = false → o.foldl (serStep l vs) x = x
  | [], _, _ => rfl
  | t :: o, x, h => by
    have hx : serStep l vs x t = x := by unfold serStep; rw [if_neg (by rw [h]; decide)]
    rw [List.foldl_cons, hx]
    exact serFold_stop l vs o x h
end Go.Proofs.YtmkhjmldncegcaaGreatDoor

/-
  PLAIN: what Serial's loop keeps.
-/
set_option linter.unusedVariables false
set_option linter.unusedSimpArgs false
namespace Go.Proofs.YtmkhjmldncegcaaGreatDoor
open Go.RowKit Go.Maps Go.ChangeMaps Go.MapKept Go.Sort

def serTo (l : List ToldA) (vs : List (Nat × ModA)) (ls : List ToldA) (j : Nat) : List (Int × PlA) × Bool := (ls.take j).foldl (serStep l vs) ([], true)
theorem serTo_succ {l : List ToldA} {vs : List (Nat × ModA)} {ls : List ToldA} {j : Nat} {t : ToldA} (h : ls[j]? = some t) : serTo l vs ls (j + 1) = serStep l vs (serTo l vs ls j) t := by
  obtain ⟨hj, e⟩ := List.getElem?_eq_some_iff.1 h
  unfold serTo
  rw [List.take_succ_eq_append_getElem hj, List.foldl_append, e]
  rfl
/-- Once stopped, stopped. -/
theorem serTo_stop {l : List ToldA} {vs : List (Nat × ModA)} {ls : List ToldA} {j : Nat} (h : (serTo l vs ls j).2 = false) : (serFold l vs ls).2 = false := by
  have e : serFold l vs ls = (ls.drop j).foldl (serStep l vs) (serTo l vs ls j) := by
    unfold serFold serTo
    rw [← List.foldl_append, List.take_append_drop]
  rw [e, serFold_stop l vs _ _ h]
  exact h
theorem serTo_end {l : List ToldA} {vs : List (Nat × ModA)} {ls : List ToldA} : serTo l vs ls ls.length = serFold l vs ls := by
  unfold serTo serFold
  rw [List.take_length]
/-- What Serial's loop keeps. -/
structure SerRel (w1 : World) (mb vmb : Nat) (vrows : List (Nat × Value)) (l : List ToldA) (vs : List (Nat × ModA)) (ls : List ToldA) (j : Nat) (wr : World) (σ : Sig) (rows : List (Int × Value)) : Prop where
  chg : RowChg mb w1 wr
  neat : Neat wr σ
  old : ∀ k, k < w1.heap.size → ∀ p, (σ k).1 ≠ oPl p ∧ (σ k).1 ≠ oMo p
  ps : PsAt wr σ mb rows (serTo l vs ls j).1
  good : (serTo l vs ls j).2 = true
  vers : VsAt wr σ vmb vrows vs
  ground : Ground σ wr
  len : rows.length ≤ j
theorem Ground.moved2 {σ σ' : Sig} {i j : Nat} {w w' : World} (h : Ground σ w) (m : Moved2 σ i j w σ' w') (hi : i ≠ 0) (hj : j ≠ 0) : Ground σ' w' := by
  refine ⟨?_, by rw [m.ext 0 h.lt]; exact h.2⟩
  unfold ErrType
  rw [World.cell?_of_block (w := w) (w' := w') (a := ⟨0, 0, none⟩) (m.block 0 h.lt (by rw [h.2]; exact fun e => hi e.symm) (by rw [h.2]; exact fun e => hj e.symm))]
  exact h.1
/-- What was there ahead of the loop, behind a play's step. -/
theorem RowChg.moved2 {w1 w w' : World} {σ σ' : Sig} {mb : Nat} {p : Int} (h : RowChg mb w1 w) (old : ∀ k, k < w1.heap.size → ∀ p, (σ k).1 ≠ oPl p ∧ (σ k).1 ≠ oMo p) (m : Moved2 σ (oPl p) (oMo p) w σ' w') : RowChg mb w1 w' :=
  ⟨m.os.trans h.os, m.tape.trans h.tape, m.output.trans h.output, Nat.le_trans h.size m.size, fun k hk hne => (m.block k (Nat.lt_of_lt_of_le hk h.size) (old k hk p).1 (old k hk p).2).trans (h.block k hk hne)⟩

end Go.Proofs.YtmkhjmldncegcaaGreatDoor

/-
  PLAIN: Serial: labels of the plays taken back; the models are sound; a round's end.
-/
set_option linter.unusedVariables false
set_option linter.unusedSimpArgs false
namespace Go.Proofs.YtmkhjmldncegcaaGreatDoor
open Go.RowKit Go.Maps Go.ChangeMaps Go.MapKept Go.Sort

def PlLab (l : Lab) : Prop := ∃ p, l.1 = oPl p ∨ l.1 = oMo p
open Classical in
/-- The blocks of plays become nobody's. -/
noncomputable def unpl (σ : Sig) : Sig := fun k => if PlLab (σ k) then other else σ k
theorem unpl_same {σ : Sig} {k : Nat} (h : ¬ PlLab (σ k)) : unpl σ k = σ k := by unfold unpl; rw [if_neg h]
theorem lab_0 {l : Lab} (h : l.1 = 0) : ¬ PlLab l := fun ⟨p, hp⟩ => by
  rcases hp with e | e <;> rw [h] at e
  · exact oPl_0 p e.symm
  · exact oMo_0 p e.symm
theorem lab_ve {l : Lab} {n : Nat} (h : l.1 = oVe n) : ¬ PlLab l := fun ⟨p, hp⟩ => by
  rcases hp with e | e <;> rw [h] at e <;> unfold oVe at e <;> first | (unfold oPl at e; omega) | (unfold oMo at e; omega)
theorem unpl_no (σ : Sig) (k : Nat) (p : Int) : (unpl σ k).1 ≠ oPl p ∧ (unpl σ k).1 ≠ oMo p := by
  by_cases h : PlLab (σ k)
  · unfold unpl; rw [if_pos h]; exact ⟨fun e => oPl_0 p e.symm, fun e => oMo_0 p e.symm⟩
  · rw [unpl_same h]; exact ⟨fun e => h ⟨p, .inl e⟩, fun e => h ⟨p, .inr e⟩⟩
theorem Neat.unpl {w : World} {σ : Sig} (h : Neat w σ) : Neat w (unpl σ) := fun k hk => by
  rw [unpl_same (lab_0 (by rw [h k hk]; rfl))]; exact h k hk
theorem VsAt.unpl {w : World} {σ : Sig} {mb : Nat} {rows : List (Nat × Value)} {vs : List (Nat × ModA)} (h : VsAt w σ mb rows vs) : VsAt w (unpl σ) mb rows vs :=
  ⟨h.1, by rw [unpl_same (lab_0 (by rw [h.2.1]; rfl))]; exact h.2.1, h.2.2.imp fun n v A ha => ha.keep fun k hk e => ⟨rfl, unpl_same (lab_ve e)⟩⟩
/-- A new map of processes. -/
theorem VsAt.lay {w : World} {σ : Sig} {mb b : Nat} {l : Lab} {rows : List (Nat × Value)} {vs : List (Nat × ModA)} (h : VsAt w σ mb rows vs) (hb : w.heap.size ≤ b) : VsAt w (lay σ b l) mb rows vs := by
  have := h.1.lt
  exact ⟨h.1, by rw [lay_other (by omega)]; exact h.2.1, h.2.2.imp fun n v A ha => ha.keep fun k hk e => ⟨rfl, lay_other (by omega)⟩⟩

theorem sound_verTo {cs : List ComA} (hcs : ∀ c ∈ cs, ComOk c) : ∀ (i : Nat) (n : Nat) (A : ModA), (n, A) ∈ verTo cs i → Sound A (1000 * i)
  | 0, n, A, h => by simp [verTo] at h; rw [h.2]; exact sound_new
  | i + 1, n, A, h => by
    have ih := sound_verTo hcs i
    have h : (n, A) ∈ verStep cs i (verTo cs i) := h
    unfold verStep at h
    split at h
    · exact (ih n A h).more (by omega)
    · rename_i c hc
      have hok := hcs c (List.mem_of_getElem? hc)
      split at h
      · exact (ih n A h).more (by omega)
      · rename_i B hB
        split at h
        · exact (ih n A h).more (by omega)
        · rcases mem_mput h with e | h
          · injection e with _ e
            rw [e]
            exact ((sound_plays (ih _ B (mget_mem hB)) c.ops hok.2.2.2).more (by have := hok.2.2.1; omega)).lost
          · exact (ih n A h).more (by omega)
theorem serStep_still {l : List ToldA} {vs : List (Nat × ModA)} {x : List (Int × PlA) × Bool} {t : ToldA} (h : x.2 = true) (ht : t.till = 0) : serStep l vs x t = (mupd t.pid ((mget t.pid x.1).getD ⟨none, false⟩) x.1, true) := by
  unfold serStep; rw [if_pos h, if_pos ht]
theorem serStep_do {l : List ToldA} {vs : List (Nat × ModA)} {x : List (Int × PlA) × Bool} {t : ToldA} (h : x.2 = true) (ht : ¬ t.till = 0) : serStep l vs x t = (mupd t.pid (stepP l vs ((mget t.pid x.1).getD ⟨none, false⟩) t).1 x.1, (stepP l vs ((mget t.pid x.1).getD ⟨none, false⟩) t).2) := by
  unfold serStep; rw [if_pos h, if_neg ht]
theorem sound_stepP {l : List ToldA} {vs : List (Nat × ModA)} {s : PlA} {t : ToldA} {m : Nat} (hvs : ∀ n A, mget n vs = some A → Sound A m) (hop : OpOk t.op) (hs : ∀ A, s.m = some A → Sound A m) : ∀ A, (stepP l vs s t).1.m = some A → Sound A (m + 1) := fun A h => by
  unfold stepP at h
  split at h
  · split at h
    · cases h
    · rename_i B hB
      split at h
      · cases h
      · injection h with h; subst h
        exact (hvs _ _ hB).more (Nat.le_succ m)
  · rename_i B hB
    split at h
    · cases h
    · injection h with h; subst h
      exact sound_do (hs B hB) t.op hop.1
/-- The plays' models are sound. -/
theorem sound_serTo {l : List ToldA} {vs : List (Nat × ModA)} {ls : List ToldA} {m : Nat} (hvs : ∀ n A, mget n vs = some A → Sound A m) (hop : ∀ t ∈ ls, OpOk t.op) : ∀ (j : Nat), ∀ x ∈ (serTo l vs ls j).1, ∀ A, x.2.m = some A → Sound A (m + j)
  | 0, x, hx, A, h => by simp [serTo] at hx
  | j + 1, x, hx, A, h => by
    have ih := sound_serTo (l := l) hvs hop j
    cases ht : ls[j]? with
    | none =>
      have hj : ls.length ≤ j := List.getElem?_eq_none_iff.1 ht
      have e : serTo l vs ls (j + 1) = serTo l vs ls j := by unfold serTo; rw [List.take_of_length_le (by omega), List.take_of_length_le hj]
      rw [e] at hx
      exact (ih x hx A h).more (by omega)
    | some t =>
      rw [serTo_succ ht] at hx
      by_cases hg : (serTo l vs ls j).2 = true
      · have hs : ∀ A, ((mget t.pid (serTo l vs ls j).1).getD ⟨none, false⟩).m = some A → Sound A (m + j) := fun A h => by
          cases hm : mget t.pid (serTo l vs ls j).1 with
          | none => rw [hm] at h; cases h
          | some s => rw [hm] at h; exact ih _ (mget_mem hm) A h
        by_cases h0 : t.till = 0
        · rw [serStep_still hg h0] at hx
          rcases mem_mupd hx with e | hx
          · rw [e] at h; exact (hs A h).more (by omega)
          · exact (ih x hx A h).more (by omega)
        · rw [serStep_do hg h0] at hx
          rcases mem_mupd hx with e | hx
          · rw [e] at h; exact sound_stepP (fun n A hA => (hvs n A hA).more (by omega)) (hop t (List.mem_of_getElem? ht)) hs A h
          · exact (ih x hx A h).more (by omega)
      · have e : serStep l vs (serTo l vs ls j) t = serTo l vs ls j := by unfold serStep; rw [if_neg hg]
        rw [e] at hx
        exact (ih x hx A h).more (by omega)
theorem serOks_at {l : List ToldA} {vs : List (Nat × ModA)} : ∀ (o : List ToldA) (x : List (Int × PlA) × Bool) (j : Nat) (t : ToldA), serOks l vs x o = true → o[j]? = some t →
    (!((o.take j).foldl (serStep l vs) x).2 || t.till == 0 || (decide (0 < t.till) && wayP ((mget t.pid ((o.take j).foldl (serStep l vs) x).1).getD ⟨none, false⟩) t)) = true
  | [], x, j, t, h, hj => by simp at hj
  | a :: r, x, 0, t, h, hj => by
    simp at hj; subst hj
    unfold serOks at h
    rw [Bool.and_eq_true] at h
    exact h.1
  | a :: r, x, j + 1, t, h, hj => by
    unfold serOks at h
    rw [Bool.and_eq_true] at h
    exact serOks_at r _ j t h.2 (by simpa using hj)
theorem ser_way {l : List ToldA} {vs : List (Nat × ModA)} {ls : List ToldA} {j : Nat} {t : ToldA} (h : serOks l vs ([], true) ls = true) (hj : ls[j]? = some t) (hg : (serTo l vs ls j).2 = true) (h0 : ¬ t.till = 0) : 0 < t.till ∧ wayP ((mget t.pid (serTo l vs ls j).1).getD ⟨none, false⟩) t = true := by
  have h1 := serOks_at ls ([], true) j t h hj
  have e : (ls.take j).foldl (serStep l vs) ([], true) = serTo l vs ls j := rfl
  rw [e, hg] at h1
  simp [h0] at h1
  exact h1
theorem sl_chg {w w' : World} {mb : Nat} {es : Array MapEntry} {c size n : Nat} {v : Value} {us : List Value} (h : Sl w size v n us) (hb : w.heap[mb]? = some (.map es c)) (k : RowChg mb w w') : Sl w' size v n us := by
  obtain ⟨hl, p, c, hv, h1, h2, h3⟩ := h
  refine ⟨hl, p, c, hv, h1, h2, fun h0 => ?_⟩
  obtain ⟨b, off, hp, hc⟩ := h3 h0
  exact ⟨b, off, hp, fun j u hu => k.cell hb (hc j u hu)⟩

/-- A round's end behind a step. -/
theorem ser_step {w1 W2 w5 : World} {σ σ' : Sig} {mb vmb plb j : Nat} {vrows : List (Nat × Value)} {l ls : List ToldA} {vs : List (Nat × ModA)} {t : ToldA} {s : PlA} {rows : List (Int × Value)}
    (hsu : serTo l vs ls (j + 1) = serStep l vs (serTo l vs ls j) t) (hg : (serTo l vs ls j).2 = true) (h0 : ¬ t.till = 0) (hz : (mget t.pid (serTo l vs ls j).1).getD ⟨none, false⟩ = s)
    (hps : PsAt W2 σ mb rows (mupd t.pid s (serTo l vs ls j).1)) (hrw : mget t.pid rows = some (.pointer (some ⟨plb, 0, none⟩))) (hold : ∀ k, k < w1.heap.size → ∀ p, (σ k).1 ≠ oPl p ∧ (σ k).1 ≠ oMo p) (hch : RowChg mb w1 W2)
    (hvs : VsAt W2 σ vmb vrows vs) (hgr : Ground σ W2) (hl : rows.length ≤ j + 1) (hpl : PlIs w5 σ' t.pid plb (stepP l vs s t).1) (hm : Moved2 σ (oPl t.pid) (oMo t.pid) W2 σ' w5) (hr : (stepP l vs s t).2 = true) :
    SerRel w1 mb vmb vrows l vs ls (j + 1) w5 σ' rows := by
  have hs1 := hch.size
  have hsu' : serTo l vs ls (j + 1) = (mupd t.pid (stepP l vs s t).1 (serTo l vs ls j).1, true) := by rw [hsu, serStep_do hg h0, hz, hr]
  refine ⟨hch.moved2 hold hm, hm.neat, fun k hk p => by rw [hm.ext k (by omega)]; exact hold k hk p, ?_, by rw [hsu'], hvs.moved2 hm, hgr.moved2 hm (oPl_0 _) (oMo_0 _), hl⟩
  rw [hsu', ← mset_mupd t.pid s]
  exact hps.step hrw hpl hm
/-- A round's end where nothing was told. -/
theorem ser_still {w1 W2 : World} {σ : Sig} {mb vmb j : Nat} {vrows : List (Nat × Value)} {l ls : List ToldA} {vs : List (Nat × ModA)} {t : ToldA} {s : PlA} {rows : List (Int × Value)}
    (hsu : serTo l vs ls (j + 1) = serStep l vs (serTo l vs ls j) t) (hg : (serTo l vs ls j).2 = true) (h0 : t.till = 0) (hz : (mget t.pid (serTo l vs ls j).1).getD ⟨none, false⟩ = s)
    (hps : PsAt W2 σ mb rows (mupd t.pid s (serTo l vs ls j).1)) (hold : ∀ k, k < w1.heap.size → ∀ p, (σ k).1 ≠ oPl p ∧ (σ k).1 ≠ oMo p) (hn : Neat W2 σ) (hch : RowChg mb w1 W2)
    (hvs : VsAt W2 σ vmb vrows vs) (hgr : Ground σ W2) (hl : rows.length ≤ j + 1) : SerRel w1 mb vmb vrows l vs ls (j + 1) W2 σ rows := by
  have hsu' : serTo l vs ls (j + 1) = (mupd t.pid s (serTo l vs ls j).1, true) := by rw [hsu, serStep_still hg h0, hz]
  exact ⟨hch, hn, hold, by rw [hsu']; exact hps, by rw [hsu'], hvs, hgr, hl⟩
theorem ser_false {l : List ToldA} {vs : List (Nat × ModA)} {ls : List ToldA} {j : Nat} {t : ToldA} {s : PlA} (hsu : serTo l vs ls (j + 1) = serStep l vs (serTo l vs ls j) t) (hg : (serTo l vs ls j).2 = true) (h0 : ¬ t.till = 0) (hz : (mget t.pid (serTo l vs ls j).1).getD ⟨none, false⟩ = s)
    (hr : (stepP l vs s t).2 = false) : (serFold l vs ls).2 = false := by
  refine serTo_stop (j := j + 1) ?_
  rw [hsu, serStep_do hg h0, hz]
  exact hr
end Go.Proofs.YtmkhjmldncegcaaGreatDoor

/-
  WALKS: past.Serial.
-/
set_option linter.unusedVariables false
set_option linter.unusedSimpArgs false
namespace Go.Proofs.YtmkhjmldncegcaaGreatDoor
open Go.RowKit Go.Maps Go.ChangeMaps Go.MapKept Go.Sort

/-- What is asked of a history. -/
structure HistOk (l : List ToldA) : Prop where
  ne : l ≠ []
  len : l.length ≤ 20
  pid : ∀ t ∈ orderA l, -9223372036854775808 ≤ t.pid ∧ t.pid ≤ 9223372036854775807
  oks : comOks ([], []) (orderA l) = true
  coms : ∀ c ∈ commitsA l, ComOk c
  comn : (commitsA l).length ≤ 20
  ser : serOks l (versA l) ([], true) (orderA l) = true
  txn : ∀ t ∈ l, t.txn < 18446744073709551616
  ops : ∀ t ∈ orderA l, t.txn < 18446744073709551616 ∧ OpOk t.op

theorem versions_any (v : Value) (l : List ToldA) (w : World) (her : ErrType w) (h : Tolds w v l) (hh : HistOk l) :
    Calls Tryz.prog 16 #[v] w (VerPost (fun _ => other) l w) :=
  vers_any (fun _ => other) v l w (fun _ _ => rfl) ⟨her, rfl⟩ (fun _ n => by unfold oVe other; simp) hh.coms hh.comn fun W e => comFold_any v l W (h.ext e) hh.ne hh.len hh.oks hh.pid

set_option maxHeartbeats 4000000 in
set_option maxRecDepth 100000 in
theorem serial_any (v : Value) (l : List ToldA) (w : World) (her : ErrType w) (h : Tolds w v l) (hh : HistOk l) :
    Calls Tryz.prog 17 #[v] w fun e w' => e = .returned (.bool (serialA l)) ∧ Ext w w' := by
  have hm1 : ∀ w, (Instr.makeMap 88 none).run Tryz.prog w = .ok (.map (some w.heap.size)) (w.alloc (.map #[] 0)) := fun w => run_makeMap _ w
  have HVR := Lib.hid (versions_any v l w her h hh)
  have HER := Lib.hid her
  have HHH := Lib.hid hh
  clear her hh
  go_enter Tryz.func17, Tryz.ntmps17
  go_wp2_with fail
  refine HVR.out.mono ?_
  rintro e w1 ⟨vmb, σ1, vrows, rfl, hv1, he1, hse1, hn1⟩
  have HV1 := Lib.hid hv1
  have HE1 := Lib.hid he1
  have HSE1 := Lib.hid hse1
  have HN1 := Lib.hid hn1
  clear hv1 he1 hse1 hn1
  have HO : Hid (∀ W, Ext w W → Calls Tryz.prog 37 #[v] W fun e w' => ∃ v', e = .returned v' ∧ Tolds w' v' (orderA l) ∧ Ext W w') := fun W e => ordered_any v l W (h.ext e) HHH.out.ne HHH.out.len
  have HTW := Lib.hid h
  obtain ⟨ls, hls⟩ : ∃ ls, orderA l = ls := ⟨_, rfl⟩
  have HLS : Hid (ls = orderA l) := hls.symm
  have HSER : Hid (serialA l = (serFold l (versA l) ls).2) := by show serialA l = _; rw [← hls]; rfl
  rw [hls] at HO
  clear hls h
  go_wp2_with fail
  refine (HO.out _ (Ext.step HE1.out ((Ext.rfl' w1).alloc _))).mono ?_
  rintro e w2 ⟨v', rfl, hT, hext⟩
  have hmb : w2.heap[w1.heap.size]? = some (.map #[] 0) := by rw [hext.block _ (by simp)]; exact heap_new _ _
  have hMA : MapOf (κ := Int) w2 3 w1.heap.size [] := (MapOf.made (κ := Int) w1 3).ext hext
  have hsz : w1.heap.size < w2.heap.size := lt_heap hmb
  obtain ⟨hfl, p, c, rfl, hc1, hc2, hcells⟩ := hT
  have HC := Lib.hid hcells
  have HMB := Lib.hid hmb
  have HX2 : Hid (Ext w1 w2) := Ext.step ((Ext.rfl' w1).alloc _) hext
  have HXW2 : Hid (Ext w w2) := Ext.step HE1.out HX2.out
  have HWL : Hid (w.heap.size ≤ w1.heap.size) := HE1.out.size
  have HT2 := Lib.hid (HTW.out.ext HXW2.out)
  have hneat0 : Neat w2 (lay (unpl σ1) w1.heap.size mapLab) := fun k hk => by rw [lay_other (by omega)]; exact HN1.out.unpl k (by omega)
  have hold0 : ∀ k, k < w2.heap.size → ∀ p, (lay (unpl σ1) w1.heap.size mapLab k).1 ≠ oPl p ∧ (lay (unpl σ1) w1.heap.size mapLab k).1 ≠ oMo p := fun k hk p => by
    unfold lay; split
    · exact ⟨fun e => oPl_0 p e.symm, fun e => oMo_0 p e.symm⟩
    · exact unpl_no σ1 k p
  have h0w : 0 < w.heap.size := lt_of_cell HER.out
  have hgr0 : Ground (lay (unpl σ1) w1.heap.size mapLab) w2 := ⟨HXW2.out.cell HER.out, by
    have := HE1.out.size
    have e0 : σ1 0 = other := HSE1.out 0 h0w
    rw [lay_other (by omega), unpl_same (lab_0 (by rw [e0]; rfl)), e0]; rfl⟩
  have hrel0 : SerRel w2 w1.heap.size vmb vrows l (versA l) ls 0 w2 (lay (unpl σ1) w1.heap.size mapLab) [] := ⟨⟨rfl, rfl, rfl, Nat.le_refl _, fun _ _ _ => rfl⟩, hneat0, hold0, ⟨hMA, lay_same _ _ _, .nil⟩, rfl, (HV1.out.unpl.lay (Nat.le_refl _)).ext HX2.out, hgr0, by simp⟩
  have HR0 := Lib.hid hrel0
  have HVSO : Hid (∀ n A, mget n (versA l) = some A → Sound A 20000) := fun n A hA => (sound_verTo HHH.out.coms _ n A (mget_mem hA)).more (by have := HHH.out.comn; omega)
  have HTX := Lib.hid HHH.out.txn
  have HTX2 : Hid (∀ t ∈ ls, t.txn < 18446744073709551616 ∧ OpOk t.op) := by rw [HLS.out]; exact HHH.out.ops
  have HPID : Hid (∀ t ∈ ls, -9223372036854775808 ≤ t.pid ∧ t.pid ≤ 9223372036854775807) := by rw [HLS.out]; exact HHH.out.pid
  have HSO : Hid (serOks l (versA l) ([], true) ls = true) := by rw [HLS.out]; exact HHH.out.ser
  have hll : ls.length ≤ 20 := by rw [HLS.out, orderA_len]; exact HHH.out.len
  have hl20 : l.length ≤ 20 := HHH.out.len
  have hvne : vmb ≠ w1.heap.size := fun e => by have := HV1.out.1.lt; omega
  obtain ⟨_, p0, c0, rfl, _⟩ := HTW.out
  clear hext hmb hMA hcells hfl hneat0 hold0 hgr0 hrel0 h0w
  go_wp2_with fail
  go_loopw [14] (fun i wr => ∃ j : Nat, j ≤ ls.length ∧ i = .int .i64 j ∧ ∃ σ rows, SerRel w2 w1.heap.size vmb vrows l (versA l) ls j wr σ rows) (fun i _ => ls.length - (intOf i).toNat)
  case atStart => exact ⟨0, by omega, rfl, _, _, HR0.out⟩
  case round =>
    obtain ⟨j, hj, rfl, σ, rows, hR⟩ := hrel
    obtain ⟨wo, rfl⟩ : ∃ wo : World, wo = wr := ⟨_, rfl⟩
    have HR := Lib.hid hR
    by_cases hlt : j < ls.length
    · obtain ⟨b, off, rfl, hcells⟩ := HC.out (by omega)
      obtain ⟨t, htj⟩ : ∃ t, ls[j]? = some t := ⟨_, List.getElem?_eq_getElem hlt⟩
      have hcell : ∀ k u, k < 14 → (toldCells t)[k]? = some u → wo.cell? ⟨b, off + j * 14 + k, none⟩ = some u := fun k u hk hu => by
        rw [Nat.add_assoc]
        exact hR.chg.cell HMB.out (hcells _ _ (by rw [told_at htj hk]; exact hu))
      have d0 := hcell 0 _ (by omega) rfl
      have d1 := hcell 1 _ (by omega) rfl
      have d2 := hcell 2 _ (by omega) rfl
      have d3 := hcell 3 _ (by omega) rfl
      have d4 := hcell 4 _ (by omega) rfl
      have d5 := hcell 5 _ (by omega) rfl
      have d6 := hcell 6 _ (by omega) rfl
      have d7 := hcell 7 _ (by omega) rfl
      have d8 := hcell 8 _ (by omega) rfl
      have d9 := hcell 9 _ (by omega) rfl
      have d10 := hcell 10 _ (by omega) rfl
      have d11 := hcell 11 _ (by omega) rfl
      have d12 := hcell 12 _ (by omega) rfl
      have d13 := hcell 13 _ (by omega) rfl
      simp only [Nat.add_zero] at d0
      obtain ⟨hp1, hp2⟩ := HPID.out t (List.mem_of_getElem? htj)
      have HMEM : Hid (t ∈ ls) := List.mem_of_getElem? htj
      have HGOOD := Lib.hid hR.good
      have HWAY : Hid (¬ t.till = 0 → 0 < t.till ∧ wayP ((mget t.pid (serTo l (versA l) ls j).1).getD ⟨none, false⟩) t = true) := fun h0 => ser_way HSO.out htj HGOOD.out h0
      have HSU : Hid (serTo l (versA l) ls (j + 1) = serStep l (versA l) (serTo l (versA l) ls j) t) := serTo_succ htj
      clear hcells hcell htj
      have hlk : (Instr.lookup 88 (.map (some w1.heap.size)) (.int .i64 t.pid) false).run Tryz.prog (wo.alloc (.cells (toldCells t).toArray 38)) = .ok ((mget t.pid rows).getD (.pointer none)) (wo.alloc (.cells (toldCells t).toArray 38)) :=
        (hR.ps.1.ext ((Ext.rfl' wo).alloc _)).look1 (t := 88) (e := 90) keyedI Tryz.underlying88 (z := .pointer none) (Tryz.zeroValue90 _) (keyI hp1 hp2)
      obtain ⟨rows2, rfl⟩ : ∃ r, r = rows := ⟨_, rfl⟩
      cases hg : mget t.pid rows2 with
      | some pv =>
        obtain ⟨s, hsm, plb, rfl, hst⟩ : ∃ s, mget t.pid (serTo l (versA l) ls j).1 = some s ∧ PlAt wo σ t.pid pv s := by
          have := hR.ps.2.2.has (k := t.pid)
          rw [hg] at this
          obtain ⟨s, hs⟩ := Option.isSome_iff_exists.1 this.symm
          obtain ⟨a, ha, hst⟩ := hR.ps.2.2.get_some hs
          rw [hg] at ha
          injection ha with ha
          subst ha
          exact ⟨s, hs, hst⟩
        rw [hg] at hlk
        simp only [Option.getD_some] at hlk
        have e1 : Ext wo (wo.alloc (.cells (toldCells t).toArray 38)) := (Ext.rfl' wo).alloc _
        have HZ : Hid ((mget t.pid (serTo l (versA l) ls j).1).getD ⟨none, false⟩ = s) := by show _ = _; rw [hsm]; rfl
        obtain ⟨W, hW⟩ : ∃ W, W = wo.alloc (.cells (toldCells t).toArray 38) := ⟨_, rfl⟩
        obtain ⟨σ2, rfl⟩ : ∃ σ2, σ2 = σ := ⟨_, rfl⟩
        have HPS : Hid (PsAt W σ2 w1.heap.size rows2 (mupd t.pid s (serTo l (versA l) ls j).1)) := by
          show PsAt _ _ _ _ _
          have := hR.ps.ext e1
          rw [hW]
          unfold mupd
          rw [if_pos (by rw [hsm]; rfl), mset_self (hR.ps.2.2.nodupR (hR.ps.1.nodup keyedI)) hsm]
          exact this
        have HRW := Lib.hid hg
        have HPL : Hid (PlIs W σ2 t.pid plb s) := by rw [hW]; exact hst.ext e1
        have HN : Hid (Neat W σ2) := by rw [hW]; exact hR.neat.ext e1
        have HCH : Hid (RowChg w1.heap.size w2 W) := by rw [hW]; exact hR.chg.ext e1
        have HVS : Hid (VsAt W σ2 vmb vrows (versA l)) := by rw [hW]; exact hR.vers.ext e1
        have HGR : Hid (Ground σ2 W) := by rw [hW]; exact hR.ground.ext e1
        have HRL : Hid (rows2.length ≤ j + 1) := Nat.le_succ_of_le hR.len
        have HOLD := Lib.hid hR.old
        subst hW
        unfold toldCells at hlk HPS HPL HN HCH HVS HGR
        clear e1 hst hg hsm hR
        by_cases ht0 : t.till = 0
        · have kt : decide (0 < t.till) = false := decide_eq_false (by omega)
          have HT0 := Lib.hid ht0
          clear ht0
          go_wp2_with fail
          go_roundw
          case rel => exact ⟨j + 1, by omega, by go_num, σ2, rows2, ser_still HSU.out HGOOD.out HT0.out HZ.out HPS.out HOLD.out HN.out HCH.out HVS.out HGR.out HRL.out⟩
          case measure => simp [intOf]; omega
        · obtain ⟨hpos, hway⟩ := HWAY.out ht0
          have kt : decide (0 < t.till) = true := decide_eq_true hpos
          rw [HZ.out] at hway
          have HTK : Hid (Calls Tryz.prog 38 #[.pointer (some ⟨plb, 0, none⟩), .slice p0 l.length c0, .map (some vmb), toldV t] (wo.alloc (.cells (toldCells t).toArray 38)) (PlPost σ2 t.pid plb (stepP l (versA l) s t).1 (stepP l (versA l) s t).2 (wo.alloc (.cells (toldCells t).toArray 38)))) :=
            ptakes_any σ2 t.pid plb vmb vrows (versA l) s t _ l (wo.alloc (.cells (toldCells t).toArray 38)) 40000 HN.out HGR.out HPL.out (sl_chg HT2.out HMB.out HCH.out) (by omega) HTX.out HVS.out (HTX2.out t HMEM.out).1 (HTX2.out t HMEM.out).2 hway (fun A hA => by
              have := sound_serTo (l := l) HVSO.out (fun t ht => (HTX2.out t ht).2) j
              cases hm : mget t.pid (serTo l (versA l) ls j).1 with
              | none => have hz := HZ.out; rw [hm] at hz; rw [← hz] at hA; cases hA
              | some s' => have hz := HZ.out; rw [hm] at hz; have hz : s' = s := hz; subst hz; exact (this _ (mget_mem hm) A hA).more (by omega)) (fun n A hA => (HVSO.out n A hA).more (by omega)) (by omega)
          unfold toldV toldCells at HTK
          have HT0 := Lib.hid ht0
          clear ht0 hpos hway
          go_wp2_with fail
          refine HTK.out.mono ?_
          rintro e w5 ⟨rfl, σ5, h1, h2⟩
          cases hr : (stepP l (versA l) s t).2 with
          | true =>
            have H1 := Lib.hid h1
            have H2 := Lib.hid h2
            have HRT := Lib.hid hr
            clear h1 h2 hr
            go_wp2_with fail
            go_roundw
            case rel => exact ⟨j + 1, by omega, by go_num, σ5, rows2, ser_step HSU.out HGOOD.out HT0.out HZ.out HPS.out HRW.out HOLD.out HCH.out HVS.out HGR.out HRL.out H1.out H2.out HRT.out⟩
            case measure => simp [intOf]; omega
          | false =>
            have HFIN : Hid (serialA l = false ∧ Ext w w5) := ⟨by rw [HSER.out]; exact ser_false HSU.out HGOOD.out HT0.out HZ.out hr, RowChg.fresh HXW2.out (HCH.out.moved2 HOLD.out h2) HWL.out⟩
            clear h1 h2 hr
            go_wp2_with fail
            go_ret
            exact ⟨by rw [HFIN.out.1]; rfl, HFIN.out.2⟩
      | none =>
        rw [hg] at hlk
        simp only [Option.getD_none] at hlk
        have hsm : mget t.pid (serTo l (versA l) ls j).1 = none := by
          have := hR.ps.2.2.has (k := t.pid)
          rw [hg] at this
          cases h : mget t.pid (serTo l (versA l) ls j).1 with
          | none => rfl
          | some _ => rw [h] at this; cases this
        obtain ⟨s, hs⟩ : ∃ s : PlA, s = ⟨none, false⟩ := ⟨_, rfl⟩
        have HZ : Hid ((mget t.pid (serTo l (versA l) ls j).1).getD ⟨none, false⟩ = s) := by show _ = _; rw [hsm, hs]; rfl
        have e1 : Ext wo (wo.alloc (.cells (toldCells t).toArray 38)) := (Ext.rfl' wo).alloc _
        have hsz1 : (wo.alloc (.cells (toldCells t).toArray 38)).heap.size = wo.heap.size + 1 := by simp
        obtain ⟨W, hr, hM2, ht2⟩ := (hR.ps.1.ext (Ext.alloc e1 (.cells #[.slice none 0 0, .bool false] 93))).store (t := 88) (e := 90) keyedI Tryz.underlying88 (by have := hR.len; unfold maxLen; omega) (keyI hp1 hp2) (.pointer (some ⟨(wo.alloc (.cells (toldCells t).toArray 38)).heap.size, 0, none⟩))
        have hnew := PsAt.new hR.neat hR.ps e1 hM2 ht2
        have hvs2 := hR.vers.newProc (l := (oPl t.pid, .top)) hR.ps.2.1 hvne e1 ht2
        have hWs : W.heap.size = wo.heap.size + 2 := by rw [(Only.ofMap ht2).size]; simp
        have hmbl : w1.heap.size < wo.heap.size := hR.ps.1.lt
        have hbox : W.heap[wo.heap.size]? = some (.cells (toldCells t).toArray 38 (0, 0)) := by
          rw [(Only.ofMap ht2).block _ (by omega), ((Ext.rfl' (wo.alloc (.cells (toldCells t).toArray 38))).alloc _).block _ (by omega)]; exact heap_new wo _
        rw [hsz1] at hnew hvs2
        rw [← hs] at hnew
        obtain ⟨σ2, hσ2⟩ : ∃ σ2, σ2 = lay σ (wo.heap.size + 1) (oPl t.pid, .top) := ⟨_, rfl⟩
        obtain ⟨rows3, hrows3⟩ : ∃ r, r = mput t.pid (.pointer (some ⟨wo.heap.size + 1, 0, none⟩)) rows2 := ⟨_, rfl⟩
        have hr2 : mget t.pid rows3 = some (.pointer (some ⟨wo.heap.size + 1, 0, none⟩)) := by rw [hrows3]; exact mget_put_same _ _ _
        have hrl2 : rows3.length ≤ j + 1 := by rw [hrows3]; have := length_mput t.pid (.pointer (some ⟨wo.heap.size + 1, 0, none⟩)) rows2; have := hR.len; omega
        rw [← hσ2, ← hrows3] at hnew
        rw [← hσ2] at hvs2
        obtain ⟨plb, hplE⟩ : ∃ plb, plb = wo.heap.size + 1 := ⟨_, rfl⟩
        rw [← hplE] at hnew hr2
        have hmu : mupd t.pid s (serTo l (versA l) ls j).1 = mput t.pid s (serTo l (versA l) ls j).1 := by unfold mupd; rw [hsm]; rfl
        have HPS : Hid (PsAt W σ2 w1.heap.size rows3 (mupd t.pid s (serTo l (versA l) ls j).1)) := by show PsAt _ _ _ _ _; rw [hmu]; exact hnew.1
        have HRW := Lib.hid hr2
        have HPL := Lib.hid hnew.2.2
        have HN := Lib.hid hnew.2.1
        have HCH : Hid (RowChg w1.heap.size w2 W) := ⟨(Only.ofMap ht2).os.trans hR.chg.os, (Only.ofMap ht2).tape.trans hR.chg.tape, (Only.ofMap ht2).output.trans hR.chg.output, by have := hR.chg.size; omega, fun k hk hne => by
          rw [(Only.ofMap ht2).block k hne, (Ext.alloc e1 _).block k (by have := hR.chg.size; omega)]; exact hR.chg.block k hk hne⟩
        have HVS := Lib.hid hvs2
        have HGR : Hid (Ground σ2 W) := by
          have h0 := hR.ground.lt
          refine ⟨?_, by rw [hσ2, lay_other (by omega)]; exact hR.ground.2⟩
          have hc := (Ext.alloc e1 (.cells #[.slice none 0 0, .bool false] 93)).cell hR.ground.1
          unfold ErrType
          rw [World.cell?_of_block (w := (wo.alloc (.cells (toldCells t).toArray 38)).alloc (.cells #[.slice none 0 0, .bool false] 93)) (w' := W) (a := ⟨0, 0, none⟩) ((Only.ofMap ht2).block 0 (by
            intro e
            have h1 := HMB.out
            rw [← e] at h1
            have h2 := HXW2.out.cell HER.out
            unfold World.cell? at h2
            rw [h1] at h2
            cases h2))]
          exact hc
        have HRL := Lib.hid hrl2
        have HOLD : Hid (∀ k, k < w2.heap.size → ∀ p, (σ2 k).1 ≠ oPl p ∧ (σ2 k).1 ≠ oMo p) := fun k hk p => by rw [hσ2, lay_other (by have := hR.chg.size; omega)]; exact hR.old k hk p
        rw [hsz1] at hr
        have b0 := cellAt hbox 0
        have b1 := cellAt hbox 1
        have b2 := cellAt hbox 2
        have b3 := cellAt hbox 3
        have b4 := cellAt hbox 4
        have b5 := cellAt hbox 5
        have b6 := cellAt hbox 6
        have b7 := cellAt hbox 7
        have b8 := cellAt hbox 8
        have b9 := cellAt hbox 9
        have b10 := cellAt hbox 10
        have b11 := cellAt hbox 11
        have b12 := cellAt hbox 12
        have b13 := cellAt hbox 13
        simp [toldCells] at b0 b1 b2 b3 b4 b5 b6 b7 b8 b9 b10 b11 b12 b13
        unfold toldCells at hlk hr
        clear hR hbox e1 hg hsm hM2 ht2 hnew hvs2 hWs hmbl hσ2 hrows3 hr2 hrl2 hmu hs hsz1
        clear HR
        clear rows2
        obtain ⟨rows2, rfl⟩ : ∃ r, r = rows3 := ⟨_, rfl⟩
        subst hplE
        by_cases ht0 : t.till = 0
        · have kt : decide (0 < t.till) = false := decide_eq_false (by omega)
          have HT0 := Lib.hid ht0
          clear ht0
          go_wp2_with fail
          go_roundw
          case rel => exact ⟨j + 1, by omega, by go_num, σ2, rows2, ser_still HSU.out HGOOD.out HT0.out HZ.out HPS.out HOLD.out HN.out HCH.out HVS.out HGR.out HRL.out⟩
          case measure => simp [intOf]; omega
        · obtain ⟨hpos, hway⟩ := HWAY.out ht0
          have kt : decide (0 < t.till) = true := decide_eq_true hpos
          rw [HZ.out] at hway
          have HTK : Hid (Calls Tryz.prog 38 #[.pointer (some ⟨wo.heap.size + 1, 0, none⟩), .slice p0 l.length c0, .map (some vmb), toldV t] W (PlPost σ2 t.pid (wo.heap.size + 1) (stepP l (versA l) s t).1 (stepP l (versA l) s t).2 W)) :=
            ptakes_any σ2 t.pid (wo.heap.size + 1) vmb vrows (versA l) s t _ l W 40000 HN.out HGR.out HPL.out (sl_chg HT2.out HMB.out HCH.out) (by omega) HTX.out HVS.out (HTX2.out t HMEM.out).1 (HTX2.out t HMEM.out).2 hway (fun A hA => by
              have := sound_serTo (l := l) HVSO.out (fun t ht => (HTX2.out t ht).2) j
              cases hm : mget t.pid (serTo l (versA l) ls j).1 with
              | none => have hz := HZ.out; rw [hm] at hz; rw [← hz] at hA; cases hA
              | some s' => have hz := HZ.out; rw [hm] at hz; have hz : s' = s := hz; subst hz; exact (this _ (mget_mem hm) A hA).more (by omega)) (fun n A hA => (HVSO.out n A hA).more (by omega)) (by omega)
          unfold toldV toldCells at HTK
          have HT0 := Lib.hid ht0
          clear ht0 hpos hway
          go_wp2_with fail
          refine HTK.out.mono ?_
          rintro e w5 ⟨rfl, σ5, h1, h2⟩
          cases hr : (stepP l (versA l) s t).2 with
          | true =>
            have H1 := Lib.hid h1
            have H2 := Lib.hid h2
            have HRT := Lib.hid hr
            clear h1 h2 hr
            go_wp2_with fail
            go_roundw
            case rel => exact ⟨j + 1, by omega, by go_num, σ5, rows2, ser_step HSU.out HGOOD.out HT0.out HZ.out HPS.out HRW.out HOLD.out HCH.out HVS.out HGR.out HRL.out H1.out H2.out HRT.out⟩
            case measure => simp [intOf]; omega
          | false =>
            have HFIN : Hid (serialA l = false ∧ Ext w w5) := ⟨by rw [HSER.out]; exact ser_false HSU.out HGOOD.out HT0.out HZ.out hr, RowChg.fresh HXW2.out (HCH.out.moved2 HOLD.out h2) HWL.out⟩
            clear h1 h2 hr
            go_wp2_with fail
            go_ret
            exact ⟨by rw [HFIN.out.1]; rfl, HFIN.out.2⟩
    · obtain rfl : j = ls.length := by omega
      have HFIN : Hid (serialA l = true ∧ Ext w wo) := ⟨by rw [HSER.out, ← serTo_end]; exact hR.good, RowChg.fresh HXW2.out hR.chg HWL.out⟩
      clear hR
      go_wp2_with fail
      go_ret
      exact ⟨by rw [HFIN.out.1]; rfl, HFIN.out.2⟩
end Go.Proofs.YtmkhjmldncegcaaGreatDoor

/-
  WALKS: past.Serial of nothing.
-/
set_option linter.unusedVariables false
set_option linter.unusedSimpArgs false
namespace Go.Proofs.YtmkhjmldncegcaaGreatDoor
open Go.RowKit Go.Maps Go.ChangeMaps Go.MapKept Go.Sort

set_option maxHeartbeats 4000000 in
set_option maxRecDepth 100000 in
theorem serial_nil (w : World) (her : ErrType w) :
    Calls Tryz.prog 17 #[.slice none 0 0] w fun e w' => e = .returned (.bool true) ∧ Ext w w' := by
  have hm1 : ∀ w, (Instr.makeMap 88 none).run Tryz.prog w = .ok (.map (some w.heap.size)) (w.alloc (.map #[] 0)) := fun w => run_makeMap _ w
  have hT : Tolds w (.slice none 0 0) [] := ⟨rfl, none, 0, rfl, Nat.le_refl _, Nat.zero_le _, fun h => absurd h (by simp)⟩
  have HVR := Lib.hid (vers_any (fun _ => other) (.slice none 0 0) [] w (fun _ _ => rfl) ⟨her, rfl⟩ (fun _ n => by unfold oVe other; simp) (fun c hc => by rw [commitsA_nil] at hc; cases hc) (by rw [commitsA_nil]; simp) fun W e => commits_nil W)
  clear hT her
  go_enter Tryz.func17, Tryz.ntmps17
  go_wp2_with fail
  refine HVR.out.mono ?_
  rintro e w1 ⟨vmb, σ1, vrows, rfl, hv1, he1, hse1, hn1⟩
  have HE1 := Lib.hid he1
  clear hv1 he1 hse1 hn1
  go_wp2_with fail
  refine (ordered_nil _).mono ?_
  rintro e w2 ⟨rfl, rfl⟩
  go_wp2_with fail
  refine wp_loop_rounds 1 ?_
  rw [rounds_succ]
  go_wp2_with fail
  go_ret
  exact ⟨rfl, Ext.step HE1.out ((Ext.rfl' w1).alloc _)⟩
end Go.Proofs.YtmkhjmldncegcaaGreatDoor

/-
  PLAIN: histories told out, reckoned.
-/
set_option linter.unusedVariables false
set_option linter.unusedSimpArgs false
set_option maxRecDepth 100000
namespace Go.Proofs.YtmkhjmldncegcaaGreatDoor
open Go.Sort

def opOkB (o : OpA) : Bool := decide (o.db.length ≤ 100) && decide (o.key.length ≤ 100)
theorem opOk_of {o : OpA} (h : opOkB o = true) : OpOk o := by
  unfold opOkB at h
  simp at h
  exact ⟨by unfold maxLen; omega, by unfold maxLen; omega⟩
def comOkB (c : ComA) : Bool := decide (2 ≤ c.txn) && (decide (c.txn < 18446744073709551616) && (decide (c.ops.length ≤ 1000) && c.ops.all opOkB))
theorem comOk_of {c : ComA} (h : comOkB c = true) : ComOk c := by
  unfold comOkB at h
  simp only [Bool.and_eq_true, decide_eq_true_eq, List.all_eq_true] at h
  exact ⟨h.1, h.2.1, h.2.2.1, fun o ho => opOk_of (h.2.2.2 o ho)⟩
def ordD (l : List ToldA) : List ToldA := (insDown (ltOf cmpTold) 0 (l.length - 1) 1 l.toArray).toList
theorem ordD_eq (l : List ToldA) : orderA l = ordD l := by unfold orderA ordD; rw [isort_down]
def comD (o : List ToldA) : List ComA := (insDown (ltOf cmpCom) 0 ((comFold o).2.length - 1) 1 (comFold o).2.toArray).toList
theorem comD_eq (l : List ToldA) : commitsA l = comD (ordD l) := by unfold commitsA orderC comD; rw [isort_down, ordD_eq]
def histB (l o : List ToldA) (cs : List ComA) : Bool :=
  !l.isEmpty && (decide (l.length ≤ 20) && (o.all (fun t => decide (-9223372036854775808 ≤ t.pid) && decide (t.pid ≤ 9223372036854775807)) && (comOks ([], []) o && (cs.all comOkB && (decide (cs.length ≤ 20) && (serOks l (verTo cs cs.length) ([], true) o && (l.all (fun t => decide (t.txn < 18446744073709551616)) && o.all (fun t => decide (t.txn < 18446744073709551616) && opOkB t.op))))))))
theorem hist_of {l o : List ToldA} {cs : List ComA} (h1 : ordD l = o) (h2 : comD o = cs) (h : histB l o cs = true) : HistOk l := by
  have e1 : orderA l = o := (ordD_eq l).trans h1
  have e2 : commitsA l = cs := by rw [comD_eq, h1, h2]
  have e3 : versA l = verTo cs cs.length := by unfold versA; rw [e2]
  unfold histB at h
  simp only [Bool.and_eq_true, decide_eq_true_eq, List.all_eq_true, Bool.not_eq_true'] at h
  obtain ⟨a1, a2, a3, a4, a5, a6, a7, a8, a9⟩ := h
  exact ⟨fun e => (by rw [e] at a1; cases a1), a2, by rw [e1]; exact a3, by rw [e1]; exact a4, by rw [e2]; exact fun c hc => comOk_of (a5 c hc), by rw [e2]; exact a6, by rw [e1, e3]; exact a7, a8, by rw [e1]; exact fun t ht => ⟨(a9 t ht).1, opOk_of (a9 t ht).2⟩⟩
theorem serial_of {l o : List ToldA} {cs : List ComA} (h1 : ordD l = o) (h2 : comD o = cs) {b : Bool} (h : (serFold l (verTo cs cs.length) o).2 = b) : serialA l = b := by
  have e1 : orderA l = o := (ordD_eq l).trans h1
  have e2 : commitsA l = cs := by rw [comD_eq, h1, h2]
  have e3 : versA l = verTo cs cs.length := by unfold versA; rw [e2]
  unfold serialA
  rw [e1, e3]; exact h
theorem vers_of {l o : List ToldA} {cs : List ComA} (h1 : ordD l = o) (h2 : comD o = cs) {n : Nat} (h : (verTo cs cs.length).length = n) : (versA l).length = n := by
  have e2 : commitsA l = cs := by rw [comD_eq, h1, h2]
  have e3 : versA l = verTo cs cs.length := by unfold versA; rw [e2]
  rw [e3]; exact h
theorem has_of {l o : List ToldA} {cs : List ComA} (h1 : ordD l = o) (h2 : comD o = cs) {n : Nat} (h : (mget n (verTo cs cs.length)).isSome = true) : (mget n (versA l)).isSome = true := by
  have e2 : commitsA l = cs := by rw [comD_eq, h1, h2]
  have e3 : versA l = verTo cs cs.length := by unfold versA; rw [e2]
  rw [e3]; exact h

def kP : OpA := ⟨9, [], [107], [118], 0, 0⟩
def kG : OpA := ⟨8, [], [107], [], 0, 0⟩
def kD : OpA := ⟨10, [], [107], [], 0, 0⟩
def tA (p n k f t : Int) (x : Nat) : ToldA := ⟨p, n, ⟨k, [], [], [], 0, 0⟩, f, t, ⟨0, [], []⟩, x⟩
def kT2 : ToldA := ⟨1, 3, kP, 3, 4, ⟨0, [], []⟩, 0⟩
def kGet (v : S) : ToldA := ⟨2, 2, kG, 9, 10, ⟨0, [], v⟩, 0⟩
def kH : List ToldA := [tA 1 2 4 1 2 1, kT2, tA 1 4 6 5 6 2]
def kG1 (x : Nat) (v : S) : List ToldA := [tA 1 2 4 1 2 1, kT2, tA 1 4 6 5 6 2, tA 2 1 3 7 8 x, kGet v]
def kO (x : Nat) (v : S) : List ToldA := [tA 1 2 4 1 2 1, kT2, tA 1 4 6 5 6 2, tA 2 1 3 7 8 x, kGet v]
def kC : List ComA := [⟨2, 5, [kP]⟩]
theorem kH_o : ordD kH = kH := by decide +kernel
theorem kH_c : comD kH = kC := by decide +kernel
theorem kG_o1 : ordD (kG1 2 [118]) = kG1 2 [118] := by decide +kernel
theorem kG_o2 : ordD (kG1 2 [119]) = kG1 2 [119] := by decide +kernel
theorem kG_o3 : ordD (kG1 1 [118]) = kG1 1 [118] := by decide +kernel
theorem kG_c1 : comD (kG1 2 [118]) = kC := by decide +kernel
theorem kG_c2 : comD (kG1 2 [119]) = kC := by decide +kernel
theorem kG_c3 : comD (kG1 1 [118]) = kC := by decide +kernel
theorem kH_ok : HistOk kH := hist_of kH_o kH_c (by decide +kernel)
theorem kG_ok1 : HistOk (kG1 2 [118]) := hist_of kG_o1 kG_c1 (by decide +kernel)
theorem kG_ok2 : HistOk (kG1 2 [119]) := hist_of kG_o2 kG_c2 (by decide +kernel)
theorem kG_ok3 : HistOk (kG1 1 [118]) := hist_of kG_o3 kG_c3 (by decide +kernel)
theorem kH_n : (versA kH).length = 2 := vers_of kH_o kH_c (by decide +kernel)
theorem kH_2 : (mget 2 (versA kH)).isSome = true := has_of kH_o kH_c (by decide +kernel)
theorem kG_1 : serialA (kG1 2 [118]) = true := serial_of kG_o1 kG_c1 (by decide +kernel)
theorem kG_2 : serialA (kG1 2 [119]) = false := serial_of kG_o2 kG_c2 (by decide +kernel)
theorem kG_3 : serialA (kG1 1 [118]) = false := serial_of kG_o3 kG_c3 (by decide +kernel)

/-! ### PastKilled -/
def pOp (k v : S) : OpA := ⟨9, [], k, v, 0, 0⟩
/-- The history: does the commit that was never told count; what the reader had. -/
def kilH (base : Nat) (code : Int) (v : S) : List ToldA :=
  [tA 1 1 4 0 1 1, ⟨1, 2, pOp [97] [49], 2, 3, ⟨0, [], []⟩, 0⟩, tA 1 3 6 4 0 2, tA 2 1 4 20 21 base, ⟨2, 2, pOp [98] [50], 22, 23, ⟨0, [], []⟩, 0⟩, tA 2 3 6 24 30 (base + 1), tA 3 1 3 32 33 (base + 1), ⟨3, 2, ⟨8, [], [97], [], 0, 0⟩, 40, 41, ⟨code, [], v⟩, 0⟩]
def kilC (base : Nat) : List ComA := [⟨2, 4, [pOp [97] [49]]⟩, ⟨base + 1, 24, [pOp [98] [50]]⟩]
theorem kil_o (b : Bool) (v : Bool) : ordD (kilH (if b then 2 else 1) (if v then 0 else 21) (if v then [49] else [])) = kilH (if b then 2 else 1) (if v then 0 else 21) (if v then [49] else []) := by
  cases b <;> cases v <;> decide +kernel
theorem kil_c (b : Bool) (v : Bool) : comD (kilH (if b then 2 else 1) (if v then 0 else 21) (if v then [49] else [])) = kilC (if b then 2 else 1) := by
  cases b <;> cases v <;> decide +kernel
theorem kil_ok (b : Bool) (v : Bool) : HistOk (kilH (if b then 2 else 1) (if v then 0 else 21) (if v then [49] else [])) := hist_of (kil_o b v) (kil_c b v) (by cases b <;> cases v <;> decide +kernel)
theorem kil_s (b : Bool) (v : Bool) : serialA (kilH (if b then 2 else 1) (if v then 0 else 21) (if v then [49] else [])) = (b == v) := serial_of (kil_o b v) (kil_c b v) (by cases b <;> cases v <;> decide +kernel)
theorem kil_n (b : Bool) (v : Bool) : (versA (kilH (if b then 2 else 1) (if v then 0 else 21) (if v then [49] else []))).length = (if b then 3 else 2) := vers_of (kil_o b v) (kil_c b v) (by cases b <;> cases v <;> decide +kernel)
end Go.Proofs.YtmkhjmldncegcaaGreatDoor

