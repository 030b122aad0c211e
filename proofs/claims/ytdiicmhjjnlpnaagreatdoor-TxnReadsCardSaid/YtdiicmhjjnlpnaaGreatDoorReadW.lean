/-
  TxnReads: the walk: the caller's own code by hand, each call by the evaluator's runs.
-/
import Derived.Test.YtdiicmhjjnlpnaaGreatDoorRdS
import Derived.Test.YtdiicmhjjnlpnaaGreatDoorKit
import Derived.Deep.QuietTactic
import Derived.BigQuiet
import Derived.Laws.StructEq
import Derived.Sort.EncStr
set_option linter.unusedVariables false
set_option linter.unusedSimpArgs false
namespace Go.Proofs.YtdiicmhjjnlpnaaGreatDoor
open Go.RowKit

/-! ### Ops -/
abbrev S := List UInt8
structure OpA where
  kind : Int
  db : S
  key : S
  val : S
  flags : Int
  n : Int
def InI64 (n : Int) : Prop := IntKind.i64.min ≤ n ∧ n ≤ IntKind.i64.max
def opCells (op : OpA) : Array Value := #[.int .i64 op.kind, encStr op.db, encStr op.key, encStr op.val, .int .i64 op.flags, .int .i64 op.n]
def opV (op : OpA) : Value := .agg (opCells op)
def opsCells (l : List OpA) : List Value := l.flatMap fun o => (opCells o).toList
theorem opCells_len (o : OpA) : (opCells o).toList.length = 6 := rfl
theorem op_at : ∀ {l : List OpA} {j : Nat} {o : OpA}, l[j]? = some o → ∀ {k : Nat}, k < 6 → (opsCells l)[j * 6 + k]? = (opCells o).toList[k]?
  | [], j, t, h, k, hk => by simp at h
  | a :: r, 0, t, h, k, hk => by
    simp at h; subst h
    show (List.flatMap _ (a :: r))[0 * 6 + k]? = _
    rw [List.flatMap_cons, Nat.zero_mul, Nat.zero_add, List.getElem?_append_left (by rw [opCells_len]; exact hk)]
  | a :: r, j + 1, t, h, k, hk => by
    show (List.flatMap _ (a :: r))[(j + 1) * 6 + k]? = _
    rw [List.flatMap_cons, List.getElem?_append_right (by rw [opCells_len]; omega), opCells_len, show (j + 1) * 6 + k - 6 = j * 6 + k by omega]
    exact op_at (by simpa using h) hk

/-- An op too long to be spoken of. -/
def longB (op : OpA) : Bool := decide (op.db.length > 20) || (decide (op.key.length > 20) || decide (op.val.length > 1100))
set_option maxHeartbeats 4000000 in
theorem long_any (op : OpA) (w : World) : Calls Tryz.prog 9 #[opV op] w fun e w' => e = .returned (.bool (longB op)) ∧ Ext w w' := by
  have hL : Hid (longB op = (decide ((20 : Int) < (op.db.length : Int)) || (decide ((20 : Int) < (op.key.length : Int)) || decide ((1100 : Int) < (op.val.length : Int))))) := by
    show _ = _
    have e : ∀ a b : Nat, decide (a > b) = decide ((b : Int) < (a : Int)) := fun a b => by rw [decide_eq_decide]; omega
    unfold longB
    rw [e, e, e]
    rfl
  unfold opV opCells
  cases k1 : decide ((20 : Int) < (op.db.length : Int)) <;> cases k2 : decide ((20 : Int) < (op.key.length : Int)) <;> cases k3 : decide ((1100 : Int) < (op.val.length : Int))
  all_goals
    rw [hL.out, k1, k2, k3]
    go_enter Tryz.func9, Tryz.ntmps9
    go_wp2
    go_ret
    exact ⟨rfl, (Ext.rfl' w).alloc _⟩

/-! ### What stays -/
theorem stays_of {w w' : World} (h : Ext w w') : Ev.Stays w w' := ⟨h.size, h.os, h.output, h.block⟩
theorem cell_stays {w w' : World} (h : Ev.Stays w w') {a : Addr} {v : Value} (hc : w.cell? a = some v) : w'.cell? a = some v := by
  rw [World.cell?_of_block (w := w) (h.2.2.2 a.block (lt_of_cell hc))]; exact hc
theorem sd_kept {G : Ev.Obj} {K nx : Nat} {L : List (Nat × Ev.Obj)} {cs : List (Nat × Value)} {w0 w : World} (h : Ev.Sd G K L nx cs w0 w) : Ev.Stays w0 w := by
  obtain ⟨I, σ, H, h1, h2, h3, h4, h5, h6, h7, h8, h9⟩ := h
  exact h8

/-! ### One op on the reading transaction -/
open Ev in
def txOk (q : Nat) (s : S) : Prop := q = 3 ∨ (q = 0 ∧ s = []) ∨ (q = 1 ∧ 1 ≤ s.length ∧ s.length ≤ 8) ∨ (q = 2 ∧ 9 ≤ s.length ∧ s.length ≤ 20)
theorem enc_size (s : S) : encStr s = .string ⟨s.toArray⟩ := rfl
theorem tx_lt {q j : Nat} (hj : j < 1000) (hq : q < 4) : Ev.txC q j < 2 ^ 128 ∧ 3 ≤ Ev.hi (Ev.txC q j) ∧ Ev.hi (Ev.txC q j) ≠ 23 := by
  have key : ∀ r, r < 4 → Ev.nameQ j r < 2 ^ 128 ∧ 3 ≤ Ev.hi (Ev.nameQ j r) ∧ Ev.hi (Ev.nameQ j r) ≠ 23 := fun r hr => by
    obtain ⟨h1, _⟩ := Ev.nameQ_at (j := j) (q := r) (by omega) hr
    refine ⟨?_, by omega, by omega⟩
    unfold Ev.nameQ
    have : (120259084288 + r) * 18446744073709551616 + j < 340282366920938463463374607431768211456 := by omega
    simpa using this
  have : q = 0 ∨ q = 1 ∨ q = 2 ∨ q = 3 := by omega
  rcases this with rfl | rfl | rfl | rfl
  · exact ⟨by show 950737950171172051122527404032 < 2 ^ 128; decide, by show 3 ≤ Ev.hi 950737950171172051122527404032; decide, by show Ev.hi 950737950171172051122527404032 ≠ 23; decide⟩
  · exact key 1 (by decide)
  · exact key 2 (by decide)
  · exact key 0 (by decide)
theorem sd_text {G : Ev.Obj} {K nx : Nat} {L : List (Nat × Ev.Obj)} {cs : List (Nat × Value)} {w0 w : World} (h : Ev.Sd G K L nx cs w0 w) {M : Nat} (hM : M = K + 1) (hK : K < 1000) {q : Nat} {s : S} (hq : txOk q s) : Ev.Sd G M L nx ((Ev.txC q M, encStr s) :: cs) w0 w := by
  have h1 : ∀ cs, encStr s ≠ .agg cs := fun cs e => by rw [enc_size] at e; cases e
  have h2 : ∀ cs, encStr s ≠ .tuple cs := fun cs e => by rw [enc_size] at e; cases e
  have hz : (⟨s.toArray⟩ : ByteArray).size = s.length := by show s.toArray.size = _; simp
  rcases hq with rfl | ⟨rfl, rfl⟩ | ⟨rfl, a, b⟩ | ⟨rfl, a, b⟩
  · exact h.name hM (by omega) (q := 0) (by decide) h1 h2 (.inl rfl)
  · refine ((h.name hM (by omega) (q := 0) (by decide) h1 h2 (.inl rfl)).fewer (cs' := cs) fun x hx => List.mem_cons_of_mem _ hx).cons fun σ I => ?_
    exact Ev.str0_vr σ I
  · exact h.name hM (by omega) (q := 1) (by decide) h1 h2 (.inr ⟨_, rfl, .inl ⟨rfl, by rw [hz]; exact a, by rw [hz]; exact b⟩⟩)
  · exact h.name hM (by omega) (q := 2) (by decide) h1 h2 (.inr ⟨_, rfl, .inr ⟨by decide, by rw [hz]; exact a, by rw [hz]; exact b⟩⟩)
theorem sd_int {G : Ev.Obj} {K nx : Nat} {L : List (Nat × Ev.Obj)} {cs : List (Nat × Value)} {w0 w : World} (h : Ev.Sd G K L nx cs w0 w) {M : Nat} (hM : M = K + 1) (hK : K < 1000) (n : Int) : Ev.Sd G M L nx ((Ev.nameQ M 0, .int .i64 n) :: cs) w0 w :=
  h.name hM (by omega) (q := 0) (by decide) (fun cs e => by cases e) (fun cs e => by cases e) (.inl rfl)

/-- What stands between two ops. -/
abbrev At (k : Nat) (vf vt : Value) (w0 w : World) : Prop := Ev.Sd Ev.gG (5 * k) (Ev.rL k) (Ev.rN k) [(Ev.cF, vf), (Ev.cT, vt)] w0 w
def DidNot (k : Nat) (vf vt : Value) (w0 : World) (e : Ending) (w' : World) : Prop := (∃ (n : Int) (t : TypeId) (u : Value), n ≠ 0 ∧ e = .returned (.tuple #[.agg #[.int .i64 n, .string ⟨#[]⟩, .string ⟨#[]⟩], .iface t u])) ∧ At (k + 1) vf vt w0 w'
theorem do_cls {k : Nat} (hk : k < 40) {vf vt : Value} {w0 w : World} (h : At k vf vt w0 w) (op : OpA) {kc qd qk : Nat} (hrun : Ev.allD kc qd qk = true) (hkc : ∀ σ I, Ev.VR σ I kc (.int .i64 op.kind)) (hk3 : 3 ≤ Ev.hi kc ∧ Ev.hi kc ≠ 23) (hk2 : kc < 2 ^ 128) (hqd : txOk qd op.db) (hqk : txOk qk op.key) :
    Calls Tryz.prog 10 #[vt, opV op] w (DidNot k vf vt w0) := by
  have hd4 : qd < 4 := by rcases hqd with h | h | h | h <;> omega
  have hq4 : qk < 4 := by rcases hqk with h | h | h | h <;> omega
  have hN : Ev.rN k < 262143 := by unfold Ev.rN; omega
  have s1 := sd_text h (M := 5 * k + 1) rfl (by omega) hqd
  have s2 := sd_text s1 (M := 5 * k + 2) rfl (by omega) hqk
  have s3 := sd_text s2 (M := 5 * k + 3) rfl (by omega) (q := 3) (s := op.val) (.inl rfl)
  have s4 := sd_int s3 (M := 5 * k + 4) rfl (by omega) op.flags
  have s5 := sd_int s4 (M := 5 * k + 5) rfl (by omega) op.n
  have s6 := s5.cons hkc
  have hall : ∀ c ∈ [0, kc, Ev.txC qd (5 * k + 1), Ev.txC qk (5 * k + 2), Ev.nameQ (5 * k + 3) 0, Ev.nameQ (5 * k + 4) 0, Ev.nameQ (5 * k + 5) 0], c < 2 ^ 128 := fun c hc => by
    simp only [List.mem_cons, List.not_mem_nil, or_false] at hc
    rcases hc with rfl | rfl | rfl | rfl | rfl | rfl | rfl
    · decide
    · exact hk2
    · exact (tx_lt (by omega) hd4).1
    · exact (tx_lt (by omega) hq4).1
    · exact (tx_lt (j := 5 * k + 3) (by omega) (q := 3) (by decide)).1
    · exact (tx_lt (j := 5 * k + 4) (by omega) (q := 3) (by decide)).1
    · exact (tx_lt (j := 5 * k + 5) (by omega) (q := 3) (by decide)).1
  have hdig : ∀ i, Ev.dig (Ev.opN k kc qd qk) i = [0, kc, Ev.txC qd (5 * k + 1), Ev.txC qk (5 * k + 2), Ev.nameQ (5 * k + 3) 0, Ev.nameQ (5 * k + 4) 0, Ev.nameQ (5 * k + 5) 0].getD i 0 := fun i => Ev.dig_packL _ _ hall
  have s7 := s6.agg (N := Ev.opN k kc qd qk) (vs := opCells op) hN (fun i hi' => by
    have hi6 : i < 6 := hi'
    rw [hdig]
    have : i = 0 ∨ i = 1 ∨ i = 2 ∨ i = 3 ∨ i = 4 ∨ i = 5 := by omega
    rcases this with rfl | rfl | rfl | rfl | rfl | rfl
    · exact ⟨hk3, by simp [opCells]⟩
    · exact ⟨(tx_lt (by omega) hd4).2, by simp [opCells]⟩
    · exact ⟨(tx_lt (by omega) hq4).2, by simp [opCells]⟩
    · exact ⟨(tx_lt (j := 5 * k + 3) (by omega) (q := 3) (by decide)).2, by simp [opCells, Ev.txC]⟩
    · exact ⟨(tx_lt (j := 5 * k + 4) (by omega) (q := 3) (by decide)).2, by simp [opCells]⟩
    · exact ⟨(tx_lt (j := 5 * k + 5) (by omega) (q := 3) (by decide)).2, by simp [opCells]⟩)
  have hr : Ev.runD kc qd qk k = true := List.all_eq_true.1 hrun k (List.mem_range.2 hk)
  have ho2 : Ev.okS ⟨[], Ev.rL (k + 1), Ev.rN (k + 1)⟩ = true := List.all_eq_true.1 Ev.ok_all (k + 1) (List.mem_range.2 (by omega))
  refine (Ev.sd_call (Ev.envE Ev.orcA) Ev.sizeE Ev.fnsOkA Ev.orcA_ok Ev.mixedE Tryz.func10 Ev.do_orc (fun c H nx σ I v a b c' d => Ev.okR_at a b c' d) hr ho2 (fun σ I hx => ?_) s7).mono fun e w' hh => ?_
  · exact Ev.argsP [(Ev.cT, vt), (79228162514264337593543950336 + Ev.rN k, opV op)] fun x hx' => by
      refine hx x ?_
      simp only [List.mem_cons, List.not_mem_nil, or_false] at hx'
      rcases hx' with rfl | rfl
      · simp
      · exact List.mem_cons_self ..
  · obtain ⟨v, rfl, ⟨n, t, u, h1, rfl⟩, hs⟩ := hh
    exact ⟨⟨n, t, u, h1, rfl⟩, hs.fewer fun x hx => by
      simp only [List.mem_cons, List.not_mem_nil, or_false] at hx
      rcases hx with rfl | rfl <;> simp⟩
theorem lit_vr {n : Int} {b : Nat} (hb : b < 1000) (h : n = b) : (∀ σ I, Ev.VR σ I (554597137599850363154807652352 + b) (.int .i64 n)) ∧ (3 ≤ Ev.hi (554597137599850363154807652352 + b) ∧ Ev.hi (554597137599850363154807652352 + b) ≠ 23) ∧ 554597137599850363154807652352 + b < 2 ^ 128 := by
  subst h
  have h7 : Ev.hi (554597137599850363154807652352 + b) = 7 := by rw [Ev.hi_def]; omega
  refine ⟨fun σ I => Ev.i64_vr (by show (-9223372036854775808 : Int) ≤ _; omega) (by show _ ≤ (9223372036854775807 : Int); omega) (by omega) σ I, by omega, ?_⟩
  have : 554597137599850363154807652352 + b < 340282366920938463463374607431768211456 := by omega
  simpa using this
theorem do_any {k : Nat} (hk : k < 40) {vf vt : Value} {w0 w : World} (h : At k vf vt w0 w) (op : OpA) (hl : longB op = false) (hi : InI64 op.kind) :
    Calls Tryz.prog 10 #[vt, opV op] w (DidNot k vf vt w0) := by
  unfold longB at hl
  simp only [Bool.or_eq_false_iff, decide_eq_false_iff_not] at hl
  obtain ⟨l1, l2, _⟩ := hl
  have t1 : txOk 0 op.db ∨ txOk 1 op.db ∨ txOk 2 op.db := by
    by_cases h0 : op.db = []
    · exact .inl (.inr (.inl ⟨rfl, h0⟩))
    · have : 0 < op.db.length := by cases hq : op.db with | nil => exact absurd hq h0 | cons a r => simp
      by_cases h8 : op.db.length ≤ 8
      · exact .inr (.inl (.inr (.inr (.inl ⟨rfl, this, h8⟩))))
      · exact .inr (.inr (.inr (.inr (.inr ⟨rfl, by omega, by omega⟩))))
  have t2 : txOk 0 op.key ∨ txOk 1 op.key ∨ txOk 2 op.key := by
    by_cases h0 : op.key = []
    · exact .inl (.inr (.inl ⟨rfl, h0⟩))
    · have : 0 < op.key.length := by cases hq : op.key with | nil => exact absurd hq h0 | cons a r => simp
      by_cases h8 : op.key.length ≤ 8
      · exact .inr (.inl (.inr (.inr (.inl ⟨rfl, this, h8⟩))))
      · exact .inr (.inr (.inr (.inr (.inr ⟨rfl, by omega, by omega⟩))))
  have any : ∀ s : S, txOk 3 s := fun s => .inl rfl
  by_cases a1 : op.kind ≤ 7
  · exact do_cls hk h op Ev.d_dn (fun σ I => Ev.dn_vr (b := 7) hi.1 hi.2 (by decide) (by omega) σ I) (by decide) (by decide) (any _) (any _)
  by_cases a2 : 16 ≤ op.kind
  · exact do_cls hk h op Ev.d_up (fun σ I => Ev.up_vr (b := 16) hi.1 hi.2 (by decide) (by omega) σ I) (by decide) (by decide) (any _) (any _)
  have hcase : op.kind = 8 ∨ op.kind = 9 ∨ op.kind = 10 ∨ op.kind = 11 ∨ op.kind = 12 ∨ op.kind = 13 ∨ op.kind = 14 ∨ op.kind = 15 := by omega
  rcases hcase with e | e | e | e | e | e | e | e
  · obtain ⟨c1, c2, c3⟩ := lit_vr (b := 8) (by decide) e
    rcases t1 with t | t | t
    · rcases t2 with u | u | u
      · exact do_cls hk h op Ev.d_k8ee c1 c2 c3 t u
      · exact do_cls hk h op Ev.d_k8es c1 c2 c3 t u
      · exact do_cls hk h op Ev.d_k8ef c1 c2 c3 t u
    · exact do_cls hk h op Ev.d_k8s c1 c2 c3 t (any _)
    · exact do_cls hk h op Ev.d_k8f c1 c2 c3 t (any _)
  · obtain ⟨c1, c2, c3⟩ := lit_vr (b := 9) (by decide) e
    exact do_cls hk h op Ev.d_k9 c1 c2 c3 (any _) (any _)
  · obtain ⟨c1, c2, c3⟩ := lit_vr (b := 10) (by decide) e
    exact do_cls hk h op Ev.d_k10 c1 c2 c3 (any _) (any _)
  · obtain ⟨c1, c2, c3⟩ := lit_vr (b := 11) (by decide) e
    exact do_cls hk h op Ev.d_k11 c1 c2 c3 (any _) (any _)
  · obtain ⟨c1, c2, c3⟩ := lit_vr (b := 12) (by decide) e
    exact do_cls hk h op Ev.d_k12 c1 c2 c3 (any _) (any _)
  · obtain ⟨c1, c2, c3⟩ := lit_vr (b := 13) (by decide) e
    rcases t1 with t | t | t
    · exact do_cls hk h op Ev.d_k13e c1 c2 c3 t (any _)
    · exact do_cls hk h op Ev.d_k13s c1 c2 c3 t (any _)
    · exact do_cls hk h op Ev.d_k13f c1 c2 c3 t (any _)
  · obtain ⟨c1, c2, c3⟩ := lit_vr (b := 14) (by decide) e
    exact do_cls hk h op Ev.d_k14 c1 c2 c3 (any _) (any _)
  · obtain ⟨c1, c2, c3⟩ := lit_vr (b := 15) (by decide) e
    rcases t1 with t | t | t
    · exact do_cls hk h op Ev.d_k15e c1 c2 c3 t (any _)
    · exact do_cls hk h op Ev.d_k15s c1 c2 c3 t (any _)
    · exact do_cls hk h op Ev.d_k15f c1 c2 c3 t (any _)
end Go.Proofs.YtdiicmhjjnlpnaaGreatDoor
