/-
  TxnReads, the tied card: the walk the caller's own code by hand, each call by runs of a proved evaluator.
-/
import Derived.Test.YtdiicmhjjnlpnaaGreatDoorRows
import Derived.Test.YtdiicmhjjnlpnaaGreatDoorTie
import Derived.Test.YtdiicmhjjnlpnaaGreatDoorCards
import Derived.Test.YtdiicmhjjnlpnaaGreatDoorReadM
import Derived.Test.YtdiicmhjjnlpnaaGreatDoorLaid
import Derived.Test.YtdiicmhjjnlpnaaGreatDoorLaidB
import Derived.Test.YtdiicmhjjnlpnaaGreatDoorLaidG
import Derived.Test.YtdiicmhjjnlpnaaGreatDoorTxnReadsClosed
import Derived.SevenTiedAt
import Derived.WalkKit
import Derived.ProofKit
import Derived.OpenShut
import Derived.ChangeOld
import Derived.ChangeSlices
import Derived.Below
import Derived.Deep.Slices
namespace Go.Proofs.YtdiicmhjjnlpnaaGreatDoor.txnReads
open Go.ChangeShapes Go.WideShapes Go.ChangeAt Go.RowKit
set_option linter.unusedVariables false


/-! ### The walk. -/
theorem walk (v : Value) (l : List OpA) (w : World) (hv : Sl w 6 v l.length (opsCells l)) (hwf : ∀ op ∈ l, InI64 op.kind) (hG : Go.Ev.Grounded Go.Ev.gG w) :
    Calls Tryz.prog 3 #[v] w fun e w' => e = .returned (.bool true) ∧ Go.Ev.Stays w w' :=
  reads_any v l w hv hwf hG
theorem int_in {n : Int} (h : (Lit.int .i64 n).wf = true) : InI64 n := by
  simp [Lit.wf] at h
  exact h
theorem same_of {W w' : World} (h : Go.Ev.Stays W w') {p : MemPlace} (hp : p.block < W.heap.size) : W.sameAt w' p := by
  cases p with
  | cell b o => exact World.cell?_of_block (w := W) (h.2.2.2 b hp)
  | map b => exact h.2.2.2 b hp
instance : Inhabited OpA := ⟨⟨0, [], [], [], 0, 0⟩⟩
theorem str_in (s : ByteArray) : Value.string s = encStr s.data.toList := by
  cases s; simp [encStr]
set_option maxRecDepth 100000 in
/-- One op that came in. -/
theorem op_in {H : Type} {enc : TypeId × Value → H} {W : World} {n : Nat} {cs : List Value} {x : DataW H × List MemPlace} (h : DataW.trod enc Tryz.prog W 0 (fun _ => true) true n 42 cs = some x) : ∃ op : OpA, cs = (opCells op).toList ∧ InI64 op.kind := by
  obtain ⟨xs, k, hk, _, hl, hxl, hf⟩ := DataW.trod_struct Tryz.underlying42 h
  have hl6 : cs.length = 6 := hl.trans (by kernel_rfl)
  have hx6 : xs.length = 6 := hxl
  have c3 : Tryz.prog.cellsOf 3 = 1 := by kernel_rfl
  have c9 : Tryz.prog.cellsOf 9 = 1 := by kernel_rfl
  match cs, hl6, xs, hx6 with
  | [v0, v1, v2, v3, v4, v5], _, [y0, y1, y2, y3, y4, y5], _ =>
    have g0 := hf 0 _ rfl
    have g1 := hf 1 _ rfl
    have g2 := hf 2 _ rfl
    have g3 := hf 3 _ rfl
    have g4 := hf 4 _ rfl
    have g5 := hf 5 _ rfl
    simp [c3, c9] at g0 g1 g2 g3 g4 g5
    obtain ⟨n0, e0, w0⟩ := DataW.trod_int Tryz.underlying3 g0
    obtain ⟨s1, e1, _⟩ := DataW.trod_string Tryz.underlying9 g1
    obtain ⟨s2, e2, _⟩ := DataW.trod_string Tryz.underlying9 g2
    obtain ⟨s3, e3, _⟩ := DataW.trod_string Tryz.underlying9 g3
    obtain ⟨n4, e4, _⟩ := DataW.trod_int Tryz.underlying3 g4
    obtain ⟨n5, e5, _⟩ := DataW.trod_int Tryz.underlying3 g5
    simp at e0 e1 e2 e3 e4 e5
    refine ⟨⟨n0, s1.data.toList, s2.data.toList, s3.data.toList, n4, n5⟩, ?_, int_in w0.2⟩
    subst e0 e1 e2 e3 e4 e5
    rw [str_in s1, str_in s2, str_in s3]
    rfl
/-- A row of ops that came in. -/
theorem row_in {H : Type} {enc : TypeId × Value → H} {W : World} {fuel : Nat} {a : Option Addr} {len cap : Nat} {x : DataW H × List MemPlace}
    (hf : DataW.trod enc Tryz.prog W 0 (fun _ => true) true fuel 22 (Value.slice a len cap).cells.toList = some x) : ∃ l : List OpA, Sl W 6 (.slice a len cap) l.length (opsCells l) ∧ ∀ op ∈ l, InI64 op.kind := by
  rcases Go.Deep.open_slice Tryz.underlying22 hf with ⟨hcs, _⟩ | ⟨ad, l, c, m, n, D, Pl, hcs, _, hl, hm, hmm, _, hx⟩
  · simp [Value.cells] at hcs
    obtain ⟨rfl, rfl, rfl⟩ := hcs
    exact ⟨[], ⟨rfl, none, 0, rfl, Nat.le_refl _, Nat.zero_le _, fun h => absurd h (by simp)⟩, by simp⟩
  · simp [Value.cells] at hcs
    obtain ⟨rfl, rfl, rfl⟩ := hcs
    have hlm : len ≤ m := by rw [hmm]; simpa using hl
    have c6 : Tryz.prog.cellsOf 42 = 6 := by kernel_rfl
    rw [c6] at hx
    obtain ⟨f, hf'⟩ := Go.Deep.choose_lt (α := OpA) (p := fun i op => InI64 op.kind ∧ ∀ q u, (opCells op).toList[q]? = some u → W.cell? ((ad.add (i * 6)).add q) = some u) (fun i (hi : i < m) => by
      obtain ⟨cs', h1, h2⟩ := hx i hi
      obtain ⟨op, rfl, hwf⟩ := op_in h2
      obtain ⟨_, hlen, hcell⟩ := World.cells?_some h1
      refine ⟨op, hwf, fun q u hq => ?_⟩
      obtain ⟨hq1, hq2⟩ := List.getElem?_eq_some_iff.1 hq
      have := hcell q (by omega)
      rw [this]
      exact hq)
    have hll : ((List.range len).map f).length = len := by simp
    refine ⟨(List.range len).map f, ?_, fun op ho => by
      obtain ⟨i, hi, rfl⟩ := List.mem_map.1 ho
      exact (hf' i (by have := List.mem_range.1 hi; omega)).1⟩
    rw [hll]
    have hol : (opsCells ((List.range len).map f)).length = len * 6 := by
      have hgen : ∀ l : List OpA, (opsCells l).length = l.length * 6 := fun l => by
        induction l with
        | nil => rfl
        | cons a r ih =>
          show ((opCells a).toList ++ opsCells r).length = _
          rw [List.length_append, ih, List.length_cons]
          show 6 + _ = _
          omega
      rw [hgen, hll]
    refine ⟨hol, some ad, cap, rfl, hl, hm, fun h0 => ?_⟩
    obtain ⟨b, off, spot⟩ := ad
    have hc0 := (hf' 0 (by omega)).2 0 _ rfl
    have hspot : spot = none := by simpa [Addr.add] using World.cell?_spot hc0
    subst hspot
    refine ⟨b, off, rfl, fun j u hj => ?_⟩
    have hjl : j < len * 6 := by have := (List.getElem?_eq_some_iff.1 hj).1; omega
    have hi : j / 6 < len := by omega
    have hq : j % 6 < 6 := Nat.mod_lt _ (by decide)
    have he : j = j / 6 * 6 + j % 6 := by omega
    have hat := op_at (l := (List.range len).map f) (j := j / 6) (o := f (j / 6)) (by simp [hi]) hq
    rw [← he, hj] at hat
    have := (hf' (j / 6) (by omega)).2 (j % 6) u hat.symm
    rw [Go.Deep.add_add, ← he, Addr.add_lit] at this
    exact this

/-! ### THE ROW's STEP: WRITTEN OUT: LEAVE IT -/
set_option maxRecDepth 100000 in
theorem lifted (os : Os) (started : os.Started) (H : Type) (enc : TypeId × Value → H) :
    ReturnsInHanded {} Tryz.checked os 3 .any (fun w args => (Rows.txnReadsSpec.pre enc Tryz.prog Tryz.f3 [] false w args ∧ laidMetH Tryz.prog laidList w) ∧ sizedMet enc Tryz.prog Tryz.f3 (OpenSpec.ofChange Rows.txnReadsSpec) false w args)
      (Rows.txnReadsSpec.post enc Tryz.prog Tryz.f3 false true false false) := by
  refine returnsInHanded_of_change_and (C := Tryz.checked) (X := fun w _ => laidMetH Tryz.prog laidList w) (fun _ _ _ hh h => h.of_heap hh) ownKnobs started (by as_aux_lemma => kernel_rfl) Tryz.func3
    (ChangeSpec.witness_at (enc := enc) (C := Tryz.checked) (os := os) (X := fun w _ => laidMetH Tryz.prog laidList w) false (laidWorld os) #[.slice none 0 0] 8 rfl (by as_aux_lemma => kernel_rfl) (by as_aux_lemma => kernel_rfl) (by as_aux_lemma => kernel_rfl) (by as_aux_lemma => kernel_rfl) (by as_aux_lemma => kernel_rfl) (laidWorld_met os _)) ?_
  intro W base args ds gs before hval0 hW _ _ hL _
  have hval : ∀ (j : Nat) t v, Tryz.f3.params[j]? = some t → args[j]? = some v → Value.okWide Tryz.prog W .any base t v := hval0
  have hW' := hW
  obtain ⟨p, q, hA0, hV, rfl, hfz, hnd⟩ := hW
  have hA : DataW.TrodAll enc Tryz.prog W 0 (fun _ => true) true Tryz.f3.params.toList args.toList ds p := hA0
  rw [Tryz.params3] at hA hval
  obtain ⟨v0, vs0, d0, ds0, p0, q0, hargs, rfl, rfl, h0, r0⟩ := trodAll_cons hA
  obtain ⟨rfl, rfl, rfl⟩ := trodAll_nil r0
  obtain rfl : args = #[v0] := by cases args; simp_all
  obtain ⟨rfl, rfl⟩ := trodVars_none hV
  obtain ⟨a0, len0, cap0, rfl⟩ := okWide_slice Tryz.underlying22 (hval 0 22 v0 rfl rfl)
  have k0 := h0
  have lt0 : ∀ x ∈ p0, x.block < W.heap.size := by obtain ⟨m, hm⟩ := k0; exact DataW.trod_lt m _ _ _ hm
  obtain ⟨l, hl, hwf⟩ : ∃ l : List OpA, Sl W 6 (.slice a0 len0 cap0) l.length (opsCells l) ∧ ∀ op ∈ l, InI64 op.kind := by
    obtain ⟨fuel, hf⟩ := h0
    exact row_in hf
  clear hA0 hval0
  refine (walk _ l W hl hwf (grounded_of hL)).mono fun e W' ⟨he, bel⟩ => ?_
  subst he
  exact ⟨_, rfl, _, _, _, [], _, [], hW', trodAll_mk1 (shut_bool Tryz.underlying4 _), (trodAll_cons_mk (WideElems.Trod_stays sh2 (by kernel_rfl) (of_decide_eq_true (by kernel_rfl)) k0 (fun x hx => same_of bel (lt0 x hx)) (fun x hx => by simpa using lt0 x hx)) trodAll_mk0), rfl, Go.Ev.Kept.frame (show Go.Ev.Kept W W' from bel) _, fun h => by cases h⟩

theorem over : Rows.txnReadsRow.holds Tryz.pinned (OpenSpec.ofChange Rows.txnReadsSpec) :=
  OpenClaim.holds_of_wide 3 Tryz.f3 rfl rfl rfl rfl rfl rfl rfl ⟨rfl, rfl, rfl, rfl, rfl⟩ rfl rfl rfl rfl rfl (by as_aux_lemma => kernel_rfl) Tryz.func3 closed
    (of_decide_eq_true (by as_aux_lemma => kernel_rfl)) (by unfold Func.isWrapper; first | (rw [if_pos (by decide +kernel)]; kernel_rfl) | (rw [if_neg (by decide +kernel)]; exact ⟨rfl, rfl⟩))
    (fun os started H enc _ => lifted os started H enc)

/-- The card: the row, tied to the program's text. -/
theorem proved : Rows.TxnReadsCardSaid :=
  Claim7.holds_tied_plain_at .later [] [.handle] true (true, "9ccf5d7882272edde0675bae02e756be21c1c08e5f667999effe49a6ea32f940") true
    over (fun _ h => by cases h) (by as_aux_lemma => kernel_rfl) (fun _ h => by cases h) txnReads_row_tie rfl ⟨rfl, rfl⟩ shMain rfl
    (fun f fn hf hfn => by
      obtain rfl : f = 3 := Option.some.inj ((show Tryz.prog.funcNamed Rows.txnReadsRow.func = some 3 by as_aux_lemma => kernel_rfl).symm.trans hf) |>.symm
      obtain rfl : fn = Tryz.f3 := (Option.some.inj (Tryz.func3.symm.trans hfn)).symm
      exact ⟨shLooks, fun j t ht => by
        rw [Tryz.params3] at ht
        have h5 : t = 22 := by
          rcases j with _ | j <;> simp at ht
          exact ht.symm
        rcases h5 with rfl
        exact shW22⟩)
    (by as_aux_lemma => kernel_rfl)
#print axioms proved
end Go.Proofs.YtdiicmhjjnlpnaaGreatDoor.txnReads
