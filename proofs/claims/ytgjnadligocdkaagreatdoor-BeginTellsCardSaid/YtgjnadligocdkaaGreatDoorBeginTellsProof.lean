/-
  BeginTells, the tied card: the walk the caller's own code by hand, each call by runs of a proved evaluator.
-/
import Derived.Test.YtgjnadligocdkaaGreatDoorRows
import Derived.Test.YtgjnadligocdkaaGreatDoorTie
import Derived.Test.YtgjnadligocdkaaGreatDoorCards
import Derived.Test.YtgjnadligocdkaaGreatDoorBtW
import Derived.Test.YtgjnadligocdkaaGreatDoorLaid
import Derived.Test.YtgjnadligocdkaaGreatDoorLaidB
import Derived.Test.YtgjnadligocdkaaGreatDoorLaidG
import Derived.Test.YtgjnadligocdkaaGreatDoorBeginTellsClosed
import Derived.SevenTiedAt
import Derived.WalkKit
import Derived.ProofKit
import Derived.OpenShut
import Derived.ChangeOld
import Derived.ChangeSlices
import Derived.Below
import Derived.Deep.Slices
namespace Go.Proofs.YtgjnadligocdkaaGreatDoor.beginTells
open Go.ChangeShapes Go.WideShapes Go.ChangeAt Go.RowKit
set_option linter.unusedVariables false
theorem walk (most : Int) (v : Value) (l : List StA) (w : World) (hM : InI64 most) (hv : Sl w 2 v l.length (stsCells l)) (hwf : ∀ s ∈ l, s.txn < 256) (hG : Go.Ev.Grounded Go.Ev.gG w) :
    Calls Tryz.prog 3 #[.int .i64 most, v] w fun e w' => e = .returned (.bool true) ∧ Go.Ev.Stays w w' :=
  begins_any most v l w hM hv hwf hG
theorem int_in {n : Int} (h : (Lit.int .i64 n).wf = true) : InI64 n := by
  simp [Lit.wf] at h
  exact h
theorem byte_in {n : Int} (h : (Lit.int .u8 n).wf = true) : ∃ x : Nat, x < 256 ∧ n = (x : Int) := by
  simp [Lit.wf, IntKind.min, IntKind.max, IntKind.signed, IntKind.bits] at h
  exact ⟨n.toNat, by omega, by omega⟩
theorem same_of {W w' : World} (h : Go.Ev.Stays W w') {p : MemPlace} (hp : p.block < W.heap.size) : W.sameAt w' p := by
  cases p with
  | cell b o => exact World.cell?_of_block (w := W) (h.2.2.2 b hp)
  | map b => exact h.2.2.2 b hp
instance : Inhabited StA := ⟨⟨0, 0⟩⟩
set_option maxRecDepth 100000 in
theorem op_in {H : Type} {enc : TypeId × Value → H} {W : World} {n : Nat} {cs : List Value} {x : DataW H × List MemPlace} (h : DataW.trod enc Tryz.prog W 0 (fun _ => true) true n 56 cs = some x) : ∃ op : StA, cs = (stCells op).toList ∧ op.txn < 256 := by
  obtain ⟨xs, k, hk, _, hl, hxl, hf⟩ := DataW.trod_struct Tryz.underlying56 h
  have hl6 : cs.length = 2 := hl.trans (by kernel_rfl)
  have hx6 : xs.length = 2 := hxl
  have c3 : Tryz.prog.cellsOf 3 = 1 := by kernel_rfl
  have c5 : Tryz.prog.cellsOf 5 = 1 := by kernel_rfl
  match cs, hl6, xs, hx6 with
  | [v0, v1], _, [y0, y1], _ =>
    have g0 := hf 0 _ rfl
    have g1 := hf 1 _ rfl
    simp [c3, c5] at g0 g1
    obtain ⟨n0, e0, w0⟩ := DataW.trod_int Tryz.underlying3 g0
    obtain ⟨n1, e1, w1⟩ := DataW.trod_int Tryz.underlying5 g1
    simp at e0 e1
    obtain ⟨x, hx, rfl⟩ := byte_in w1.2
    refine ⟨⟨n0, x⟩, ?_, hx⟩
    subst e0 e1
    rfl
theorem row_in {H : Type} {enc : TypeId × Value → H} {W : World} {fuel : Nat} {a : Option Addr} {len cap : Nat} {x : DataW H × List MemPlace}
    (hf : DataW.trod enc Tryz.prog W 0 (fun _ => true) true fuel 22 (Value.slice a len cap).cells.toList = some x) : ∃ l : List StA, Sl W 2 (.slice a len cap) l.length (stsCells l) ∧ ∀ op ∈ l, op.txn < 256 := by
  rcases Go.Deep.open_slice Tryz.underlying22 hf with ⟨hcs, _⟩ | ⟨ad, l, c, m, n, D, Pl, hcs, _, hl, hm, hmm, _, hx⟩
  · simp [Value.cells] at hcs
    obtain ⟨rfl, rfl, rfl⟩ := hcs
    exact ⟨[], ⟨rfl, none, 0, rfl, Nat.le_refl _, Nat.zero_le _, fun h => absurd h (by simp)⟩, by simp⟩
  · simp [Value.cells] at hcs
    obtain ⟨rfl, rfl, rfl⟩ := hcs
    have hlm : len ≤ m := by rw [hmm]; simpa using hl
    have c6 : Tryz.prog.cellsOf 56 = 2 := by kernel_rfl
    rw [c6] at hx
    obtain ⟨f, hf'⟩ := Go.Deep.choose_lt (α := StA) (p := fun i op => op.txn < 256 ∧ ∀ q u, (stCells op).toList[q]? = some u → W.cell? ((ad.add (i * 2)).add q) = some u) (fun i (hi : i < m) => by
      obtain ⟨cs', h1, h2⟩ := hx i hi
      obtain ⟨op, rfl, hwf⟩ := op_in h2
      obtain ⟨_, hlen, hcell⟩ := World.cells?_some h1
      refine ⟨op, hwf, fun q u hq => ?_⟩
      obtain ⟨hq1, hq2⟩ := List.getElem?_eq_some_iff.1 hq
      have := hcell q (by omega)
      rw [this]
      exact hq)
    have hll : ((List.range len).map f).length = len := by simp
    refine ⟨(List.range len).map f, ?_, fun op ho => by
      obtain ⟨i, hi, rfl⟩ := List.mem_map.1 ho
      exact (hf' i (by have := List.mem_range.1 hi; omega)).1⟩
    rw [hll]
    have hol : (stsCells ((List.range len).map f)).length = len * 2 := by
      have hgen : ∀ l : List StA, (stsCells l).length = l.length * 2 := fun l => by
        induction l with
        | nil => rfl
        | cons a r ih =>
          show ((stCells a).toList ++ stsCells r).length = _
          rw [List.length_append, ih, List.length_cons]
          show 2 + _ = _
          omega
      rw [hgen, hll]
    refine ⟨hol, some ad, cap, rfl, hl, hm, fun h0 => ?_⟩
    obtain ⟨b, off, spot⟩ := ad
    have hc0 := (hf' 0 (by omega)).2 0 _ rfl
    have hspot : spot = none := by simpa [Addr.add] using World.cell?_spot hc0
    subst hspot
    refine ⟨b, off, rfl, fun j u hj => ?_⟩
    have hjl : j < len * 2 := by have := (List.getElem?_eq_some_iff.1 hj).1; omega
    have hi : j / 2 < len := by omega
    have hq : j % 2 < 2 := Nat.mod_lt _ (by decide)
    have he : j = j / 2 * 2 + j % 2 := by omega
    have hat := st_at (l := (List.range len).map f) (j := j / 2) (o := f (j / 2)) (by simp [hi]) hq
    rw [← he, hj] at hat
    have := (hf' (j / 2) (by omega)).2 (j % 2) u hat.symm
    rw [Go.Deep.add_add, ← he, Addr.add_lit] at this
    exact this
set_option maxRecDepth 100000 in
theorem lifted (os : Os) (started : os.Started) (H : Type) (enc : TypeId × Value → H) :
    ReturnsInHanded {} Tryz.checked os 3 .any (fun w args => (Rows.beginTellsSpec.pre enc Tryz.prog Tryz.f3 [] false w args ∧ laidMetH Tryz.prog laidList w) ∧ sizedMet enc Tryz.prog Tryz.f3 (OpenSpec.ofChange Rows.beginTellsSpec) false w args)
      (Rows.beginTellsSpec.post enc Tryz.prog Tryz.f3 false true false false) := by
  refine returnsInHanded_of_change_and (C := Tryz.checked) (X := fun w _ => laidMetH Tryz.prog laidList w) (fun _ _ _ hh h => h.of_heap hh) ownKnobs started (by as_aux_lemma => kernel_rfl) Tryz.func3
    (ChangeSpec.witness_at (enc := enc) (C := Tryz.checked) (os := os) (X := fun w _ => laidMetH Tryz.prog laidList w) false (laidWorld os) #[.int .i64 0, .slice none 0 0] 8 rfl (by as_aux_lemma => kernel_rfl) (by as_aux_lemma => kernel_rfl) (by as_aux_lemma => kernel_rfl) (by as_aux_lemma => kernel_rfl) (by as_aux_lemma => kernel_rfl) (laidWorld_met os _)) ?_
  intro W base args ds gs before hval0 hW _ _ hL _
  have hval : ∀ (j : Nat) t v, Tryz.f3.params[j]? = some t → args[j]? = some v → Value.okWide Tryz.prog W .any base t v := hval0
  have hW' := hW
  obtain ⟨p, q, hA0, hV, rfl, hfz, hnd⟩ := hW
  have hA : DataW.TrodAll enc Tryz.prog W 0 (fun _ => true) true Tryz.f3.params.toList args.toList ds p := hA0
  rw [Tryz.params3] at hA hval
  obtain ⟨v0, vs0, d0, ds0, p0, q0, hargs, rfl, rfl, h0, r0⟩ := trodAll_cons hA
  obtain ⟨v1, vs1, d1, ds1, p1, q1, rfl, rfl, rfl, h1, r1⟩ := trodAll_cons r0
  obtain ⟨rfl, rfl, rfl⟩ := trodAll_nil r1
  obtain rfl : args = #[v0, v1] := by cases args; simp_all
  obtain ⟨rfl, rfl⟩ := trodVars_none hV
  obtain ⟨m0, rfl, rfl, rfl, w0⟩ := open_int Tryz.underlying3 (hval 0 3 v0 rfl rfl) h0
  obtain ⟨a0, len0, cap0, rfl⟩ := okWide_slice Tryz.underlying22 (hval 1 22 v1 rfl rfl)
  have k0 := h1
  have lt0 : ∀ x ∈ p1, x.block < W.heap.size := by obtain ⟨m, hm⟩ := k0; exact DataW.trod_lt m _ _ _ hm
  obtain ⟨l, hl, hwf⟩ : ∃ l : List StA, Sl W 2 (.slice a0 len0 cap0) l.length (stsCells l) ∧ ∀ s ∈ l, s.txn < 256 := by
    obtain ⟨fuel, hf⟩ := h1
    exact row_in hf
  clear hA0 hval0
  refine (walk m0 _ l W (int_in w0) hl hwf (grounded_of hL)).mono fun e W' ⟨he, bel⟩ => ?_
  subst he
  exact ⟨_, rfl, _, _, _, [], _, [], hW', trodAll_mk1 (shut_bool Tryz.underlying4 _), (trodAll_cons_mk (shut_int Tryz.underlying3 w0) (trodAll_cons_mk (WideElems.Trod_stays sh2 (by kernel_rfl) (of_decide_eq_true (by kernel_rfl)) k0 (fun x hx => same_of bel (lt0 x hx)) (fun x hx => by simpa using lt0 x hx)) trodAll_mk0)), rfl, Go.Ev.Kept.frame (show Go.Ev.Kept W W' from bel) _, fun h => by cases h⟩
theorem over : Rows.beginTellsRow.holds Tryz.pinned (OpenSpec.ofChange Rows.beginTellsSpec) :=
  OpenClaim.holds_of_wide 3 Tryz.f3 rfl rfl rfl rfl rfl rfl rfl ⟨rfl, rfl, rfl, rfl, rfl⟩ rfl rfl rfl rfl rfl (by as_aux_lemma => kernel_rfl) Tryz.func3 closed
    (of_decide_eq_true (by as_aux_lemma => kernel_rfl)) (by unfold Func.isWrapper; first | (rw [if_pos (by decide +kernel)]; kernel_rfl) | (rw [if_neg (by decide +kernel)]; exact ⟨rfl, rfl⟩))
    (fun os started H enc _ => lifted os started H enc)
theorem proved : Rows.BeginTellsCardSaid :=
  Claim7.holds_tied_plain_at .later [] [.handle] true (true, "b41ea7b5e04e8981c556437d513c68c48e3af488bf5336356d5bee6fbd5d84c5") true
    over (fun _ h => by cases h) (by as_aux_lemma => kernel_rfl) (fun _ h => by cases h) beginTells_row_tie rfl ⟨rfl, rfl⟩ shMain rfl
    (fun f fn hf hfn => by
      obtain rfl : f = 3 := Option.some.inj ((show Tryz.prog.funcNamed Rows.beginTellsRow.func = some 3 by as_aux_lemma => kernel_rfl).symm.trans hf) |>.symm
      obtain rfl : fn = Tryz.f3 := (Option.some.inj (Tryz.func3.symm.trans hfn)).symm
      exact ⟨shLooks, fun j t ht => by
        rw [Tryz.params3] at ht
        have h5 : t = 3 ∨ t = 22 := by
          rcases j with _ | _ | j <;> simp at ht
          · exact .inl ht.symm
          · exact .inr ht.symm
        rcases h5 with rfl | rfl
        · exact shW3
        · exact shW22⟩)
    (by as_aux_lemma => kernel_rfl)
end Go.Proofs.YtgjnadligocdkaaGreatDoor.beginTells
