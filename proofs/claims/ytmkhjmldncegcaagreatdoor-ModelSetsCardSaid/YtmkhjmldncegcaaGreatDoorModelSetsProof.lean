/-
  ModelSets, the tied card: the walk by contracts of the callees, and the plain law.
-/
import Derived.Test.YtmkhjmldncegcaaGreatDoorRows
import Derived.Test.YtmkhjmldncegcaaGreatDoorTie
import Derived.Test.YtmkhjmldncegcaaGreatDoorCards
import Derived.Test.YtmkhjmldncegcaaGreatDoorZMSetW
import Derived.Test.YtmkhjmldncegcaaGreatDoorLaid
import Derived.Test.YtmkhjmldncegcaaGreatDoorLaidB
import Derived.Test.YtmkhjmldncegcaaGreatDoorLaidG
import Derived.Test.YtmkhjmldncegcaaGreatDoorModelSetsClosed
import Derived.SevenTiedAt
import Derived.WalkKit
import Derived.ProofKit
import Derived.OpenShut
import Derived.ChangeOld
import Derived.ChangeSlices
import Derived.Below
namespace Go.Proofs.YtmkhjmldncegcaaGreatDoor.modelSets
open Go.ChangeShapes Go.WideShapes Go.ChangeAt Go.RowKit
set_option linter.unusedVariables false


/-! ### The walk. -/
theorem walk (v : Value) (xs : List Nat) (hb : ∀ x ∈ xs, x < 256) (w : World) (hv : Sl w 1 v xs.length (xs.map fun (x : Nat) => Value.int .u8 (x : Int))) (hG : ErrType w) :
    Calls Tryz.prog 5 #[v] w fun e w' => e = .returned (.bool true) ∧ Ext w w' :=
  msets_any v xs hb w hG hv
/-- What came in, as numbers. -/
theorem row_in {H : Type} {enc : TypeId × Value → H} {W : World} {fuel : Nat} {a : Option Addr} {len cap : Nat} {x : DataW H × List MemPlace}
    (hf : DataW.trod enc Tryz.prog W 0 (fun _ => true) true fuel 45 (Value.slice a len cap).cells.toList = some x) : ∃ xs : List Nat, (∀ x ∈ xs, x < 256) ∧ Sl W 1 (.slice a len cap) xs.length (xs.map fun (x : Nat) => Value.int .u8 (x : Int)) := by
  rcases open_ints Tryz.underlying45 Tryz.underlying5 (by kernel_rfl) hf with ⟨hcs, _⟩ | ⟨x, l, c, zs, hcs, _, hl, hm, hz, _, hcell, hwz⟩
  · simp [Value.cells] at hcs
    obtain ⟨rfl, rfl, rfl⟩ := hcs
    exact ⟨[], by simp, rfl, none, 0, rfl, Nat.le_refl _, Nat.zero_le _, fun h => absurd h (by simp)⟩
  · simp [Value.cells] at hcs
    obtain ⟨rfl, rfl, rfl⟩ := hcs
    have hzl : zs.length = cap := by simpa using hz
    have hr : ∀ n ∈ zs, 0 ≤ n ∧ n < 256 := fun n hn => by
      have h := hwz n hn
      simp [Lit.wf, IntKind.min, IntKind.max, IntKind.signed, IntKind.bits] at h
      omega
    have hlen : ((zs.take len).map Int.toNat).length = len := by simp; omega
    refine ⟨(zs.take len).map Int.toNat, fun y hy => ?_, ?_⟩
    · obtain ⟨n, hn, rfl⟩ := List.mem_map.1 hy
      have := hr n (List.mem_of_mem_take hn)
      omega
    · rw [hlen]
      refine ⟨by simp; omega, some x, cap, rfl, hl, hm, fun h0 => ?_⟩
      obtain ⟨b, off, spot⟩ := x
      have hc0 := hcell 0 (by omega)
      have hspot : spot = none := by simpa [Addr.add] using World.cell?_spot hc0
      subst hspot
      refine ⟨b, off, rfl, fun j u hj => ?_⟩
      have hjl : j < len := by have := (List.getElem?_eq_some_iff.1 hj).1; simp at this; omega
      have h1 := hcell j (by omega)
      rw [Addr.add_lit] at h1
      rw [h1, ← hj]
      have hjz : j < zs.length := by omega
      have hnn := hr zs[j] (List.getElem_mem hjz)
      simp [List.getD, List.getElem?_take_of_lt hjl, List.getElem?_eq_getElem hjz]
      omega

/-! ### THE ROW's STEP: WRITTEN OUT: LEAVE IT -/
set_option maxRecDepth 100000 in
theorem lifted (os : Os) (started : os.Started) (H : Type) (enc : TypeId × Value → H) :
    ReturnsInHanded {} Tryz.checked os 5 .any (fun w args => (Rows.modelSetsSpec.pre enc Tryz.prog Tryz.f5 [] false w args ∧ laidMetH Tryz.prog laidList w) ∧ sizedMet enc Tryz.prog Tryz.f5 (OpenSpec.ofChange Rows.modelSetsSpec) false w args)
      (Rows.modelSetsSpec.post enc Tryz.prog Tryz.f5 false true false false) := by
  refine returnsInHanded_of_change_and (C := Tryz.checked) (X := fun w _ => laidMetH Tryz.prog laidList w) (fun _ _ _ hh h => h.of_heap hh) ownKnobs started (by as_aux_lemma => kernel_rfl) Tryz.func5
    (ChangeSpec.witness_at (enc := enc) (C := Tryz.checked) (os := os) (X := fun w _ => laidMetH Tryz.prog laidList w) false (laidWorld os) #[.slice none 0 0] 8 rfl (by as_aux_lemma => kernel_rfl) (by as_aux_lemma => kernel_rfl) (by as_aux_lemma => kernel_rfl) (by as_aux_lemma => kernel_rfl) (by as_aux_lemma => kernel_rfl) (laidWorld_met os _)) ?_
  intro W base args ds gs before hval0 hW _ _ hL _
  have hval : ∀ (j : Nat) t v, Tryz.f5.params[j]? = some t → args[j]? = some v → Value.okWide Tryz.prog W .any base t v := hval0
  have hW' := hW
  obtain ⟨p, q, hA0, hV, rfl, hfz, hnd⟩ := hW
  have hA : DataW.TrodAll enc Tryz.prog W 0 (fun _ => true) true Tryz.f5.params.toList args.toList ds p := hA0
  rw [Tryz.params5] at hA hval
  obtain ⟨v0, vs0, d0, ds0, p0, q0, hargs, rfl, rfl, h0, r0⟩ := trodAll_cons hA
  obtain ⟨rfl, rfl, rfl⟩ := trodAll_nil r0
  obtain rfl : args = #[v0] := by cases args; simp_all
  obtain ⟨rfl, rfl⟩ := trodVars_none hV
  obtain ⟨a0, len0, cap0, rfl⟩ := okWide_slice Tryz.underlying45 (hval 0 45 v0 rfl rfl)
  have k0 := h0
  have lt0 : ∀ x ∈ p0, x.block < W.heap.size := by obtain ⟨m, hm⟩ := k0; exact DataW.trod_lt m _ _ _ hm
  obtain ⟨xs, hb, hv⟩ : ∃ xs : List Nat, (∀ x ∈ xs, x < 256) ∧ Sl W 1 (.slice a0 len0 cap0) xs.length (xs.map fun (x : Nat) => Value.int .u8 (x : Int)) := by
    obtain ⟨fuel, hf⟩ := h0
    exact row_in hf
  clear hA0 hval0
  refine (walk _ xs hb W hv (ground_of hL)).mono fun e W' ⟨he, bel⟩ => ?_
  subst he
  exact ⟨_, rfl, _, _, _, [], _, [], hW', trodAll_mk1 (shut_bool Tryz.underlying4 _), (trodAll_cons_mk (Below.trod sh2 (by kernel_rfl) (of_decide_eq_true (by kernel_rfl)) k0 bel lt0) trodAll_mk0), rfl, ext_frame bel _, fun h => by cases h⟩

theorem over : Rows.modelSetsRow.holds Tryz.pinned (OpenSpec.ofChange Rows.modelSetsSpec) :=
  OpenClaim.holds_of_wide 5 Tryz.f5 rfl rfl rfl rfl rfl rfl rfl ⟨rfl, rfl, rfl, rfl, rfl⟩ rfl rfl rfl rfl rfl (by as_aux_lemma => kernel_rfl) Tryz.func5 closed
    (of_decide_eq_true (by as_aux_lemma => kernel_rfl)) (by unfold Func.isWrapper; first | (rw [if_pos (by decide +kernel)]; kernel_rfl) | (rw [if_neg (by decide +kernel)]; exact ⟨rfl, rfl⟩))
    (fun os started H enc _ => lifted os started H enc)

/-- The card: the row, tied to the program's text. -/
theorem proved : Rows.ModelSetsCardSaid :=
  Claim7.holds_tied_plain_at .later [] [.handle] true (true, "b151471b0342d00081e149574d29fa3373edb97d26bce1c21920318f84ec8f49") true
    over (fun _ h => by cases h) (by as_aux_lemma => kernel_rfl) (fun _ h => by cases h) modelSets_row_tie rfl ⟨rfl, rfl⟩ shMain rfl
    (fun f fn hf hfn => by
      obtain rfl : f = 5 := Option.some.inj ((show Tryz.prog.funcNamed Rows.modelSetsRow.func = some 5 by as_aux_lemma => kernel_rfl).symm.trans hf) |>.symm
      obtain rfl : fn = Tryz.f5 := (Option.some.inj (Tryz.func5.symm.trans hfn)).symm
      exact ⟨shLooks, fun j t ht => by
        rw [Tryz.params5] at ht
        have h5 : t = 45 := by
          rcases j with _ | j <;> simp at ht
          exact ht.symm
        rcases h5 with rfl
        exact shW45⟩)
    (by as_aux_lemma => kernel_rfl)
#print axioms proved
end Go.Proofs.YtmkhjmldncegcaaGreatDoor.modelSets
