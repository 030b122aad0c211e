/-
  ModelSets, plain: a model that has one key in a database of many values and in the main one.
-/
import Derived.Test.YtmkhjmldncegcaaGreatDoorMA
set_option linter.unusedVariables false
set_option linter.unusedSimpArgs false
set_option maxRecDepth 100000
namespace Go.Proofs.YtmkhjmldncegcaaGreatDoor
open Go
/-- the value of a digit -/
def vS (d : Nat) : S := [118, UInt8.ofNat (48 + d)]
/-- the values of a set of digits, in order -/
def vals (mask : Nat) : List S := ((List.range 10).filter fun d => mask.testBit d).map vS
/-- what the model is behind puts of the digits of mask, d the last one (10: none) -/
def stA (mask last : Nat) : ModA := ⟨[([], ⟨0, if last = 10 then [] else [([107], [vS last])]⟩), ([100], ⟨1, if mask = 0 then [] else [([107], vals mask)]⟩)], [], [], [], false⟩
def baseEq (a b : BaseA) : Bool := decide (a.flags = b.flags) && (a.m == b.m)
def modEq (a b : ModA) : Bool := decide (a.db = b.db) && decide (a.ek = b.ek) && decide (a.ev = b.ev) && (a.on == b.on) && (a.l.map (·.1) == b.l.map (·.1)) && ((a.l.zip b.l).all fun p => baseEq p.1.2 p.2.2) && (a.l.length == b.l.length)
def allN (n : Nat) (f : Nat → Bool) : Bool := @Nat.rec (fun _ => Bool) true (fun k ih => f k && ih) n
def putD (x : Nat) : OpA := ⟨9, [100], [107], vS x, 0, 0⟩
def putM (x : Nat) : OpA := ⟨9, [], [107], vS x, 0, 0⟩
/-- what the search for a value's place tells: is it there; the row with it -/
def placeOk (mask x : Nat) : Bool := (thereA (vals mask) (vS x) == mask.testBit x) && (mask.testBit x || ((vals mask).take (placeA (vals mask) (vS x)) ++ vS x :: (vals mask).drop (placeA (vals mask) (vS x))) == vals (mask ||| (1 <<< x))) && decide ((vals mask).length < 12) && (decide (mask = 0) || !(vals mask == []))
def allF (a n : Nat) (f : Nat → Bool) : Bool := allN n fun k => f (a + k)
theorem allN_at {f : Nat → Bool} : ∀ {n : Nat}, allN n f = true → ∀ k, k < n → f k = true
  | 0, _, k, hk => absurd hk (by omega)
  | n + 1, h, k, hk => by
    have h : (f n && allN n f) = true := h
    rw [Bool.and_eq_true] at h
    by_cases e : k = n
    · subst e; exact h.1
    · exact allN_at h.2 k (by omega)
theorem pl0 : allF 0 128 (fun mask => allN 10 fun x => placeOk mask x) = true := by decide +kernel
theorem pl1 : allF 128 128 (fun mask => allN 10 fun x => placeOk mask x) = true := by decide +kernel
theorem pl2 : allF 256 128 (fun mask => allN 10 fun x => placeOk mask x) = true := by decide +kernel
theorem pl3 : allF 384 128 (fun mask => allN 10 fun x => placeOk mask x) = true := by decide +kernel
theorem pl4 : allF 512 128 (fun mask => allN 10 fun x => placeOk mask x) = true := by decide +kernel
theorem pl5 : allF 640 128 (fun mask => allN 10 fun x => placeOk mask x) = true := by decide +kernel
theorem pl6 : allF 768 128 (fun mask => allN 10 fun x => placeOk mask x) = true := by decide +kernel
theorem pl7 : allF 896 128 (fun mask => allN 10 fun x => placeOk mask x) = true := by decide +kernel
theorem place_ok (mask x : Nat) (hm : mask < 1024) (hx : x < 10) : placeOk mask x = true := by
  have key : ∀ q, allF (128 * q) 128 (fun mask => allN 10 fun x => placeOk mask x) = true → 128 * q ≤ mask → mask < 128 * q + 128 → placeOk mask x = true := fun q h h1 h2 => by
    have := allN_at (allN_at h (mask - 128 * q) (by omega)) x hx
    rwa [show 128 * q + (mask - 128 * q) = mask by omega] at this
  have : mask / 128 = 0 ∨ mask / 128 = 1 ∨ mask / 128 = 2 ∨ mask / 128 = 3 ∨ mask / 128 = 4 ∨ mask / 128 = 5 ∨ mask / 128 = 6 ∨ mask / 128 = 7 := by omega
  rcases this with h | h | h | h | h | h | h | h
  · exact key 0 pl0 (by omega) (by omega)
  · exact key 1 pl1 (by omega) (by omega)
  · exact key 2 pl2 (by omega) (by omega)
  · exact key 3 pl3 (by omega) (by omega)
  · exact key 4 pl4 (by omega) (by omega)
  · exact key 5 pl5 (by omega) (by omega)
  · exact key 6 pl6 (by omega) (by omega)
  · exact key 7 pl7 (by omega) (by omega)
theorem name_d : doA newA ⟨11, [100], [], [], 1, 0⟩ = (stA 0 10, ⟨0, [], []⟩) := by rfl
theorem k1 : sameK ([] : S) ([] : S) = true := by decide
theorem k2 : sameK ([] : S) ([100] : S) = false := by decide
theorem k3 : sameK ([100] : S) ([100] : S) = true := by decide
theorem k4 : sameK ([100] : S) ([] : S) = false := by decide
theorem k5 : sameK ([107] : S) ([107] : S) = true := by decide
theorem k6 : sameK ([107] : S) ([100] : S) = false := by decide
theorem k7 : sameK ([100] : S) ([107] : S) = false := by decide
theorem k8 : sameK ([] : S) ([107] : S) = false := by decide
theorem s1 : shortB ([100] : S) = true := by decide
theorem s2 : shortB ([107] : S) = true := by decide
/-- the model, its two databases told -/
def mm (M D : List (S × List S)) : ModA := ⟨[([], ⟨0, M⟩), ([100], ⟨1, D⟩)], [], [], [], false⟩
theorem find_d (M D : List (S × List S)) (h : mget ([100] : S) M = none) : findA (mm M D) [100] = (some ⟨1, D⟩, 0) := by
  simp [findA, mm, mainA, mget_cons, k1, k2, k3, k4, s1, h]
theorem find_m (M D : List (S × List S)) : findA (mm M D) [] = (some ⟨0, M⟩, 0) := by
  simp [findA, mm, mget_cons, k1]
theorem values_d (M D : List (S × List S)) (h : mget ([100] : S) M = none) (v : S) (f : Int) : valuesA (mm M D) ⟨9, [100], [107], v, f, 0⟩ = match mget ([107] : S) D with | none => (some ⟨1, D⟩, [], 21) | some l => (some ⟨1, D⟩, l, 0) := by
  simp [valuesA, find_d M D h, s2]
  rfl
theorem values_m (M D : List (S × List S)) (v : S) (f : Int) : valuesA (mm M D) ⟨9, [], [107], v, f, 0⟩ = match mget ([107] : S) M with | none => (some ⟨0, M⟩, [], 21) | some l => (some ⟨0, M⟩, l, 0) := by
  simp [valuesA, find_m M D, s2, mm, mget_cons, k7, k8, mget_nil]
  rfl
theorem set_d (M D D' : List (S × List S)) : setBase (mm M D) [100] ⟨1, D'⟩ = mm M D' := by
  simp [setBase, mm, mset, k2, k3]
theorem set_m (M D M' : List (S × List S)) : setBase (mm M D) [] ⟨0, M'⟩ = mm M' D := by
  simp [setBase, mm, mset, k1, k4]
theorem put_d0 (M : List (S × List S)) (h : mget ([100] : S) M = none) (v : S) (hv : v ≠ [] ∧ v.length ≤ 12) : putA (mm M []) ⟨9, [100], [107], v, 0, 0⟩ = (mm M [([107], [v])], 0) := by
  have h12 : ¬ 12 < v.length := by omega
  have ha : andB 0 1 = false := by decide
  have hb : andB 0 2 = false := by decide
  have ht : thereA [] v = false := by simp [thereA]
  simp [putA, find_d M [] h, values_d M [] h, mget_nil, ha, hb, hv.1, h12, ht, mput, mdel, mins, set_d]
theorem put_dL (M : List (S × List S)) (h : mget ([100] : S) M = none) (L : List S) (hl : L.length < 12) (v : S) (hv : v ≠ [] ∧ v.length ≤ 12) : putA (mm M [([107], L)]) ⟨9, [100], [107], v, 0, 0⟩ = if thereA L v = true then (mm M [([107], L)], 0) else (mm M [([107], L.take (placeA L v) ++ v :: L.drop (placeA L v))], 0) := by
  have h12 : ¬ 12 < v.length := by omega
  have hl' : ¬ 12 ≤ L.length := by omega
  have ha : andB 0 1 = false := by decide
  have hb : andB 0 2 = false := by decide
  simp [putA, find_d M _ h, values_d M _ h, mget_cons, k5, ha, hb, hv.1, h12, hl', mput, mdel, mins, set_d]
theorem put_m0 (D : List (S × List S)) (v : S) (hv : v.length ≤ 1000) : putA (mm [] D) ⟨9, [], [107], v, 0, 0⟩ = (mm [([107], [v])] D, 0) := by
  have h12 : ¬ 1000 < v.length := by omega
  simp [putA, find_m, values_m, mget_nil, h12, mput, mdel, mins, set_m]
theorem put_m1 (D : List (S × List S)) (L : List S) (v : S) (hv : v.length ≤ 1000) : putA (mm [([107], L)] D) ⟨9, [], [107], v, 0, 0⟩ = (mm [([107], [v])] D, 0) := by
  have h12 : ¬ 1000 < v.length := by omega
  have ha : andB 0 1 = false := by decide
  simp [putA, find_m, values_m, mget_cons, k5, h12, ha, mput, mdel, mins, set_m]
theorem doA_put (A B : ModA) (db key v : S) (h : putA A ⟨9, db, key, v, 0, 0⟩ = (B, 0)) : doA A ⟨9, db, key, v, 0, 0⟩ = (B, ⟨0, [], []⟩) := by
  simp [doA, doesA, h]
theorem stA_mm (mask last : Nat) : stA mask last = mm (if last = 10 then [] else [([107], [vS last])]) (if mask = 0 then [] else [([107], vals mask)]) := rfl
theorem vS_ok (x : Nat) : vS x ≠ [] ∧ (vS x).length ≤ 12 := ⟨by simp [vS], by simp [vS]⟩
/-- a put into the database of many values -/
theorem do_d (mask last x : Nat) (hm : mask < 1024) (hx : x < 10) : doA (stA mask last) (putD x) = (stA (mask ||| (1 <<< x)) last, ⟨0, [], []⟩) := by
  have hp := place_ok mask x hm hx
  unfold placeOk at hp
  simp only [Bool.and_eq_true, Bool.or_eq_true, beq_iff_eq, decide_eq_true_eq] at hp
  obtain ⟨⟨⟨h1, h2⟩, h3⟩, h4⟩ := hp
  have hM : mget ([100] : S) (if last = 10 then ([] : List (S × List S)) else [([107], [vS last])]) = none := by
    split
    · rfl
    · rw [mget_cons, k6]; rfl
  have hne : mask ||| (1 <<< x) ≠ 0 := fun h => by
    have := congrArg (fun n => n.testBit x) h
    simp [Nat.testBit_or, Nat.one_shiftLeft, Nat.testBit_two_pow_self] at this
  rw [stA_mm, stA_mm, if_neg hne]
  refine doA_put _ _ _ _ _ ?_
  by_cases h0 : mask = 0
  · subst h0
    rw [if_pos rfl, put_d0 _ hM _ (vS_ok x)]
    have hv : vals 0 = [] := by decide
    rw [hv] at h1 h2
    have : vals (0 ||| (1 <<< x)) = [vS x] := by
      rcases h2 with h2 | h2
      · simp at h2
      · rw [← h2]; simp
    rw [this]
  · rw [if_neg h0, put_dL _ hM _ h3 _ (vS_ok x)]
    by_cases ht : thereA (vals mask) (vS x) = true
    · rw [if_pos ht]
      rw [ht] at h1
      have hb : mask ||| (1 <<< x) = mask := by
        refine Nat.eq_of_testBit_eq fun i => ?_
        rw [Nat.testBit_or, Nat.one_shiftLeft, Nat.testBit_two_pow]
        by_cases hi : x = i
        · subst hi; rw [← h1]; rfl
        · simp [hi]
      rw [hb]
    · rw [if_neg ht]
      have ht' : thereA (vals mask) (vS x) = false := by simpa using ht
      rw [ht'] at h1
      rw [h2.resolve_left (by rw [← h1]; simp)]
/-- a put into the main one -/
theorem do_m (mask last x : Nat) (hx : x < 10) : doA (stA mask last) (putM x) = (stA mask x, ⟨0, [], []⟩) := by
  have hv : (vS x).length ≤ 1000 := by simp [vS]
  have hx' : ¬ x = 10 := by omega
  rw [stA_mm, stA_mm, if_neg hx']
  refine doA_put _ _ _ _ _ ?_
  by_cases hl : last = 10
  · rw [if_pos hl, put_m0 _ _ hv]
  · rw [if_neg hl, put_m1 _ _ _ hv]
/-- what the lists tell -/
theorem list_d (mask last : Nat) : listA (stA mask last) [100] = ((if mask = 0 then [] else (vals mask).map fun v => (([107] : S), v)), true) := by
  unfold listA stA
  rw [mget_cons, k2]
  simp only [Bool.false_eq_true, if_false, mget_cons, k3, if_true, entriesA]
  split <;> simp
theorem list_m (mask last : Nat) : listA (stA mask last) [] = ((if last = 10 then [] else [(([107] : S), vS last)]), true) := by
  unfold listA stA
  rw [mget_cons, k1]
  simp only [if_true, entriesA]
  split <;> simp
/-- how many -/
def cnt (mask : Nat) : Nat := (vals mask).length
def stepOk (mask x : Nat) : Bool := decide (cnt (mask ||| (1 <<< x)) = if mask.testBit x then cnt mask else cnt mask + 1) && decide (mask ||| (1 <<< x) < 1024)
def risesOk (mask : Nat) : Bool := allN 9 (fun j => !decide (j + 1 < cnt mask) || Op.bytesLess ((vals mask).getD j []) ((vals mask).getD (j + 1) []))
theorem st_ok : allN 1024 (fun mask => allN 10 fun x => stepOk mask x) = true := by decide +kernel
theorem ri_ok : allN 1024 risesOk = true := by decide +kernel
theorem cnt_step (mask x : Nat) (hm : mask < 1024) (hx : x < 10) : cnt (mask ||| (1 <<< x)) = (if mask.testBit x then cnt mask else cnt mask + 1) ∧ mask ||| (1 <<< x) < 1024 := by
  have := allN_at (allN_at st_ok mask hm) x hx
  unfold stepOk at this
  simpa using this
theorem rises (mask : Nat) (hm : mask < 1024) (j : Nat) (hj : j + 1 < cnt mask) : Op.bytesLess ((vals mask).getD j []) ((vals mask).getD (j + 1) []) = true := by
  have h10 : cnt mask ≤ 10 := by
    unfold cnt vals
    rw [List.length_map]
    exact Nat.le_trans (List.length_filter_le _ _) (by simp)
  have := allN_at ri_ok mask hm
  unfold risesOk at this
  have := allN_at this j (by omega)
  simpa [hj] using this
end Go.Proofs.YtmkhjmldncegcaaGreatDoor
