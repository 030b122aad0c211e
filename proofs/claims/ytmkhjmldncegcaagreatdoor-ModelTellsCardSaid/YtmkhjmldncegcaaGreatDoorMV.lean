/-
  WALKS: the document's model: Names.
-/
import Derived.Test.YtmkhjmldncegcaaGreatDoorMS
import Derived.Test.YtmkhjmldncegcaaGreatDoorMU
set_option linter.unusedVariables false
set_option linter.unusedSimpArgs false
namespace Go.Proofs.YtmkhjmldncegcaaGreatDoor
open Go.RowKit Go.Maps Go.ChangeMaps Go.MapKept

def insN (l : List S) (n : S) : List S := (l.takeWhile fun x => Op.bytesLess x n) ++ n :: (l.dropWhile fun x => Op.bytesLess x n)
def namesRTo (R : RefA) (j : Nat) : List S := ((R.l.drop 1).take j).foldl (fun l d => insN l d.name) []
theorem namesRTo_all (R : RefA) : namesRTo R (R.l.length - 1) = namesR R := by
  unfold namesRTo
  rw [List.take_of_length_le (by simp)]
  rfl
theorem namesRTo_succ {R : RefA} {j : Nat} (h : j + 1 < R.l.length) : namesRTo R (j + 1) = insN (namesRTo R j) (atR R (j + 1)).name := by
  unfold namesRTo
  have hj : j < (R.l.drop 1).length := by simp; omega
  rw [List.take_succ_eq_append_getElem hj, List.foldl_append]
  have e : (R.l.drop 1)[j] = atR R (j + 1) := by
    unfold atR
    simp [List.getD, List.getElem?_eq_getElem h, Nat.add_comm]
  rw [e]
  rfl
theorem insN_len (l : List S) (n : S) : (insN l n).length = l.length + 1 := by
  unfold insN
  have e : ∀ a b : List S, (a ++ n :: b).length = (a ++ b).length + 1 := fun a b => by simp; omega
  rw [e, List.takeWhile_append_dropWhile]
theorem namesRTo_len (R : RefA) : ∀ j, (namesRTo R j).length ≤ j := by
  intro j
  induction j with
  | zero => simp [namesRTo]
  | succ j ih =>
    by_cases h : j + 1 < R.l.length
    · rw [namesRTo_succ h, insN_len]; omega
    · have e : namesRTo R (j + 1) = namesRTo R j := by
        unfold namesRTo
        rw [List.take_of_length_le (by simp; omega), List.take_of_length_le (by simp; omega)]
      rw [e]; omega
theorem while_at {p : S → Bool} : ∀ {l : List S} {k : Nat}, k ≤ l.length → (∀ q x, q < k → l[q]? = some x → p x = true) → (∀ x, l[k]? = some x → p x = false) → l.takeWhile p = l.take k ∧ l.dropWhile p = l.drop k
  | [], k, hk, _, _ => by simp at hk; subst hk; simp
  | a :: r, 0, hk, _, h => by
    have := h a (by simp)
    rw [List.takeWhile_cons, List.dropWhile_cons, this]
    simp
  | a :: r, k + 1, hk, h1, h2 => by
    have := h1 0 a (by omega) (by simp)
    rw [List.takeWhile_cons, List.dropWhile_cons, this]
    obtain ⟨e1, e2⟩ := while_at (l := r) (k := k) (by simpa using hk) (fun q x hq hx => h1 (q + 1) x (by omega) (by simpa using hx)) (fun x hx => h2 x (by simpa using hx))
    simp [e1, e2]
theorem insN_at {l : List S} {n : S} {k : Nat} (hk : k ≤ l.length) (h1 : ∀ q x, q < k → l[q]? = some x → Op.bytesLess x n = true) (h2 : ∀ x, l[k]? = some x → Op.bytesLess x n = false) : insN l n = l.take k ++ n :: l.drop k := by
  obtain ⟨e1, e2⟩ := while_at (p := fun x => Op.bytesLess x n) hk h1 h2
  unfold insN
  rw [e1, e2]

theorem sl_zero (w : World) (p : Option Addr) (c : Nat) (h : c ≤ maxLen) : Sl w 1 (.slice p 0 c) 0 [] := ⟨by simp, p, c, rfl, Nat.zero_le _, h, fun h => absurd h (Nat.lt_irrefl 0)⟩
theorem extN_grown {w w' : World} (h : w.grownBy w' (Value.ownBlock (.slice none 0 0))) : Ext w w' := Below.grown (Below.refl _ _) h (Nat.le_refl _) (by intro k hk; simp [Value.ownBlock] at hk)
theorem drewW (w : World) : Ext w w.drew := Below.drew (Below.refl _ _)

/-- Cuts of an own row of texts. -/
theorem Sl.cutL {w : World} {b off c n k : Nat} {us : List Value} (h : Sl w 1 (.slice (some ⟨b, off, none⟩) n c) n us) (hk : k ≤ n) : Sl w 1 (.slice (some ⟨b, off, none⟩) k c) k (us.take k) := by
  obtain ⟨hl, p, c', hv, h1, h2, h3⟩ := h
  injection hv with hv1 _ hv3
  subst hv1 hv3
  refine ⟨by rw [List.length_take]; omega, _, _, rfl, by omega, h2, fun h0 => ?_⟩
  obtain ⟨b', off', hp, hc⟩ := h3 (by omega)
  injection hp with hp
  injection hp with hp1 hp2
  subst hp1 hp2
  refine ⟨_, _, rfl, fun j u hu => hc j u ?_⟩
  rw [List.getElem?_take] at hu
  split at hu
  · exact hu
  · cases hu
theorem Sl.cutR {w : World} {b off c n k : Nat} {us : List Value} (h : Sl w 1 (.slice (some ⟨b, off, none⟩) n c) n us) (hk : k ≤ n) : Sl w 1 (.slice (some ⟨b, off + k, none⟩) (n - k) (c - k)) (n - k) (us.drop k) := by
  obtain ⟨hl, p, c', hv, h1, h2, h3⟩ := h
  injection hv with hv1 _ hv3
  subst hv1 hv3
  refine ⟨by rw [List.length_drop]; omega, _, _, rfl, by omega, by omega, fun h0 => ?_⟩
  obtain ⟨b', off', hp, hc⟩ := h3 (by omega)
  injection hp with hp
  injection hp with hp1 hp2
  subst hp1 hp2
  refine ⟨_, _, rfl, fun j u hu => ?_⟩
  rw [Nat.add_assoc]
  refine hc (k + j) u ?_
  rwa [List.getElem?_drop] at hu

set_option maxHeartbeats 8000000 in
set_option maxRecDepth 100000 in
theorem namesr_any (σ : Sig) (i rb : Nat) (L : List (DBA × Value)) (Lv : Value) (R : RefA) (w : World) (hR : RefIs w σ i rb L Lv R) (hl0 : 0 < R.l.length) (hl : R.l.length ≤ 1000) :
    Calls Tryz.prog 30 #[.pointer (some ⟨rb, 0, none⟩)] w fun r w' => ∃ v, r = .returned v ∧ w'.ownsRow w.heap.size 9 1 v (namesR R).length ((namesR R).map encStr) ∧ Ext w w' := by
  have HDB : Hid (∀ q, q < R.l.length → ∃ b off c, Lv = .slice (some ⟨b, off, none⟩) R.l.length c ∧ R.l.length ≤ c ∧ w.cell? ⟨rb, 0, none⟩ = some (.slice (some ⟨b, off, none⟩) R.l.length c) ∧ w.cell? ⟨b, off + q * 3, none⟩ = some (encStr (atR R q).name)) := fun q hq => by
    obtain ⟨ev, b, off, c, h0, _, h1, _, c0, c1, _⟩ := hR.db hq
    exact ⟨b, off, c, h0, h1, c0, c1⟩
  obtain ⟨b, off, c, rfl, h1, c0, _⟩ := HDB.out 0 hl0
  have HC1 : Hid (∀ q, q < R.l.length → w.cell? ⟨b, off + q * 3, none⟩ = some (encStr (atR R q).name)) := fun q hq => by
    obtain ⟨b', off', c', h0, _, _, h4⟩ := HDB.out q hq
    injection h0 with h0 _ _
    injection h0 with h0
    injection h0 with h5 h6
    subst h5 h6
    exact h4
  have HC0 := Lib.hid c0
  have hAll := Lib.hid (namesRTo_all R)
  obtain ⟨m, hm⟩ : ∃ m, R.l.length = m := ⟨_, rfl⟩
  have HSU : Hid (∀ j, j + 1 < m → namesRTo R (j + 1) = insN (namesRTo R j) (atR R (j + 1)).name) := fun j hj => namesRTo_succ (by omega)
  rw [hm] at hl0 hl h1 c0 HC0 HC1 hAll
  clear HDB hm hR
  go_enter Tryz.func30, Tryz.ntmps30
  go_wp2_with fail
  go_loopw [3, 4] (fun v i wr => ∃ j : Nat, j + 1 ≤ m ∧ i = .int .i64 ((j : Int) + 1) ∧ NameRel w (namesRTo R j) v wr) (fun _ i _ => m - (intOf i).toNat)
  case atStart => exact ⟨0, by omega, rfl, owns_nil _ _ _ _, Ext.rfl' _⟩
  case round =>
    obtain ⟨j, hj, rfl, hrr⟩ := hrel
    obtain ⟨wo, rfl⟩ : ∃ wo : World, wo = wr := ⟨_, rfl⟩
    have HRR := Lib.hid hrr
    have d0 := hrr.2.cell HC0.out
    have hnl := namesRTo_len R j
    by_cases hlt : j + 1 < m
    · have k1 : decide ((j : Int) + 1 < (m : Int)) = true := decide_eq_true (by omega)
      have k5 : (0 : Int) ≤ (j : Int) + 1 := by omega
      have k6 : (j : Int) + 1 < (m : Int) := by omega
      have k7 : ((j : Int) + 1).toNat = j + 1 := by omega
      have hd1 := hrr.2.cell (HC1.out (j + 1) hlt)
      have HS := Lib.hid (HSU.out j hlt)
      generalize hN : (atR R (j + 1)).name = nm at *
      generalize hX : namesRTo R j = xs at *
      have HD := Lib.hid (And.intro d0 hd1)
      clear hN hX hd1
      rcases hrr.1.2 with ⟨hv, h0⟩ | ⟨g, cc, cur, rfl, _, _, g1, g2, _⟩
      · subst hv
        have hxs : xs = [] := List.eq_nil_of_length_eq_zero h0
        subst hxs
        have a0 := HD.out.1
        have a1 := HD.out.2
        clear hrr d0 h0
        go_wp2_with fail
        refine wp_loop_rounds 1 ?_
        rw [rounds_succ]
        go_wp2_with fail
        go_quiet (fail)
        generalize hW : wo.drewN nq = W
        have hwW : Ext wo W := by rw [← hW]; exact Ext.drewN _ _
        have HW := Lib.hid hwW
        have a0' := hwW.cell a0
        have a1' := hwW.cell a1
        clear hW a0 a1 hwW
        have a2' := (drewW W).cell a0'
        have a3' := (drewW W).cell a1'
        have HXW := Lib.hid (Ext.step HRR.out.2 HW.out)
        have HK : Hid (∀ W', Ext W W' → (Ext W W' ∧ W'.cell? ⟨rb, 0, none⟩ = some (.slice (some ⟨b, off, none⟩) m c) ∧ W'.cell? ⟨b, off + (j + 1) * 3, none⟩ = some (encStr nm))) := fun W' e => ⟨e, e.cell a0', e.cell a1'⟩
        have HIN : Hid (insN [] nm = [nm]) := rfl
        have hone : ∀ zs : List S, ∀ u ∈ zs.map encStr, u.oneCell' = true := fun zs u hu => by
          obtain ⟨x, _, rfl⟩ := List.mem_map.1 hu; rfl
        have HONE := Lib.hid hone
        clear hone
        go_wp2_with fail
        go_region_held3 (fun w' => Ext W w' ∧ w'.cell? ⟨rb, 0, none⟩ = some (.slice (some ⟨b, off, none⟩) m c) ∧ w'.cell? ⟨b, off + (j + 1) * 3, none⟩ = some (encStr nm)) (first | with_reducible exact HK.out _ ex3 | with_reducible exact HK.out _ ex2 | with_reducible exact HK.out _ ex1 | with_reducible exact HK.out _ (drewW W) | with_reducible exact HK.out _ (Ext.rfl' W) | with_reducible exact HK.out _ (Ext.alloc ex1 _) | with_reducible exact HK.out _ (Ext.alloc (Ext.rfl' W) _).drew | with_reducible exact HK.out _ (Ext.alloc (drewW W) _) | with_reducible exact HK.out _ (Ext.alloc (Ext.rfl' W) _))
          (first
            | (refine step_append_sl _ (by rfl) _ _ _ (by rfl) W.heap.size textsEl v2 _ _ (by rfl) hown2 _ 0 [] (by rfl) (sl_zero _ _ _ (Nat.zero_le _)) (fun u hu => by cases hu) (by unfold maxLen; omega) (by omega) ex2.size ?_; intro v3 w3 hown3 hgrow3 hat3; have ex3 := below_append ex2 ex2.size hown2 hgrow3)
            | (refine step_append_sl _ (by rfl) _ _ _ (by rfl) W.heap.size textsEl v1 _ _ (by rfl) (by first | exact hown1 | exact hown1.alloc _) _ 1 [encStr nm] (by rfl) (by first | exact Sl.new1 _ _ _ | exact ((Sl.new1 W _ _).ext (drewW _)).ext fx1) (text_one _) (by unfold maxLen; omega) (by omega) (by have := ex1.size; first | exact this | (simp; omega)) ?_; intro v2 w2 hown2 hgrow2 hat2; have ex2 : Ext W w2 := (by first | exact below_append ex1 ex1.size hown1 hgrow2 | exact below_append (Ext.alloc ex1 _) (by have := ex1.size; simp; omega) (hown1.alloc _) hgrow2))
            | (refine step_append_sl _ (by rfl) _ _ _ (by rfl) W.heap.size textsEl (.slice none 0 0) 0 [] (by rfl) (owns_nil _ _ _ _) (.slice none 0 0) 0 [] (by rfl) (sl_zero _ _ _ (Nat.zero_le _)) (fun u hu => by cases hu) (by unfold maxLen; omega) (by omega) (by first | exact Nat.le_refl _ | simp) ?_; intro v1 w1 hown1 hgrow1 hat1; have fx1 := extN_grown hgrow1; have ex1 : Ext W w1 := (by first | exact Ext.step (drewW W) fx1 | exact Ext.step ((Ext.alloc (Ext.rfl' W) _).drew) fx1)))
        all_goals
          have HO3 := Lib.hid hown3
          have HE3 := Lib.hid ex3
          clear hown3 ex3 hown2 hown1 ex1 ex2 fx1 hgrow1 hgrow2 hgrow3 hat1 hat2 hat3
          go_wp2_with fail
          go_roundw
          case rel =>
            refine ⟨j + 1, by omega, by go_num, ?_⟩
            rw [HS.out, HIN.out]
            exact ⟨HO3.out.base HXW.out.size, Ext.step HXW.out HE3.out⟩
          case measure => simp [intOf]; omega
      have HG : Hid (∀ t x, xs[t]? = some x → wo.cell? ⟨g, 0 + t, none⟩ = some (encStr x)) := fun t x ht => by
        obtain ⟨_, p, cc', hv, _, _, h3⟩ := Sl.ofOwns hrr.1
        injection hv with hv1 _ hv3
        subst hv1
        obtain ⟨b', off', hp, hc⟩ := h3 (by have := (List.getElem?_eq_some_iff.1 ht).1; omega)
        injection hp with hp
        injection hp with hp1 hp2
        subst hp1 hp2
        exact hc t _ (by rw [List.getElem?_map, ht]; rfl)
      clear hrr
      go_wp2_with fail
      go_loopw [5] (fun q wr2 => ∃ k : Nat, k ≤ xs.length ∧ q = .int .i64 k ∧ Ext wo wr2 ∧ ∀ t x, t < k → xs[t]? = some x → Op.bytesLess x nm = true) (fun q _ => xs.length - (intOf q).toNat)
      case atStart => exact ⟨0, by omega, rfl, Ext.rfl' _, fun t x ht => by omega⟩
      case round =>
        obtain ⟨k, hk, rfl, hex, hless⟩ := hrel
        obtain ⟨wi, rfl⟩ : ∃ wo : World, wo = wr := ⟨_, rfl⟩
        have a0 := hex.cell HD.out.1
        have a1 := hex.cell HD.out.2
        have HEX := Lib.hid hex
        have HLE := Lib.hid hless
        clear hless d0
        by_cases hkl : k < xs.length
        · obtain ⟨x, hx⟩ : ∃ x, xs[k]? = some x := ⟨_, List.getElem?_eq_getElem hkl⟩
          have ax := hex.cell (HG.out k x hx)
          rw [Nat.zero_add] at ax
          have HX := Lib.hid hx
          clear hx hex
          cases hb : Op.bytesLess x nm with
          | true =>
            go_wp2_with fail
            go_quiet (fail)
            have HXN : Hid (Ext wo (wi.drewN nq)) := Ext.step HEX.out (Ext.drewN _ _)
            go_wp2_with fail
            go_roundw
            case rel => exact ⟨k + 1, by omega, by go_num, HXN.out, fun t y ht hy => by
              by_cases e : t = k
              · subst e; have := HX.out; rw [hy] at this; injection this with this; subst this; exact hb
              · exact HLE.out t y (by omega) hy⟩
            case measure => simp [intOf]; omega
          | false =>
            go_wp2_with fail
            go_quiet (fail)
            generalize hW : wi.drewN nq = W
            have hwW : Ext wi W := by rw [← hW]; exact Ext.drewN _ _
            have HW := Lib.hid (Ext.step HEX.out hwW)
            have a0' := hwW.cell a0
            have a1' := hwW.cell a1
            clear hW a0 a1 ax hwW
            have a2' := (drewW W).cell a0'
            have a3' := (drewW W).cell a1'
            have HXW := Lib.hid (Ext.step HRR.out.2 HW.out)
            have hsl := (Sl.ofOwns HRR.out.1).ext HW.out
            have HT : Hid (∀ W', Ext W W' → Sl W' 1 (.slice (some ⟨g, 0, none⟩) k cc) k ((xs.take k).map encStr)) := fun W' e => by
              have := (hsl.cutL hk).ext e; rwa [← List.map_take] at this
            have HDr : Hid (∀ W', Ext W W' → Sl W' 1 (.slice (some ⟨g, k, none⟩) (xs.length - k) (cc - k)) (xs.length - k) ((xs.drop k).map encStr)) := fun W' e => by
              have := (hsl.cutR hk).ext e; rw [Nat.zero_add] at this; rwa [← List.map_drop] at this
            have HK : Hid (∀ W', Ext W W' → (Ext W W' ∧ W'.cell? ⟨rb, 0, none⟩ = some (.slice (some ⟨b, off, none⟩) m c) ∧ W'.cell? ⟨b, off + (j + 1) * 3, none⟩ = some (encStr nm))) := fun W' e => ⟨e, e.cell a0', e.cell a1'⟩
            have HIN := Lib.hid (insN_at (n := nm) hk HLE.out fun y hy => by rw [HX.out] at hy; injection hy with hy; subst hy; exact hb)
            have hone : ∀ zs : List S, ∀ u ∈ zs.map encStr, u.oneCell' = true := fun zs u hu => by
              obtain ⟨x, _, rfl⟩ := List.mem_map.1 hu; rfl
            have HONE := Lib.hid hone
            have b1 : (0 : Int) ≤ (k : Int) := by omega
            have b2 : (k : Int) ≤ (cc : Int) := by omega
            have b3 : (k : Int) ≤ (xs.length : Int) := by omega
            have b4 : ¬ cc = k := by omega
            clear hsl hone
            go_wp2_with fail
            go_region_held3 (fun w' => Ext W w' ∧ w'.cell? ⟨rb, 0, none⟩ = some (.slice (some ⟨b, off, none⟩) m c) ∧ w'.cell? ⟨b, off + (j + 1) * 3, none⟩ = some (encStr nm)) (first | with_reducible exact HK.out _ ex3 | with_reducible exact HK.out _ ex2 | with_reducible exact HK.out _ ex1 | with_reducible exact HK.out _ (drewW W) | with_reducible exact HK.out _ (Ext.rfl' W) | with_reducible exact HK.out _ (Ext.alloc ex1 _) | with_reducible exact HK.out _ (Ext.alloc (Ext.rfl' W) _).drew | with_reducible exact HK.out _ (Ext.alloc (drewW W) _) | with_reducible exact HK.out _ (Ext.alloc (Ext.rfl' W) _))
              (first
                | (refine step_append_sl _ (by rfl) _ _ _ (by rfl) W.heap.size textsEl v2 _ _ (by rfl) hown2 _ (xs.length - k) ((xs.drop k).map encStr) (by rfl) (HDr.out _ ex2) (HONE.out _) (by unfold maxLen; omega) (by omega) ex2.size ?_; intro v3 w3 hown3 hgrow3 hat3; have ex3 := below_append ex2 ex2.size hown2 hgrow3)
                | (refine step_append_sl _ (by rfl) _ _ _ (by rfl) W.heap.size textsEl v1 _ _ (by rfl) (by first | exact hown1 | exact hown1.alloc _) _ 1 [encStr nm] (by rfl) (by first | exact Sl.new1 _ _ _ | exact ((Sl.new1 W _ _).ext (drewW _)).ext fx1) (text_one _) (by unfold maxLen; omega) (by omega) (by have := ex1.size; first | exact this | (simp; omega)) ?_; intro v2 w2 hown2 hgrow2 hat2; have ex2 : Ext W w2 := (by first | exact below_append ex1 ex1.size hown1 hgrow2 | exact below_append (Ext.alloc ex1 _) (by have := ex1.size; simp; omega) (hown1.alloc _) hgrow2))
                | (refine step_append_sl _ (by rfl) _ _ _ (by rfl) W.heap.size textsEl (.slice none 0 0) 0 [] (by rfl) (owns_nil _ _ _ _) (.slice (some ⟨g, 0, none⟩) k cc) k ((xs.take k).map encStr) (by rfl) (by first | exact HT.out _ (drewW W) | exact HT.out _ ((Ext.alloc (Ext.rfl' W) _).drew)) (HONE.out _) (by unfold maxLen; omega) (by omega) (by first | exact Nat.le_refl _ | simp) ?_; intro v1 w1 hown1 hgrow1 hat1; have fx1 := extN_grown hgrow1; have ex1 : Ext W w1 := (by first | exact Ext.step (drewW W) fx1 | exact Ext.step ((Ext.alloc (Ext.rfl' W) _).drew) fx1)))
            all_goals
              have HO3 := Lib.hid hown3
              have HE3 := Lib.hid ex3
              clear hown3 ex3 hown2 hown1 ex1 ex2 fx1 hgrow1 hgrow2 hgrow3 hat1 hat2 hat3
              go_wp2_with fail
              go_roundw
              case rel =>
                refine ⟨j + 1, by omega, by go_num, ?_⟩
                rw [HS.out, HIN.out]
                have e1 : (xs.take k ++ nm :: xs.drop k).length = 0 + k + 1 + (xs.length - k) := by simp; omega
                have e2 : (xs.take k ++ nm :: xs.drop k).map encStr = [] ++ (xs.take k).map encStr ++ [encStr nm] ++ (xs.drop k).map encStr := by simp
                refine ⟨?_, Ext.step HXW.out HE3.out⟩
                rw [e1, e2]
                exact HO3.out.base HXW.out.size
              case measure => simp [intOf]; omega
        · have HKE : Hid (xs.length = k) := by show _ = _; omega
          have k2 : decide ((k : Int) < (xs.length : Int)) = false := decide_eq_false (by omega)
          have k3 : xs.length ≤ k := by omega
          clear hex
          by_cases hcc : cc = k
          · have hcc' := hcc.symm
            subst hcc'
            clear hcc
            go_wp2_with fail
            go_quiet (fail)
            generalize hW : wi.drewN nq = W
            have hwW : Ext wi W := by rw [← hW]; exact Ext.drewN _ _
            have HW := Lib.hid (Ext.step HEX.out hwW)
            have a0' := hwW.cell a0
            have a1' := hwW.cell a1
            clear hW a0 a1 hwW k2 k3 hkl
            have a2' := (drewW W).cell a0'
            have a3' := (drewW W).cell a1'
            have HXW := Lib.hid (Ext.step HRR.out.2 HW.out)
            have hsl := (Sl.ofOwns HRR.out.1).ext HW.out
            have HT : Hid (∀ W', Ext W W' → Sl W' 1 (.slice (some ⟨g, 0, none⟩) k k) k ((xs.take k).map encStr)) := fun W' e => by
              have := (hsl.cutL hk).ext e; rwa [← List.map_take] at this
            have HDr : Hid (∀ W', Ext W W' → Sl W' 1 (.slice (some ⟨g, k, none⟩) (xs.length - k) (k - k)) (xs.length - k) ((xs.drop k).map encStr)) := fun W' e => by
              have := (hsl.cutR hk).ext e; rw [Nat.zero_add] at this; rwa [← List.map_drop] at this
            have HDz : Hid (∀ W' p, Sl W' 1 (.slice p (xs.length - k) 0) (xs.length - k) ((xs.drop k).map encStr)) := fun W' p => by
              have e : xs.length - k = 0 := by have := HKE.out; omega
              rw [e, List.drop_of_length_le (by have := HKE.out; omega)]
              exact sl_zero _ _ _ (Nat.zero_le _)
            have HK : Hid (∀ W', Ext W W' → (Ext W W' ∧ W'.cell? ⟨rb, 0, none⟩ = some (.slice (some ⟨b, off, none⟩) m c) ∧ W'.cell? ⟨b, off + (j + 1) * 3, none⟩ = some (encStr nm))) := fun W' e => ⟨e, e.cell a0', e.cell a1'⟩
            have HIN := Lib.hid (insN_at (n := nm) hk HLE.out fun y hy => by rw [List.getElem?_eq_none (by have := HKE.out; omega)] at hy; cases hy)
            have hone : ∀ zs : List S, ∀ u ∈ zs.map encStr, u.oneCell' = true := fun zs u hu => by
              obtain ⟨x, _, rfl⟩ := List.mem_map.1 hu; rfl
            have HONE := Lib.hid hone
            have b1 : (0 : Int) ≤ (k : Int) := by omega
            have b2 : (k : Int) ≤ (k : Int) := by omega
            have b3 : (k : Int) ≤ (xs.length : Int) := by omega
            clear hsl hone
            go_wp2_with fail
            go_region_held3 (fun w' => Ext W w' ∧ w'.cell? ⟨rb, 0, none⟩ = some (.slice (some ⟨b, off, none⟩) m c) ∧ w'.cell? ⟨b, off + (j + 1) * 3, none⟩ = some (encStr nm)) (first | with_reducible exact HK.out _ ex3 | with_reducible exact HK.out _ ex2 | with_reducible exact HK.out _ ex1 | with_reducible exact HK.out _ (drewW W) | with_reducible exact HK.out _ (Ext.rfl' W) | with_reducible exact HK.out _ (Ext.alloc ex1 _) | with_reducible exact HK.out _ (Ext.alloc (Ext.rfl' W) _).drew | with_reducible exact HK.out _ (Ext.alloc (drewW W) _) | with_reducible exact HK.out _ (Ext.alloc (Ext.rfl' W) _))
              (first
                | (refine step_append_sl _ (by rfl) _ _ _ (by rfl) W.heap.size textsEl v2 _ _ (by rfl) hown2 _ 0 [] (by rfl) (sl_zero _ _ _ (Nat.zero_le _)) (fun u hu => by cases hu) (by unfold maxLen; omega) (by omega) ex2.size ?_; intro v3 w3 hown3 hgrow3 hat3; have ex3 := below_append ex2 ex2.size hown2 hgrow3)
                | (refine step_append_sl _ (by rfl) _ _ _ (by rfl) W.heap.size textsEl v1 _ _ (by rfl) (by first | exact hown1 | exact hown1.alloc _) _ 1 [encStr nm] (by rfl) (by first | exact Sl.new1 _ _ _ | exact ((Sl.new1 W _ _).ext (drewW _)).ext fx1) (text_one _) (by unfold maxLen; omega) (by omega) (by have := ex1.size; first | exact this | (simp; omega)) ?_; intro v2 w2 hown2 hgrow2 hat2; have ex2 : Ext W w2 := (by first | exact below_append ex1 ex1.size hown1 hgrow2 | exact below_append (Ext.alloc ex1 _) (by have := ex1.size; simp; omega) (hown1.alloc _) hgrow2))
                | (refine step_append_sl _ (by rfl) _ _ _ (by rfl) W.heap.size textsEl (.slice none 0 0) 0 [] (by rfl) (owns_nil _ _ _ _) (.slice (some ⟨g, 0, none⟩) k k) k ((xs.take k).map encStr) (by rfl) (by first | exact HT.out _ (drewW W) | exact HT.out _ ((Ext.alloc (Ext.rfl' W) _).drew)) (HONE.out _) (by unfold maxLen; omega) (by omega) (by first | exact Nat.le_refl _ | simp) ?_; intro v1 w1 hown1 hgrow1 hat1; have fx1 := extN_grown hgrow1; have ex1 : Ext W w1 := (by first | exact Ext.step (drewW W) fx1 | exact Ext.step ((Ext.alloc (Ext.rfl' W) _).drew) fx1)))
            all_goals
              have HO3 := Lib.hid hown3
              have HE3 := Lib.hid ex3
              clear hown3 ex3 hown2 hown1 ex1 ex2 fx1 hgrow1 hgrow2 hgrow3 hat1 hat2 hat3
              go_wp2_with fail
              go_roundw
              case rel =>
                refine ⟨j + 1, by omega, by go_num, ?_⟩
                rw [HS.out, HIN.out]
                have e1 : (xs.take k ++ nm :: xs.drop k).length = 0 + k + 1 + 0 := by have := HKE.out; simp; omega
                have e2 : (xs.take k ++ nm :: xs.drop k).map encStr = [] ++ (xs.take k).map encStr ++ [encStr nm] ++ [] := by rw [List.drop_of_length_le (by have := HKE.out; omega)]; simp
                refine ⟨?_, Ext.step HXW.out HE3.out⟩
                rw [e1, e2]
                exact HO3.out.base HXW.out.size
              case measure => simp [intOf]; omega
          · have hkc : k ≤ cc := by have := HKE.out; omega
            go_wp2_with fail
            go_quiet (fail)
            generalize hW : wi.drewN nq = W
            have hwW : Ext wi W := by rw [← hW]; exact Ext.drewN _ _
            have HW := Lib.hid (Ext.step HEX.out hwW)
            have a0' := hwW.cell a0
            have a1' := hwW.cell a1
            clear hW a0 a1 hwW k2 k3 hkl
            have a2' := (drewW W).cell a0'
            have a3' := (drewW W).cell a1'
            have HXW := Lib.hid (Ext.step HRR.out.2 HW.out)
            have hsl := (Sl.ofOwns HRR.out.1).ext HW.out
            have HT : Hid (∀ W', Ext W W' → Sl W' 1 (.slice (some ⟨g, 0, none⟩) k cc) k ((xs.take k).map encStr)) := fun W' e => by
              have := (hsl.cutL hk).ext e; rwa [← List.map_take] at this
            have HDr : Hid (∀ W', Ext W W' → Sl W' 1 (.slice (some ⟨g, k, none⟩) (xs.length - k) (cc - k)) (xs.length - k) ((xs.drop k).map encStr)) := fun W' e => by
              have := (hsl.cutR hk).ext e; rw [Nat.zero_add] at this; rwa [← List.map_drop] at this
            have HK : Hid (∀ W', Ext W W' → (Ext W W' ∧ W'.cell? ⟨rb, 0, none⟩ = some (.slice (some ⟨b, off, none⟩) m c) ∧ W'.cell? ⟨b, off + (j + 1) * 3, none⟩ = some (encStr nm))) := fun W' e => ⟨e, e.cell a0', e.cell a1'⟩
            have HIN := Lib.hid (insN_at (n := nm) hk HLE.out fun y hy => by rw [List.getElem?_eq_none (by have := HKE.out; omega)] at hy; cases hy)
            have hone : ∀ zs : List S, ∀ u ∈ zs.map encStr, u.oneCell' = true := fun zs u hu => by
              obtain ⟨x, _, rfl⟩ := List.mem_map.1 hu; rfl
            have HONE := Lib.hid hone
            have b1 : (0 : Int) ≤ (k : Int) := by omega
            have b2 : (k : Int) ≤ (cc : Int) := by omega
            have b3 : (k : Int) ≤ (xs.length : Int) := by omega
            have b4 : ¬ cc = k := hcc
            clear hsl hone
            go_wp2_with fail
            go_region_held3 (fun w' => Ext W w' ∧ w'.cell? ⟨rb, 0, none⟩ = some (.slice (some ⟨b, off, none⟩) m c) ∧ w'.cell? ⟨b, off + (j + 1) * 3, none⟩ = some (encStr nm)) (first | with_reducible exact HK.out _ ex3 | with_reducible exact HK.out _ ex2 | with_reducible exact HK.out _ ex1 | with_reducible exact HK.out _ (drewW W) | with_reducible exact HK.out _ (Ext.rfl' W) | with_reducible exact HK.out _ (Ext.alloc ex1 _) | with_reducible exact HK.out _ (Ext.alloc (Ext.rfl' W) _).drew | with_reducible exact HK.out _ (Ext.alloc (drewW W) _) | with_reducible exact HK.out _ (Ext.alloc (Ext.rfl' W) _))
              (first
                | (refine step_append_sl _ (by rfl) _ _ _ (by rfl) W.heap.size textsEl v2 _ _ (by rfl) hown2 _ (xs.length - k) ((xs.drop k).map encStr) (by rfl) (HDr.out _ ex2) (HONE.out _) (by unfold maxLen; omega) (by omega) ex2.size ?_; intro v3 w3 hown3 hgrow3 hat3; have ex3 := below_append ex2 ex2.size hown2 hgrow3)
                | (refine step_append_sl _ (by rfl) _ _ _ (by rfl) W.heap.size textsEl v1 _ _ (by rfl) (by first | exact hown1 | exact hown1.alloc _) _ 1 [encStr nm] (by rfl) (by first | exact Sl.new1 _ _ _ | exact ((Sl.new1 W _ _).ext (drewW _)).ext fx1) (text_one _) (by unfold maxLen; omega) (by omega) (by have := ex1.size; first | exact this | (simp; omega)) ?_; intro v2 w2 hown2 hgrow2 hat2; have ex2 : Ext W w2 := (by first | exact below_append ex1 ex1.size hown1 hgrow2 | exact below_append (Ext.alloc ex1 _) (by have := ex1.size; simp; omega) (hown1.alloc _) hgrow2))
                | (refine step_append_sl _ (by rfl) _ _ _ (by rfl) W.heap.size textsEl (.slice none 0 0) 0 [] (by rfl) (owns_nil _ _ _ _) (.slice (some ⟨g, 0, none⟩) k cc) k ((xs.take k).map encStr) (by rfl) (by first | exact HT.out _ (drewW W) | exact HT.out _ ((Ext.alloc (Ext.rfl' W) _).drew)) (HONE.out _) (by unfold maxLen; omega) (by omega) (by first | exact Nat.le_refl _ | simp) ?_; intro v1 w1 hown1 hgrow1 hat1; have fx1 := extN_grown hgrow1; have ex1 : Ext W w1 := (by first | exact Ext.step (drewW W) fx1 | exact Ext.step ((Ext.alloc (Ext.rfl' W) _).drew) fx1)))
            all_goals
              have HO3 := Lib.hid hown3
              have HE3 := Lib.hid ex3
              clear hown3 ex3 hown2 hown1 ex1 ex2 fx1 hgrow1 hgrow2 hgrow3 hat1 hat2 hat3
              go_wp2_with fail
              go_roundw
              case rel =>
                refine ⟨j + 1, by omega, by go_num, ?_⟩
                rw [HS.out, HIN.out]
                have e1 : (xs.take k ++ nm :: xs.drop k).length = 0 + k + 1 + (xs.length - k) := by simp; omega
                have e2 : (xs.take k ++ nm :: xs.drop k).map encStr = [] ++ (xs.take k).map encStr ++ [encStr nm] ++ (xs.drop k).map encStr := by simp
                refine ⟨?_, Ext.step HXW.out HE3.out⟩
                rw [e1, e2]
                exact HO3.out.base HXW.out.size
              case measure => simp [intOf]; omega
    · have k1 : decide ((j : Int) + 1 < (m : Int)) = false := decide_eq_false (by omega)
      obtain rfl : m = j + 1 := by omega
      clear hrr
      go_wp2_with fail
      go_ret
      rw [← hAll.out]
      exact ⟨_, rfl, HRR.out⟩
end Go.Proofs.YtmkhjmldncegcaaGreatDoor

/-
  WALKS: the document's model: List, seek, next.
-/
set_option linter.unusedVariables false
set_option linter.unusedSimpArgs false
namespace Go.Proofs.YtmkhjmldncegcaaGreatDoor
open Go.RowKit Go.Maps Go.ChangeMaps Go.MapKept

/-- Behind a step of the model's own: what it holds lies where it lay. -/
theorem RefIs.fields {w w' : World} {σ σ' : Sig} {i rb : Nat} {L : List (DBA × Value)} {Lv : Value} {R R' : RefA} (h : RefIs w σ i rb L Lv R) (hi : i ≠ 0) (m : Moved σ i w σ' w') (hl : R'.l = R.l) (hh : w'.heap[rb]? = some (.cells (refCells Lv R') 66 (0, 0))) : RefIs w' σ' i rb L Lv R' :=
  ⟨by rw [m.ext rb (lt_heap h.heap)]; exact h.lab, hh, h.dbs.keep (Keep.ofMoved m (fun e => hi e.symm)), by rw [hl]; exact h.eq⟩

set_option maxHeartbeats 4000000 in
theorem listr_any (σ : Sig) (i rb : Nat) (L : List (DBA × Value)) (Lv : Value) (R : RefA) (db : S) (w : World) (hR : RefIs w σ i rb L Lv R) :
    Calls Tryz.prog 32 #[.pointer (some ⟨rb, 0, none⟩), encStr db] w fun r w' => ∃ v, r = .returned (.tuple #[v, .bool (listR R db).2]) ∧ EntAt w σ v (listR R db).1 ∧ w' = w := by
  have HP := Lib.hid (place_any σ i rb L Lv R db w hR)
  cases hp : placeR R.l db with
  | none =>
    rw [show listR R db = ([], false) from by unfold listR; rw [hp]]
    rw [hp] at HP
    simp only [plI] at HP
    go_enter Tryz.func32, Tryz.ntmps32
    go_wp2_with (first | (go_at_call 53; refine HP.out.mono ?_; rintro e w' ⟨rfl, rfl⟩) | fail)
    go_ret2
    exact ⟨_, rfl, SlF.nil _ _ _, rfl⟩
  | some k =>
    rw [show listR R db = ((atR R k).e, true) from by unfold listR; rw [hp]]
    have hk : k < R.l.length := by obtain ⟨d, hd, _⟩ := place_at hp; exact (List.getElem?_eq_some_iff.1 hd).1
    obtain ⟨ev, b, off, c, rfl, _, h1, h2, c0, c1, c2, c3, hE⟩ := hR.db hk
    have HEN := Lib.hid hE
    have hk0 : ¬ ((k : Int) < 0) := by omega
    rw [hp] at HP
    simp only [plI] at HP
    obtain ⟨pe, ce, rfl⟩ := hE.1.shape
    clear hE hR c1 c2 hp
    go_enter Tryz.func32, Tryz.ntmps32
    go_wp2_with (first | (go_at_call 53; refine HP.out.mono ?_; rintro e w' ⟨rfl, rfl⟩) | fail)
    go_ret2
    exact ⟨_, rfl, HEN.out, rfl⟩

set_option maxHeartbeats 8000000 in
set_option maxRecDepth 100000 in
theorem seekr_any (σ : Sig) (i rb : Nat) (L : List (DBA × Value)) (Lv : Value) (R : RefA) (k : Nat) (key : S) (w : World) (hR : RefIs w σ i rb L Lv R) (hn : Neat w σ) (hi : i ≠ 0) (hk : k < R.l.length) :
    Calls Tryz.prog 29 #[.pointer (some ⟨rb, 0, none⟩), .int .i64 k, encStr key] w fun r w' => r = .returned (repV (seekR R k key).2) ∧ RefIs w' σ i rb L Lv (seekR R k key).1 ∧ Moved σ i w σ w' := by
  have h1' : ∀ o, (w.alloc o).cell? ⟨rb, 1, none⟩ = some (.bool R.on) := fun o => ((Ext.rfl' w).alloc o).cell (by rw [cellAt hR.heap 1]; rfl)
  have f1' : ∀ o, (w.alloc o).frozen? ⟨rb, 1, none⟩ = false := fun o => frozenAt ((((Ext.rfl' w).alloc o).block rb (lt_heap hR.heap)).trans hR.heap) 1
  have o1 : Only rb w (w.setCell ⟨rb, 1, none⟩ (.bool false)) := (Only.refl _ _).setCell 1 _
  have hm : ∀ o, Moved σ i w σ ((w.setCell ⟨rb, 1, none⟩ (.bool false)).alloc o) := fun o => (Moved.ofOnly hn o1 (by rw [hR.lab])).thenExt ((Ext.rfl' _).alloc o)
  have hR1 : ∀ o, RefIs ((w.setCell ⟨rb, 1, none⟩ (.bool false)).alloc o) σ i rb L Lv { R with on := false } := fun o => hR.fields hi (hm o) rfl ((((Ext.rfl' _).alloc o).block rb (by rw [o1.size]; exact lt_heap hR.heap)).trans (heap_setCell_row hR.heap 1 _))
  have hnew : ∀ o, ((w.setCell ⟨rb, 1, none⟩ (.bool false)).alloc o).heap[w.heap.size]? = some o := fun o => by
    have := heap_new (w.setCell ⟨rb, 1, none⟩ (.bool false)) o
    rw [o1.size] at this
    exact this
  have HM := Lib.hid hm
  have HR1 := Lib.hid hR1
  have HNEW := Lib.hid hnew
  have HN := Lib.hid hn
  have hrlt := lt_heap hR.heap
  have HLAB := Lib.hid hR.lab
  have HRW := Lib.hid hR
  clear hR hm hR1 hnew hn o1
  go_enter Tryz.func29, Tryz.ntmps29
  go_wp2_with fail
  have hR1 := HR1.out (.cells #[.int .i64 0, .string ⟨#[]⟩, .string ⟨#[]⟩] 32)
  have hM1 := HM.out (.cells #[.int .i64 0, .string ⟨#[]⟩, .string ⟨#[]⟩] 32)
  have hnew := HNEW.out (.cells #[.int .i64 0, .string ⟨#[]⟩, .string ⟨#[]⟩] 32)
  generalize hW1 : (w.setCell ⟨rb, 1, none⟩ (.bool false)).alloc (.cells #[.int .i64 0, .string ⟨#[]⟩, .string ⟨#[]⟩] 32) = W1 at *
  clear HM HR1 HNEW h1' f1' hW1
  have HR1 := Lib.hid hR1
  have HM1 := Lib.hid hM1
  have HNEW := Lib.hid hnew
  obtain ⟨ev, b, off, c, rfl, _, h1, h2, c0, c1, c2, c3, hE⟩ := hR1.db (k := k) hk
  obtain ⟨⟨_, p, c', rfl, g1, g2, g3⟩, _⟩ := hE
  have hat : atR { R with on := false } k = atR R k := rfl
  rw [hat] at c1 c3 g1 g3
  have HSK : Hid (seekR R k key = match (atR R k).e.find? fun x => geS x.1 key with
    | some x => ({ R with on := true, name := (atR R k).name, ek := x.1, ev := x.2 }, ⟨0, x.1, x.2⟩)
    | none => ({ R with on := false }, ⟨21, [], []⟩)) := rfl
  change R.l.length ≤ c at h1
  change W1.cell? _ = some (.slice _ R.l.length _) at c0
  generalize hEe : (atR R k).e = E at *
  generalize hNe : (atR R k).name = NM at *
  generalize hRl : R.l.length = m at *
  have HC := Lib.hid (And.intro c0 (And.intro c1 c3))
  have HML := Lib.hid hRl
  have HL := Lib.hid g3
  have hcap : E.length ≤ 9223372036854775807 := by unfold maxLen at g2; omega
  clear hR1 hM1 hnew c1 c2 g3 hat hEe hNe hRl
  go_loopw [7] (fun i wr => ∃ j : Nat, j ≤ E.length ∧ i = .int .i64 j ∧ Ext W1 wr ∧ ∀ q y, q < j → E[q]? = some y → geS y.1 key = false) (fun i _ => E.length - (intOf i).toNat)
  case atStart => exact ⟨0, by omega, rfl, Ext.rfl' _, fun k y hk => by omega⟩
  case round =>
    obtain ⟨j, hj, rfl, hew, hnot⟩ := hrel
    obtain ⟨wr, rfl⟩ : ∃ wr' : World, wr' = wr := ⟨_, rfl⟩
    have HNOT := Lib.hid hnot
    have HEW := Lib.hid hew
    have c0 := hew.cell HC.out.1
    have c1 := hew.cell HC.out.2.1
    have c3 := hew.cell HC.out.2.2
    clear hnot
    by_cases hlt : j < E.length
    · obtain ⟨b2, off2, rfl, hcells⟩ := HL.out (by omega)
      obtain ⟨x, y, hxy⟩ : ∃ x y, E[j]? = some (x, y) := ⟨E[j].1, E[j].2, List.getElem?_eq_getElem hlt⟩
      have d0 := hew.cell (hcells _ _ (entCells_at E hxy).1)
      have d1 := hew.cell (hcells _ _ (entCells_at E hxy).2)
      rw [← Nat.add_assoc] at d1
      have HXY := Lib.hid hxy
      have ew2 : Ext W1 (wr.alloc (.cells #[encStr x, encStr y] 51)) := Ext.step hew ((Ext.rfl' wr).alloc _)
      have HEW2 := Lib.hid ew2
      clear hcells hxy hew
      cases hge : geS x key with
      | false =>
        have hbl : Op.bytesLess x key = true := by simpa [geS] using hge
        go_wp2_with fail
        go_roundw
        case rel => exact ⟨j + 1, by omega, by go_num, Ext.alloc HEW.out _, not_step HNOT.out HXY.out hge⟩
        case measure => simp [intOf]; omega
      | true =>
        have hbl : Op.bytesLess x key = false := by simpa [geS] using hge
        have hpb := ew2.block rb (lt_heap HR1.out.heap)
        rw [HR1.out.heap] at hpb
        have HPB := Lib.hid hpb
        have hsz1 : w.heap.size < W1.heap.size := lt_heap HNEW.out
        have hsz2 : W1.heap.size ≤ wr.heap.size := HEW.out.size
        have n1 : ¬ rb = wr.heap.size := by omega
        have n2 : ¬ wr.heap.size = rb := by omega
        have n3 : ¬ rb = w.heap.size := by omega
        have n4 : ¬ w.heap.size = rb := by omega
        have w0 := ew2.cell HC.out.1
        have w1 := ew2.cell HC.out.2.1
        have w2 := cellAt hpb 1
        have w3 := cellAt hpb 2
        have w4 := cellAt hpb 3
        have w5 := cellAt hpb 4
        have f2 := frozenAt hpb 1
        have f3 := frozenAt hpb 2
        have f4 := frozenAt hpb 3
        have f5 := frozenAt hpb 4
        simp [refCells] at w2 w3 w4 w5
        clear ew2 hpb
        go_wp2_with fail
        generalize hW : wr.alloc (Obj.cells #[Value.string ⟨x.toArray⟩, Value.string ⟨y.toArray⟩] 51) = W at *
        have e0 : W.cell? ⟨wr.heap.size, 0, none⟩ = some (encStr x) := by rw [← hW]; exact cellAt (heap_new _ _) 0
        have e1 : W.cell? ⟨wr.heap.size, 1, none⟩ = some (encStr y) := by rw [← hW]; exact cellAt (heap_new _ _) 1
        have hnw : W.heap[w.heap.size]? = _ := (HEW2.out.block _ hsz1).trans HNEW.out
        have HW := Lib.hid hW
        have HNW := Lib.hid hnw
        clear hW hnw d0 d1 c0 c1 c3
        go_big_region
        generalize hV : ((((W.setCell ⟨rb, 1, none⟩ (Value.bool true)).setCell ⟨rb, 2, none⟩ (Value.string ⟨NM.toArray⟩)).setCell ⟨rb, 3, none⟩ (Value.string ⟨x.toArray⟩)).setCell ⟨rb, 4, none⟩ (Value.string ⟨y.toArray⟩)).drew = V
        have oV : Only rb W V := by rw [← hV]; exact (((((Only.refl rb W).setCell 1 _).setCell 2 _).setCell 3 _).setCell 4 _).drewN 1
        have hVb : V.heap[rb]? = some (.cells #[.slice (some ⟨b, off, none⟩) m c, .bool true, encStr NM, encStr x, encStr y] 66 (0, 0)) := by
          rw [← hV]
          exact heap_setCell_row (heap_setCell_row (heap_setCell_row (heap_setCell_row HPB.out 1 _) 2 _) 3 _) 4 _
        have ee0 : V.cell? ⟨wr.heap.size, 0, none⟩ = some (encStr x) := by rw [World.cell?_of_block (w := W) (w' := V) (a := ⟨wr.heap.size, 0, none⟩) (oV.block _ n2)]; exact e0
        have ee1 : V.cell? ⟨wr.heap.size, 1, none⟩ = some (encStr y) := by rw [World.cell?_of_block (w := W) (w' := V) (a := ⟨wr.heap.size, 1, none⟩) (oV.block _ n2)]; exact e1
        have hres := (oV.block _ n4).trans HNW.out
        have r0 := cellAt hres 0
        have r1 := cellAt hres 1
        have r2 := cellAt hres 2
        have q0 := frozenAt hres 0
        have q1 := frozenAt hres 1
        have q2 := frozenAt hres 2
        simp at r0 r1 r2
        have m1 : Moved σ i w σ V := (HM1.out.thenExt HEW2.out).trans (Moved.ofOnly (HM1.out.thenExt HEW2.out).neat oV (by rw [HLAB.out]))
        have HV := Lib.hid (And.intro oV (And.intro hVb (And.intro hres m1)))
        clear oV hVb hV hres m1 e0 e1 w0 w1 w2 w3 w4 w5 f2 f3 f4 f5
        go_wp2
        have hfd : E.find? (fun x => geS x.1 key) = some (x, y) := find_at_ix _ E j (x, y) HXY.out hge HNOT.out
        rw [HSK.out, hfd]
        obtain ⟨oV, hVb, hres, m1⟩ := HV.out
        have o2 := (((Only.refl w.heap.size V).setCell 0 (.int .i64 0)).setCell 1 (.string ⟨x.toArray⟩)).setCell 2 (.string ⟨y.toArray⟩)
        have m2 := Moved.fresh m1 o2 (Nat.le_refl _)
        refine bodyPost_ret (results_cell_row rfl _ _ _ _ _ _ _ rfl (heap_setCell_row (heap_setCell_row (heap_setCell_row hres 0 _) 1 _) 2 _) Tryz.underlying32 rfl reply_size) rfl ⟨rfl, ?_, m2⟩
        have hw := HRW.out
        try rw [HML.out] at hw
        try rw [HML.out]
        exact hw.fields hi m2 rfl ((o2.block rb n3).trans hVb)
    · obtain rfl : j = E.length := by omega
      have hnw := (hew.block w.heap.size (lt_heap HNEW.out)).trans HNEW.out
      have hpb := (hew.block rb (lt_heap HR1.out.heap)).trans HR1.out.heap
      have r0 := cellAt hnw 0
      have r1 := cellAt hnw 1
      have r2 := cellAt hnw 2
      have q0 := frozenAt hnw 0
      have q1 := frozenAt hnw 1
      have q2 := frozenAt hnw 2
      simp at r0 r1 r2
      have HNW := Lib.hid hnw
      have HPB := Lib.hid hpb
      clear hnw hpb hew
      go_wp2
      have hfd : E.find? (fun x => geS x.1 key) = none := List.find?_eq_none.2 fun y hy => by
        obtain ⟨q, hq⟩ := List.getElem?_of_mem hy
        rw [HNOT.out q y (List.getElem?_eq_some_iff.1 hq).1 hq]; simp
      rw [HSK.out, hfd]
      have o2 := (((Only.refl w.heap.size wr).setCell 0 (.int .i64 21)).setCell 1 (.string ⟨#[]⟩)).setCell 2 (.string ⟨#[]⟩)
      have m2 := Moved.fresh (HM1.out.thenExt HEW.out) o2 (Nat.le_refl _)
      refine bodyPost_ret (results_cell_row rfl _ _ _ _ _ _ _ rfl (heap_setCell_row (heap_setCell_row (heap_setCell_row HNW.out 0 _) 1 _) 2 _) Tryz.underlying32 rfl reply_size) rfl ⟨rfl, ?_, m2⟩
      have hw := HRW.out
      try rw [HML.out] at hw
      try rw [HML.out]
      have hpb := HPB.out
      try rw [HML.out] at hpb
      exact hw.fields hi m2 rfl ((o2.block rb (by omega)).trans hpb)

def behR (R : RefA) (D : DBA) (x : S × S) : Bool := gtS x.1 R.ek || (decide (D.flags = 1) && (x.1 == R.ek && gtS x.2 R.ev))

set_option maxHeartbeats 4000000 in
set_option maxRecDepth 100000 in
theorem nextr_off (σ : Sig) (i rb : Nat) (L : List (DBA × Value)) (Lv : Value) (R : RefA) (w : World) (hR : RefIs w σ i rb L Lv R) (ho : R.on = false) :
    Calls Tryz.prog 22 #[.pointer (some ⟨rb, 0, none⟩)] w fun r w' => r = .returned (repV ⟨24, [], []⟩) ∧ Ext w w' := by
  have h1' : ∀ o, (w.alloc o).cell? ⟨rb, 1, none⟩ = some (.bool false) := fun o => ((Ext.rfl' w).alloc o).cell (by rw [cellAt hR.heap 1, ← ho]; rfl)
  have hrow : ∀ a b c, (w.alloc (.cells #[a, b, c] 32)).heap[w.heap.size]? = some (.cells #[a, b, c] 32 (0, 0)) := fun a b c => heap_new w _
  have HROW := Lib.hid hrow
  clear hR hrow ho
  go_enter Tryz.func22, Tryz.ntmps22
  go_wp2_with fail
  exact bodyPost_ret (results_cell_row rfl _ _ _ _ _ _ _ rfl (HROW.out _ _ _) Tryz.underlying32 rfl reply_size) rfl ⟨rfl, (Ext.rfl' w).alloc _⟩

set_option maxHeartbeats 4000000 in
set_option maxRecDepth 100000 in
theorem nextr_err (σ : Sig) (i rb : Nat) (L : List (DBA × Value)) (Lv : Value) (R : RefA) (w : World) (hR : RefIs w σ i rb L Lv R) (hl : 0 < R.l.length) (ho : R.on = true) (he : (findR R R.name).2 ≠ 0) :
    Calls Tryz.prog 22 #[.pointer (some ⟨rb, 0, none⟩)] w fun r w' => r = .returned (repV ⟨(findR R R.name).2, [], []⟩) ∧ Ext w w' := by
  have h1' : ∀ o, (w.alloc o).cell? ⟨rb, 1, none⟩ = some (.bool true) := fun o => ((Ext.rfl' w).alloc o).cell (by rw [cellAt hR.heap 1, ← ho]; rfl)
  have h2' : ∀ o, (w.alloc o).cell? ⟨rb, 2, none⟩ = some (encStr R.name) := fun o => ((Ext.rfl' w).alloc o).cell (by rw [cellAt hR.heap 2]; rfl)
  have hrow : ∀ a b c, (w.alloc (.cells #[a, b, c] 32)).heap[w.heap.size]? = some (.cells #[a, b, c] 32 (0, 0)) := fun a b c => heap_new w _
  have HF := Lib.hid fun o => findr_any σ i rb L Lv R R.name (w.alloc o) (hR.ext ((Ext.rfl' w).alloc o)) hl
  have HROW := Lib.hid hrow
  clear hR hrow ho
  generalize (findR R R.name).2 = c at *
  generalize plI (findR R R.name).1 = q at *
  have hc : (c == 0) = false := by simpa using he
  clear he
  go_enter Tryz.func22, Tryz.ntmps22
  go_wp2_with (first | (go_at_call 25; refine (HF.out _).mono ?_; rintro e w' ⟨rfl, rfl⟩) | fail)
  exact bodyPost_ret (results_cell_row rfl _ _ _ _ _ _ _ rfl (HROW.out _ _ _) Tryz.underlying32 rfl reply_size) rfl ⟨rfl, (Ext.rfl' w).alloc _⟩

set_option maxHeartbeats 8000000 in
set_option maxRecDepth 100000 in
theorem nextr_ok (σ : Sig) (i rb : Nat) (L : List (DBA × Value)) (Lv : Value) (R : RefA) (k : Nat) (w : World) (hR : RefIs w σ i rb L Lv R) (hn : Neat w σ) (hi : i ≠ 0) (hk : k < R.l.length) (ho : R.on = true) (hf : findR R R.name = (some k, 0)) :
    Calls Tryz.prog 22 #[.pointer (some ⟨rb, 0, none⟩)] w fun r w' => r = .returned (repV (nextR R).2) ∧ RefIs w' σ i rb L Lv (nextR R).1 ∧ Moved σ i w σ w' := by
  have h1' : ∀ o, (w.alloc o).cell? ⟨rb, 1, none⟩ = some (.bool true) := fun o => ((Ext.rfl' w).alloc o).cell (by rw [cellAt hR.heap 1, ← ho]; rfl)
  have h2' : ∀ o, (w.alloc o).cell? ⟨rb, 2, none⟩ = some (encStr R.name) := fun o => ((Ext.rfl' w).alloc o).cell (by rw [cellAt hR.heap 2]; rfl)
  have HF : Hid (∀ o, Calls Tryz.prog 25 #[.pointer (some ⟨rb, 0, none⟩), encStr R.name] (w.alloc o) fun e w' => e = .returned (.tuple #[.int .i64 k, .int .i64 0]) ∧ w' = w.alloc o) := fun o => by
    have := findr_any σ i rb L Lv R R.name (w.alloc o) (hR.ext ((Ext.rfl' w).alloc o)) (by omega)
    rw [hf] at this
    exact this
  have HNX : Hid (nextR R = match (atR R k).e.find? (behR R (atR R k)) with | some x => ({ R with ek := x.1, ev := x.2 }, ⟨0, x.1, x.2⟩) | none => (R, ⟨21, [], []⟩)) := by
    show _ = _
    unfold nextR
    rw [hf, if_neg (by rw [ho]; simp), if_neg (by simp)]
    rfl
  have hm : ∀ o, Moved σ i w σ (w.alloc o) := fun o => Moved.ofExt hn ((Ext.rfl' w).alloc o) i
  have hR1 : ∀ o, RefIs (w.alloc o) σ i rb L Lv R := fun o => hR.ext ((Ext.rfl' w).alloc o)
  have HM := Lib.hid hm
  have HR1 := Lib.hid hR1
  have HRW := Lib.hid hR
  have HN := Lib.hid hn
  have hrlt := lt_heap hR.heap
  have HLAB := Lib.hid hR.lab
  clear hR hm hR1 hn hf ho
  go_enter Tryz.func22, Tryz.ntmps22
  go_wp2_with (first | (go_at_call 25; refine (HF.out _).mono ?_; rintro e w' ⟨rfl, rfl⟩) | fail)
  have hR1 := HR1.out (.cells #[.int .i64 0, .string ⟨#[]⟩, .string ⟨#[]⟩] 32)
  have hM1 := HM.out (.cells #[.int .i64 0, .string ⟨#[]⟩, .string ⟨#[]⟩] 32)
  have hnew := heap_new w (.cells #[.int .i64 0, .string ⟨#[]⟩, .string ⟨#[]⟩] 32)
  generalize hW1 : w.alloc (.cells #[.int .i64 0, .string ⟨#[]⟩, .string ⟨#[]⟩] 32) = W1 at *
  clear HM HR1 HF h1' h2' hW1
  have HR1 := Lib.hid hR1
  have HM1 := Lib.hid hM1
  have HNEW := Lib.hid hnew
  obtain ⟨ev, b, off, c, rfl, _, h1, h2, c0, c1, c2, c3, hE⟩ := hR1.db (k := k) hk
  obtain ⟨⟨_, p, c', rfl, g1, g2, g3⟩, _⟩ := hE
  generalize hD : atR R k = D at *
  generalize hEe : D.e = E at *
  generalize hRl : R.l.length = m at *
  have HC := Lib.hid (And.intro c0 (And.intro c2 c3))
  have HML := Lib.hid hRl
  have HL := Lib.hid g3
  have hcap : E.length ≤ 9223372036854775807 := by unfold maxLen at g2; omega
  clear hR1 hM1 hnew c1 c2 g3 hD hEe hRl
  go_loopw [5] (fun i wr => ∃ j : Nat, j ≤ E.length ∧ i = .int .i64 j ∧ Ext W1 wr ∧ ∀ q y, q < j → E[q]? = some y → behR R D y = false) (fun i _ => E.length - (intOf i).toNat)
  case atStart => exact ⟨0, by omega, rfl, Ext.rfl' _, fun k y hk => by omega⟩
  case round =>
    obtain ⟨j, hj, rfl, hew, hnot⟩ := hrel
    obtain ⟨wr, rfl⟩ : ∃ wr' : World, wr' = wr := ⟨_, rfl⟩
    have HNOT := Lib.hid hnot
    have HEW := Lib.hid hew
    have c0 := hew.cell HC.out.1
    have c2 := hew.cell HC.out.2.1
    have c3 := hew.cell HC.out.2.2
    clear hnot
    by_cases hlt : j < E.length
    · obtain ⟨b2, off2, rfl, hcells⟩ := HL.out (by omega)
      obtain ⟨x, y, hxy⟩ : ∃ x y, E[j]? = some (x, y) := ⟨E[j].1, E[j].2, List.getElem?_eq_getElem hlt⟩
      have d0 := hew.cell (hcells _ _ (entCells_at E hxy).1)
      have d1 := hew.cell (hcells _ _ (entCells_at E hxy).2)
      rw [← Nat.add_assoc] at d1
      have HXY := Lib.hid hxy
      have ew2 : Ext W1 (wr.alloc (.cells #[encStr x, encStr y] 51)) := Ext.step hew ((Ext.rfl' wr).alloc _)
      have HEW2 := Lib.hid ew2
      have hpb := ew2.block rb (lt_heap HR1.out.heap)
      rw [HR1.out.heap] at hpb
      have w0 := ew2.cell HC.out.1
      have w1 := ew2.cell HC.out.2.1
      have w2 := cellAt hpb 3
      have w3 := cellAt hpb 4
      have f2 := frozenAt hpb 3
      have f3 := frozenAt hpb 4
      simp [refCells] at w2 w3
      have HPB := Lib.hid hpb
      have hsz1 : w.heap.size < W1.heap.size := lt_heap HNEW.out
      have hsz2 : W1.heap.size ≤ wr.heap.size := HEW.out.size
      have n1 : ¬ rb = wr.heap.size := by omega
      have n2 : ¬ wr.heap.size = rb := by omega
      have n3 : ¬ rb = w.heap.size := by omega
      have n4 : ¬ w.heap.size = rb := by omega
      clear hcells hxy hew ew2 hpb
      go_wp2_with fail
      generalize hW : wr.alloc (Obj.cells #[Value.string ⟨x.toArray⟩, Value.string ⟨y.toArray⟩] 51) = W at *
      have e0 : W.cell? ⟨wr.heap.size, 0, none⟩ = some (encStr x) := by rw [← hW]; exact cellAt (heap_new _ _) 0
      have e1 : W.cell? ⟨wr.heap.size, 1, none⟩ = some (encStr y) := by rw [← hW]; exact cellAt (heap_new _ _) 1
      have hnw : W.heap[w.heap.size]? = _ := (HEW2.out.block _ hsz1).trans HNEW.out
      have hne : W.heap[wr.heap.size]? = some (Obj.cells #[Value.string ⟨x.toArray⟩, Value.string ⟨y.toArray⟩] 51) := by rw [← hW]; exact heap_new _ _
      have HWE : Hid (Ext wr W) := by show Ext wr W; rw [← hW]; exact (Ext.rfl' wr).alloc _
      have HNW := Lib.hid hnw
      have HNE := Lib.hid hne
      clear hW hnw hne d0 d1 c0 c2 c3
      have hway : ((((Op.bytesLess x R.ek = false ∧ (x == R.ek) = false) ∨ ((x == R.ek) = true ∧ (D.flags == 1) = true ∧ Op.bytesLess y R.ev = false ∧ (y == R.ev) = false)) ∧ behR R D (x, y) = true) ∨
        (((Op.bytesLess x R.ek = true ∧ (x == R.ek) = false ∧ (D.flags == 1) = false) ∨ (Op.bytesLess x R.ek = true ∧ (x == R.ek) = false ∧ (D.flags == 1) = true) ∨ ((x == R.ek) = true ∧ (D.flags == 1) = false) ∨ ((x == R.ek) = true ∧ (D.flags == 1) = true ∧ (y == R.ev) = true) ∨ ((x == R.ek) = true ∧ (D.flags == 1) = true ∧ Op.bytesLess y R.ev = true ∧ (y == R.ev) = false)) ∧ behR R D (x, y) = false)) := by
        unfold behR gtS
        simp only [show decide (D.flags = 1) = (D.flags == 1) from rfl]
        cases Op.bytesLess x R.ek <;> cases (x == R.ek) <;> cases (D.flags == 1) <;> cases Op.bytesLess y R.ev <;> cases (y == R.ev) <;> simp
      rcases hway with ⟨hw, hb⟩ | ⟨hw, hb⟩
      · have HH := Lib.hid hb
        clear hb
        rcases hw with ⟨p1, p2⟩ | ⟨p2, p3, p4, p5⟩
        all_goals
          go_quiet (fail)
          generalize hV : W.drewN nq = V
          have eV : Ext W V := by rw [← hV]; exact Ext.drewN W nq
          have hpb := (eV.block rb (lt_heap HPB.out)).trans HPB.out
          have hres := (eV.block _ (lt_heap HNW.out)).trans HNW.out
          have hne := (eV.block _ (lt_heap HNE.out)).trans HNE.out
          have v2 := cellAt hpb 3
          have v3 := cellAt hpb 4
          have f2 := frozenAt hpb 3
          have f3 := frozenAt hpb 4
          have u0 := cellAt hne 0
          have u1 := cellAt hne 1
          have r0 := cellAt hres 0
          have r1 := cellAt hres 1
          have r2 := cellAt hres 2
          have q0 := frozenAt hres 0
          have q1 := frozenAt hres 1
          have q2 := frozenAt hres 2
          simp [refCells] at v2 v3 u0 u1 r0 r1 r2
          have HP := Lib.hid hpb
          have EV := Lib.hid eV
          have HRS := Lib.hid hres
          clear hV eV hpb hres hne e0 e1 w0 w1 w2 w3
          go_wp2
          rw [HNX.out, find_at_ix _ E j (x, y) HXY.out HH.out HNOT.out]
          have o1 := ((Only.refl rb V).setCell 3 (.string ⟨x.toArray⟩)).setCell 4 (.string ⟨y.toArray⟩)
          have o2 := (((Only.refl w.heap.size ((V.setCell ⟨rb, 3, none⟩ (.string ⟨x.toArray⟩)).setCell ⟨rb, 4, none⟩ (.string ⟨y.toArray⟩))).setCell 0 (.int .i64 0)).setCell 1 (.string ⟨x.toArray⟩)).setCell 2 (.string ⟨y.toArray⟩)
          have m0 : Moved σ i w σ V := HM1.out.thenExt (Ext.step HEW2.out EV.out)
          have m1 := Moved.fresh (m0.trans (Moved.ofOnly m0.neat o1 (by rw [HLAB.out]))) o2 (Nat.le_refl _)
          refine bodyPost_ret (results_cell_row rfl _ _ _ _ _ _ _ rfl (heap_setCell_row (heap_setCell_row (heap_setCell_row ((o1.block _ n4).trans HRS.out) 0 _) 1 _) 2 _) Tryz.underlying32 rfl reply_size) rfl ⟨rfl, ?_, m1⟩
          have hw := HRW.out
          have hp := HP.out
          try rw [HML.out] at hw
          try rw [HML.out] at hp
          try rw [HML.out]
          exact hw.fields hi m1 rfl ((o2.block rb n3).trans (heap_setCell_row (heap_setCell_row hp 3 _) 4 _))
      · have HH := Lib.hid hb
        clear hb
        rcases hw with ⟨p1, p2, p3⟩ | ⟨p1, p2, p3⟩ | ⟨p2, p3⟩ | ⟨p2, p3, p4⟩ | ⟨p2, p3, p4, p5⟩
        all_goals
          go_quiet (fail)
          generalize hV : W.drewN nq = V
          have EV : Hid (Ext W1 V) := by
            have e2 : Ext W V := by rw [← hV]; exact Ext.drewN W nq
            exact Ext.step HEW2.out e2
          clear hV e0 e1 w0 w1 w2 w3
          go_wp2
          go_roundw
          case rel => exact ⟨j + 1, by omega, by go_num, EV.out, not_step HNOT.out HXY.out HH.out⟩
          case measure => simp [intOf]; omega
    · obtain rfl : j = E.length := by omega
      have hnw := (hew.block w.heap.size (lt_heap HNEW.out)).trans HNEW.out
      have hpb := (hew.block rb (lt_heap HR1.out.heap)).trans HR1.out.heap
      have r0 := cellAt hnw 0
      have r1 := cellAt hnw 1
      have r2 := cellAt hnw 2
      have q0 := frozenAt hnw 0
      have q1 := frozenAt hnw 1
      have q2 := frozenAt hnw 2
      simp at r0 r1 r2
      have HNW := Lib.hid hnw
      have HPB := Lib.hid hpb
      clear hnw hpb hew
      go_wp2
      have hfd : E.find? (behR R D) = none := List.find?_eq_none.2 fun y hy => by
        obtain ⟨q, hq⟩ := List.getElem?_of_mem hy
        rw [HNOT.out q y (List.getElem?_eq_some_iff.1 hq).1 hq]; simp
      rw [HNX.out, hfd]
      have o2 := (((Only.refl w.heap.size wr).setCell 0 (.int .i64 21)).setCell 1 (.string ⟨#[]⟩)).setCell 2 (.string ⟨#[]⟩)
      have m2 := Moved.fresh (HM1.out.thenExt HEW.out) o2 (Nat.le_refl _)
      refine bodyPost_ret (results_cell_row rfl _ _ _ _ _ _ _ rfl (heap_setCell_row (heap_setCell_row (heap_setCell_row HNW.out 0 _) 1 _) 2 _) Tryz.underlying32 rfl reply_size) rfl ⟨rfl, ?_, m2⟩
      have hw := HRW.out
      try rw [HML.out] at hw
      try rw [HML.out]
      have hpb := HPB.out
      try rw [HML.out] at hpb
      exact hw.fields hi m2 rfl ((o2.block rb (by omega)).trans hpb)

theorem nextr_any (σ : Sig) (i rb : Nat) (L : List (DBA × Value)) (Lv : Value) (R : RefA) (w : World) (hR : RefIs w σ i rb L Lv R) (hn : Neat w σ) (hi : i ≠ 0) (hl : 0 < R.l.length) :
    Calls Tryz.prog 22 #[.pointer (some ⟨rb, 0, none⟩)] w fun r w' => r = .returned (repV (nextR R).2) ∧ RefIs w' σ i rb L Lv (nextR R).1 ∧ Moved σ i w σ w' := by
  cases ho : R.on with
  | false =>
    rw [show nextR R = (R, ⟨24, [], []⟩) from by unfold nextR; rw [if_pos ho]]
    exact (nextr_off σ i rb L Lv R w hR ho).mono fun e w' ⟨h1, h2⟩ => ⟨h1, hR.ext h2, Moved.ofExt hn h2 i⟩
  | true =>
    by_cases h0 : (findR R R.name).2 = 0
    · have hp : ∃ k, placeR R.l R.name = some k := by
        cases hp : placeR R.l R.name with
        | some k => exact ⟨k, rfl⟩
        | none =>
          rw [findR_none hp] at h0
          split at h0
          · exact absurd h0 (by decide)
          · split at h0 <;> exact absurd h0 (by decide)
      obtain ⟨k, hp⟩ := hp
      have hk : k < R.l.length := by obtain ⟨d, hd, _⟩ := place_at hp; exact (List.getElem?_eq_some_iff.1 hd).1
      exact nextr_ok σ i rb L Lv R k w hR hn hi hk ho (findR_some hp)
    · rw [show nextR R = (R, ⟨(findR R R.name).2, [], []⟩) from by unfold nextR; rw [if_neg (by rw [ho]; simp), if_pos h0]]
      exact (nextr_err σ i rb L Lv R w hR hl ho h0).mono fun e w' ⟨h1, h2⟩ => ⟨h1, hR.ext h2, Moved.ofExt hn h2 i⟩
end Go.Proofs.YtmkhjmldncegcaaGreatDoor

/-
  WALKS: the document's model: name.
-/
set_option linter.unusedVariables false
set_option linter.unusedSimpArgs false
namespace Go.Proofs.YtmkhjmldncegcaaGreatDoor
open Go.RowKit Go.Maps Go.ChangeMaps Go.MapKept

/-- The model's row of databases is put in its block. -/
theorem RefIs.newL {w w3 : World} {σ : Sig} {i rb : Nat} {L L' : List (DBA × Value)} {Lv v3 : Value} {R : RefA} {base : Nat} (h : RefIs w σ i rb L Lv R) (hn : Neat w σ) (hi : i ≠ 0) (e : Ext w w3) (hb : w.heap.size ≤ base) (ho : w3.ownsRow base 63 3 v3 L'.length (dbCells L')) (hE : ∀ p ∈ L', EntAt w3 σ p.2 p.1.e) :
    RefIs (w3.setCell ⟨rb, 0, none⟩ v3) σ i rb L' v3 { R with l := L'.map (·.1) } ∧ Moved σ i w σ (w3.setCell ⟨rb, 0, none⟩ v3) := by
  have o : Only rb w3 (w3.setCell ⟨rb, 0, none⟩ v3) := (Only.refl _ _).setCell 0 _
  have hne : (σ rb).1 ≠ 0 := by rw [h.lab]; exact hi
  have hh := (e.block rb (lt_heap h.heap)).trans h.heap
  refine ⟨⟨h.lab, heap_setCell_row hh 0 _, ?_, rfl⟩, (Moved.ofExt hn e i).trans (Moved.ofOnly (hn.ext e) o (by rw [h.lab]))⟩
  refine DbsAt.keep (w := w3) (σ := σ) ⟨SlF.ofOwns ho fun b hb' => by rw [hn b (by omega)]; rfl, hE⟩ (Keep.ofOnly o hne)

theorem name_end {w w3 : World} {σ : Sig} {i rb : Nat} {L : List (DBA × Value)} {Lv v3 : Value} {R : RefA} {db : S} {fl : Int} {base : Nat} (h : RefIs w σ i rb L Lv R) (hn : Neat w σ) (hi : i ≠ 0) (e : Ext w w3) (hb : w.heap.size ≤ base)
    (ho : w3.ownsRow base 63 3 v3 (0 + L.length + 1) ([] ++ dbCells L ++ [encStr db, .int .i64 fl, .slice none 0 0])) :
    RefAt (w3.setCell ⟨rb, 0, none⟩ v3) σ i rb { R with l := R.l ++ [⟨db, fl, []⟩] } ∧ Moved σ i w σ (w3.setCell ⟨rb, 0, none⟩ v3) := by
  obtain ⟨h1, h2⟩ := h.newL (L' := L ++ [(⟨db, fl, []⟩, .slice none 0 0)]) hn hi e hb (by
    have e1 : (L ++ [((⟨db, fl, []⟩ : DBA), Value.slice none 0 0)]).length = 0 + L.length + 1 := by simp
    have e2 : dbCells (L ++ [((⟨db, fl, []⟩ : DBA), Value.slice none 0 0)]) = [] ++ dbCells L ++ [encStr db, .int .i64 fl, .slice none 0 0] := by rw [dbCells_append]; rfl
    rw [e1, e2]; exact ho) (fun p hp => by
      rcases List.mem_append.1 hp with hp | hp
      · exact (h.dbs.2 p hp).ext e
      · rw [List.mem_singleton] at hp; subst hp; exact SlF.nil _ _ _)
  refine ⟨⟨L ++ [(⟨db, fl, []⟩, .slice none 0 0)], v3, ?_⟩, h2⟩
  have : (L ++ [((⟨db, fl, []⟩ : DBA), Value.slice none 0 0)]).map (·.1) = R.l ++ [⟨db, fl, []⟩] := by rw [List.map_append, h.eq]; rfl
  rw [this] at h1
  exact h1

set_option maxHeartbeats 16000000 in
set_option maxRecDepth 100000 in
theorem namer_ok (σ : Sig) (i rb : Nat) (L : List (DBA × Value)) (Lv : Value) (R : RefA) (kind : Int) (a : UInt8) (r : S) (key val : S) (flags nn : Int) (w : World) (hR : RefIs w σ i rb L Lv R) (hn : Neat w σ) (hi : i ≠ 0) (hl0 : 0 < R.l.length) (hl : ¬ R.l.length > 4) (hf : findR R (a :: r) = (none, 21)) (hfl : flags = 0 ∨ flags = 1) :
    Calls Tryz.prog 23 #[.pointer (some ⟨rb, 0, none⟩), opV ⟨kind, a :: r, key, val, flags, nn⟩] w (ChgPost σ i rb { R with l := R.l ++ [⟨a :: r, flags, []⟩] } 0 w) := by
  have HF := Lib.hid fun o => findr_any σ i rb L Lv R (a :: r) (w.alloc o) (hR.ext ((Ext.rfl' w).alloc o)) hl0
  rw [hf] at HF
  simp only [plI] at HF
  have HRW := Lib.hid hR
  have HNT := Lib.hid hn
  have HI := Lib.hid hi
  have hlen : R.l.length = L.length := by rw [← hR.eq]; simp
  have hsl := hR.dbs.1.1
  obtain ⟨pl, cl, rfl⟩ := hsl.shape
  have HSL := Lib.hid hsl
  have HON := Lib.hid (db_one hR.dbs)
  have c0 := cellAt hR.heap 0
  simp [refCells] at c0
  have HC := Lib.hid c0
  have HRH := Lib.hid hR.heap
  rw [hlen] at hl
  have hl4 : decide ((4 : Int) < (L.length : Int)) = false := decF (by omega)
  have HL4 : Hid (L.length ≤ 4) := by show _ ≤ _; omega
  have HFL := Lib.hid hfl
  clear hR hn hi hlen hsl hl c0 hf hfl hl0
  unfold opV opCells
  have c0' : ∀ o, (w.alloc o).cell? ⟨rb, 0, none⟩ = some (.slice pl L.length cl) := fun o => ((Ext.rfl' w).alloc o).cell HC.out
  rcases HFL.out with rfl | rfl
  · go_enter Tryz.func23, Tryz.ntmps23
    go_wp2_with (first | (go_at_call 25; refine (HF.out _).mono ?_; rintro e w' ⟨rfl, rfl⟩) | fail)
    go_quiet (fail)
    generalize hW : (World.alloc w _).drewN nq = W
    have eW : Ext w W := by rw [← hW]; exact Ext.step ((Ext.rfl' w).alloc _) (Ext.drewN _ _)
    have hbox : W.heap[w.heap.size]? = some (.cells (opCells ⟨kind, a :: r, key, val, 0, nn⟩) 30 (0, 0)) := by rw [← hW, (Ext.drewN _ nq).block w.heap.size (by simp)]; exact heap_new w _
    have q1 := cellAt hbox 1
    have q4 := cellAt hbox 4
    simp [opCells] at q1 q4
    have c1 := eW.cell HC.out
    have f1 := frozenAt ((eW.block rb (lt_heap HRH.out)).trans HRH.out) 0
    have hrl := lt_heap HRH.out
    have hWl : w.heap.size < W.heap.size := lt_heap hbox
    have EW := Lib.hid eW
    have rW : rb < W.heap.size := by omega
    have m1 : ¬ rb = W.heap.size := by omega
    have m2 : ¬ W.heap.size = rb := by omega
    have HK : Hid (∀ W', Ext W W' → W'.cell? ⟨rb, 0, none⟩ = some (.slice pl L.length cl) ∧ W'.frozen? ⟨rb, 0, none⟩ = false ∧ W'.cell? ⟨w.heap.size, 1, none⟩ = some (encStr (a :: r)) ∧ W'.cell? ⟨w.heap.size, 4, none⟩ = some (.int .i64 0)) := fun W' e => ⟨e.cell c1, frozenAt ((e.block rb rW).trans ((EW.out.block rb hrl).trans HRH.out)) 0, e.cell q1, e.cell q4⟩
    clear hW eW hbox HF c0'
    go_wp2_with fail
    have HS : Hid (∀ W', Ext W W' → Sl W' 3 (.slice pl L.length cl) L.length (dbCells L)) := fun W' e => HSL.out.ext (Ext.step EW.out e)
    have h1c : ∀ u ∈ [encStr (a :: r), Value.int .i64 0, Value.slice none 0 0], u.oneCell' = true := fun u hu => by simp at hu; rcases hu with rfl | rfl | rfl <;> rfl
    have H1C := Lib.hid h1c
    clear h1c
    go_region_law
      (first
        | (refine step_append_sl _ (by rfl) _ _ _ (by rfl) W.heap.size dbsEl v1 _ _ (by rfl) (by first | exact hown1 | exact hown1.alloc _) _ 1 [encStr (a :: r), .int .i64 0, .slice none 0 0] (by rfl) (by first | exact Sl.newN _ _ _ _ rfl (by omega) | exact ((Sl.newN W _ 3 _ rfl (by omega)).ext (drewW _)).ext fx1) H1C.out (by have := HL4.out; unfold maxLen; omega) (by have := HL4.out; omega) (by have := ex1.size; first | exact this | (simp; omega)) ?_; intro v2 w2 hown2 hgrow2 hat2; have ex2 : Ext W w2 := (by first | exact below_append ex1 ex1.size hown1 hgrow2 | exact below_append (Ext.alloc ex1 _) (by have := ex1.size; simp; omega) (hown1.alloc _) hgrow2)
           obtain ⟨p2, cc2, rfl⟩ := (Sl.ofOwns hown2).shape
           obtain ⟨b1, b2, b3, b4⟩ := HK.out w2 ex2)
        | (refine step_append_sl _ (by rfl) _ _ _ (by rfl) W.heap.size dbsEl (.slice none 0 0) 0 [] (by rfl) (owns_nil _ _ _ _) _ L.length (dbCells L) (by rfl) (by first | exact HS.out _ (drewW W) | exact HS.out _ ((Ext.alloc (Ext.rfl' W) _).drew)) HON.out (by have := HL4.out; unfold maxLen; omega) (by have := HL4.out; omega) (by first | exact Nat.le_refl _ | simp) ?_; intro v1 w1 hown1 hgrow1 hat1; have fx1 := extN_grown hgrow1; have ex1 : Ext W w1 := (by first | exact Ext.step (drewW W) fx1 | exact Ext.step ((Ext.alloc (Ext.rfl' W) _).drew) fx1)
           obtain ⟨a1, a2, a3, a4⟩ := HK.out w1 ex1))
    all_goals
      have HO2 := Lib.hid hown2
      have EX2 := Lib.hid ex2
      clear hown2 hown1 hgrow1 hgrow2 hat1 hat2 fx1 ex1 ex2
      go_wp2
      go_ret
      obtain ⟨g1, g2⟩ := name_end HRW.out HNT.out HI.out (Ext.step EW.out EX2.out) EW.out.size HO2.out
      rw [Nat.zero_add] at g1 g2
      exact ⟨rfl, g1, g2⟩
  · go_enter Tryz.func23, Tryz.ntmps23
    go_wp2_with (first | (go_at_call 25; refine (HF.out _).mono ?_; rintro e w' ⟨rfl, rfl⟩) | fail)
    go_quiet (fail)
    generalize hW : (World.alloc w _).drewN nq = W
    have eW : Ext w W := by rw [← hW]; exact Ext.step ((Ext.rfl' w).alloc _) (Ext.drewN _ _)
    have hbox : W.heap[w.heap.size]? = some (.cells (opCells ⟨kind, a :: r, key, val, 1, nn⟩) 30 (0, 0)) := by rw [← hW, (Ext.drewN _ nq).block w.heap.size (by simp)]; exact heap_new w _
    have q1 := cellAt hbox 1
    have q4 := cellAt hbox 4
    simp [opCells] at q1 q4
    have c1 := eW.cell HC.out
    have f1 := frozenAt ((eW.block rb (lt_heap HRH.out)).trans HRH.out) 0
    have hrl := lt_heap HRH.out
    have hWl : w.heap.size < W.heap.size := lt_heap hbox
    have EW := Lib.hid eW
    have rW : rb < W.heap.size := by omega
    have m1 : ¬ rb = W.heap.size := by omega
    have m2 : ¬ W.heap.size = rb := by omega
    have HK : Hid (∀ W', Ext W W' → W'.cell? ⟨rb, 0, none⟩ = some (.slice pl L.length cl) ∧ W'.frozen? ⟨rb, 0, none⟩ = false ∧ W'.cell? ⟨w.heap.size, 1, none⟩ = some (encStr (a :: r)) ∧ W'.cell? ⟨w.heap.size, 4, none⟩ = some (.int .i64 1)) := fun W' e => ⟨e.cell c1, frozenAt ((e.block rb rW).trans ((EW.out.block rb hrl).trans HRH.out)) 0, e.cell q1, e.cell q4⟩
    clear hW eW hbox HF c0'
    go_wp2_with fail
    have HS : Hid (∀ W', Ext W W' → Sl W' 3 (.slice pl L.length cl) L.length (dbCells L)) := fun W' e => HSL.out.ext (Ext.step EW.out e)
    have h1c : ∀ u ∈ [encStr (a :: r), Value.int .i64 1, Value.slice none 0 0], u.oneCell' = true := fun u hu => by simp at hu; rcases hu with rfl | rfl | rfl <;> rfl
    have H1C := Lib.hid h1c
    clear h1c
    go_region_law
      (first
        | (refine step_append_sl _ (by rfl) _ _ _ (by rfl) W.heap.size dbsEl v1 _ _ (by rfl) (by first | exact hown1 | exact hown1.alloc _) _ 1 [encStr (a :: r), .int .i64 1, .slice none 0 0] (by rfl) (by first | exact Sl.newN _ _ _ _ rfl (by omega) | exact ((Sl.newN W _ 3 _ rfl (by omega)).ext (drewW _)).ext fx1) H1C.out (by have := HL4.out; unfold maxLen; omega) (by have := HL4.out; omega) (by have := ex1.size; first | exact this | (simp; omega)) ?_; intro v2 w2 hown2 hgrow2 hat2; have ex2 : Ext W w2 := (by first | exact below_append ex1 ex1.size hown1 hgrow2 | exact below_append (Ext.alloc ex1 _) (by have := ex1.size; simp; omega) (hown1.alloc _) hgrow2)
           obtain ⟨p2, cc2, rfl⟩ := (Sl.ofOwns hown2).shape
           obtain ⟨b1, b2, b3, b4⟩ := HK.out w2 ex2)
        | (refine step_append_sl _ (by rfl) _ _ _ (by rfl) W.heap.size dbsEl (.slice none 0 0) 0 [] (by rfl) (owns_nil _ _ _ _) _ L.length (dbCells L) (by rfl) (by first | exact HS.out _ (drewW W) | exact HS.out _ ((Ext.alloc (Ext.rfl' W) _).drew)) HON.out (by have := HL4.out; unfold maxLen; omega) (by have := HL4.out; omega) (by first | exact Nat.le_refl _ | simp) ?_; intro v1 w1 hown1 hgrow1 hat1; have fx1 := extN_grown hgrow1; have ex1 : Ext W w1 := (by first | exact Ext.step (drewW W) fx1 | exact Ext.step ((Ext.alloc (Ext.rfl' W) _).drew) fx1)
           obtain ⟨a1, a2, a3, a4⟩ := HK.out w1 ex1))
    all_goals
      have HO2 := Lib.hid hown2
      have EX2 := Lib.hid ex2
      clear hown2 hown1 hgrow1 hgrow2 hat1 hat2 fx1 ex1 ex2
      go_wp2
      go_ret
      obtain ⟨g1, g2⟩ := name_end HRW.out HNT.out HI.out (Ext.step EW.out EX2.out) EW.out.size HO2.out
      rw [Nat.zero_add] at g1 g2
      exact ⟨rfl, g1, g2⟩
end Go.Proofs.YtmkhjmldncegcaaGreatDoor

