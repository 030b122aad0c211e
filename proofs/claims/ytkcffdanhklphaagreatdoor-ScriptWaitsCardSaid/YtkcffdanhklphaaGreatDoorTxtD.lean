/-
  pack.Cut: a text taken: two bytes of its length, then its bytes.
-/
import Derived.Test.YtkcffdanhklphaaGreatDoorCutD
import Derived.Deep.QuietTactic
import Derived.Sort.Row
import Derived.BigQuiet
set_option linter.unusedVariables false
set_option linter.unusedSimpArgs false
namespace Go.Proofs.YtkcffdanhklphaaGreatDoor
open Go.RowKit
set_option maxHeartbeats 4000000 in
set_option maxRecDepth 100000 in
theorem take_n (B o n : Nat) (s : ByteArray) (w : World) (h1 : w.cell? ⟨B, o, none⟩ = some (.string s)) (h2 : w.cell? ⟨B, o + 1, none⟩ = some .nilIface) (hf : w.frozen? ⟨B, o, none⟩ = false) (hn : n ≤ s.size) :
    Calls Tryz.prog 294 #[.pointer (some ⟨B, o, none⟩), .int .i64 (n : Int)] w fun e w' => e = .returned (.string (s.extract 0 n)) ∧ w' = w.setCell ⟨B, o, none⟩ (.string (s.extract n s.size)) := by
  have b1 : (n : Int) ≤ (s.size : Int) := by omega
  have b0 : (0 : Int) ≤ (n : Int) := by omega
  go_enter Tryz.func294, Tryz.ntmps294
  go_wp2
  go_ret
  exact ⟨rfl, rfl⟩
theorem text_ne {a : ByteArray} (h : a.size = 2) : a.toList.isEmpty = false := by
  rw [Go.ByteArray.toList_eq]
  cases hl : a.data.toList with
  | nil => have : a.data.toList.length = 2 := by simpa using h
           rw [hl] at this; cases this
  | cons x l => rfl
set_option maxHeartbeats 4000000 in
set_option maxRecDepth 100000 in
theorem text_walk (B o : Nat) (s a : ByteArray) (w : World) (h1 : w.cell? ⟨B, o, none⟩ = some (.string s)) (h2 : w.cell? ⟨B, o + 1, none⟩ = some .nilIface) (hf : w.frozen? ⟨B, o, none⟩ = false) (ha : s.extract 0 2 = a) (hz : a.size = 2) (q : Nat) (hq : a[0].toNat + a[1].toNat * 256 = q) (hn : q + 2 ≤ s.size) :
    Calls Tryz.prog 300 #[.pointer (some ⟨B, o, none⟩)] w fun e w' => e = .returned (.string ((s.extract 2 s.size).extract 0 q)) ∧ ∃ nq, w' = ((w.setCell ⟨B, o, none⟩ (.string (s.extract 2 s.size))).drewN nq).setCell ⟨B, o, none⟩ (.string ((s.extract 2 s.size).extract q (s.extract 2 s.size).size)) := by
  go_enter Tryz.func300, Tryz.ntmps300
  go_wp2_with fail
  refine (take_n B o 2 s w h1 h2 hf (by omega)).mono ?_
  rintro e w1 ⟨rfl, rfl⟩
  rw [ha]
  have hea : a.toList.isEmpty = false := text_ne hz
  go_wp2_with fail
  have c0 : (0 : Int) < (a.size : Int) := by omega
  have c1 : (1 : Int) < (a.size : Int) := by omega
  go_quiet (fail)
  go_wp2_with fail
  have hb0 := a[0].toNat_lt
  have hb1 := a[1].toNat_lt
  have hq2 : wrap64 (wrap64 (a[0].toNat : Int) + wrap64 (wrap64 (a[1].toNat : Int) * 256)) = (q : Int) := by
    unfold wrap64
    omega
  rw [hq2]
  have hsz : (s.extract 2 s.size).size = s.size - 2 := by simp
  have hl1 : ((w.setCell ⟨B, o, none⟩ (.string (s.extract 2 s.size))).drewN nq).cell? ⟨B, o, none⟩ = some (.string (s.extract 2 s.size)) := World.cell?_setCell_same _ _ _ h1
  have hl2 : ((w.setCell ⟨B, o, none⟩ (.string (s.extract 2 s.size))).drewN nq).cell? ⟨B, o + 1, none⟩ = some .nilIface := by
    show (w.setCell ⟨B, o, none⟩ (.string (s.extract 2 s.size))).cell? ⟨B, o + 1, none⟩ = _
    rw [World.cell?_setCell_other _ _ _ _ (by simp)]
    exact h2
  have hl3 : ((w.setCell ⟨B, o, none⟩ (.string (s.extract 2 s.size))).drewN nq).frozen? ⟨B, o, none⟩ = false := by
    show (w.setCell ⟨B, o, none⟩ (.string (s.extract 2 s.size))).frozen? ⟨B, o, none⟩ = _
    rw [World.frozen?_setCell]; exact hf
  generalize hW : (w.setCell ⟨B, o, none⟩ (.string (s.extract 2 s.size))).drewN nq = W at hl1 hl2 hl3 ⊢
  have HW := Lib.hid hW
  clear hW hq2
  refine (take_n B o q (s.extract 2 s.size) W hl1 hl2 hl3 (by omega)).mono ?_
  rintro e w2 ⟨rfl, rfl⟩
  have hl4 : (W.setCell ⟨B, o, none⟩ (.string ((s.extract 2 s.size).extract q (s.extract 2 s.size).size))).cell? ⟨B, o + 1, none⟩ = some .nilIface := by
    rw [World.cell?_setCell_other _ _ _ _ (by simp)]
    exact hl2
  generalize hV : W.setCell ⟨B, o, none⟩ (.string ((s.extract 2 s.size).extract q (s.extract 2 s.size).size)) = V at hl4 ⊢
  have HV := Lib.hid hV
  clear hV
  go_wp2_with fail
  go_ret
  exact ⟨rfl, nq, by rw [← HV.out, ← HW.out]⟩
theorem ext_take (s : ByteArray) (n : Nat) : (s.extract 0 n).data.toList = s.data.toList.take n := by rw [ByteArray.data_extract, Array.toList_extract]; simp [List.extract_eq_take_drop]
theorem ext_drop (s : ByteArray) (n : Nat) : (s.extract n s.size).data.toList = s.data.toList.drop n := by rw [ByteArray.data_extract, Array.toList_extract]; simp [List.extract_eq_take_drop]; rw [List.take_of_length_le (by simp)]
theorem setCell_twice (w : World) (blk off : Nat) (v v' : Value) : (w.setCell ⟨blk, off, none⟩ v).setCell ⟨blk, off, none⟩ v' = w.setCell ⟨blk, off, none⟩ v' := by
  rw [Go.Sort.setCell_eq, Go.Sort.setCell_eq, Go.Sort.mapBlock_mapBlock, Go.Sort.setCell_eq]
  congr 1
  funext c
  simp
theorem text_ok (B o : Nat) (s : ByteArray) (w : World) (h1 : w.cell? ⟨B, o, none⟩ = some (.string s)) (h2 : w.cell? ⟨B, o + 1, none⟩ = some .nilIface) (hf : w.frozen? ⟨B, o, none⟩ = false) (hn : packN (s.data.toList.take 2) + 2 ≤ s.data.toList.length) :
    Calls Tryz.prog 300 #[.pointer (some ⟨B, o, none⟩)] w fun e w' => ∃ t r : ByteArray, e = .returned (.string t) ∧ t.data.toList = (s.data.toList.drop 2).take (packN (s.data.toList.take 2)) ∧ r.data.toList = s.data.toList.drop (packN (s.data.toList.take 2) + 2) ∧ ∃ nq, w' = (w.drewN nq).setCell ⟨B, o, none⟩ (.string r) := by
  have hs : s.data.toList.length = s.size := by simp
  have hz : (s.extract 0 2).size = 2 := by simp; omega
  have hq : (s.extract 0 2)[0].toNat + (s.extract 0 2)[1].toNat * 256 = packN (s.data.toList.take 2) := by
    rw [← ext_take]
    have e : (s.extract 0 2).data.toList = [(s.extract 0 2)[0], (s.extract 0 2)[1]] := by
      apply List.ext_getElem
      · simpa using hz
      · intro i h3 h4
        have : i = 0 ∨ i = 1 := by simp at h4; omega
        rcases this with rfl | rfl <;> rfl
    rw [e]
    simp [packN]; omega
  generalize packN (s.data.toList.take 2) = q at *
  refine (text_walk B o s _ w h1 h2 hf rfl hz q hq (by omega)).mono fun e w' h => ?_
  obtain ⟨h3, nq, h4⟩ := h
  refine ⟨(s.extract 2 s.size).extract 0 q, (s.extract 2 s.size).extract q (s.extract 2 s.size).size, h3, ?_, ?_, nq, h4.trans ?_⟩
  · rw [ext_take, ext_drop]
  · rw [ext_drop, ext_drop, List.drop_drop]; congr 1; omega
  · show ((w.drewN nq).setCell _ _).setCell _ _ = _
    rw [setCell_twice]
end Go.Proofs.YtkcffdanhklphaaGreatDoor
