/-
  slices.Sorted of maps.Keys at strings, wherever the map's variable lies.
-/
import Derived.Test.YtkcffdanhklphaaGreatDoorShelfD
set_option linter.unusedVariables false
set_option linter.unusedSimpArgs false
namespace Go.Proofs
open Go.RowKit Go.Maps Go.Sort Go.Shelf
theorem Tryz.sortsS (m : Nat) : AnyZ.SortsIn Tryz.prog Tryz.sortedS_ren Fence.wide m :=
  ⟨fun blk off cap ss W hH hblk hsz => callsIn_wide.2 (AnyM.slices_Sort_string Tryz.sortS blk off cap ss W hH hblk hsz),
   fun p cap W => callsIn_wide.2 (AnyM.slices_Sort_string_none Tryz.sortS p cap W)⟩
set_option maxHeartbeats 1000000 in
theorem Tryz.sortedV {H : Type} (B b nn : Nat) (D0 : DataW H) (R : Value → Option (DataW H × List MemPlace)) (w : World) (hown : w.ownsMap Tryz.prog 9 R b nn D0) (hmax : Maps.size D0 ≤ maxLen) (hbytes : Maps.size D0 * 16 ≤ 140737488355328) (hB : B < w.heap.size) (hc : w.cell? ⟨B, 0, none⟩ = some (.map (some b))) :
    Calls Tryz.prog 259 #[.func (.func 398) #[] #[.pointer (some ⟨B, 0, none⟩)]] w fun e w' => ∃ (v : Value) (ss : List (List UInt8)), e = .returned v ∧ ss.Perm (strKeys D0) ∧
      w'.ownsRow w.heap.size 9 1 v ss.length ((ss.mergeSort (fun x y => decide (x ≤ y))).map encStr) ∧ (v = .slice none 0 0 ↔ ss = []) ∧ Below w.heap.size w w' := by
  have hseq : SeqGives Fence.wide 2 Tryz.prog 398 #[.pointer (some ⟨B, 0, none⟩)] encStr (fun ss => ss.Perm (strKeys D0)) (Maps.size D0) w :=
    AnyZ.keys_gives (ρ := Tryz.keysV_ren) { Tryz.keysV with } Fence.wide _ trivial rfl (by omega) B b nn D0 w hB hc hown
  exact callsIn_wide.1 (AnyZ.sorted_in Tryz.sortedS Fence.wide 5 trivial trivial trivial trivial rfl (by omega) (Tryz.sortsS _) (enters_of Tryz.func336 (by kernel_rfl) rfl) 398 #[.pointer (some ⟨B, 0, none⟩)] trivial (enters_of Tryz.func398 (by kernel_rfl) rfl) _ _ hmax hbytes _ hseq)
set_option maxHeartbeats 1000000 in
theorem Tryz.sortedB {H : Type} (B b nn : Nat) (D0 : DataW H) (R : Value → Option (DataW H × List MemPlace)) (w : World) (hown : w.ownsMap Tryz.prog 9 R b nn D0) (hmax : Maps.size D0 ≤ maxLen) (hbytes : Maps.size D0 * 16 ≤ 140737488355328) (hB : B < w.heap.size) (hc : w.cell? ⟨B, 0, none⟩ = some (.map (some b))) :
    Calls Tryz.prog 259 #[.func (.func 337) #[] #[.pointer (some ⟨B, 0, none⟩)]] w fun e w' => ∃ (v : Value) (ss : List (List UInt8)), e = .returned v ∧ ss.Perm (strKeys D0) ∧
      w'.ownsRow w.heap.size 9 1 v ss.length ((ss.mergeSort (fun x y => decide (x ≤ y))).map encStr) ∧ (v = .slice none 0 0 ↔ ss = []) ∧ Below w.heap.size w w' := by
  have hseq : SeqGives Fence.wide 2 Tryz.prog 337 #[.pointer (some ⟨B, 0, none⟩)] encStr (fun ss => ss.Perm (strKeys D0)) (Maps.size D0) w :=
    AnyZ.keys_gives (ρ := Tryz.keysB_ren) { Tryz.keysB with } Fence.wide _ trivial rfl (by omega) B b nn D0 w hB hc hown
  exact callsIn_wide.1 (AnyZ.sorted_in Tryz.sortedS Fence.wide 5 trivial trivial trivial trivial rfl (by omega) (Tryz.sortsS _) (enters_of Tryz.func336 (by kernel_rfl) rfl) 337 #[.pointer (some ⟨B, 0, none⟩)] trivial (enters_of Tryz.func337 (by kernel_rfl) rfl) _ _ hmax hbytes _ hseq)
end Go.Proofs
