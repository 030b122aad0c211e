/-
  slices.Index at []int: the first place of a number in a row, or -1.
-/
import Derived.Test.YtkcffdanhklphaaGreatDoorNumD
set_option linter.unusedVariables false
set_option linter.unusedSimpArgs false
namespace Go.Proofs.YtkcffdanhklphaaGreatDoor
open Go.RowKit
/-- the first place of x, j ahead -/
def idxI (x : Int) : List Int → Nat → Int
  | [], _ => -1
  | y :: l, j => if (x == y) = true then (j : Int) else idxI x l (j + 1)
set_option maxHeartbeats 4000000 in
set_option maxRecDepth 100000 in
theorem idx_any (xs : List Int) (b off c : Nat) (x : Int) (w : World) (hn : xs.length ≤ 16777214) (hc : ∀ j (h : j < xs.length), w.cell? ⟨b, off + j, none⟩ = some (.int .i64 xs[j])) :
    Calls Tryz.prog 160 #[.slice (some ⟨b, off, none⟩) xs.length c, .int .i64 x] w fun e w' => e = .returned (.int .i64 (idxI x xs 0)) ∧ w' = w := by
  have HC := Lib.hid hc
  clear hc
  go_enter Tryz.func160, Tryz.ntmps160
  go_wp2
  go_loopw [8] (fun i wr => ∃ k : Nat, k ≤ xs.length ∧ i = .int .i64 k ∧ wr = w ∧ Hid (idxI x xs 0 = idxI x (xs.drop k) k)) (fun i _ => xs.length - (intOf i).toNat)
  case atStart => exact ⟨0, Nat.zero_le _, rfl, rfl, Lib.hid rfl⟩
  case round =>
    obtain ⟨k, hk, rfl, rfl, hI⟩ := hrel
    by_cases hlt : k < xs.length
    · have hcell := HC.out k hlt
      have hd : xs.drop k = xs[k] :: xs.drop (k + 1) := List.drop_eq_getElem_cons hlt
      cases he : (x == xs[k]) with
      | true =>
        have hR : Hid (idxI x xs 0 = (k : Int)) := Lib.hid (by rw [hI.out, hd, idxI, if_pos he])
        clear hd
        go_wp2
        go_ret
        rw [hR.out]
        exact ⟨rfl, rfl⟩
      | false =>
        have hR : Hid (idxI x xs 0 = idxI x (xs.drop (k + 1)) (k + 1)) := Lib.hid (by rw [hI.out, hd, idxI, if_neg (by simp [he])])
        clear hd
        go_wp2
        refine ⟨⟨k + 1, by omega, rfl, trivial, hR⟩, ?_⟩
        show xs.length - ((k : Int) + 1).toNat < xs.length - (k : Int).toNat
        omega
    · obtain rfl : k = xs.length := by omega
      have hR : Hid (idxI x xs 0 = -1) := Lib.hid (by rw [hI.out, List.drop_length, idxI])
      go_wp2
      go_ret
      rw [hR.out]
      exact ⟨rfl, rfl⟩
set_option maxHeartbeats 4000000 in
theorem idx_none (p : Option Addr) (c : Nat) (x : Int) (w : World) :
    Calls Tryz.prog 160 #[.slice p 0 c, .int .i64 x] w fun e w' => e = .returned (.int .i64 (-1)) ∧ w' = w := by
  go_enter Tryz.func160, Tryz.ntmps160
  go_wp2
  go_loopw [8] (fun i wr => i = .int .i64 0 ∧ wr = w) (fun _ _ => 0)
  case atStart => exact ⟨rfl, rfl⟩
  case round =>
    obtain ⟨rfl, rfl⟩ := hrel
    go_wp2
    go_ret
    exact ⟨rfl, rfl⟩
end Go.Proofs.YtkcffdanhklphaaGreatDoor
