/-
  cmp.Or at ints: the first that is no nought.
-/
import Derived.Test.YtkcffdanhklphaaGreatDoorNumD
set_option linter.unusedVariables false
set_option linter.unusedSimpArgs false
namespace Go.Proofs.YtkcffdanhklphaaGreatDoor
open Go.RowKit
def orI : List Int → Int
  | [] => 0
  | y :: l => if (y == 0) = true then orI l else y
set_option maxHeartbeats 4000000 in
set_option maxRecDepth 100000 in
theorem or_any (xs : List Int) (b off c : Nat) (w : World) (hn : xs.length ≤ 16777214) (hc : ∀ j (h : j < xs.length), w.cell? ⟨b, off + j, none⟩ = some (.int .i64 xs[j])) :
    Calls Tryz.prog 188 #[.slice (some ⟨b, off, none⟩) xs.length c] w fun e w' => e = .returned (.int .i64 (orI xs)) ∧ w' = w := by
  have HC := Lib.hid hc
  clear hc
  go_enter Tryz.func188, Tryz.ntmps188
  go_wp2
  go_loopw [5, 8] (fun _ i wr => ∃ k : Nat, k ≤ xs.length ∧ i = .int .i64 k ∧ wr = w ∧ Hid (orI xs = orI (xs.drop k))) (fun _ i _ => xs.length - (intOf i).toNat)
  case atStart => exact ⟨0, Nat.zero_le _, rfl, rfl, Lib.hid rfl⟩
  case round =>
    obtain ⟨k, hk, rfl, rfl, hI⟩ := hrel
    by_cases hlt : k < xs.length
    · have hcell := HC.out k hlt
      have hd : xs.drop k = xs[k] :: xs.drop (k + 1) := List.drop_eq_getElem_cons hlt
      cases he : (xs[k] == 0) with
      | true =>
        have hR : Hid (orI xs = orI (xs.drop (k + 1))) := Lib.hid (by rw [hI.out, hd, orI, if_pos he])
        clear hd
        go_wp2
        refine ⟨⟨k + 1, by omega, rfl, trivial, hR⟩, ?_⟩
        show xs.length - ((k : Int) + 1).toNat < xs.length - (k : Int).toNat
        omega
      | false =>
        have hR : Hid (orI xs = xs[k]) := Lib.hid (by rw [hI.out, hd, orI, if_neg (by simp [he])])
        clear hd
        go_wp2
        go_ret
        rw [hR.out]
        exact ⟨rfl, rfl⟩
    · obtain rfl : k = xs.length := by omega
      have hR : Hid (orI xs = 0) := Lib.hid (by rw [hI.out, List.drop_length, orI])
      go_wp2
      go_ret
      rw [hR.out]
      exact ⟨rfl, rfl⟩
end Go.Proofs.YtkcffdanhklphaaGreatDoor
