/-
  WALKS: the rows that rise (ids.Is, copyholdref1.IsRow): both tell 'rises'.
-/
import Derived.Test.YtlpkidpkgbjenaaKit
import Derived.Test.YtlpkidpkgbjenaaProg
import Derived.Deep.QuietTactic
import Derived.BigQuiet
set_option linter.unusedVariables false
set_option linter.unusedSimpArgs false
namespace Go.Proofs.Ytlpkidpkgbjenaa
open Go.RowKit

def rises : List Int → Bool
  | a :: b :: r => decide (a < b) && rises (b :: r)
  | _ => true

theorem rises_iff : ∀ xs : List Int, rises xs = true ↔ ∀ j, j + 1 < xs.length → xs.getD j 0 < xs.getD (j + 1) 0
  | [] => by simp [rises]
  | [a] => by simp [rises]
  | a :: b :: r => by
    have ih := rises_iff (b :: r)
    simp only [rises, Bool.and_eq_true, decide_eq_true_eq, ih]
    constructor
    · rintro ⟨h1, h2⟩ j hj
      cases j with
      | zero => simpa using h1
      | succ j => simpa using h2 j (by simpa using hj)
    · intro h
      exact ⟨by simpa using h 0 (by simp), fun j hj => by simpa using h (j + 1) (by simpa using hj)⟩

theorem rises_no (xs : List Int) (k : Nat) (h : k + 1 < xs.length) (hn : ¬ xs.getD k 0 < xs.getD (k + 1) 0) : rises xs = false := by
  cases hr : rises xs with
  | false => rfl
  | true => exact absurd ((rises_iff xs).1 hr k h) hn

set_option maxHeartbeats 400000 in
theorem is_any (v : Value) (xs : List Int) (w : World) (h : Ints w v xs) :
    Calls Try.prog 8 #[v] w fun e w' => e = .returned (.bool (rises xs)) ∧ ∃ q, w' = w.drewN q := by
  have hlen := h.len
  unfold maxLen at hlen
  rcases h with ⟨rfl, p, c, rfl, _⟩ | ⟨h0, b, off, c, rfl, _, _, hc⟩
  · go_enter Try.func8, Try.ntmps8
    go_wp2
    go_loopw [3] (fun i wr => i = .int .i64 1 ∧ wr = w) (fun _ _ => 0)
    case atStart => exact ⟨rfl, rfl⟩
    case round =>
      obtain ⟨rfl, rfl⟩ := hrel
      go_wp2
      go_ret
      exact ⟨rfl, 0, rfl⟩
  · have HC := Lib.hid hc
    clear hc
    go_enter Try.func8, Try.ntmps8
    go_wp2
    go_loopw [3] (fun i wr => ∃ k q : Nat, 1 ≤ k ∧ k ≤ xs.length ∧ i = .int .i64 k ∧ wr = w.drewN q ∧ ∀ j, j + 1 < k → xs.getD j 0 < xs.getD (j + 1) 0) (fun i _ => xs.length - (intOf i).toNat)
    case atStart => exact ⟨1, 0, by omega, by omega, rfl, rfl, fun j hj => by omega⟩
    case round =>
      obtain ⟨k, q, hk1, hk2, rfl, rfl, hr⟩ := hrel
      have HR := Lib.hid hr
      clear hr
      by_cases hlt : k < xs.length
      · have c1 : w.cell? ⟨b, off + (k - 1), none⟩ = some (.int .i64 (xs.getD (k - 1) 0)) := HC.out (k - 1) (by omega)
        have c2 : w.cell? ⟨b, off + k, none⟩ = some (.int .i64 (xs.getD k 0)) := HC.out k hlt
        have hb1 : (0 : Int) ≤ (k : Int) - 1 := by omega
        have hb2 : (k : Int) - 1 < (xs.length : Int) := by omega
        generalize hx : xs.getD (k - 1) 0 = x at c1
        generalize hy : xs.getD k 0 = y at c2
        have HX := Lib.hid hx
        have HY := Lib.hid hy
        clear hx hy
        by_cases hxy : x < y
        · have hxy' : ¬ y ≤ x := by omega
          go_wp2_with fail
          go_quiet (fail)
          go_wp2
          go_roundw
          case rel =>
            refine ⟨k + 1, _, by omega, by omega, by go_num, rfl, fun j hj => ?_⟩
            by_cases hjk : j + 1 < k
            · exact HR.out j hjk
            · obtain rfl : j = k - 1 := by omega
              have := HX.out
              have := HY.out
              rw [show k - 1 + 1 = k by omega]
              omega
          case measure => simp [intOf]; omega
        · have hxy' : y ≤ x := by omega
          go_wp2_with fail
          go_quiet (fail)
          go_wp2
          go_ret
          refine ⟨?_, _, World.drewN_drewN ..⟩
          rw [rises_no xs (k - 1) (by omega) (by rw [show k - 1 + 1 = k by omega, HX.out, HY.out]; omega)]; rfl
      · go_wp2
        go_ret
        refine ⟨?_, _, rfl⟩
        have : k = xs.length := by omega
        rw [(rises_iff xs).2 (fun j hj => HR.out j (by omega))]; rfl

set_option maxHeartbeats 400000 in
theorem isRow_any (v : Value) (xs : List Int) (w : World) (h : Ints w v xs) :
    Calls Try.prog 9 #[v] w fun e w' => e = .returned (.bool (rises xs)) ∧ ∃ q, w' = w.drewN q := by
  have hlen := h.len
  unfold maxLen at hlen
  rcases h with ⟨rfl, p, c, rfl, _⟩ | ⟨h0, b, off, c, rfl, _, _, hc⟩
  · go_enter Try.func9, Try.ntmps9
    go_wp2
    go_loopw [3] (fun i wr => i = .int .i64 1 ∧ wr = w) (fun _ _ => 0)
    case atStart => exact ⟨rfl, rfl⟩
    case round =>
      obtain ⟨rfl, rfl⟩ := hrel
      go_wp2
      go_ret
      exact ⟨rfl, 0, rfl⟩
  · have HC := Lib.hid hc
    clear hc
    go_enter Try.func9, Try.ntmps9
    go_wp2
    go_loopw [3] (fun i wr => ∃ k q : Nat, 1 ≤ k ∧ k ≤ xs.length ∧ i = .int .i64 k ∧ wr = w.drewN q ∧ ∀ j, j + 1 < k → xs.getD j 0 < xs.getD (j + 1) 0) (fun i _ => xs.length - (intOf i).toNat)
    case atStart => exact ⟨1, 0, by omega, by omega, rfl, rfl, fun j hj => by omega⟩
    case round =>
      obtain ⟨k, q, hk1, hk2, rfl, rfl, hr⟩ := hrel
      have HR := Lib.hid hr
      clear hr
      by_cases hlt : k < xs.length
      · have c1 : w.cell? ⟨b, off + (k - 1), none⟩ = some (.int .i64 (xs.getD (k - 1) 0)) := HC.out (k - 1) (by omega)
        have c2 : w.cell? ⟨b, off + k, none⟩ = some (.int .i64 (xs.getD k 0)) := HC.out k hlt
        have hb1 : (0 : Int) ≤ (k : Int) - 1 := by omega
        have hb2 : (k : Int) - 1 < (xs.length : Int) := by omega
        generalize hx : xs.getD (k - 1) 0 = x at c1
        generalize hy : xs.getD k 0 = y at c2
        have HX := Lib.hid hx
        have HY := Lib.hid hy
        clear hx hy
        by_cases hxy : x < y
        · have hxy' : ¬ y ≤ x := by omega
          go_wp2_with fail
          go_quiet (fail)
          go_wp2
          go_roundw
          case rel =>
            refine ⟨k + 1, _, by omega, by omega, by go_num, rfl, fun j hj => ?_⟩
            by_cases hjk : j + 1 < k
            · exact HR.out j hjk
            · obtain rfl : j = k - 1 := by omega
              have := HX.out
              have := HY.out
              rw [show k - 1 + 1 = k by omega]
              omega
          case measure => simp [intOf]; omega
        · have hxy' : y ≤ x := by omega
          go_wp2_with fail
          go_quiet (fail)
          go_wp2
          go_ret
          refine ⟨?_, _, World.drewN_drewN ..⟩
          rw [rises_no xs (k - 1) (by omega) (by rw [show k - 1 + 1 = k by omega, HX.out, HY.out]; omega)]; rfl
      · go_wp2
        go_ret
        refine ⟨?_, _, rfl⟩
        have : k = xs.length := by omega
        rw [(rises_iff xs).2 (fun j hj => HR.out j (by omega))]; rfl
end Go.Proofs.Ytlpkidpkgbjenaa
