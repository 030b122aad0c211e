/-
  WALKS: rows of ints compared (copyholdref1.SameInts), looked through (copyholdref1.Has).
-/
import Derived.Test.YtlpkidpkgbjenaaKit
import Derived.Test.YtlpkidpkgbjenaaProg
import Derived.Deep.QuietTactic
import Derived.BigQuiet
set_option linter.unusedVariables false
set_option linter.unusedSimpArgs false
namespace Go.Proofs.Ytlpkidpkgbjenaa
open Go.RowKit

theorem eq_of_getD : ∀ (xs ys : List Int), xs.length = ys.length → (∀ j, j < xs.length → xs.getD j 0 = ys.getD j 0) → xs = ys
  | [], [], _, _ => rfl
  | [], _ :: _, h, _ => by simp at h
  | _ :: _, [], h, _ => by simp at h
  | a :: r, b :: s, h, k => by
    have h0 : a = b := by simpa using k 0 (by simp)
    have h1 : r = s := eq_of_getD r s (by simpa using h) (fun j hj => by simpa using k (j + 1) (by simpa using hj))
    rw [h0, h1]

def sameB (xs ys : List Int) : Bool := decide (xs = ys)
def hasB (xs : List Int) (n : Int) : Bool := xs.contains n
theorem sameB_no {xs ys : List Int} (h : xs ≠ ys) : sameB xs ys = false := decide_eq_false h
theorem sameB_yes {xs ys : List Int} (h : xs = ys) : sameB xs ys = true := decide_eq_true h
theorem hasB_iff {xs : List Int} {n : Int} : hasB xs n = true ↔ n ∈ xs := List.contains_iff_mem
theorem hasB_no {xs : List Int} {n : Int} (h : n ∉ xs) : hasB xs n = false := by
  cases e : hasB xs n with
  | false => rfl
  | true => exact absurd (hasB_iff.1 e) h

set_option maxHeartbeats 400000 in
theorem same_any (v u : Value) (xs ys : List Int) (w : World) (h : Ints w v xs) (h' : Ints w u ys) :
    Calls Try.prog 14 #[v, u] w fun e w' => e = .returned (.bool (sameB xs ys)) ∧ ∃ q, w' = w.drewN q := by
  by_cases hl : xs.length = ys.length
  · have hlen := h.len
    unfold maxLen at hlen
    rcases h with ⟨rfl, p, c, rfl, _⟩ | ⟨h0, b, off, c, rfl, _, _, hc⟩
    · have hy : ys = [] := by cases ys with | nil => rfl | cons a r => simp at hl
      subst hy
      obtain ⟨p', c', rfl, _⟩ := h'.form
      go_enter Try.func14, Try.ntmps14
      go_wp2
      go_loopw [5] (fun i wr => i = .int .i64 0 ∧ wr = w) (fun _ _ => 0)
      case atStart => exact ⟨rfl, rfl⟩
      case round =>
        obtain ⟨rfl, rfl⟩ := hrel
        go_wp2
        go_ret
        exact ⟨rfl, 0, rfl⟩
    · rcases h' with ⟨rfl, p, c', rfl, _⟩ | ⟨h0', b', off', c', rfl, _, _, hc'⟩
      · exact absurd hl (by simp; intro e; simp [e] at h0)
      · have HC := Lib.hid hc
        have HC' := Lib.hid hc'
        clear hc hc'
        have hne : ((xs.length : Int) != (ys.length : Int)) = false := by rw [hl]; simp
        have hle1 : xs.length ≤ ys.length := by omega
        have hle2 : ys.length ≤ xs.length := by omega
        have HL := Lib.hid hl
        clear hl
        go_enter Try.func14, Try.ntmps14
        go_wp2
        go_loopw [5] (fun i wr => ∃ k q : Nat, k ≤ xs.length ∧ i = .int .i64 k ∧ wr = w.drewN q ∧ ∀ j, j < k → xs.getD j 0 = ys.getD j 0) (fun i _ => xs.length - (intOf i).toNat)
        case atStart => exact ⟨0, 0, by omega, rfl, rfl, fun j hj => by omega⟩
        case round =>
          obtain ⟨k, q, hk2, rfl, rfl, hr⟩ := hrel
          have HR := Lib.hid hr
          clear hr
          by_cases hlt : k < xs.length
          · have hlt' : k < ys.length := by omega
            have c1 : w.cell? ⟨b, off + k, none⟩ = some (.int .i64 (xs.getD k 0)) := HC.out k hlt
            have c2 : w.cell? ⟨b', off' + k, none⟩ = some (.int .i64 (ys.getD k 0)) := HC'.out k hlt'
            generalize hx : xs.getD k 0 = x at c1
            generalize hy : ys.getD k 0 = y at c2
            have HX := Lib.hid hx
            have HY := Lib.hid hy
            clear hx hy
            by_cases hxy : x = y
            · subst hxy
              go_wp2_with fail
              go_quiet (fail)
              go_wp2
              go_roundw
              case rel =>
                refine ⟨k + 1, _, by omega, by go_num, rfl, fun j hj => ?_⟩
                by_cases hjk : j < k
                · exact HR.out j hjk
                · obtain rfl : j = k := by omega
                  rw [HX.out, HY.out]
              case measure => simp [intOf]; omega
            · have hn : (x != y) = true := by simp [hxy]
              have HN := Lib.hid hxy
              clear hxy
              go_wp2_with fail
              go_quiet (fail)
              go_wp2
              go_ret
              refine ⟨?_, _, World.drewN_drewN ..⟩
              have : xs ≠ ys := fun e => HN.out (by rw [← HX.out, ← HY.out, e])
              rw [sameB_no this]; rfl
          · go_wp2
            go_ret
            refine ⟨?_, _, rfl⟩
            rw [sameB_yes (eq_of_getD xs ys HL.out (fun j hj => HR.out j (by omega)))]; rfl
  · obtain ⟨p, c, rfl, _⟩ := h.form
    obtain ⟨p', c', rfl, _⟩ := h'.form
    have hne : ((xs.length : Int) != (ys.length : Int)) = true := by simp; omega
    have HD : sameB xs ys = false := sameB_no (fun e => hl (by rw [e]))
    have HD' := Lib.hid HD
    clear HD
    go_enter Try.func14, Try.ntmps14
    go_wp2
    go_ret
    exact ⟨by rw [HD'.out]; rfl, 0, rfl⟩

set_option maxHeartbeats 400000 in
theorem refHas_any (v : Value) (xs : List Int) (n : Int) (w : World) (h : Ints w v xs) :
    Calls Try.prog 13 #[v, .int .i64 n] w fun e w' => e = .returned (.bool (hasB xs n)) ∧ ∃ q, w' = w.drewN q := by
  have hlen := h.len
  unfold maxLen at hlen
  rcases h with ⟨rfl, p, c, rfl, _⟩ | ⟨h0, b, off, c, rfl, _, _, hc⟩
  · go_enter Try.func13, Try.ntmps13
    go_wp2
    go_loopw [5] (fun i wr => i = .int .i64 0 ∧ wr = w) (fun _ _ => 0)
    case atStart => exact ⟨rfl, rfl⟩
    case round =>
      obtain ⟨rfl, rfl⟩ := hrel
      go_wp2
      go_ret
      exact ⟨rfl, 0, rfl⟩
  · have HC := Lib.hid hc
    clear hc
    go_enter Try.func13, Try.ntmps13
    go_wp2
    go_loop [5] (fun i => ∃ k : Nat, k ≤ xs.length ∧ i = .int .i64 k ∧ ∀ j, j < k → xs.getD j 0 ≠ n) (fun i => xs.length - (intOf i).toNat)
    case atStart => exact ⟨0, by omega, rfl, fun j hj => by omega⟩
    case round =>
      obtain ⟨k, hk2, rfl, hr⟩ := hrel
      have HR := Lib.hid hr
      clear hr
      by_cases hlt : k < xs.length
      · have c1 : w.cell? ⟨b, off + k, none⟩ = some (.int .i64 (xs.getD k 0)) := HC.out k hlt
        generalize hx : xs.getD k 0 = x at c1
        have HX := Lib.hid hx
        clear hx
        by_cases hxy : x = n
        · subst hxy
          go_wp2
          go_ret
          refine ⟨?_, 0, rfl⟩
          have : hasB xs x = true := by
            rw [hasB_iff, ← HX.out, getD_eq hlt]; exact List.getElem_mem hlt
          rw [this]; rfl
        · have hn : (x == n) = false := by simp [hxy]
          have HN := Lib.hid hxy
          clear hxy
          go_wp2
          go_round
          case rel =>
            refine ⟨k + 1, by omega, by go_num, fun j hj => ?_⟩
            by_cases hjk : j < k
            · exact HR.out j hjk
            · obtain rfl : j = k := by omega
              rw [HX.out]; exact HN.out
          case measure => simp [intOf]; omega
      · go_wp2
        go_ret
        refine ⟨?_, 0, rfl⟩
        have : hasB xs n = false := by
          refine hasB_no fun hcn => ?_
          obtain ⟨j, hj, e⟩ := List.getElem_of_mem hcn
          exact absurd (by rw [getD_eq hj]; exact e) (HR.out j (by omega))
        rw [this]; rfl
end Go.Proofs.Ytlpkidpkgbjenaa
