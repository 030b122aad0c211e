/-
  WALKS: the first place from which so many numbers stand side by side (ids.Run, copyholdref1.Run).
-/
import Derived.Test.YtlpkidpkgbjenaaKit
import Derived.Test.YtlpkidpkgbjenaaProg
import Derived.Deep.QuietTactic
import Derived.BigQuiet
set_option linter.unusedVariables false
set_option linter.unusedSimpArgs false
namespace Go.Proofs.Ytlpkidpkgbjenaa
open Go.RowKit

def Side (xs : List Int) (i : Nat) (n : Int) : Prop := ∀ k : Nat, (k : Int) < n → i + k < xs.length ∧ wrap64 (xs.getD (i + k) 0 - xs.getD i 0) = (k : Int)
def RunIs (xs : List Int) (n x : Int) (ok : Bool) : Prop :=
  (ok = true ∧ 1 ≤ n ∧ ∃ i, i < xs.length ∧ x = xs.getD i 0 ∧ Side xs i n ∧ ∀ j, j < i → ¬ Side xs j n) ∨
  (ok = false ∧ x = 0 ∧ (1 ≤ n → ∀ j, j < xs.length → ¬ Side xs j n))
def RunPost (xs : List Int) (n : Int) (w : World) (e : Ending) (w' : World) : Prop :=
  ∃ x ok, e = .returned (.tuple #[.int .i64 x, .bool ok]) ∧ RunIs xs n x ok ∧ ∃ q, w' = w.drewN q

theorem RunIs.same {xs : List Int} {n x y : Int} {a b : Bool} (h : RunIs xs n x a) (k : RunIs xs n y b) : x = y ∧ a = b := by
  rcases h with ⟨ha, hn, i, hi, hx, hs, hm⟩ | ⟨ha, hx, hm⟩ <;> rcases k with ⟨hb, hn', i', hi', hy, hs', hm'⟩ | ⟨hb, hy, hm'⟩
  · have : i = i' := by
      rcases Nat.lt_trichotomy i i' with h | h | h
      · exact absurd hs (hm' i h)
      · exact h
      · exact absurd hs' (hm i' h)
    subst this; exact ⟨by rw [hx, hy], by rw [ha, hb]⟩
  · exact absurd hs (hm' hn i hi)
  · exact absurd hs' (hm hn' i' hi')
  · exact ⟨by rw [hx, hy], by rw [ha, hb]⟩

set_option maxHeartbeats 1000000 in
theorem run_any (v : Value) (xs : List Int) (n : Int) (w : World) (h : Ints w v xs) :
    Calls Try.prog 10 #[v, .int .i64 n] w (RunPost xs n w) := by
  have hlen := h.len
  unfold maxLen at hlen
  by_cases hn1 : n < 1
  · obtain ⟨p, c, rfl, _⟩ := h.form
    go_enter Try.func10, Try.ntmps10
    go_wp2
    go_step3
    go_wp2
    rw [Exit.noGoto_ret]
    go_ret2
    exact ⟨0, false, rfl, .inr ⟨rfl, rfl, fun h => absurd h (by omega)⟩, 0, rfl⟩
  · have hn2 : 1 ≤ n := by omega
    rcases h with ⟨rfl, p, c, rfl, _⟩ | ⟨h0, b, off, c, rfl, _, _, hc⟩
    · go_enter Try.func10, Try.ntmps10
      go_wp2
      go_step3
      go_wp2
      go_step3
      go_wp2
      go_loopg [12] 0 (fun g i wr => i = .int .i64 0 ∧ wr = w)
      case atStart => exact ⟨rfl, rfl⟩
      case round =>
        obtain ⟨rfl, rfl⟩ := hrel
        go_wp2
        rw [Exit.noGoto_ret]
        go_ret2
        exact ⟨0, false, rfl, .inr ⟨rfl, rfl, fun h j hj => absurd hj (by simp)⟩, 0, rfl⟩
    · have HC := Lib.hid hc
      clear hc
      go_enter Try.func10, Try.ntmps10
      go_wp2
      go_step3
      go_wp2
      go_step3
      go_wp2
      go_loopg [12] xs.length (fun g i wr => ∃ k q : Nat, k ≤ xs.length ∧ xs.length - k ≤ g ∧ i = .int .i64 k ∧ wr = w.drewN q ∧ ∀ j, j < k → ¬ Side xs j n)
      case atStart => exact ⟨0, 0, by omega, by omega, rfl, rfl, fun j hj => by omega⟩
      case round =>
        obtain ⟨k, q, hk, hg, rfl, rfl, hr⟩ := hrel
        have HR := Lib.hid hr
        clear hr
        by_cases hlt : k < xs.length
        · go_wp2
          go_loopg [16] n.toNat (fun g i wr => ∃ m q' : Nat, k + m ≤ xs.length ∧ (m : Int) ≤ n ∧ n.toNat - m ≤ g ∧ i = .int .i64 m ∧ wr = w.drewN q' ∧ ∀ t : Nat, t < m → k + t < xs.length ∧ wrap64 (xs.getD (k + t) 0 - xs.getD k 0) = (t : Int))
          case atStart => exact ⟨0, q, by omega, by omega, by omega, rfl, rfl, fun j hj => by omega⟩
          case round =>
            rename_i gk1 hg1
            obtain ⟨m, q', hm1, hm2, hg2, rfl, rfl, hs⟩ := hrel
            have HS := Lib.hid hs
            clear hs
            by_cases hmn : (m : Int) < n
            · by_cases hkm : k + m < xs.length
              · have c1 : w.cell? ⟨b, off + (k + m), none⟩ = some (.int .i64 (xs.getD (k + m) 0)) := HC.out (k + m) hkm
                have c2 : w.cell? ⟨b, off + k, none⟩ = some (.int .i64 (xs.getD k 0)) := HC.out k hlt
                generalize hx : xs.getD (k + m) 0 = x at c1
                generalize hy : xs.getD k 0 = y at c2
                have HX := Lib.hid hx
                have HY := Lib.hid hy
                clear hx hy
                have e1 : IntKind.i64.wrap ((k : Int) + (m : Int)) = (k : Int) + (m : Int) := IntWalk.i64_in _ (by omega)
                have e2 : (0 : Int) ≤ (k : Int) + (m : Int) := by omega
                have e3 : ((k : Int) + (m : Int)).toNat = k + m := by omega
                have e4 : (k : Int) + (m : Int) < (xs.length : Int) := by omega
                have e5 : decide ((xs.length : Int) ≤ (k : Int) + (m : Int)) = false := by simp; omega
                by_cases hxy : wrap64 (x - y) = (m : Int)
                · have hn : (wrap64 (x - y) != (m : Int)) = false := by simp [hxy]
                  have HN := Lib.hid hxy
                  clear hxy
                  go_wp2_with fail
                  go_quiet (fail)
                  clear e1 e3
                  go_wp2
                  go_roundg (n.toNat - (m + 1))
                  case measure => omega
                  case rel =>
                    refine ⟨m + 1, _, by omega, by omega, by omega, by go_num, rfl, fun t ht => ?_⟩
                    by_cases htm : t < m
                    · exact HS.out t htm
                    · obtain rfl : t = m := by omega
                      exact ⟨hkm, by rw [HX.out, HY.out]; exact HN.out⟩
                · have hn : (wrap64 (x - y) != (m : Int)) = true := by simp [hxy]
                  have HN := Lib.hid hxy
                  clear hxy
                  go_wp2_with fail
                  go_quiet (fail)
                  clear e1 e3
                  go_wp2
                  go_roundg (xs.length - (k + 1))
                  case measure => omega
                  case rel =>
                    refine ⟨k + 1, _, by omega, by omega, by go_num, rfl, fun j hj => ?_⟩
                    by_cases hjk : j < k
                    · exact HR.out j hjk
                    · obtain rfl : j = k := by omega
                      exact fun hside => HN.out (by rw [← HX.out, ← HY.out]; exact (hside m hmn).2)
              · have e1 : IntKind.i64.wrap ((k : Int) + (m : Int)) = (k : Int) + (m : Int) := IntWalk.i64_in _ (by omega)
                have e2 : (0 : Int) ≤ (k : Int) + (m : Int) := by omega
                have e5 : decide ((xs.length : Int) ≤ (k : Int) + (m : Int)) = true := by simp; omega
                go_wp2_with fail
                go_quiet (fail)
                clear e1
                go_wp2
                go_roundg (xs.length - (k + 1))
                case measure => omega
                case rel =>
                  refine ⟨k + 1, _, by omega, by omega, by go_num, rfl, fun j hj => ?_⟩
                  by_cases hjk : j < k
                  · exact HR.out j hjk
                  · obtain rfl : j = k := by omega
                    exact fun hside => hkm (hside m hmn).1
            · have c2 : w.cell? ⟨b, off + k, none⟩ = some (.int .i64 (xs.getD k 0)) := HC.out k hlt
              generalize hy : xs.getD k 0 = y at c2
              have HY := Lib.hid hy
              clear hy
              go_wp2
              go_ret2
              exact ⟨y, true, rfl, .inl ⟨rfl, hn2, k, hlt, HY.out.symm, fun t ht => HS.out t (by omega), HR.out⟩, _, rfl⟩
        · go_wp2
          rw [Exit.noGoto_ret]
          go_ret2
          exact ⟨0, false, rfl, .inr ⟨rfl, rfl, fun h j hj => HR.out j (by omega)⟩, _, rfl⟩

/-- Every number of a row is an int. -/
def Wf (xs : List Int) : Prop := ∀ x, x ∈ xs → -9223372036854775808 ≤ x ∧ x ≤ 9223372036854775807
theorem Wf.at_ {xs : List Int} (h : Wf xs) {j : Nat} (hj : j < xs.length) : -9223372036854775808 ≤ xs.getD j 0 ∧ xs.getD j 0 ≤ 9223372036854775807 := by
  rw [getD_eq hj]; exact h _ (List.getElem_mem hj)

theorem wrap_turn (x y m : Int) (hx : -9223372036854775808 ≤ x ∧ x ≤ 9223372036854775807) (hy : -9223372036854775808 ≤ y ∧ y ≤ 9223372036854775807) (hm : 0 ≤ m ∧ m ≤ 9223372036854775807) :
    wrap64 (x - m) = y ↔ wrap64 (x - y) = m := by
  unfold wrap64
  omega

set_option maxHeartbeats 1000000 in
theorem refRun_any (v : Value) (xs : List Int) (n : Int) (w : World) (h : Ints w v xs) (hwf : Wf xs) (hN : n ≤ 9223372036854775807) :
    Calls Try.prog 11 #[v, .int .i64 n] w (RunPost xs n w) := by
  have hlen := h.len
  unfold maxLen at hlen
  have HW := Lib.hid hwf
  clear hwf
  by_cases hn1 : 0 < n
  · have hn2 : 1 ≤ n := by omega
    have hnd : decide ((0 : Int) < n) = true := by simp [hn1]
    rcases h with ⟨rfl, p, c, rfl, _⟩ | ⟨h0, b, off, c, rfl, _, _, hc⟩
    · go_enter Try.func11, Try.ntmps11
      go_wp2
      go_loopg [6] 0 (fun g i wr => i = .int .i64 0 ∧ wr = w)
      case atStart => exact ⟨rfl, rfl⟩
      case round =>
        obtain ⟨rfl, rfl⟩ := hrel
        go_wp2
        go_ret2
        exact ⟨0, false, rfl, .inr ⟨rfl, rfl, fun h j hj => absurd hj (by simp)⟩, 0, rfl⟩
    · have HC := Lib.hid hc
      clear hc
      go_enter Try.func11, Try.ntmps11
      go_wp2
      go_loopg [6] xs.length (fun g i wr => ∃ k q : Nat, k ≤ xs.length ∧ xs.length - k ≤ g ∧ i = .int .i64 k ∧ wr = w.drewN q ∧ ∀ j, j < k → ¬ Side xs j n)
      case atStart => exact ⟨0, 0, by omega, by omega, rfl, rfl, fun j hj => by omega⟩
      case round =>
        obtain ⟨k, q, hk, hg, rfl, rfl, hr⟩ := hrel
        have HR := Lib.hid hr
        clear hr
        by_cases hlt : k < xs.length
        · have c2 : w.cell? ⟨b, off + k, none⟩ = some (.int .i64 (xs.getD k 0)) := HC.out k hlt
          generalize hy : xs.getD k 0 = y at c2
          have HY := Lib.hid hy
          clear hy
          go_wp2
          go_loopg [7] n.toNat (fun g i wr => ∃ m q' : Nat, 1 ≤ m ∧ k + m ≤ xs.length ∧ (m : Int) ≤ n ∧ n.toNat - m ≤ g ∧ i = .int .i64 m ∧ wr = w.drewN q' ∧ ∀ t : Nat, t < m → k + t < xs.length ∧ wrap64 (xs.getD (k + t) 0 - y) = (t : Int))
          case atStart => exact ⟨1, q, by omega, by omega, by omega, by omega, rfl, rfl, fun t ht => by
            obtain rfl : t = 0 := by omega
            exact ⟨hlt, by rw [show k + 0 = k from rfl, HY.out, Int.sub_self]; unfold wrap64; omega⟩⟩
          case round =>
            rename_i gk1 hg1
            obtain ⟨m, q', hm0, hm1, hm2, hg2, rfl, rfl, hs⟩ := hrel
            have HS := Lib.hid hs
            clear hs
            by_cases hmn : (m : Int) < n
            · have d1 : decide ((m : Int) < n) = true := by simp [hmn]
              have e1 : IntKind.i64.wrap ((k : Int) + (m : Int)) = (k : Int) + (m : Int) := IntWalk.i64_in _ (by omega)
              have e2 : (0 : Int) ≤ (k : Int) + (m : Int) := by omega
              have e3 : ((k : Int) + (m : Int)).toNat = k + m := by omega
              by_cases hkm : k + m < xs.length
              · have c1 : w.cell? ⟨b, off + (k + m), none⟩ = some (.int .i64 (xs.getD (k + m) 0)) := HC.out (k + m) hkm
                generalize hx : xs.getD (k + m) 0 = x at c1
                have HX := Lib.hid hx
                clear hx
                have e4 : (k : Int) + (m : Int) < (xs.length : Int) := by omega
                have e5 : decide ((k : Int) + (m : Int) < (xs.length : Int)) = true := by simp; omega
                have HT := Lib.hid (wrap_turn x y m (by rw [← HX.out]; exact HW.out.at_ hkm) (by rw [← HY.out]; exact HW.out.at_ hlt) (by omega))
                by_cases hxy : wrap64 (x - m) = y
                · have hn : (wrap64 (x - (m : Int)) == y) = true := by simp [hxy]
                  have HN := Lib.hid hxy
                  clear hxy
                  go_wp2_with fail
                  go_quiet (fail)
                  clear e1 e3
                  go_wp2
                  go_roundg (n.toNat - (m + 1))
                  case measure => omega
                  case rel =>
                    refine ⟨m + 1, _, by omega, by omega, by omega, by omega, by go_num, rfl, fun t ht => ?_⟩
                    by_cases htm : t < m
                    · exact HS.out t htm
                    · obtain rfl : t = m := by omega
                      exact ⟨hkm, by rw [HX.out]; exact HT.out.1 HN.out⟩
                · have hn : (wrap64 (x - (m : Int)) == y) = false := by simp [hxy]
                  have HN := Lib.hid hxy
                  clear hxy
                  go_wp2_with fail
                  go_quiet (fail)
                  clear e1 e3
                  go_wp2
                  go_roundg (xs.length - (k + 1))
                  case measure => omega
                  case rel =>
                    refine ⟨k + 1, _, by omega, by omega, by go_num, rfl, fun j hj => ?_⟩
                    by_cases hjk : j < k
                    · exact HR.out j hjk
                    · obtain rfl : j = k := by omega
                      exact fun hside => HN.out (HT.out.2 (by rw [← HX.out, ← HY.out]; exact (hside m hmn).2))
              · have e5 : decide ((k : Int) + (m : Int) < (xs.length : Int)) = false := by simp; omega
                go_wp2_with fail
                go_quiet (fail)
                clear e1 e3
                go_wp2
                go_roundg (xs.length - (k + 1))
                case measure => omega
                case rel =>
                  refine ⟨k + 1, _, by omega, by omega, by go_num, rfl, fun j hj => ?_⟩
                  by_cases hjk : j < k
                  · exact HR.out j hjk
                  · obtain rfl : j = k := by omega
                    exact fun hside => hkm (hside m hmn).1
            · have d1 : decide ((m : Int) < n) = false := by simp; omega
              go_wp2_with fail
              go_quiet (fail)
              go_wp2
              go_ret2
              exact ⟨y, true, rfl, .inl ⟨rfl, hn2, k, hlt, HY.out.symm, fun t ht => by rw [HY.out]; exact HS.out t (by omega), HR.out⟩, _, rfl⟩
        · have hd : decide ((k : Int) < (xs.length : Int)) = false := by simp; omega
          go_wp2
          go_ret2
          exact ⟨0, false, rfl, .inr ⟨rfl, rfl, fun h j hj => HR.out j (by omega)⟩, _, rfl⟩
  · obtain ⟨p, c, rfl, _⟩ := h.form
    have hnd : decide ((0 : Int) < n) = false := by simp; omega
    go_enter Try.func11, Try.ntmps11
    go_wp2
    go_loopg [6] 0 (fun g i wr => i = .int .i64 0 ∧ wr = w)
    case atStart => exact ⟨rfl, rfl⟩
    case round =>
      obtain ⟨rfl, rfl⟩ := hrel
      go_wp2
      all_goals
        go_ret2
        exact ⟨0, false, rfl, .inr ⟨rfl, rfl, fun h => absurd h (by omega)⟩, 0, rfl⟩
end Go.Proofs.Ytlpkidpkgbjenaa
