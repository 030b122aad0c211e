/-
  THE WALK of copyholdlaw7.IdsTells: whatever the rows and numbers, it returns true and changes nothing that was there.
-/
import Derived.Test.YtlpkidpkgbjenaaKnownW
import Derived.OpenShut
set_option linter.unusedVariables false
set_option linter.unusedSimpArgs false
namespace Go.Proofs.Ytlpkidpkgbjenaa
open Go.RowKit Go.Lib Go.Sort

/-- A slice of ints that came in, in our words. -/
theorem ints_of_row (w : World) (a : Option Addr) (len cap : Nat) (zs : List Int)
    (h : (a = none ∧ len = 0 ∧ cap = 0 ∧ zs = []) ∨ ∃ x, a = some x ∧ len ≤ cap ∧ cap ≤ maxLen ∧ zs.length = cap ∧ (∀ i, i < zs.length → w.cell? (x.add i) = some (.int .i64 (zs.getD i 0))) ∧ ∀ n ∈ zs, (Lit.int .i64 n).wf = true) :
    ∃ xs, xs.length = len ∧ Ints w (.slice a len cap) xs ∧ Wf xs := by
  rcases h with ⟨rfl, rfl, rfl, rfl⟩ | ⟨x, rfl, hl, hm, hz, hc, hw⟩
  · exact ⟨[], rfl, Ints.nil _ _ _ (Nat.zero_le _), fun x hx => by simp at hx⟩
  · have hlen : (zs.take len).length = len := by rw [List.length_take]; omega
    refine ⟨zs.take len, hlen, ?_, fun n hn => ?_⟩
    · by_cases h0 : 0 < len
      · obtain ⟨b, off, spot⟩ := x
        have hc0 := hc 0 (by omega)
        have hspot : spot = none := by simpa [Addr.add] using World.cell?_spot hc0
        subst hspot
        refine .inr ⟨by omega, b, off, cap, by rw [hlen], by omega, hm, fun j hj => ?_⟩
        have := hc j (by omega)
        rw [Addr.add_lit] at this
        rw [this]
        rw [hlen] at hj
        simp [List.getD, List.getElem?_take_of_lt hj]
      · obtain rfl : len = 0 := by omega
        simpa using Ints.nil w (some x) cap hm
    · exact bounds_i64 (hw n (List.mem_of_mem_take hn))

theorem same_eq (v u : Value) (xs ys : List Int) (e : xs = ys) (w : World) (h : Ints w v xs) (h' : Ints w u ys) : Calls Try.prog 14 #[v, u] w fun e w' => e = .returned (.bool true) ∧ ∃ q, w' = w.drewN q := by
  have := same_any v u xs ys w h h'
  rwa [sameB_yes e] at this

def Done (w : World) (e : Ending) (w' : World) : Prop := e = .returned (.bool true) ∧ Below w.heap.size w w'

set_option maxRecDepth 100000 in
set_option maxHeartbeats 2000000 in
theorem tells_long (p0 p1 p2 : Option Addr) (n0 n1 n2 c0 c1 c2 : Nat) (n m : Int) (w : World) (h : 60 < n0 ∨ 60 < n1 ∨ 60 < n2) (k0 : n0 ≤ 9223372036854775807) (k1 : n1 ≤ 9223372036854775807) (k2 : n2 ≤ 9223372036854775807) :
    Calls Try.prog 3 #[.slice p0 n0 c0, .slice p1 n1 c1, .slice p2 n2 c2, .int .i64 n, .int .i64 m] w (Done w) := by
  by_cases h0 : 60 < n0
  · have d0 : decide ((60 : Int) < (n0 : Int)) = true := by simp; omega
    go_enter Try.func3, Try.ntmps3
    go_wp2_with (go_at_call 7; refine (known_any _).mono ?_; rintro e w1 ⟨rfl, hq⟩)
    go_ret
    exact ⟨rfl, hq⟩
  · have d0 : decide ((60 : Int) < (n0 : Int)) = false := by simp; omega
    by_cases h1 : 60 < n1
    · have d1 : decide ((60 : Int) < (n1 : Int)) = true := by simp; omega
      go_enter Try.func3, Try.ntmps3
      go_wp2_with (go_at_call 7; refine (known_any _).mono ?_; rintro e w1 ⟨rfl, hq⟩)
      go_ret
      exact ⟨rfl, hq⟩
    · have d1 : decide ((60 : Int) < (n1 : Int)) = false := by simp; omega
      have h2 : 60 < n2 := by omega
      have d2 : decide ((60 : Int) < (n2 : Int)) = true := by simp; omega
      go_enter Try.func3, Try.ntmps3
      go_wp2_with (go_at_call 7; refine (known_any _).mono ?_; rintro e w1 ⟨rfl, hq⟩)
      go_ret
      exact ⟨rfl, hq⟩

set_option maxRecDepth 100000 in
set_option maxHeartbeats 4000000 in
theorem tells_short (v0 v1 v2 : Value) (xs ys zs : List Int) (n m : Int) (w : World) (hx : Ints w v0 xs) (hy : Ints w v1 ys) (hz : Ints w v2 zs)
    (lx : xs.length ≤ 60) (ly : ys.length ≤ 60) (lz : zs.length ≤ 60) (wy : Wf ys) (wz : Wf zs) (hn : -9223372036854775808 ≤ n ∧ n ≤ 9223372036854775807) (hm : -9223372036854775808 ≤ m ∧ m ≤ 9223372036854775807) :
    Calls Try.prog 3 #[v0, v1, v2, .int .i64 n, .int .i64 m] w (Done w) := by
  obtain ⟨p0, c0, rfl, _⟩ := hx.form
  obtain ⟨p1, c1, rfl, _⟩ := hy.form
  obtain ⟨p2, c2, rfl, _⟩ := hz.form
  have d0 : decide ((60 : Int) < (xs.length : Int)) = false := by simp; omega
  have d1 : decide ((60 : Int) < (ys.length : Int)) = false := by simp; omega
  have d2 : decide ((60 : Int) < (zs.length : Int)) = false := by simp; omega
  have HX := Lib.hid hx
  have HY := Lib.hid hy
  have HZ := Lib.hid hz
  clear hx hy hz
  have K1 : Hid (∀ W, Ext w W → Calls Try.prog 8 #[.slice p0 xs.length c0] W fun e w' => e = .returned (.bool (rises xs)) ∧ ∃ q, w' = W.drewN q) := Lib.hid fun W e => is_any _ xs W (HX.out.ext e)
  have K2 : Hid (∀ W, Ext w W → Calls Try.prog 9 #[.slice p0 xs.length c0] W fun e w' => e = .returned (.bool (rises xs)) ∧ ∃ q, w' = W.drewN q) := Lib.hid fun W e => isRow_any _ xs W (HX.out.ext e)
  have K3 : Hid (∀ W, Ext w W → Calls Try.prog 9 #[.slice p1 ys.length c1] W fun e w' => e = .returned (.bool (rises ys)) ∧ ∃ q, w' = W.drewN q) := Lib.hid fun W e => isRow_any _ ys W (HY.out.ext e)
  have K4 : Hid (∀ W, Ext w W → Calls Try.prog 9 #[.slice p2 zs.length c2] W fun e w' => e = .returned (.bool (rises zs)) ∧ ∃ q, w' = W.drewN q) := Lib.hid fun W e => isRow_any _ zs W (HZ.out.ext e)
  generalize hr0 : rises xs = r0 at K1 K2
  clear hr0
  have e0 : (r0 != r0) = false := by simp
  cases hry : rises ys with
  | false =>
    rw [hry] at K3
    clear hry
    go_enter Try.func3, Try.ntmps3
    go_wp2_with fail
    refine (known_any _).mono ?_
    rintro e w1 ⟨rfl, hq⟩
    have X1 := Lib.hid hq
    clear hq
    go_wp2_with fail
    refine (K1.out _ X1.out).mono ?_
    rintro e w2 ⟨rfl, hq⟩
    have X2 := Lib.hid (Ext.step X1.out (Ext.ofDraws hq))
    clear hq X1
    go_wp2_with fail
    refine (K2.out _ X2.out).mono ?_
    rintro e w3 ⟨rfl, hq⟩
    have X3 := Lib.hid (Ext.step X2.out (Ext.ofDraws hq))
    clear hq X2
    go_wp2_with fail
    refine (K3.out _ X3.out).mono ?_
    rintro e w4 ⟨rfl, hq⟩
    have X4 := Lib.hid (Ext.step X3.out (Ext.ofDraws hq))
    clear hq X3
    go_wp2_with fail
    go_ret
    exact ⟨rfl, X4.out⟩
  | true =>
    rw [hry] at K3
    cases hrz : rises zs with
    | false =>
      rw [hrz] at K4
      clear hry hrz
      go_enter Try.func3, Try.ntmps3
      go_wp2_with fail
      refine (known_any _).mono ?_
      rintro e w1 ⟨rfl, hq⟩
      have X1 := Lib.hid hq
      clear hq
      go_wp2_with fail
      refine (K1.out _ X1.out).mono ?_
      rintro e w2 ⟨rfl, hq⟩
      have X2 := Lib.hid (Ext.step X1.out (Ext.ofDraws hq))
      clear hq X1
      go_wp2_with fail
      refine (K2.out _ X2.out).mono ?_
      rintro e w3 ⟨rfl, hq⟩
      have X3 := Lib.hid (Ext.step X2.out (Ext.ofDraws hq))
      clear hq X2
      go_wp2_with fail
      refine (K3.out _ X3.out).mono ?_
      rintro e w4 ⟨rfl, hq⟩
      have X4 := Lib.hid (Ext.step X3.out (Ext.ofDraws hq))
      clear hq X3
      go_wp2_with fail
      refine (K4.out _ X4.out).mono ?_
      rintro e w5 ⟨rfl, hq⟩
      have X5 := Lib.hid (Ext.step X4.out (Ext.ofDraws hq))
      clear hq X4
      go_wp2_with fail
      go_ret
      exact ⟨rfl, X5.out⟩
    | true =>
      rw [hrz] at K4
      have HRY := Lib.hid hry
      have HRZ := Lib.hid hrz
      clear hry hrz
      have HAY := Lib.hid (pairwise_of_rises ys HRY.out)
      have b0 : (hasB ys n == hasB ys n) = true := by simp
      go_enter Try.func3, Try.ntmps3
      go_wp2_with fail
      refine (known_any _).mono ?_
      rintro e w1 ⟨rfl, hq⟩
      have X1 := Lib.hid hq
      clear hq
      go_wp2_with fail
      refine (K1.out _ X1.out).mono ?_
      rintro e w2 ⟨rfl, hq⟩
      have X2 := Lib.hid (Ext.step X1.out (Ext.ofDraws hq))
      clear hq X1
      go_wp2_with fail
      refine (K2.out _ X2.out).mono ?_
      rintro e w3 ⟨rfl, hq⟩
      have X3 := Lib.hid (Ext.step X2.out (Ext.ofDraws hq))
      clear hq X2
      go_wp2_with fail
      refine (K3.out _ X3.out).mono ?_
      rintro e w4 ⟨rfl, hq⟩
      have X4 := Lib.hid (Ext.step X3.out (Ext.ofDraws hq))
      clear hq X3
      go_wp2_with fail
      refine (K4.out _ X4.out).mono ?_
      rintro e w5 ⟨rfl, hq⟩
      have X5 := Lib.hid (Ext.step X4.out (Ext.ofDraws hq))
      clear hq X4
      go_wp2_with fail
      refine (run_any _ ys n _ (HY.out.ext X5.out)).mono ?_
      rintro e w6 ⟨x, ok, rfl, hr1, hq⟩
      have R1 := Lib.hid hr1
      have X6 := Lib.hid (Ext.step X5.out (Ext.ofDraws hq))
      clear hq X5 hr1
      go_wp2_with fail
      refine (refRun_any _ ys n _ (HY.out.ext X6.out) wy hn.2).mono ?_
      rintro e w7 ⟨x', ok', rfl, hr2, hq⟩
      have X7 := Lib.hid (Ext.step X6.out (Ext.ofDraws hq))
      obtain ⟨rfl, rfl⟩ := R1.out.same hr2
      have bx : (x == x) = true := by simp
      have bo : (ok == ok) = true := by simp
      clear hq X6 hr2
      go_wp2_with fail
      refine (has_any _ ys n _ (HY.out.ext X7.out) HRY.out (by omega)).mono ?_
      rintro e w8 ⟨rfl, hq⟩
      have X8 := Lib.hid (Ext.step X7.out (Ext.ofDraws hq))
      clear hq X7
      go_wp2_with fail
      refine (refHas_any _ ys n _ (HY.out.ext X8.out)).mono ?_
      rintro e w9 ⟨rfl, hq⟩
      have X9 := Lib.hid (Ext.step X8.out (Ext.ofDraws hq))
      clear hq X8
      go_wp2_with fail
      refine (with_any _ ys n _ (HY.out.ext X9.out) HRY.out (by omega)).mono ?_
      rintro e w10 ⟨va, rfl, hia, hq⟩
      have IA := Lib.hid hia
      have X10 := Lib.hid (Ext.step X9.out hq)
      clear hq X9 hia
      go_wp2_with fail
      refine (refWith_any _ ys n _ (HY.out.ext X10.out) (by omega)).mono ?_
      rintro e w11 ⟨vb, rfl, hib, hq⟩
      have IB := Lib.hid hib
      have IA2 := Lib.hid (IA.out.ext hq)
      have X11 := Lib.hid (Ext.step X10.out hq)
      clear hq X10 hib IA
      go_wp2_with fail
      refine (same_eq _ _ _ _ rfl _ IA2.out IB.out).mono ?_
      rintro e w12 ⟨rfl, hq⟩
      have X12 := Lib.hid (Ext.step X11.out (Ext.ofDraws hq))
      clear hq X11 IA2 IB
      go_wp2_with fail
      refine (without_any _ ys n _ (HY.out.ext X12.out) (by omega)).mono ?_
      rintro e w13 ⟨vc, rfl, hia, hq⟩
      rw [keepB_ne wy hn] at hia
      have IA := Lib.hid hia
      have X13 := Lib.hid (Ext.step X12.out hq)
      clear hq X12 hia
      go_wp2_with fail
      refine (refWithout_any _ ys n _ (HY.out.ext X13.out) (by omega)).mono ?_
      rintro e w14 ⟨vd, rfl, hib, hq⟩
      have IB := Lib.hid hib
      have IA2 := Lib.hid (IA.out.ext hq)
      have X14 := Lib.hid (Ext.step X13.out hq)
      clear hq X13 hib IA
      go_wp2_with fail
      refine (same_eq _ _ _ _ rfl _ IA2.out IB.out).mono ?_
      rintro e w15 ⟨rfl, hq⟩
      have X15 := Lib.hid (Ext.step X14.out (Ext.ofDraws hq))
      clear hq X14 IA2 IB
      go_wp2_with fail
      refine (both_any _ _ ys zs _ (HY.out.ext X15.out) (HZ.out.ext X15.out) (by omega) (by omega)).mono ?_
      rintro e w16 ⟨ve, rfl, hia, hq⟩
      rw [bothS_eq ys zs HAY.out] at hia
      have IA := Lib.hid hia
      have X16 := Lib.hid (Ext.step X15.out hq)
      clear hq X15 hia
      go_wp2_with fail
      refine (refBoth_any _ _ ys zs _ (HY.out.ext X16.out) (HZ.out.ext X16.out) (by omega) (by omega)).mono ?_
      rintro e w17 ⟨vf, rfl, hib, hq⟩
      have IB := Lib.hid hib
      have IA2 := Lib.hid (IA.out.ext hq)
      have X17 := Lib.hid (Ext.step X16.out hq)
      clear hq X16 hib IA
      go_wp2_with fail
      refine (same_eq _ _ _ _ rfl _ IA2.out IB.out).mono ?_
      rintro e w18 ⟨rfl, hq⟩
      have X18 := Lib.hid (Ext.step X17.out (Ext.ofDraws hq))
      clear hq X17 IA2 IB
      cases hfar : farB n m with
      | true =>
        have HF := Lib.hid hfar
        clear hfar
        go_wp2_with fail
        refine (far_any n m _).mono ?_
        rintro e w19 ⟨rfl, rfl⟩
        rw [HF.out]
        go_wp2_with fail
        go_ret
        exact ⟨rfl, X18.out⟩
      | false =>
        have hnf : 0 < m → n + (m - 1) ≤ 9223372036854775807 := by
          intro hm0
          unfold farB at hfar
          by_cases hn0 : 0 < n
          · simp [hm0, hn0] at hfar
            unfold wrap64 at hfar
            omega
          · omega
        have HF := Lib.hid hfar
        have HNF := Lib.hid hnf
        clear hfar hnf
        go_wp2_with fail
        refine (far_any n m _).mono ?_
        rintro e w19 ⟨rfl, rfl⟩
        rw [HF.out]
        go_wp2_with fail
        refine (drop_any _ ys n m _ (HY.out.ext X18.out) (by omega)).mono ?_
        rintro e w20 ⟨vg, rfl, hia, hq⟩
        rw [keepB_in wy hn hm] at hia
        have IA := Lib.hid hia
        have X20 := Lib.hid (Ext.step X18.out hq)
        clear hq X18 hia
        go_wp2_with fail
        refine (refDrop_any _ ys n m _ (HY.out.ext X20.out) (by omega) hn.1 hm.1 hm.2 HNF.out).mono ?_
        rintro e w21 ⟨vh, rfl, hib, hq⟩
        have IB := Lib.hid hib
        have IA2 := Lib.hid (IA.out.ext hq)
        have X21 := Lib.hid (Ext.step X20.out hq)
        clear hq X20 hib IA
        go_wp2_with fail
        refine (same_eq _ _ _ _ rfl _ IA2.out IB.out).mono ?_
        rintro e w22 ⟨rfl, hq⟩
        have X22 := Lib.hid (Ext.step X21.out (Ext.ofDraws hq))
        clear hq X21 IA2 IB
        go_wp2_with fail
        go_ret
        exact ⟨rfl, X22.out⟩
end Go.Proofs.Ytlpkidpkgbjenaa
