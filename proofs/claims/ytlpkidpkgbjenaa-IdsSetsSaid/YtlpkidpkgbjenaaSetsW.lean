/-
  THE WALK of copyholdlaw7.IdsSets: whatever the bytes, it returns true and changes nothing that was there.
-/
import Derived.Test.YtlpkidpkgbjenaaDropsW
set_option linter.unusedVariables false
set_option linter.unusedSimpArgs false
namespace Go.Proofs.Ytlpkidpkgbjenaa
open Go.RowKit Go.Lib Go.Sort

set_option maxHeartbeats 800000 in
theorem sets_long (p0 p1 : Option Addr) (n0 n1 c0 c1 : Nat) (m : Int) (w : World) (h : 40 < n0 ∨ 40 < n1) (k0 : n0 ≤ 9223372036854775807) (k1 : n1 ≤ 9223372036854775807) :
    Calls Try.prog 5 #[.slice p0 n0 c0, .slice p1 n1 c1, .int .u8 m] w (Done w) := by
  by_cases h0 : 40 < n0
  · have d0 : decide ((40 : Int) < (n0 : Int)) = true := by simp; omega
    go_enter Try.func5, Try.ntmps5
    go_wp2_with (go_at_call 7; refine (known_any _).mono ?_; rintro e w1 ⟨rfl, hq⟩)
    go_ret
    exact ⟨rfl, hq⟩
  · have d0 : decide ((40 : Int) < (n0 : Int)) = false := by simp; omega
    have h1 : 40 < n1 := by omega
    have d1 : decide ((40 : Int) < (n1 : Int)) = true := by simp; omega
    go_enter Try.func5, Try.ntmps5
    go_wp2_with (go_at_call 7; refine (known_any _).mono ?_; rintro e w1 ⟨rfl, hq⟩)
    go_ret
    exact ⟨rfl, hq⟩

theorem hasB_both (xs ys : List Int) (n : Int) : hasB (bothS xs ys) n = (hasB xs n || hasB ys n) := by
  rw [Bool.eq_iff_iff, hasB_iff, Bool.or_eq_true, hasB_iff, hasB_iff, (bothS_spec xs ys).2]
theorem hasB_with (xs : List Int) (n : Int) : hasB (withOf xs n) n = true := hasB_iff.2 ((mem_withOf xs n n).2 (.inr rfl))
theorem filter_ne_len {xs : List Int} {n : Int} (h : Asc xs) (hn : n ∈ xs) : (xs.filter (ne n)).length + 1 = xs.length := by
  induction xs with
  | nil => simp at hn
  | cons a r ih =>
    have h' := List.pairwise_cons.1 h
    by_cases ha : a = n
    · subst ha
      have hr : r.filter (ne a) = r := by
        rw [List.filter_eq_self]
        intro x hx
        have := h'.1 x hx
        simp [ne]; omega
      have hb : ne a a = false := by simp [ne]
      rw [List.filter_cons, if_neg (by simp [hb]), hr]; rfl
    · have hr : n ∈ r := by
        rcases List.mem_cons.1 hn with e | hr
        · exact absurd e.symm ha
        · exact hr
      have := ih h'.2 hr
      have hb : ne n a = true := by simp [ne, ha]
      rw [List.filter_cons, if_pos hb]
      simp; omega
theorem hasB_ne (xs : List Int) (n : Int) : hasB (xs.filter (ne n)) n = false := hasB_no fun h => by
  have := (List.mem_filter.1 h).2
  simp [ne] at this

/-- The laws of the last row: with, without, by one number. -/
theorem with_twice {xs : List Int} {n : Int} (h : Asc xs) : withOf (withOf xs n) n = withOf xs n := withOf_mem _ n (asc_withOf xs n h) ((mem_withOf xs n n).2 (.inr rfl))

set_option maxRecDepth 100000 in
set_option maxHeartbeats 8000000 in
theorem sets_short (p p' : Option Addr) (xs ys : List Int) (c c' : Nat) (m : Int) (w : World) (hx : Bs w p xs) (hu : U8 xs) (hl : xs.length ≤ 40) (hx' : Bs w p' ys) (hu' : U8 ys) (hl' : ys.length ≤ 40) (hm : 0 ≤ m ∧ m ≤ 255) :
    Calls Try.prog 5 #[.slice p xs.length c, .slice p' ys.length c', .int .u8 m] w (Done w) := by
  have d0 : decide ((40 : Int) < (xs.length : Int)) = false := by simp; omega
  have d1 : decide ((40 : Int) < (ys.length : Int)) = false := by simp; omega
  have HC := Lib.hid hx
  have HU := Lib.hid hu
  have HC' := Lib.hid hx'
  have HU' := Lib.hid hu'
  obtain ⟨hm1, hm2⟩ := hm
  clear hx hu hx' hu'
  go_enter Try.func5, Try.ntmps5
  go_wp2_with fail
  refine (known_any _).mono ?_
  rintro e w1 ⟨rfl, hq⟩
  have X1 := Lib.hid hq
  clear hq
  go_wp2_with fail
  go_loopw [7, 9] (fun v i wr => ∃ k : Nat, k ≤ xs.length ∧ i = .int .i64 k ∧ Ints wr v (insTo xs k) ∧ Ext w wr) (fun _ i _ => xs.length - (intOf i).toNat)
  case atStart => exact ⟨0, by omega, rfl, by simpa [insTo] using Ints.nil _ none 0 (Nat.zero_le _), X1.out⟩
  case round =>
    obtain ⟨k, hk, rfl, hin, hext⟩ := hrel
    by_cases hlt : k < xs.length
    · obtain ⟨b, off, rfl, hc⟩ := HC.out (by omega)
      have c1 : wr.cell? ⟨b, off + k, none⟩ = some (.int .u8 (xs.getD k 0)) := hext.cell (hc k hlt)
      clear hc
      have HB := Lib.hid (insTo_succ xs k hlt)
      obtain ⟨hb1, hb2⟩ := HU.out.at_ hlt
      generalize hx : xs.getD k 0 = x at c1 HB hb1 hb2
      clear hx
      have HL := Lib.hid (insTo_len xs k)
      have HN := Lib.hid hin
      clear hin
      go_wp2_with fail
      refine (with_any _ _ _ _ HN.out (asc_rises (insTo_asc xs k)) (by have := HL.out; omega)).mono ?_
      rintro e w2 ⟨v2, rfl, hin2, hext2⟩
      have HN2 := Lib.hid hin2
      have HE2 := Lib.hid (Ext.step hext hext2)
      clear hin2 hext2
      go_wp2_with fail
      go_roundw
      case rel => exact ⟨k + 1, by omega, by go_num, by rw [HB.out]; exact HN2.out, HE2.out⟩
      case measure => simp [intOf]; omega
    · obtain rfl : k = xs.length := by omega
      have HL := Lib.hid (insTo_len xs xs.length)
      have HW := Lib.hid (insTo_u8 HU.out xs.length)
      have HA := Lib.hid (insTo_asc xs xs.length)
      have HN := Lib.hid hin
      have HE := Lib.hid hext
      clear hin hext
      generalize insTo xs xs.length = ga at HL HW HA HN
      obtain ⟨pa, ca, ha, _⟩ := HN.out.form
      subst ha
      obtain ⟨wo, rfl⟩ : ∃ wo : World, wo = wr := ⟨_, rfl⟩
      go_wp2_with fail
      go_loopw [8, 10] (fun v i wr => ∃ k : Nat, k ≤ ys.length ∧ i = .int .i64 k ∧ Ints wr v (insTo ys k) ∧ Ext wo wr) (fun _ i _ => ys.length - (intOf i).toNat)
      case atStart => exact ⟨0, by omega, rfl, by simpa [insTo] using Ints.nil _ none 0 (Nat.zero_le _), Ext.rfl' _⟩
      case round =>
        obtain ⟨k, hk, rfl, hin, hext⟩ := hrel
        by_cases hlt : k < ys.length
        · obtain ⟨b, off, rfl, hc⟩ := HC'.out (by omega)
          have c1 : wr.cell? ⟨b, off + k, none⟩ = some (.int .u8 (ys.getD k 0)) := (Ext.step HE.out hext).cell (hc k hlt)
          clear hc
          have HB := Lib.hid (insTo_succ ys k hlt)
          obtain ⟨hb1, hb2⟩ := HU'.out.at_ hlt
          generalize hx : ys.getD k 0 = x at c1 HB hb1 hb2
          clear hx
          have HL := Lib.hid (insTo_len ys k)
          have HN := Lib.hid hin
          clear hin
          go_wp2_with fail
          refine (with_any _ _ _ _ HN.out (asc_rises (insTo_asc ys k)) (by have := HL.out; omega)).mono ?_
          rintro e w2 ⟨v2, rfl, hin2, hext2⟩
          have HN2 := Lib.hid hin2
          have HE2 := Lib.hid (Ext.step hext hext2)
          clear hin2 hext2
          go_wp2_with fail
          go_roundw
          case rel => exact ⟨k + 1, by omega, by go_num, by rw [HB.out]; exact HN2.out, HE2.out⟩
          case measure => simp [intOf]; omega
        · obtain rfl : k = ys.length := by omega
          have HL' := Lib.hid (insTo_len ys ys.length)
          have HW' := Lib.hid (insTo_u8 HU'.out ys.length)
          have HA' := Lib.hid (insTo_asc ys ys.length)
          have HN' := Lib.hid hin
          have HE' := Lib.hid hext
          clear hin hext
          generalize insTo ys ys.length = gb at HL' HW' HA' HN'
          obtain ⟨pb, cb, hb, _⟩ := HN'.out.form
          subst hb
          have HM := Lib.hid (HN.out.ext HE'.out)
          have XW := Lib.hid (Ext.step HE.out HE'.out)
          clear HN HE HE'
          go_wp2_with fail
          refine (both_any _ _ ga gb _ HM.out HN'.out (by have := HL.out; omega) (by have := HL'.out; omega)).mono ?_
          rintro e w2 ⟨vu, rfl, hiu, hq⟩
          have HM1 := Lib.hid (HM.out.ext hq)
          have HN1 := Lib.hid (HN'.out.ext hq)
          have HU1 := Lib.hid hiu
          have XW1 := Lib.hid (Ext.step XW.out hq)
          clear hiu hq HM HN' XW
          go_wp2_with fail
          refine (both_any _ _ gb ga _ HN1.out HM1.out (by have := HL'.out; omega) (by have := HL.out; omega)).mono ?_
          rintro e w3 ⟨vv, rfl, hiv, hq⟩
          have HM2 := Lib.hid (HM1.out.ext hq)
          have HN2 := Lib.hid (HN1.out.ext hq)
          have HU2 := Lib.hid (HU1.out.ext hq)
          have HV2 := Lib.hid hiv
          have XW2 := Lib.hid (Ext.step XW1.out hq)
          clear hiv hq HM1 HN1 HU1 XW1
          have SU := Lib.hid (bothS_spec ga gb)
          have SV := Lib.hid (bothS_spec gb ga)
          have LU : Hid ((bothS ga gb).length ≤ 1000) := Lib.hid (by
            rw [bothS_eq ga gb HA.out]; have := bothOf_len ga gb; have := HL.out; have := HL'.out; omega)
          have LV : Hid ((bothS gb ga).length ≤ 1000) := Lib.hid (by
            rw [bothS_eq gb ga HA'.out]; have := bothOf_len gb ga; have := HL.out; have := HL'.out; omega)
          have ZU := Lib.hid (hasB_both ga gb)
          have ZV := Lib.hid (hasB_both gb ga)
          generalize bothS ga gb = us at HU2 SU LU ZU
          generalize bothS gb ga = vs at HV2 SV LV ZV
          obtain ⟨pu, cu, hu, _⟩ := HU2.out.form
          subst hu
          obtain ⟨pv, cv, hv, _⟩ := HV2.out.form
          subst hv
          go_wp2_with fail
          go_loopw [13] (fun i wr => ∃ k : Nat, k ≤ 256 ∧ i = .int .i64 k ∧ Ext w3 wr) (fun i _ => 256 - (intOf i).toNat)
          case atStart => exact ⟨0, by omega, rfl, Ext.rfl' _⟩
          case round =>
            rename_i wr3
            obtain ⟨k, hk, rfl, hext⟩ := hrel
            have HX := Lib.hid hext
            clear hext
            by_cases hlt : k < 256
            · have hz := ZU.out (k : Int)
              have hz' := ZV.out (k : Int)
              have C1 : Hid (∀ W, Ext w3 W → Calls Try.prog 12 #[.slice pu us.length cu, .int .i64 k] W fun e w' => e = .returned (.bool (hasB us k)) ∧ ∃ q, w' = W.drewN q) := Lib.hid fun W e => has_any _ us k W (HU2.out.ext e) (asc_rises SU.out.1) (by have := LU.out; omega)
              have C4 : Hid (∀ W, Ext w3 W → Calls Try.prog 12 #[.slice pv vs.length cv, .int .i64 k] W fun e w' => e = .returned (.bool (hasB vs k)) ∧ ∃ q, w' = W.drewN q) := Lib.hid fun W e => has_any _ vs k W (HV2.out.ext e) (asc_rises SV.out.1) (by have := LV.out; omega)
              have C2 : Hid (∀ W, Ext w3 W → Calls Try.prog 12 #[.slice pa ga.length ca, .int .i64 k] W fun e w' => e = .returned (.bool (hasB ga k)) ∧ ∃ q, w' = W.drewN q) := Lib.hid fun W e => has_any _ ga k W (HM2.out.ext e) (asc_rises HA.out) (by have := HL.out; omega)
              have C3 : Hid (∀ W, Ext w3 W → Calls Try.prog 12 #[.slice pb gb.length cb, .int .i64 k] W fun e w' => e = .returned (.bool (hasB gb k)) ∧ ∃ q, w' = W.drewN q) := Lib.hid fun W e => has_any _ gb k W (HN2.out.ext e) (asc_rises HA'.out) (by have := HL'.out; omega)
              cases hb1 : hasB ga k with
              | true =>
                rw [hb1] at C2 hz hz'
                rw [Bool.true_or] at hz
                rw [Bool.or_true] at hz'
                rw [hz] at C1
                rw [hz'] at C4
                clear hb1 hz hz'
                go_wp2_with fail
                refine (C1.out _ HX.out).mono ?_
                rintro e w5 ⟨rfl, hq⟩
                have X5 := Lib.hid (Ext.step HX.out (Ext.ofDraws hq))
                clear hq
                go_wp2_with fail
                refine (C2.out _ X5.out).mono ?_
                rintro e w6 ⟨rfl, hq⟩
                have X6 := Lib.hid (Ext.step X5.out (Ext.ofDraws hq))
                clear hq
                go_wp2_with fail
                refine (C1.out _ X6.out).mono ?_
                rintro e w7 ⟨rfl, hq⟩
                have X7 := Lib.hid (Ext.step X6.out (Ext.ofDraws hq))
                clear hq
                go_wp2_with fail
                refine (C4.out _ X7.out).mono ?_
                rintro e w8 ⟨rfl, hq⟩
                have X8 := Lib.hid (Ext.step X7.out (Ext.ofDraws hq))
                clear hq
                go_wp2_with fail
                go_roundw
                case rel => exact ⟨k + 1, by omega, by go_num, X8.out⟩
                case measure => simp [intOf]; omega
              | false =>
                cases hb2 : hasB gb k with
                | true =>
                  rw [hb1] at C2 hz hz'
                  rw [hb2] at C3 hz hz'
                  rw [Bool.false_or] at hz
                  rw [Bool.or_false] at hz'
                  rw [hz] at C1
                  rw [hz'] at C4
                  clear hb1 hb2 hz hz'
                  go_wp2_with fail
                  refine (C1.out _ HX.out).mono ?_
                  rintro e w5 ⟨rfl, hq⟩
                  have X5 := Lib.hid (Ext.step HX.out (Ext.ofDraws hq))
                  clear hq
                  go_wp2_with fail
                  refine (C2.out _ X5.out).mono ?_
                  rintro e w6 ⟨rfl, hq⟩
                  have X6 := Lib.hid (Ext.step X5.out (Ext.ofDraws hq))
                  clear hq
                  go_wp2_with fail
                  refine (C3.out _ X6.out).mono ?_
                  rintro e w6' ⟨rfl, hq⟩
                  have X6' := Lib.hid (Ext.step X6.out (Ext.ofDraws hq))
                  clear hq X6
                  have X6 := Lib.hid X6'.out
                  clear X6'
                  go_wp2_with fail
                  refine (C1.out _ X6.out).mono ?_
                  rintro e w7 ⟨rfl, hq⟩
                  have X7 := Lib.hid (Ext.step X6.out (Ext.ofDraws hq))
                  clear hq
                  go_wp2_with fail
                  refine (C4.out _ X7.out).mono ?_
                  rintro e w8 ⟨rfl, hq⟩
                  have X8 := Lib.hid (Ext.step X7.out (Ext.ofDraws hq))
                  clear hq
                  go_wp2_with fail
                  go_roundw
                  case rel => exact ⟨k + 1, by omega, by go_num, X8.out⟩
                  case measure => simp [intOf]; omega
                | false =>
                  rw [hb1] at C2 hz hz'
                  rw [hb2] at C3 hz hz'
                  rw [Bool.false_or] at hz
                  rw [Bool.or_false] at hz'
                  rw [hz] at C1
                  rw [hz'] at C4
                  clear hb1 hb2 hz hz'
                  go_wp2_with fail
                  refine (C1.out _ HX.out).mono ?_
                  rintro e w5 ⟨rfl, hq⟩
                  have X5 := Lib.hid (Ext.step HX.out (Ext.ofDraws hq))
                  clear hq
                  go_wp2_with fail
                  refine (C2.out _ X5.out).mono ?_
                  rintro e w6 ⟨rfl, hq⟩
                  have X6 := Lib.hid (Ext.step X5.out (Ext.ofDraws hq))
                  clear hq
                  go_wp2_with fail
                  refine (C3.out _ X6.out).mono ?_
                  rintro e w6' ⟨rfl, hq⟩
                  have X6' := Lib.hid (Ext.step X6.out (Ext.ofDraws hq))
                  clear hq X6
                  have X6 := Lib.hid X6'.out
                  clear X6'
                  go_wp2_with fail
                  refine (C1.out _ X6.out).mono ?_
                  rintro e w7 ⟨rfl, hq⟩
                  have X7 := Lib.hid (Ext.step X6.out (Ext.ofDraws hq))
                  clear hq
                  go_wp2_with fail
                  refine (C4.out _ X7.out).mono ?_
                  rintro e w8 ⟨rfl, hq⟩
                  have X8 := Lib.hid (Ext.step X7.out (Ext.ofDraws hq))
                  clear hq
                  go_wp2_with fail
                  go_roundw
                  case rel => exact ⟨k + 1, by omega, by go_num, X8.out⟩
                  case measure => simp [intOf]; omega
            · have lw := withOf_len ga m
              have T2 := Lib.hid (with_twice (n := m) HA.out)
              have AW := Lib.hid (asc_withOf ga m HA.out)
              have FL := Lib.hid (filter_ne_len AW.out ((mem_withOf ga m m).2 (.inr rfl)))
              have FH := Lib.hid (hasB_ne (withOf ga m) m)
              have WW := Lib.hid (wf_withOf (n := m) (U8.wf HW.out) (by omega))
              have K1 := Lib.hid (with_any _ ga m _ (HM2.out.ext HX.out) (asc_rises HA.out) (by have := HL.out; omega))
              have LW : Hid ((withOf ga m).length ≤ 1000) := Lib.hid (by have := HL.out; omega)
              clear lw
              generalize withOf ga m = ws at K1 T2 AW FL FH WW LW
              go_wp2_with fail
              refine K1.out.mono ?_
              rintro e w5 ⟨vw, rfl, hiw, hq⟩
              have X5 := Lib.hid (Ext.step HX.out hq)
              have HWS := Lib.hid hiw
              clear hiw hq K1
              obtain ⟨pw, cw, hw, _⟩ := HWS.out.form
              subst hw
              go_wp2_with fail
              refine (is_any _ ga _ (HM2.out.ext X5.out)).mono ?_
              rintro e w6 ⟨rfl, hq⟩
              rw [asc_rises HA.out]
              have X6 := Lib.hid (Ext.step X5.out (Ext.ofDraws hq))
              have HWS6 := Lib.hid (HWS.out.ext (Ext.ofDraws hq))
              clear hq HWS X5
              go_wp2_with fail
              refine (is_any _ us _ (HU2.out.ext X6.out)).mono ?_
              rintro e w7 ⟨rfl, hq⟩
              rw [asc_rises SU.out.1]
              have X7 := Lib.hid (Ext.step X6.out (Ext.ofDraws hq))
              have HWS7 := Lib.hid (HWS6.out.ext (Ext.ofDraws hq))
              clear hq HWS6 X6
              go_wp2_with fail
              refine (is_any _ ws _ HWS7.out).mono ?_
              rintro e w8 ⟨rfl, hq⟩
              rw [asc_rises AW.out]
              have X8 := Lib.hid (Ext.step X7.out (Ext.ofDraws hq))
              have HWS8 := Lib.hid (HWS7.out.ext (Ext.ofDraws hq))
              clear hq HWS7 X7
              go_wp2_with fail
              refine (with_any _ ws m _ HWS8.out (asc_rises AW.out) (by have := LW.out; omega)).mono ?_
              rintro e w9 ⟨v9, rfl, hi9, hq⟩
              rw [T2.out] at hi9
              have X9 := Lib.hid (Ext.step X8.out hq)
              have HWS9 := Lib.hid (HWS8.out.ext hq)
              obtain ⟨p9, c9, h9, _⟩ := hi9.form
              subst h9
              clear hq hi9 HWS8 X8
              go_wp2_with fail
              refine (without_any _ ws m _ HWS9.out (by have := LW.out; omega)).mono ?_
              rintro e w10 ⟨v10, rfl, hi10, hq⟩
              rw [keepB_ne WW.out (by omega)] at hi10
              have X10 := Lib.hid (Ext.step X9.out hq)
              have HWS10 := Lib.hid (HWS9.out.ext hq)
              have HI10 := Lib.hid hi10
              clear hq hi10 HWS9 X9
              go_wp2_with fail
              refine (has_any _ (ws.filter (ne m)) m _ HI10.out (asc_rises (asc_filter (ne m) AW.out)) (by have := LW.out; have := List.length_filter_le (ne m) ws; omega)).mono ?_
              rintro e w11 ⟨rfl, hq⟩
              rw [FH.out]
              have X11 := Lib.hid (Ext.step X10.out (Ext.ofDraws hq))
              have HWS11 := Lib.hid (HWS10.out.ext (Ext.ofDraws hq))
              clear hq HWS10 X10 HI10
              go_wp2_with fail
              refine (without_any _ ws m _ HWS11.out (by have := LW.out; omega)).mono ?_
              rintro e w12 ⟨v12, rfl, hi12, hq⟩
              rw [keepB_ne WW.out (by omega)] at hi12
              have X12 := Lib.hid (Ext.step XW2.out (Ext.step X11.out hq))
              obtain ⟨p12, c12, h12, _⟩ := hi12.form
              subst h12
              clear hq hi12 HWS11 X11
              have fl := FL.out
              have lw2 := LW.out
              have hE : (((ws.filter (ne m)).length : Int) == (ws.length : Int) - 1) = true := by simp; omega
              have h0w : (0 : Int) ≤ (ws.length : Int) - 1 := by omega
              clear fl
              go_wp2_with fail
              go_ret
              exact ⟨rfl, X12.out⟩
end Go.Proofs.Ytlpkidpkgbjenaa
