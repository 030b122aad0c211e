/-
  THE WALK of copyholdlaw7.IdsDrops: whatever the bytes, it returns true and changes nothing that was there.
-/
import Derived.Test.YtlpkidpkgbjenaaTellsW
set_option linter.unusedVariables false
set_option linter.unusedSimpArgs false
namespace Go.Proofs.Ytlpkidpkgbjenaa
open Go.RowKit Go.Lib Go.Sort

/-- A slice of bytes that came in, in our words. -/
def Bs (w : World) (a : Option Addr) (xs : List Int) : Prop := 0 < xs.length → ∃ b off, a = some ⟨b, off, none⟩ ∧ ∀ j, j < xs.length → w.cell? ⟨b, off + j, none⟩ = some (.int .u8 (xs.getD j 0))
def U8 (xs : List Int) : Prop := ∀ x, x ∈ xs → 0 ≤ x ∧ x ≤ 255
theorem U8.at_ {xs : List Int} (h : U8 xs) {j : Nat} (hj : j < xs.length) : 0 ≤ xs.getD j 0 ∧ xs.getD j 0 ≤ 255 := by
  rw [getD_eq hj]; exact h _ (List.getElem_mem hj)
theorem bytes_of_row (w : World) (a : Option Addr) (len cap : Nat) (zs : List Int)
    (h : (a = none ∧ len = 0 ∧ cap = 0 ∧ zs = []) ∨ ∃ x, a = some x ∧ len ≤ cap ∧ cap ≤ maxLen ∧ zs.length = cap ∧ (∀ i, i < zs.length → w.cell? (x.add i) = some (.int .u8 (zs.getD i 0))) ∧ ∀ n ∈ zs, (Lit.int .u8 n).wf = true) :
    ∃ xs, xs.length = len ∧ Bs w a xs ∧ U8 xs ∧ len ≤ 9223372036854775807 := by
  rcases h with ⟨rfl, rfl, rfl, rfl⟩ | ⟨x, rfl, hl, hm, hz, hc, hw⟩
  · exact ⟨[], rfl, fun h => absurd h (by simp), fun x hx => by simp at hx, by omega⟩
  · have hlen : (zs.take len).length = len := by rw [List.length_take]; omega
    unfold maxLen at hm
    refine ⟨zs.take len, hlen, fun h0 => ?_, fun n hn => bounds_u8 (hw n (List.mem_of_mem_take hn)), by omega⟩
    obtain ⟨b, off, spot⟩ := x
    have hc0 := hc 0 (by omega)
    have hspot : spot = none := by simpa [Addr.add] using World.cell?_spot hc0
    subst hspot
    refine ⟨b, off, rfl, fun j hj => ?_⟩
    have := hc j (by omega)
    rw [Addr.add_lit] at this
    rw [this]
    rw [hlen] at hj
    simp [List.getD, List.getElem?_take_of_lt hj]

def insTo (xs : List Int) (k : Nat) : List Int := (xs.take k).foldl withOf []
theorem insTo_succ (xs : List Int) (k : Nat) (h : k < xs.length) : insTo xs (k + 1) = withOf (insTo xs k) (xs.getD k 0) := by
  unfold insTo
  rw [List.take_succ_eq_append_getElem h, List.foldl_append, getD_eq h]; rfl
theorem insTo_asc (xs : List Int) : ∀ k, Asc (insTo xs k) := fun k => asc_bothOf [] (xs.take k) List.Pairwise.nil
theorem insTo_len (xs : List Int) (k : Nat) : (insTo xs k).length ≤ xs.length := by
  have := bothOf_len [] (xs.take k)
  unfold insTo
  unfold bothOf at this
  simp at this
  omega
theorem insTo_mem (xs : List Int) (k : Nat) (x : Int) (h : x ∈ insTo xs k) : x ∈ xs := by
  have := (mem_bothOf [] (xs.take k) x).1 h
  simp at this
  exact List.mem_of_mem_take this
theorem U8.wf {xs : List Int} (h : U8 xs) : Wf xs := fun x hx => by have := h x hx; omega
theorem insTo_u8 {xs : List Int} (h : U8 xs) (k : Nat) : U8 (insTo xs k) := fun x hx => h x (insTo_mem xs k x hx)

set_option maxHeartbeats 400000 in
theorem drops_long (p : Option Addr) (n c : Nat) (f m : Int) (w : World) (h : 60 < n) (k : n ≤ 9223372036854775807) :
    Calls Try.prog 6 #[.slice p n c, .int .u8 f, .int .u8 m] w (Done w) := by
  have d0 : decide ((60 : Int) < (n : Int)) = true := by simp; omega
  go_enter Try.func6, Try.ntmps6
  go_wp2_with (go_at_call 7; refine (known_any _).mono ?_; rintro e w1 ⟨rfl, hq⟩)
  go_ret
  exact ⟨rfl, hq⟩

theorem hasB_filter (p : Int → Bool) (xs : List Int) (n : Int) : hasB (xs.filter p) n = (hasB xs n && p n) := by
  rw [Bool.eq_iff_iff, hasB_iff, Bool.and_eq_true, hasB_iff, List.mem_filter]

set_option maxRecDepth 100000 in
set_option maxHeartbeats 4000000 in
theorem drops_short (p : Option Addr) (xs : List Int) (c : Nat) (f m : Int) (w : World) (hx : Bs w p xs) (hu : U8 xs) (hl : xs.length ≤ 60) (hf : 0 ≤ f ∧ f ≤ 255) (hm : 0 ≤ m ∧ m ≤ 255) :
    Calls Try.prog 6 #[.slice p xs.length c, .int .u8 f, .int .u8 m] w (Done w) := by
  have d0 : decide ((60 : Int) < (xs.length : Int)) = false := by simp; omega
  have HC := Lib.hid hx
  have HU := Lib.hid hu
  obtain ⟨hf1, hf2⟩ := hf
  obtain ⟨hm1, hm2⟩ := hm
  clear hx hu
  go_enter Try.func6, Try.ntmps6
  go_wp2_with fail
  refine (known_any _).mono ?_
  rintro e w1 ⟨rfl, hq⟩
  have X1 := Lib.hid hq
  clear hq
  go_wp2_with fail
  go_loopw [7, 8] (fun v i wr => ∃ k : Nat, k ≤ xs.length ∧ i = .int .i64 k ∧ Ints wr v (insTo xs k) ∧ Ext w wr) (fun _ i _ => xs.length - (intOf i).toNat)
  case atStart => exact ⟨0, by omega, rfl, by simpa [insTo] using Ints.nil w1 none 0 (Nat.zero_le _), X1.out⟩
  case round =>
    obtain ⟨k, hk, rfl, hin, hext⟩ := hrel
    by_cases hlt : k < xs.length
    · obtain ⟨b, off, rfl, hc⟩ := HC.out (by omega)
      have c1 : wr.cell? ⟨b, off + k, none⟩ = some (.int .u8 (xs.getD k 0)) := hext.cell (hc k hlt)
      clear hc
      have HB := Lib.hid (insTo_succ xs k hlt)
      obtain ⟨hb1, hb2⟩ := HU.out.at_ hlt
      generalize hx : xs.getD k 0 = x at c1 HB hb1 hb2
      clear hx
      have HL := Lib.hid (insTo_len xs k)
      have HN := Lib.hid hin
      clear hin
      go_wp2_with fail
      refine (with_any _ _ _ _ HN.out (asc_rises (insTo_asc xs k)) (by have := HL.out; omega)).mono ?_
      rintro e w2 ⟨v2, rfl, hin2, hext2⟩
      have HN2 := Lib.hid hin2
      have HE2 := Lib.hid (Ext.step hext hext2)
      clear hin2 hext2
      go_wp2_with fail
      go_roundw
      case rel => exact ⟨k + 1, by omega, by go_num, by rw [HB.out]; exact HN2.out, HE2.out⟩
      case measure => simp [intOf]; omega
    · obtain rfl : k = xs.length := by omega
      have HL := Lib.hid (insTo_len xs xs.length)
      have HW := Lib.hid (U8.wf (insTo_u8 HU.out xs.length))
      have HA := Lib.hid (insTo_asc xs xs.length)
      have HN := Lib.hid hin
      have HE := Lib.hid hext
      clear hin hext
      generalize insTo xs xs.length = ys at HL HW HA HN
      obtain ⟨py, cy, hy, _⟩ := HN.out.form
      subst hy
      go_wp2_with fail
      refine (drop_any _ ys f m _ HN.out (by have := HL.out; omega)).mono ?_
      rintro e w2 ⟨v2, rfl, hin2, hext2⟩
      rw [keepB_in HW.out (by omega) (by omega)] at hin2
      have HD := Lib.hid hin2
      have HN2 := Lib.hid (HN.out.ext hext2)
      have HE2 := Lib.hid (Ext.step HE.out hext2)
      have HAD := Lib.hid (asc_filter (inB f m) HA.out)
      have HLD := Lib.hid (Nat.le_trans (List.length_filter_le (inB f m) ys) HL.out)
      have HH := Lib.hid (hasB_filter (inB f m) ys)
      generalize ys.filter (inB f m) = zs at HD HAD HLD HH
      obtain ⟨pz, cz, hz, _⟩ := HD.out.form
      subst hz
      clear hin2 hext2 HN HE
      go_wp2_with fail
      go_loopw [10] (fun i wr => ∃ k : Nat, k ≤ 256 ∧ i = .int .i64 k ∧ Ext w2 wr) (fun i _ => 256 - (intOf i).toNat)
      case atStart => exact ⟨0, by omega, rfl, Ext.rfl' _⟩
      case round =>
        obtain ⟨k, hk, rfl, hext⟩ := hrel
        have HX := Lib.hid hext
        clear hext
        by_cases hlt : k < 256
        · have hz := HH.out (k : Int)
          have C1 : Hid (∀ W, Ext w2 W → Calls Try.prog 12 #[.slice pz zs.length cz, .int .i64 k] W fun e w' => e = .returned (.bool (hasB zs k)) ∧ ∃ q, w' = W.drewN q) := Lib.hid fun W e => has_any _ zs k W (HD.out.ext e) (asc_rises HAD.out) (by have := HLD.out; omega)
          have C2 : Hid (∀ W, Ext w2 W → Calls Try.prog 12 #[.slice py ys.length cy, .int .i64 k] W fun e w' => e = .returned (.bool (hasB ys k)) ∧ ∃ q, w' = W.drewN q) := Lib.hid fun W e => has_any _ ys k W (HN2.out.ext e) (asc_rises HA.out) (by have := HL.out; omega)
          by_cases ho : f ≤ (k : Int)
          · have d1 : decide (f ≤ (k : Int)) = true := by simp [ho]
            by_cases ho2 : (k : Int) < f + m
            · have d2 : decide ((k : Int) < f + m) = true := by simp [ho2]
              have hi : inB f m k = false := by simp [inB, outB]; omega
              rw [hi, Bool.and_false] at hz
              rw [hz] at C1
              clear hz hi
              cases hb : hasB ys k with
              | true =>
                rw [hb] at C2
                clear hb
                go_wp2_with fail
                refine (C1.out _ HX.out).mono ?_
                rintro e w3 ⟨rfl, hq⟩
                have X3 := Lib.hid (Ext.step HX.out (Ext.ofDraws hq))
                clear hq
                go_wp2_with fail
                refine (C2.out _ X3.out).mono ?_
                rintro e w4 ⟨rfl, hq⟩
                have X4 := Lib.hid (Ext.step X3.out (Ext.ofDraws hq))
                clear hq
                go_wp2_with fail
                go_roundw
                case rel => exact ⟨k + 1, by omega, by go_num, X4.out⟩
                case measure => simp [intOf]; omega
              | false =>
                rw [hb] at C2
                clear hb
                go_wp2_with fail
                refine (C1.out _ HX.out).mono ?_
                rintro e w3 ⟨rfl, hq⟩
                have X3 := Lib.hid (Ext.step HX.out (Ext.ofDraws hq))
                clear hq
                go_wp2_with fail
                refine (C2.out _ X3.out).mono ?_
                rintro e w4 ⟨rfl, hq⟩
                have X4 := Lib.hid (Ext.step X3.out (Ext.ofDraws hq))
                clear hq
                go_wp2_with fail
                go_roundw
                case rel => exact ⟨k + 1, by omega, by go_num, X4.out⟩
                case measure => simp [intOf]; omega
            · have d2 : decide ((k : Int) < f + m) = false := by simp; omega
              have hi : inB f m k = true := by simp [inB, outB]; omega
              rw [hi] at hz
              cases hb : hasB ys k with
              | true =>
                rw [hb, Bool.and_true] at hz
                rw [hz] at C1
                rw [hb] at C2
                clear hb hz hi
                go_wp2_with fail
                refine (C1.out _ HX.out).mono ?_
                rintro e w3 ⟨rfl, hq⟩
                have X3 := Lib.hid (Ext.step HX.out (Ext.ofDraws hq))
                clear hq
                go_wp2_with fail
                refine (C2.out _ X3.out).mono ?_
                rintro e w4 ⟨rfl, hq⟩
                have X4 := Lib.hid (Ext.step X3.out (Ext.ofDraws hq))
                clear hq
                go_wp2_with fail
                go_roundw
                case rel => exact ⟨k + 1, by omega, by go_num, X4.out⟩
                case measure => simp [intOf]; omega
              | false =>
                rw [hb, Bool.and_true] at hz
                rw [hz] at C1
                rw [hb] at C2
                clear hb hz hi
                go_wp2_with fail
                refine (C1.out _ HX.out).mono ?_
                rintro e w3 ⟨rfl, hq⟩
                have X3 := Lib.hid (Ext.step HX.out (Ext.ofDraws hq))
                clear hq
                go_wp2_with fail
                refine (C2.out _ X3.out).mono ?_
                rintro e w4 ⟨rfl, hq⟩
                have X4 := Lib.hid (Ext.step X3.out (Ext.ofDraws hq))
                clear hq
                go_wp2_with fail
                go_roundw
                case rel => exact ⟨k + 1, by omega, by go_num, X4.out⟩
                case measure => simp [intOf]; omega
          · have d1 : decide (f ≤ (k : Int)) = false := by simp [ho]
            have hi : inB f m k = true := by simp [inB, outB]; omega
            rw [hi] at hz
            cases hb : hasB ys k with
            | true =>
              rw [hb, Bool.and_true] at hz
              rw [hz] at C1
              rw [hb] at C2
              clear hb hz hi
              go_wp2_with fail
              refine (C1.out _ HX.out).mono ?_
              rintro e w3 ⟨rfl, hq⟩
              have X3 := Lib.hid (Ext.step HX.out (Ext.ofDraws hq))
              clear hq
              go_wp2_with fail
              refine (C2.out _ X3.out).mono ?_
              rintro e w4 ⟨rfl, hq⟩
              have X4 := Lib.hid (Ext.step X3.out (Ext.ofDraws hq))
              clear hq
              go_wp2_with fail
              go_roundw
              case rel => exact ⟨k + 1, by omega, by go_num, X4.out⟩
              case measure => simp [intOf]; omega
            | false =>
              rw [hb, Bool.and_true] at hz
              rw [hz] at C1
              rw [hb] at C2
              clear hb hz hi
              go_wp2_with fail
              refine (C1.out _ HX.out).mono ?_
              rintro e w3 ⟨rfl, hq⟩
              have X3 := Lib.hid (Ext.step HX.out (Ext.ofDraws hq))
              clear hq
              go_wp2_with fail
              refine (C2.out _ X3.out).mono ?_
              rintro e w4 ⟨rfl, hq⟩
              have X4 := Lib.hid (Ext.step X3.out (Ext.ofDraws hq))
              clear hq
              go_wp2_with fail
              go_roundw
              case rel => exact ⟨k + 1, by omega, by go_num, X4.out⟩
              case measure => simp [intOf]; omega
        · go_wp2_with fail
          refine (is_any _ zs _ (HD.out.ext HX.out)).mono ?_
          rintro e w3 ⟨rfl, hq⟩
          rw [asc_rises HAD.out]
          have X3 := Lib.hid (Ext.step HE2.out (Ext.step HX.out (Ext.ofDraws hq)))
          clear hq
          go_wp2_with fail
          go_ret
          exact ⟨rfl, X3.out⟩
end Go.Proofs.Ytlpkidpkgbjenaa
