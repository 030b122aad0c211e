/-
  THE WALK of copyholdlaw7.IdsRuns: whatever the bytes, it returns true and changes nothing that was there.
-/
import Derived.Test.YtlpkidpkgbjenaaRunsLaw
set_option linter.unusedVariables false
set_option linter.unusedSimpArgs false
namespace Go.Proofs.Ytlpkidpkgbjenaa
open Go.RowKit Go.Lib Go.Sort

set_option maxHeartbeats 400000 in
theorem runs_long (p : Option Addr) (n c : Nat) (m : Int) (w : World) (h : 20 < n) (k : n ≤ 9223372036854775807) :
    Calls Try.prog 4 #[.slice p n c, .int .u8 m] w (Done w) := by
  have d0 : decide ((20 : Int) < (n : Int)) = true := by simp; omega
  go_enter Try.func4, Try.ntmps4
  go_wp2_with (go_at_call 7; refine (known_any _).mono ?_; rintro e w1 ⟨rfl, hq⟩)
  go_ret
  exact ⟨rfl, hq⟩

/-- What the outer loop holds. -/
def RunsRel (w : World) (gs : List Int) (k i : Nat) (v : Value) (wr : World) : Prop :=
  wr.ownsRow w.heap.size 3 1 v (rstTo gs k i).l.length ((rstTo gs k i).l.map (Value.int .i64)) ∧ Ext w wr
def BlkRel (w : World) (L : List Int) (a : Int) (j : Nat) (v : Value) (wr : World) : Prop :=
  wr.ownsRow w.heap.size 3 1 v (L ++ blk a j).length ((L ++ blk a j).map (Value.int .i64)) ∧ Ext w wr
theorem BlkRel.start {w wr : World} {L : List Int} {a : Int} {v : Value} (h : wr.ownsRow w.heap.size 3 1 v L.length (L.map (Value.int .i64)) ∧ Ext w wr) : BlkRel w L a 0 v wr := by
  unfold BlkRel; rw [show blk a 0 = [] from rfl, List.append_nil]; exact h
theorem BlkRel.more {w wr w1 : World} {L : List Int} {a y : Int} {j : Nat} {v v' : Value} {e : TypeId} (h : BlkRel w L a j v wr) (hy : a + (j : Int) = y)
    (ho : w1.ownsRow w.heap.size 3 1 v' ((L ++ blk a j).length + 1) ((L ++ blk a j).map (Value.int .i64) ++ [.int .i64 y])) (hg : (wr.alloc (.cells #[.int .i64 y] e)).grownBy w1 v.ownBlock) : BlkRel w L a (j + 1) v' w1 := by
  unfold BlkRel
  rw [blk_succ, ← List.append_assoc, hy]
  refine ⟨by simpa [Nat.add_assoc] using ho, ?_⟩
  exact below_append (h.2.alloc _) (by have := h.2.size; simp; omega) (h.1.alloc _) hg

set_option maxRecDepth 100000 in
set_option maxHeartbeats 8000000 in
theorem runs_short (p : Option Addr) (gs : List Int) (c : Nat) (n : Int) (w : World) (hx : Bs w p gs) (hu : U8 gs) (hl : gs.length ≤ 20) (hn : 0 ≤ n ∧ n ≤ 255) :
    Calls Try.prog 4 #[.slice p gs.length c, .int .u8 n] w (Done w) := by
  have d0 : decide ((20 : Int) < (gs.length : Int)) = false := by simp; omega
  have HC := Lib.hid hx
  have HU := Lib.hid hu
  obtain ⟨hn1, hn2⟩ := hn
  obtain ⟨k0, hk0⟩ : ∃ k0 : Nat, n % 5 = (k0 : Int) := ⟨(n % 5).toNat, by omega⟩
  have hk1 : k0 ≤ 4 := by omega
  clear hx hu
  go_enter Try.func4, Try.ntmps4
  go_wp2_with fail
  refine (known_any _).mono ?_
  rintro e w1 ⟨rfl, hq⟩
  have X1 := Lib.hid hq
  clear hq
  go_wp2_with fail
  clear hk0
  go_loopw [5, 6, 7, 9] (fun v a wt i wr => ∃ k : Nat, k ≤ gs.length ∧ i = .int .i64 k ∧ a = .int .i64 (rstTo gs (k0 + 1) k).a ∧ wt = .int .i64 (rstTo gs (k0 + 1) k).want ∧ RunsRel w gs (k0 + 1) k v wr) (fun _ _ _ i _ => gs.length - (intOf i).toNat)
  case atStart => exact ⟨0, by omega, rfl, rfl, rfl, owns_nil _ _ _ _, X1.out⟩
  case round =>
    obtain ⟨k, hk, rfl, rfl, rfl, hrr⟩ := hrel
    obtain ⟨wo, rfl⟩ : ∃ wo : World, wo = wr := ⟨_, rfl⟩
    by_cases hlt : k < gs.length
    · obtain ⟨b, off, rfl, hc⟩ := HC.out (by omega)
      have c1 : wo.cell? ⟨b, off + k, none⟩ = some (.int .u8 (gs.getD k 0)) := hrr.2.cell (hc k hlt)
      have HC0 : Hid (w.cell? ⟨b, off + k, none⟩ = some (.int .u8 (gs.getD k 0))) := Lib.hid (hc k hlt)
      clear hc
      have hs := rstTo_succ gs (k0 + 1) k hlt
      obtain ⟨hb1, hb2⟩ := HU.out.at_ hlt
      have hinv := rinv_to HU.out (k := k0 + 1) (by omega) k hk
      obtain ⟨hA2, hL2⟩ := rst_bound HU.out (k0 + 1) k hk
      unfold RunsRel at hrr
      generalize hx : gs.getD k 0 = x at c1 HC0 hs hb1 hb2
      clear hx
      generalize rstTo gs (k0 + 1) k = st at hs hinv hA2 hL2 hrr
      obtain ⟨L, A, Wn⟩ := st
      have hA1 : 2 ≤ A := hinv.pos
      have hw1 : -1 ≤ Wn := by
          rcases hinv.wlow with h | h
          · have h : Wn = -1 := h
            omega
          · have h : 0 ≤ Wn := h
            omega
      have hA2 : A ≤ 2 + 9 * (k : Int) := hA2
      have hL2 : L.length ≤ 5 * k := hL2
      clear hinv
      obtain ⟨m, hm⟩ : ∃ m : Nat, x % 6 = (m : Int) := ⟨(x % 6).toNat, by omega⟩
      obtain ⟨q, hq⟩ : ∃ q : Nat, x / 64 = (q : Int) := ⟨(x / 64).toNat, by omega⟩
      have hm5 : m ≤ 5 := by omega
      have hq3 : q ≤ 3 := by omega
      have hs' : rstTo gs (k0 + 1) (k + 1) = ⟨L ++ blk A m, A + m + 1 + q, if ((k0 : Int) + 1 ≤ (m : Int) ∧ Wn < 0) then A else Wn⟩ := by
        rw [hs]
        unfold rstep
        rw [hm, hq]
        have e1 : ((m : Int)).toNat = m := by omega
        have e2 : ((k0 + 1 : Nat) : Int) = (k0 : Int) + 1 := by omega
        rw [e1, e2]
      have HS := Lib.hid hs'
      have HR := Lib.hid hrr
      have C1 := Lib.hid c1
      clear hs hs' hrr
      go_wp2_with fail
      go_loopw [5, 11] (fun v j wr2 => ∃ t : Nat, t ≤ m ∧ j = .int .i64 t ∧ BlkRel w L A t v wr2) (fun _ j _ => m - (intOf j).toNat)
      case atStart => exact ⟨0, by omega, rfl, BlkRel.start HR.out⟩
      case round =>
        obtain ⟨t, ht, rfl, hblk⟩ := hrel
        obtain ⟨wr2, rfl⟩ : ∃ wr2 : World, wr2 = wr := ⟨_, rfl⟩
        by_cases htm : t < m
        · have hz := hblk.2.size
          have HB := Lib.hid hblk
          have hlen : (L ++ blk A t).length ≤ 200 := by rw [List.length_append, blk_len]; omega
          have HLEN := Lib.hid hlen
          clear hblk hlen
          go_wp2_with (at_builtin; refine wpList_append_sl _ rfl _ _ 22 (by rfl) w.heap.size intsEl _ _ _ (by rfl) (HB.out.1.alloc _) _ 1 [.int .i64 (A + (t : Int))] (by rfl) (Sl.new1 _ _ _) (int_one _) (by have := HLEN.out; unfold maxLen; omega) (by have := HLEN.out; omega) (by simp; omega) ?_; intro v1 w2 hown hgrow hat)
          have K2 := Lib.hid (HB.out.more rfl hown hgrow)
          clear hown hgrow hat
          go_wp2_with fail
          go_roundw
          case rel => exact ⟨t + 1, by omega, by go_num, K2.out⟩
          case measure => simp [intOf]; omega
        · obtain rfl : t = m := by omega
          by_cases hkm : (k0 : Int) + 1 ≤ (t : Int)
          · have e1 : decide ((k0 : Int) + 1 ≤ (t : Int)) = true := by simp [hkm]
            by_cases hwn : Wn < 0
            · have e2 : decide (Wn < 0) = true := by simp [hwn]
              have HI : Hid ((if ((k0 : Int) + 1 ≤ (t : Int) ∧ Wn < 0) then A else Wn) = A) := Lib.hid (if_pos ⟨hkm, hwn⟩)
              have c2 : wr2.cell? ⟨b, off + k, none⟩ = some (.int .u8 x) := hblk.2.cell HC0.out
              have HB := Lib.hid hblk
              clear hblk
              go_wp2_with fail
              go_roundw
              case rel =>
                refine ⟨k + 1, by omega, by go_num, ?_, ?_, ?_⟩
                · rw [HS.out]
                · rw [HS.out]; exact congrArg (Value.int .i64) HI.out.symm
                · unfold RunsRel; rw [HS.out]; exact HB.out
              case measure => simp [intOf]; omega
            · have e2 : decide (Wn < 0) = false := by simp; omega
              have HI : Hid ((if ((k0 : Int) + 1 ≤ (t : Int) ∧ Wn < 0) then A else Wn) = Wn) := Lib.hid (if_neg (fun h => hwn h.2))
              have c2 : wr2.cell? ⟨b, off + k, none⟩ = some (.int .u8 x) := hblk.2.cell HC0.out
              have HB := Lib.hid hblk
              clear hblk
              go_wp2_with fail
              go_roundw
              case rel =>
                refine ⟨k + 1, by omega, by go_num, ?_, ?_, ?_⟩
                · rw [HS.out]
                · rw [HS.out]; exact congrArg (Value.int .i64) HI.out.symm
                · unfold RunsRel; rw [HS.out]; exact HB.out
              case measure => simp [intOf]; omega
          · have e1 : decide ((k0 : Int) + 1 ≤ (t : Int)) = false := by simp; omega
            have HI : Hid ((if ((k0 : Int) + 1 ≤ (t : Int) ∧ Wn < 0) then A else Wn) = Wn) := Lib.hid (if_neg (fun h => hkm h.1))
            have c2 : wr2.cell? ⟨b, off + k, none⟩ = some (.int .u8 x) := hblk.2.cell HC0.out
            have HB := Lib.hid hblk
            clear hblk
            go_wp2_with fail
            go_roundw
            case rel =>
              refine ⟨k + 1, by omega, by go_num, ?_, ?_, ?_⟩
              · rw [HS.out]
              · rw [HS.out]; exact congrArg (Value.int .i64) HI.out.symm
              · unfold RunsRel; rw [HS.out]; exact HB.out
            case measure => simp [intOf]; omega
    · obtain rfl : k = gs.length := by omega
      have hinv := rinv_to HU.out (k := k0 + 1) (by omega) gs.length hk
      obtain ⟨hA2, hL2⟩ := rst_bound HU.out (k0 + 1) gs.length hk
      unfold RunsRel at hrr
      generalize rstTo gs (k0 + 1) gs.length = st at hinv hA2 hL2 hrr
      have ek : ((k0 + 1 : Nat) : Int) = (k0 : Int) + 1 := by omega
      have HI := Lib.hid (Ints.ofOwns hrr.1)
      have HE := Lib.hid hrr.2
      have HINV := Lib.hid hinv
      have ha200 : st.a ≤ 200 := by omega
      have HWF := Lib.hid (small_wf (rinv_small hinv ha200))
      clear hrr
      obtain ⟨pl, cl, hpl, _⟩ := HI.out.form
      subst hpl
      by_cases hw : st.want < 0
      · have R := runIs_no hinv ha200 hw
        rw [ek] at R
        have RI := Lib.hid R
        clear R hinv ek
        go_wp2_with fail
        refine (run_any _ st.l ((k0 : Int) + 1) _ HI.out).mono ?_
        rintro e w3 ⟨x, ok, rfl, hri, hq⟩
        obtain ⟨rfl, rfl⟩ := hri.same RI.out
        have X3 := Lib.hid (Ext.step HE.out (Ext.ofDraws hq))
        clear hq hri
        go_wp2_with fail
        go_ret
        exact ⟨rfl, X3.out⟩
      · have hw0 : 0 ≤ st.want := by omega
        have R := runIs_yes (by omega) hinv ha200 hw0
        have HLn := runs_len (by omega) hinv hw0
        have HNot := drop_not (l := st.l) (x := st.want) (k := k0 + 1) (by omega)
        have hwb : st.want ≤ 200 := by
          obtain ⟨i, hi, hxw, _⟩ := hinv.yes hw0
          have := hinv.low (st.l.getD i 0) (by rw [getD_eq hi]; exact List.getElem_mem hi)
          omega
        rw [ek] at R HLn HNot
        have RI := Lib.hid R
        have HN2 := Lib.hid HNot
        have HA := Lib.hid hinv.asc
        clear R hinv HNot
        have he : (st.want == st.want) = true := by simp
        go_wp2_with fail
        refine (run_any _ st.l ((k0 : Int) + 1) _ HI.out).mono ?_
        rintro e w3 ⟨x, ok, rfl, hri, hq⟩
        obtain ⟨rfl, rfl⟩ := hri.same RI.out
        have X3 := Lib.hid (Ext.step HE.out (Ext.ofDraws hq))
        have HI3 := Lib.hid (HI.out.ext (Ext.ofDraws hq))
        clear hq hri
        go_wp2_with fail
        refine (drop_any _ st.l st.want ((k0 : Int) + 1) _ HI3.out (by omega)).mono ?_
        rintro e w4 ⟨v4, rfl, hi4, hq⟩
        rw [keepB_in HWF.out (by omega) (by omega)] at hi4
        have HI4 := Lib.hid hi4
        have X4 := Lib.hid (Ext.step X3.out hq)
        obtain ⟨p4, c4, h4, _⟩ := HI4.out.form
        subst h4
        clear hi4 hq
        have hfl := List.length_filter_le (inB st.want ((k0 : Int) + 1)) st.l
        have hle : (((st.l.filter (inB st.want ((k0 : Int) + 1))).length : Int) == (st.l.length : Int) - ((k0 : Int) + 1)) = true := by simp; omega
        have h0 : (0 : Int) ≤ (st.l.length : Int) - ((k0 : Int) + 1) := by omega
        clear HLn ek
        go_wp2_with fail
        refine (has_any _ _ st.want _ HI4.out (asc_rises (asc_filter _ HA.out)) (by omega)).mono ?_
        rintro e w5 ⟨rfl, hq⟩
        rw [HN2.out]
        have X5 := Lib.hid (Ext.step X4.out (Ext.ofDraws hq))
        have HI5 := Lib.hid (HI4.out.ext (Ext.ofDraws hq))
        clear hq
        go_wp2_with fail
        refine (is_any _ _ _ HI5.out).mono ?_
        rintro e w6 ⟨rfl, hq⟩
        rw [asc_rises (asc_filter _ HA.out)]
        have X6 := Lib.hid (Ext.step X5.out (Ext.ofDraws hq))
        clear hq
        go_wp2_with fail
        go_ret
        exact ⟨rfl, X6.out⟩
end Go.Proofs.Ytlpkidpkgbjenaa
