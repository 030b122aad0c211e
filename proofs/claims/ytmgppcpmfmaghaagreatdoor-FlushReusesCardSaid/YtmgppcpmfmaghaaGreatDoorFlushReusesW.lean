/-
  FlushReuses: for each rest of n by 40 the call returns true: the rounds of the loop, run once, joined.
-/
import Derived.Test.YtmgppcpmfmaghaaGreatDoorIvSeat
import Derived.Test.YtmgppcpmfmaghaaGreatDoorFlushReusesR0
import Derived.Test.YtmgppcpmfmaghaaGreatDoorFlushReusesR1
import Derived.Test.YtmgppcpmfmaghaaGreatDoorFlushReusesR2
import Derived.Test.YtmgppcpmfmaghaaGreatDoorFlushReusesR3
import Derived.Test.YtmgppcpmfmaghaaGreatDoorFlushReusesR4
import Derived.Test.YtmgppcpmfmaghaaGreatDoorFlushReusesR5
set_option linter.unusedVariables false
set_option maxRecDepth 100000
namespace Go.Ev.Flush
open Go.Proofs
theorem allA : ∀ i, i < 39 → chkA i = true
  | 0, _ => A_0
  | 1, _ => A_1
  | 2, _ => A_2
  | 3, _ => A_3
  | 4, _ => A_4
  | 5, _ => A_5
  | 6, _ => A_6
  | 7, _ => A_7
  | 8, _ => A_8
  | 9, _ => A_9
  | 10, _ => A_10
  | 11, _ => A_11
  | 12, _ => A_12
  | 13, _ => A_13
  | 14, _ => A_14
  | 15, _ => A_15
  | 16, _ => A_16
  | 17, _ => A_17
  | 18, _ => A_18
  | 19, _ => A_19
  | 20, _ => A_20
  | 21, _ => A_21
  | 22, _ => A_22
  | 23, _ => A_23
  | 24, _ => A_24
  | 25, _ => A_25
  | 26, _ => A_26
  | 27, _ => A_27
  | 28, _ => A_28
  | 29, _ => A_29
  | 30, _ => A_30
  | 31, _ => A_31
  | 32, _ => A_32
  | 33, _ => A_33
  | 34, _ => A_34
  | 35, _ => A_35
  | 36, _ => A_36
  | 37, _ => A_37
  | 38, _ => A_38
  | n + 39, h => absurd h (by omega)
theorem allB : ∀ i, i < 39 → chkB i = true
  | 0, _ => B_0
  | 1, _ => B_1
  | 2, _ => B_2
  | 3, _ => B_3
  | 4, _ => B_4
  | 5, _ => B_5
  | 6, _ => B_6
  | 7, _ => B_7
  | 8, _ => B_8
  | 9, _ => B_9
  | 10, _ => B_10
  | 11, _ => B_11
  | 12, _ => B_12
  | 13, _ => B_13
  | 14, _ => B_14
  | 15, _ => B_15
  | 16, _ => B_16
  | 17, _ => B_17
  | 18, _ => B_18
  | 19, _ => B_19
  | 20, _ => B_20
  | 21, _ => B_21
  | 22, _ => B_22
  | 23, _ => B_23
  | 24, _ => B_24
  | 25, _ => B_25
  | 26, _ => B_26
  | 27, _ => B_27
  | 28, _ => B_28
  | 29, _ => B_29
  | 30, _ => B_30
  | 31, _ => B_31
  | 32, _ => B_32
  | 33, _ => B_33
  | 34, _ => B_34
  | 35, _ => B_35
  | 36, _ => B_36
  | 37, _ => B_37
  | 38, _ => B_38
  | n + 39, h => absurd h (by omega)
theorem allX : ∀ i, i < 40 → chkX i = true
  | 0, _ => X_0
  | 1, _ => X_1
  | 2, _ => X_2
  | 3, _ => X_3
  | 4, _ => X_4
  | 5, _ => X_5
  | 6, _ => X_6
  | 7, _ => X_7
  | 8, _ => X_8
  | 9, _ => X_9
  | 10, _ => X_10
  | 11, _ => X_11
  | 12, _ => X_12
  | 13, _ => X_13
  | 14, _ => X_14
  | 15, _ => X_15
  | 16, _ => X_16
  | 17, _ => X_17
  | 18, _ => X_18
  | 19, _ => X_19
  | 20, _ => X_20
  | 21, _ => X_21
  | 22, _ => X_22
  | 23, _ => X_23
  | 24, _ => X_24
  | 25, _ => X_25
  | 26, _ => X_26
  | 27, _ => X_27
  | 28, _ => X_28
  | 29, _ => X_29
  | 30, _ => X_30
  | 31, _ => X_31
  | 32, _ => X_32
  | 33, _ => X_33
  | 34, _ => X_34
  | 35, _ => X_35
  | 36, _ => X_36
  | 37, _ => X_37
  | 38, _ => X_38
  | 39, _ => X_39
  | n + 40, h => absurd h (by omega)
theorem ok_pre : ∀ c ∈ pre, codeOk Tryz.f5.ntmps c = true ∧ drawsOk XA 5 c = true := fun c hc => by
  have h : pre.all (fun c => codeOk Tryz.f5.ntmps c && drawsOk XA 5 c) = true := by decide +kernel
  have := List.all_eq_true.1 h c hc
  simpa using this
theorem ok7 : codeOk Tryz.f5.ntmps p7 = true := by decide +kernel
theorem dk7 : drawsOk XA 5 p7 = true := by decide +kernel
theorem okA : codeOk Tryz.f5.ntmps cA = true := by decide +kernel
theorem dkA : drawsOk XA 5 cA = true := by decide +kernel
theorem okB : codeOk Tryz.f5.ntmps cB = true := by decide +kernel
theorem dkB : drawsOk XA 5 cB = true := by decide +kernel
theorem okr : codeOk Tryz.f5.ntmps rest = true := by decide +kernel
theorem dkr : drawsOk XA 5 rest = true := by decide +kernel
theorem R : RunOk XA rn := runOkA 2000
theorem xs {i : Nat} (h : i < 40) : endsS 2 (stD i) (runS rn 5 cA (St.of i (cl i))) = true ∧ endsS 1 (stE i) (runS rn 5 rest (stD i)) = true ∧ okS (stD i) = true ∧ okS (stE i) = true ∧ isTr (mkHK (stE i).L fun H => resK XA Tryz.f5 (mkF (stE i).F) H (stE i).nx fun c H nx => .exit c 0 H nx) = true ∧ ∀ c, okS (St.of i c) = true := by
  have := allX i h
  unfold chkX at this
  simp only [Bool.and_eq_true] at this
  obtain ⟨⟨⟨⟨⟨⟨h1, h2⟩, h3⟩, h4⟩, h5⟩, h6⟩, h7⟩ := this
  refine ⟨h1, h2, h3, h4, h5, fun c => ?_⟩
  show (Nat.ble (tab i).2.2 262144 && okL (tab i).2.2 (tab i).2.1) = true
  rw [h6, h7]; rfl
theorem aas {i r : Nat} (h : i < r) (hr : r < 40) : endsS 0 (St.of i (cl r)) (runS rn 5 cA (St.of i (cl r))) = true ∧ smallF ((0, cl r) :: (tab i).1) = true := by
  have := allA i (by omega)
  unfold chkA at this
  have := List.all_eq_true.1 this r (List.mem_range.2 hr)
  rw [Bool.or_eq_true, ble_iff, Bool.and_eq_true] at this
  exact this.resolve_left (by omega)
theorem bs {i : Nat} (h : i < 39) : endsS 0 (St.of (i + 1) nameC) (runS rn 5 cB (St.of i nameC)) = true ∧ smallF ((0, nameC) :: (tab i).1) = true := by
  have := allB i h
  unfold chkB at this
  rwa [Bool.and_eq_true] at this
theorem name_lt : nameC < 2 ^ 128 := by decide
theorem cl_lt {r : Nat} (h : r < 40) : cl r < 2 ^ 128 := by unfold cl restN; omega
theorem name_b {x : Nat} (hx : x < 256) : Bears nameC (.int .u8 x) := nameC_bears (fun _ h => by cases h) (fun _ h => by cases h)
theorem cl_b {x : Nat} (hx : x < 256) : Bears (cl (x % 40)) (.int .u8 x) := restN_bears hx (by decide) (by decide)
theorem cl_p {x : Nat} (hx : x < 256) : Pins (cl (x % 40)) := restN_pins (Nat.lt_trans (Nat.mod_lt x (show 0 < 40 by decide)) (by decide)) (by decide)
theorem loop_from {x : Nat} (hx : x < 256) (hr : x % 40 < 40) : ∀ d i, i + d = x % 40 → TriS XA (some (.int .u8 x)) Tryz.f5.ntmps (.loop (.seq cA cB)) (St.of i (cl (x % 40))) (.exit 0) (stD (x % 40))
  | 0, i, h => by
    obtain rfl : i = x % 40 := by omega
    exact TriS.loopExit (TriS.seqExit (show TriS XA _ _ cA (St.of (x % 40) (cl (x % 40))) (.exit 0) (stD (x % 40)) from TriS.seg R okA dkA ((xs hr).2.2.2.2.2 _) (xs hr).1))
  | d + 1, i, h => by
    have h1 : i < x % 40 := by omega
    have h2 : i < 39 := by omega
    refine TriS.loop ((xs (show i + 1 < 40 by omega)).2.2.2.2.2 _) (TriS.seq ((xs (show i < 40 by omega)).2.2.2.2.2 _) (show TriS XA _ _ cA _ .normal _ from TriS.seg R okA dkA ((xs (show i < 40 by omega)).2.2.2.2.2 _) (aas h1 hr).1) ?_) (loop_from hx hr d (i + 1) (by omega))
    have hB : TriS XA (some (.int .u8 x)) Tryz.f5.ntmps cB (St.of i nameC) .normal (St.of (i + 1) nameC) := TriS.seg R okB dkB ((xs (show i < 40 by omega)).2.2.2.2.2 _) (bs h2).1
    refine TriS.swap hB (aas h1 hr).2 ?_ name_lt (cl_lt hr) (cl_p hx) (name_b hx) nameC_pins (cl_b hx)
    by_cases h3 : i + 1 < 39
    · exact (bs h3).2
    · obtain rfl : i = 38 := by omega
      decide +kernel
theorem walks {x : Nat} (hx : x < 256) (w : World) : Calls Tryz.prog 5 #[.int .u8 x] w fun e w' => e = .returned (.bool true) ∧ Kept w w' := by
  have hr : x % 40 < 40 := Nat.mod_lt _ (by decide)
  have h0 := (xs (i := 0) (by decide)).2.2.2.2.2
  refine calls_of_st (V := some (.int .u8 x)) (G := .str 0 0) envA ⟨trivial⟩ Tryz.func5 body_eq (show isImm (.str 0 0) from trivial) (.inr rfl) arg_run rfl
    (TriS.pieces R ok_pre (show okS (st0 nameC) = true by decide +kernel) (by decide +kernel) pre_run (TriS.seq (xs hr).2.2.1 (TriS.seq (h0 _) ?_ (TriS.block (loop_from hx hr (x % 40) 0 (by omega))))
      (show TriS XA _ _ rest (stD (x % 40)) .ret (stE (x % 40)) from TriS.seg R okr dkr (xs hr).2.2.1 (xs hr).2.1))) (xs hr).2.2.2.1 (xs hr).2.2.2.2.1 (args1N (Q := fun I => ∀ v, some (Value.int .u8 x) = some v → I.val 1 = some v) name_lt fun σ I hq => name_b hx σ I (hq _ rfl)) w (fun R E h => by cases h)
  have h7 : TriS XA (some (.int .u8 x)) Tryz.f5.ntmps p7 ⟨(0, nameC) :: (tab 0).1.filter (fun x => x.1 != 7), (tab 0).2.1, (tab 0).2.2⟩ .normal (St.of 0 nameC) := TriS.seg R ok7 dk7 (by decide +kernel) p7_run
  exact TriS.swap (t := 0) h7 (by decide +kernel) (by decide +kernel) name_lt (cl_lt hr) nameC_pins (name_b hx) nameC_pins (cl_b hx)
end Go.Ev.Flush
