/-
  MachineMany: for each rest of n by 20 the call returns true: the rounds of the loop, run once, joined.
-/
import Derived.Test.YthnkbbceiipcdaaGreatDoorKvSA
import Derived.Test.YthnkbbceiipcdaaGreatDoorMachineManyR0
import Derived.Test.YthnkbbceiipcdaaGreatDoorMachineManyR1
import Derived.Test.YthnkbbceiipcdaaGreatDoorMachineManyR2
import Derived.Test.YthnkbbceiipcdaaGreatDoorMachineManyR3
import Derived.Test.YthnkbbceiipcdaaGreatDoorMachineManyR4
set_option linter.unusedVariables false
set_option maxRecDepth 100000
noncomputable section
namespace Go.Ev.Many
open Go.Proofs
/-- what the run ends at -/
def nxE : Nat → Nat
  | 1 => 3919
  | 2 => 4612
  | 3 => 5311
  | 4 => 6016
  | 5 => 6727
  | 6 => 7444
  | 7 => 8167
  | 8 => 8896
  | 9 => 9231
  | 10 => 9572
  | 11 => 9919
  | 12 => 10272
  | 13 => 10631
  | 14 => 10996
  | 15 => 11367
  | 16 => 11744
  | 17 => 12127
  | 18 => 12516
  | 19 => 12911
  | _ => 13312
theorem allO : ∀ i, i ≤ 20 → chkO i = true
  | 0, _ => O_0
  | 1, _ => O_1
  | 2, _ => O_2
  | 3, _ => O_3
  | 4, _ => O_4
  | 5, _ => O_5
  | 6, _ => O_6
  | 7, _ => O_7
  | 8, _ => O_8
  | 9, _ => O_9
  | 10, _ => O_10
  | 11, _ => O_11
  | 12, _ => O_12
  | 13, _ => O_13
  | 14, _ => O_14
  | 15, _ => O_15
  | 16, _ => O_16
  | 17, _ => O_17
  | 18, _ => O_18
  | 19, _ => O_19
  | 20, _ => O_20
  | n + 21, h => absurd h (by omega)
theorem allA : ∀ i, i < 20 → chkA i = true
  | 0, _ => A_0
  | 1, _ => A_1
  | 2, _ => A_2
  | 3, _ => A_3
  | 4, _ => A_4
  | 5, _ => A_5
  | 6, _ => A_6
  | 7, _ => A_7
  | 8, _ => A_8
  | 9, _ => A_9
  | 10, _ => A_10
  | 11, _ => A_11
  | 12, _ => A_12
  | 13, _ => A_13
  | 14, _ => A_14
  | 15, _ => A_15
  | 16, _ => A_16
  | 17, _ => A_17
  | 18, _ => A_18
  | 19, _ => A_19
  | n + 20, h => absurd h (by omega)
theorem allB : ∀ i, i < 20 → chkB i = true
  | 0, _ => B_0
  | 1, _ => B_1
  | 2, _ => B_2
  | 3, _ => B_3
  | 4, _ => B_4
  | 5, _ => B_5
  | 6, _ => B_6
  | 7, _ => B_7
  | 8, _ => B_8
  | 9, _ => B_9
  | 10, _ => B_10
  | 11, _ => B_11
  | 12, _ => B_12
  | 13, _ => B_13
  | 14, _ => B_14
  | 15, _ => B_15
  | 16, _ => B_16
  | 17, _ => B_17
  | 18, _ => B_18
  | 19, _ => B_19
  | n + 20, h => absurd h (by omega)
theorem allP : ∀ i, i < 20 → chkP i = true
  | 0, _ => P_0
  | 1, _ => P_1
  | 2, _ => P_2
  | 3, _ => P_3
  | 4, _ => P_4
  | 5, _ => P_5
  | 6, _ => P_6
  | 7, _ => P_7
  | 8, _ => P_8
  | 9, _ => P_9
  | 10, _ => P_10
  | 11, _ => P_11
  | 12, _ => P_12
  | 13, _ => P_13
  | 14, _ => P_14
  | 15, _ => P_15
  | 16, _ => P_16
  | 17, _ => P_17
  | 18, _ => P_18
  | 19, _ => P_19
  | n + 20, h => absurd h (by omega)
theorem allX : ∀ i, 0 < i → i ≤ 20 → chkX i (nxE i) = true
  | 0, h, _ => absurd h (by omega)
  | 1, _, _ => X_1
  | 2, _, _ => X_2
  | 3, _, _ => X_3
  | 4, _, _ => X_4
  | 5, _, _ => X_5
  | 6, _, _ => X_6
  | 7, _, _ => X_7
  | 8, _, _ => X_8
  | 9, _, _ => X_9
  | 10, _, _ => X_10
  | 11, _, _ => X_11
  | 12, _, _ => X_12
  | 13, _, _ => X_13
  | 14, _, _ => X_14
  | 15, _, _ => X_15
  | 16, _, _ => X_16
  | 17, _, _ => X_17
  | 18, _, _ => X_18
  | 19, _, _ => X_19
  | 20, _, _ => X_20
  | n + 21, _, h => absurd h (by omega)
theorem ok_pre : ∀ c ∈ pre, codeOk Tryz.f6.ntmps c = true ∧ drawsOk XA 6 c = true := fun c hc => by
  have h : pre.all (fun c => codeOk Tryz.f6.ntmps c && drawsOk XA 6 c) = true := by decide +kernel
  have := List.all_eq_true.1 h c hc
  simpa using this
theorem ok7 : codeOk Tryz.f6.ntmps p7 = true := by decide +kernel
theorem dk7 : drawsOk XA 6 p7 = true := by decide +kernel
theorem okA : codeOk Tryz.f6.ntmps cA = true := by decide +kernel
theorem dkA : drawsOk XA 6 cA = true := by decide +kernel
theorem okB : codeOk Tryz.f6.ntmps cB = true := by decide +kernel
theorem dkB : drawsOk XA 6 cB = true := by decide +kernel
theorem okr : codeOk Tryz.f6.ntmps rest = true := by decide +kernel
theorem dkr : drawsOk XA 6 rest = true := by decide +kernel
theorem R : RunOk XA rn := runOkA 5000
theorem os {i : Nat} (h : i ≤ 20) (c : Nat) : okS (St.of i c) = true := by
  have := allO i h
  unfold chkO at this
  rw [Bool.and_eq_true] at this
  show (Nat.ble (tab i).2.2 262144 && okL (tab i).2.2 (tab i).2.1) = true
  rw [this.1, this.2]; rfl
theorem xs {i : Nat} (h0 : 0 < i) (h : i ≤ 20) : endsS 4 (stD i) (runS rn 6 cA (St.of i (kC (i - 1)))) = true ∧ endsS 1 (stE i (nxE i)) (runS rn 6 rest (stD i)) = true ∧ okS (stD i) = true ∧ okS (stE i (nxE i)) = true ∧ isTr (mkHK (stE i (nxE i)).L fun H => resK XA Tryz.f6 (mkF (stE i (nxE i)).F) H (stE i (nxE i)).nx fun c H nx => .exit c 0 H nx) = true := by
  have := allX i h0 h
  unfold chkX at this
  simp only [Bool.and_eq_true] at this
  obtain ⟨⟨⟨⟨h1, h2⟩, h3⟩, h4⟩, h5⟩ := this
  exact ⟨h1, h2, h3, h4, h5⟩
theorem aas {i r : Nat} (h : i ≤ r) (hr : r < 20) : endsS 0 (St.of i (kC r)) (runS rn 6 cA (St.of i (kC r))) = true ∧ smallF ((5, kC r) :: (tab i).1) = true := by
  have := allA i (by omega)
  unfold chkA at this
  have := List.all_eq_true.1 this r (List.mem_range.2 hr)
  rw [Bool.or_eq_true, blt_iff, Bool.and_eq_true] at this
  exact this.resolve_left (by omega)
theorem bs {i : Nat} (h : i < 20) : endsS 0 (St.of (i + 1) nameC) (runS rn 6 cB (St.of i nameC)) = true ∧ smallF ((5, nameC) :: (tab i).1) = true ∧ smallF ((5, nameC) :: (tab (i + 1)).1) = true := by
  have := allB i h
  unfold chkB at this
  simp only [Bool.and_eq_true] at this
  exact ⟨this.1.1, this.1.2, this.2⟩
theorem ps {r : Nat} (h : r < 20) : endsS 0 (stP (kC r)) (runLS rn 6 pre (st0 (restC r 20))) = true ∧ endsS 0 (St.of 0 (kC r)) (runS rn 6 p7 (stP (kC r))) = true ∧ chkF (begF (argF1 (restC r 20))) [(0, restC r 20)] = true ∧ okS (stP (kC r)) = true := by
  have := allP r h
  unfold chkP at this
  simp only [Bool.and_eq_true] at this
  exact ⟨this.1.1.1, this.1.1.2, this.1.2, this.2⟩
theorem name_lt : nameC < 2 ^ 128 := by decide
theorem kC_lt {r : Nat} (h : r < 20) : kC r < 2 ^ 128 := by unfold kC; omega
theorem kC_vr {r : Nat} (h : r < 20) (σ : Sig) (I : Imm) : VR σ I (kC r) (.int .i64 ((r + 1 : Nat) : Int)) := by
  have e : kC r = icell ((r + 1 : Nat) : Int) := by unfold kC icell; omega
  rw [e]
  exact (icell_crp ⟨by omega, by omega⟩).toV
theorem kC_pin {r : Nat} (h : r < 20) (σ : Sig) (I : Imm) (u : Value) (hu : VR σ I (kC r) u) : u = .int .i64 ((r + 1 : Nat) : Int) := by
  have h7 : hi (kC r) = 7 := by rw [hi_def]; unfold kC; omega
  obtain ⟨z, rfl, hz, e⟩ := int_of hu h7
  have : kC r = icell z := e
  unfold kC icell at this
  unfold InI at hz
  congr 1
  omega
/-- a cell under which a value stands, told otherwise, ahead of a piece of code and behind it -/
theorem Pt.swapV {n : Nat} {w0 w : World} {t c c' : Nat} {l : List (Nat × Nat)} {H : HT} {nx : Nat} {a : Act} {v : Value} (hp : Pt n (some v) w0 (mkF ((t, c) :: l)) H nx a w) (hc : ∀ x ∈ (t, c) :: l, x.2 < 2 ^ 128) (hc' : c' < 2 ^ 128) (h1 : ∀ σ (I : Imm) u, I.val 1 = some v → VR σ I c u → u = v) (h2 : ∀ σ (I : Imm), I.val 1 = some v → VR σ I c' v) : Pt n (some v) w0 (mkF ((t, c') :: l)) H nx a w := by
  obtain ⟨I, σ, q1, q2, q3, q4, q5, q6, q7, q8, q9, q10, q11⟩ := hp
  refine ⟨I, σ, q1, fun u => ?_, q3, q4, q5, q6, q7, q8, q9, q10, q11⟩
  have hv := q11 v rfl
  have hu := q2 u
  rw [fget_mkF hc] at hu
  have hc2 : ∀ x ∈ (t, c') :: l, x.2 < 2 ^ 128 := fun x hx => by
    rcases List.mem_cons.1 hx with rfl | hx
    · exact hc'
    · exact hc x (by simp [hx])
  rw [fget_mkF hc2]
  have hu : VR σ I (if u = t then c else look2 l u) (a.tmps.getD u undef) := hu
  show VR σ I (if u = t then c' else look2 l u) (a.tmps.getD u undef)
  by_cases e : u = t
  · rw [if_pos e] at hu ⊢
    rw [h1 σ I _ hv hu]; exact h2 σ I hv
  · rw [if_neg e] at hu ⊢; exact hu
theorem body_for {r i : Nat} (hr : r < 20) (hi : i ≤ r) : TriS XA (some (.int .i64 ((r + 1 : Nat) : Int))) Tryz.f6.ntmps cB (St.of i (kC r)) .normal (St.of (i + 1) (kC r)) := fun H H' hH hH' w0 a w hp => by
  have hB : TriS XA (some (.int .i64 ((r + 1 : Nat) : Int))) Tryz.f6.ntmps cB (St.of i nameC) .normal (St.of (i + 1) nameC) := TriS.seg R okB dkB (os (by omega) _) (bs (by omega)).1
  have h1 := Pt.swapV hp (smallF_at (aas hi hr).2) name_lt (fun σ I u _ hu => kC_pin hr σ I u hu) (fun σ I h => nameC_bears (fun _ h => by cases h) (fun _ h => by cases h) σ I h)
  exact wpL_mono (hB H H' hH hH' w0 a w h1) fun e' a' w' ⟨q, r'⟩ => ⟨q, Pt.swapV r' (smallF_at (bs (by omega)).2.2) (kC_lt hr) (fun σ I u h hu => nameC_pins σ I _ u h hu) (fun σ I _ => kC_vr hr σ I)⟩
theorem loop_from {r : Nat} (hr : r < 20) : ∀ d i, i + d = r + 1 → TriS XA (some (.int .i64 ((r + 1 : Nat) : Int))) Tryz.f6.ntmps (.loop (.seq cA cB)) (St.of i (kC r)) (.exit 2) (stD (r + 1))
  | 0, i, h => by
    obtain rfl : i = r + 1 := by omega
    exact TriS.loopExit (TriS.seqExit (show TriS XA _ _ cA (St.of (r + 1) (kC r)) (.exit 2) (stD (r + 1)) from TriS.seg R okA dkA (os (by omega) _) (xs (by omega) (by omega)).1))
  | d + 1, i, h => by
    have h1 : i ≤ r := by omega
    exact TriS.loop (os (by omega) _) (TriS.seq (os (by omega) _) (show TriS XA _ _ cA _ .normal _ from TriS.seg R okA dkA (os (by omega) _) (aas h1 hr).1) (body_for hr h1)) (loop_from hr d (i + 1) (by omega))
theorem walks {x : Nat} (hx : x < 256) (w : World) (hG : Grounded (.tup 189 4294967334) w) : Calls Tryz.prog 6 #[.int .u8 x] w fun e w' => e = .returned (.bool true) ∧ Kept w w' := by
  have hr : x % 20 < 20 := Nat.mod_lt _ (by decide)
  have hlt : restC (x % 20) 20 < 2 ^ 128 := restC_lt (Nat.lt_trans hr (by decide)) (by decide)
  have hX := xs (i := x % 20 + 1) (by omega) (by omega)
  have hP := ps hr
  refine calls_of_st (V := some (.int .i64 ((x % 20 + 1 : Nat) : Int))) (G := .tup 189 4294967334) (envE orcA) ⟨trivial⟩ Tryz.func6 body_eq (show isImm (.tup 189 4294967334) from trivial) (.inr rfl) hP.2.2.1 (by decide +kernel)
    (TriS.pieces R ok_pre (show (Nat.ble 1 262144 && okL 1 [(0, .tup 189 4294967334)]) = true from by decide +kernel) hP.2.2.2 hP.1 (TriS.seq hX.2.2.1 (TriS.seq (os (by omega) _) (show TriS XA _ _ p7 _ .normal _ from TriS.seg R ok7 dk7 hP.2.2.2 hP.2.1) (TriS.block (loop_from hr (x % 20 + 1) 0 (by omega))))
      (show TriS XA _ _ rest (stD (x % 20 + 1)) .ret (stE (x % 20 + 1) (nxE (x % 20 + 1))) from TriS.seg R okr dkr hX.2.2.1 hX.2.1))) hX.2.2.2.1 hX.2.2.2.2 (args1N (Q := fun I => ∀ v, some (Value.int .i64 ((x % 20 + 1 : Nat) : Int)) = some v → I.val 1 = some v) hlt fun σ I _ => restC_rel hx (by decide) (by decide)) w hG
end Go.Ev.Many
