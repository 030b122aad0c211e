/-
  AuditSpoilt: for each rest of n, and of `at`, the call returns true: the stretches joined.
-/
import Derived.Test.YtfnjahmdfiapiaaGreatDoorKvSA
import Derived.Test.YtfnjahmdfiapiaaGreatDoorAuditSpoiltR0
import Derived.Test.YtfnjahmdfiapiaaGreatDoorAuditSpoiltR1
import Derived.Test.YtfnjahmdfiapiaaGreatDoorAuditSpoiltR2
import Derived.Test.YtfnjahmdfiapiaaGreatDoorAuditSpoiltR3
import Derived.Test.YtfnjahmdfiapiaaGreatDoorAuditSpoiltR4
import Derived.Test.YtfnjahmdfiapiaaGreatDoorAuditSpoiltR5
import Derived.Test.YtfnjahmdfiapiaaGreatDoorAuditSpoiltR6
import Derived.Test.YtfnjahmdfiapiaaGreatDoorAuditSpoiltR7
import Derived.Test.YtfnjahmdfiapiaaGreatDoorAuditSpoiltR8
import Derived.Test.YtfnjahmdfiapiaaGreatDoorAuditSpoiltR9
import Derived.Test.YtfnjahmdfiapiaaGreatDoorAuditSpoiltR10
import Derived.Test.YtfnjahmdfiapiaaGreatDoorAuditSpoiltR11
import Derived.Test.YtfnjahmdfiapiaaGreatDoorAuditSpoiltR12
import Derived.Test.YtfnjahmdfiapiaaGreatDoorAuditSpoiltR13
import Derived.Test.YtfnjahmdfiapiaaGreatDoorAuditSpoiltR14
import Derived.Test.YtfnjahmdfiapiaaGreatDoorAuditSpoiltR15
set_option linter.unusedVariables false
set_option maxRecDepth 100000
noncomputable section
namespace Go.Ev.Spoil
open Go.Proofs
theorem R : RunOk XA rn := runOkA 5000
theorem oks {l : List Code} (h : l.all (fun c => codeOk Tryz.f3.ntmps c && drawsOk XA 3 c) = true) : ∀ c ∈ l, codeOk Tryz.f3.ntmps c = true ∧ drawsOk XA 3 c = true := fun c hc => by
  have := List.all_eq_true.1 h c hc
  simpa using this
theorem ok_pre : ∀ c ∈ pre, codeOk Tryz.f3.ntmps c = true ∧ drawsOk XA 3 c = true := oks (by decide +kernel)
theorem ok_mid : ∀ c ∈ mid, codeOk Tryz.f3.ntmps c = true ∧ drawsOk XA 3 c = true := oks (by decide +kernel)
theorem ok0 : codeOk Tryz.f3.ntmps p0 = true := by decide +kernel
theorem dk0 : drawsOk XA 3 p0 = true := by decide +kernel
theorem okl : codeOk Tryz.f3.ntmps lb = true := by decide +kernel
theorem dkl : drawsOk XA 3 lb = true := by decide +kernel
theorem okr : codeOk Tryz.f3.ntmps rest = true := by decide +kernel
theorem dkr : drawsOk XA 3 rest = true := by decide +kernel
/-- so many rounds, and out -/
theorem out_of {V : Option Value} {S S1 : St} {k : Nat} {f : St → Out} (hf : f S = mkHK S.L fun H => frc (fun f => @Out.rec (fun _ => Out) (fun f H nx => rn 3 lb f H nx) (fun _ _ _ => .bad 200) (fun _ _ _ _ => .bad 201) .bad (rounds rn 3 lb k f H S.nx)) (mkF S.F)) (ho : okS S = true) (he : endsS 4 S1 (f S) = true) : TriS XA V Tryz.f3.ntmps (.loop lb) S (.exit 2) S1 := fun H H' hH hH' => by
  rw [hf, hH.1, frc_eq] at he
  cases hq : rounds rn 3 lb k (mkF S.F) H S.nx with
  | bad m => rw [hq] at he; cases he
  | ret _ _ _ => rw [hq] at he; cases he
  | exit i _ _ _ => rw [hq] at he; cases he
  | norm f' Hn nx' =>
    rw [hq] at he
    have hfr := okS_free ho hH
    have hfree : ∀ {k : Nat} {f : FR} {H : HT} {nx : Nat}, Free H nx → rounds rn 3 lb k f H nx = .norm f' Hn nx' → Free Hn nx' := by
      intro k
      induction k with
      | zero => intro f H nx hf h; have h : Out.norm f H nx = .norm f' Hn nx' := h; injection h with h1 h2 h3; subst h2 h3; exact hf
      | succ k ih =>
        intro f H nx hf h
        have h : @Out.rec (fun _ => Out) (rounds rn 3 lb k) (fun _ _ _ => .bad 200) (fun _ _ _ _ => .bad 201) .bad (rn 3 lb f H nx) = .norm f' Hn nx' := h
        have ho := R 3 lb f H nx Tryz.f3.ntmps okl dkl hf
        cases hrun : rn 3 lb f H nx with
        | norm _ _ _ => rw [hrun] at h ho; exact ih ho.1.free h
        | ret _ _ _ => rw [hrun] at h; cases h
        | exit _ _ _ _ => rw [hrun] at h; cases h
        | bad m => rw [hrun] at h; cases h
    exact rounds_ext R okl dkl k _ _ _ _ _ _ hfr hq _ _ _ _ ((R 3 lb f' Hn nx' Tryz.f3.ntmps okl dkl (hfree hfr hq)).endS (k := 4) he hH').loopExit
/-- the named place told otherwise ahead of a piece of code -/
theorem swap1 {v : Value} {c c' : Nat} {S S' : St} {cd : Code} {n : Nat} {e : Exit} (h : TriS XA (some v) n cd (withA c S) e S') (s1 : smallF (withA c' S).F = true) (hc : c < 2 ^ 128) (p1 : Pins c') (b1 : Bears c v) : TriS XA (some v) n cd (withA c' S) e S' := fun H H' hH hH' w0 a w hp =>
  h H H' hH hH' w0 a w (Pt.swap hp (smallF_at s1) hc p1 b1)
theorem name_lt : nameC < 2 ^ 128 := by decide
theorem restN_lt {r m : Nat} (hr : r < 256) (hm : m < 256) : restN r m < 2 ^ 128 := by unfold restN; omega
theorem args2N {Q : Imm → Prop} {c d : Nat} {v u : Value} (hc : c < 340282366920938463463374607431768211456) (hd : d < 340282366920938463463374607431768211456) (h : ∀ σ I, Q I → VR σ I c v) (h' : ∀ σ I, Q I → VR σ I d u) : ∀ σ I, Q I → ArgsR σ I (argF2 c d) #[v, u] := fun σ I hq => by
  have e0 : dig (c + d * 340282366920938463463374607431768211456) 0 = c := by
    rw [dig_def, show 128 * 0 = 0 from rfl, Nat.shiftRight_zero, show (2 : Nat) ^ 128 = 340282366920938463463374607431768211456 from by decide, Nat.add_mul_mod_self_right, Nat.mod_eq_of_lt hc]
  have e1 : dig (c + d * 340282366920938463463374607431768211456) (0 + 1) = d := by
    rw [dig_def, show 128 * (0 + 1) = 128 from rfl, Nat.shiftRight_eq_div_pow, show (2 : Nat) ^ 128 = 340282366920938463463374607431768211456 from by decide, Nat.add_mul_div_right _ _ (by decide), Nat.div_eq_of_lt hc, Nat.zero_add, Nat.mod_eq_of_lt hd]
  refine ⟨?_, .inl (dig_mul0 _), fun i hi => ?_⟩
  · rw [pow3 (#[v, u].size + 1) rfl]
    unfold argF2
    refine (Nat.mul_lt_mul_right (by decide)).2 ?_
    have h3 : (d + 1) * 340282366920938463463374607431768211456 ≤ 340282366920938463463374607431768211456 * 340282366920938463463374607431768211456 := Nat.mul_le_mul_right _ hd
    rw [Nat.add_mul, Nat.one_mul] at h3
    omega
  · have : i = 0 ∨ i = 1 := by simp at hi; omega
    rcases this with rfl | rfl
    · show VR σ I (dig (argF2 c d) (0 + 1)) v
      unfold argF2
      rw [dig_mul, e0]; exact h σ I hq
    · show VR σ I (dig (argF2 c d) (1 + 1)) u
      unfold argF2
      rw [dig_mul, e1]; exact h' σ I hq
theorem okS_w (c d : Nat) (S : St) : okS (withA c S) = okS (withA d S) := by
  unfold okS withA
  rfl
theorem okA_at {S : St} (h : okA S = true) : okS (withA nameC S) = true ∧ smallF (withA nameC S).F = true := by
  unfold okA at h
  rwa [Bool.and_eq_true] at h
/-- what comes behind the use of `at` -/
theorem en_of {S : St} {m : Nat} (h0 : 0 < m) (hm : m < 256) (hk : okA S = true) (h : ∀ q, q < m → ∃ nx, endB m S q nx = true) {x : Nat} (hx : x < 256) : ∃ nx, TriS XA (some (.int .u8 x)) Tryz.f3.ntmps rest (withA nameC S) .ret (stE nx) ∧ okS (stE nx) = true ∧ isTr (mkHK (stE nx).L fun H => resK XA Tryz.f3 (mkF (stE nx).F) H (stE nx).nx fun c H nx => .exit c 0 H nx) = true := by
  have hq : x % m < m := Nat.mod_lt x h0
  obtain ⟨nx, he⟩ := h _ hq
  unfold endB at he
  simp only [Bool.and_eq_true] at he
  obtain ⟨hk1, hk2⟩ := okA_at hk
  exact ⟨nx, swap1 (c := restN (x % m) m) (show TriS XA _ _ rest _ .ret _ from TriS.seg R okr dkr ((okS_w _ nameC S).trans hk1) (seg_at he.1)) hk2 (restN_lt (Nat.lt_trans hq hm) hm) nameC_pins (restN_bears hx h0 hm), he.2.1, he.2.2⟩
theorem oA {S : St} (h : okA S = true) : okS (withA nameC S) = true := (okA_at h).1
def Go (r : Nat) : Prop := ∀ x : Nat, x < 256 → ∀ w : World, Grounded (.tup 316 4294967352) w → ∀ a0 : Int, (∀ σ I, VR σ I (restC r 20) (.int .u8 a0)) → Calls Tryz.prog 3 #[.int .u8 a0, .int .u8 x] w fun e w' => e = .returned (.bool true) ∧ Kept w w'
theorem go_of {r : Nat} {sa sh sx sw : St} (hr : r < 20) (ka : okA sa = true) (kh : okA sh = true) (kx : okA sx = true) (kw : okA sw = true) (h1 : seg (runLS rn 3 pre) 0 (st0 r) (withA nameC sa) = true) (h2 : seg (runS rn 3 p0) 0 (withA nameC sa) (withA nameC sh) = true)
    (h3 : ∀ x : Nat, TriS XA (some (.int .u8 x)) Tryz.f3.ntmps (.loop lb) (withA nameC sh) (.exit 2) (withA nameC sx)) (h4 : seg (runLS rn 3 mid) 0 (withA nameC sx) (withA nameC sw) = true) (h5 : (chkF (begF (argF2 (restC r 20) nameC)) (st0 r).F && okS (st0 r)) = true)
    (h6 : ∀ {x : Nat}, x < 256 → ∃ nx, TriS XA (some (.int .u8 x)) Tryz.f3.ntmps rest (withA nameC sw) .ret (stE nx) ∧ okS (stE nx) = true ∧ isTr (mkHK (stE nx).L fun H => resK XA Tryz.f3 (mkF (stE nx).F) H (stE nx).nx fun c H nx => .exit c 0 H nx) = true)
    : Go r := by
  intro x hx w hG a0 hA
  obtain ⟨nx, hE, e1, e2⟩ := h6 hx
  rw [Bool.and_eq_true] at h5
  exact calls_of_st (V := some (.int .u8 x)) (G := .tup 316 4294967352) (envE orcA) ⟨trivial⟩ Tryz.func3 body_eq (show isImm (.tup 316 4294967352) from trivial) (.inr rfl) (F := argF2 (restC r 20) nameC) (l := (st0 r).F) h5.1 (by decide +kernel)
    (show TriS XA _ _ _ (st0 r) .ret _ from TriS.pieces R ok_pre h5.2 (okA_at ka).1 (seg_at h1) (TriS.seq (okA_at kx).1 (TriS.seq (okA_at kh).1 (show TriS XA _ _ p0 _ .normal _ from TriS.seg R ok0 dk0 (okA_at ka).1 (seg_at h2)) (TriS.block (h3 x))) (TriS.pieces R ok_mid (okA_at kx).1 (okA_at kw).1 (seg_at h4) hE))) e1 e2
    (args2N (Q := fun I => ∀ v, some (Value.int .u8 x) = some v → I.val 1 = some v) (restC_lt (Nat.lt_trans hr (by decide)) (by decide)) name_lt (fun σ I _ => hA σ I) fun σ I hq => nameC_bears (fun _ h => by cases h) (fun _ h => by cases h) σ I (hq _ rfl)) w hG
theorem ex0 : ∀ q, q < 1 → ∃ nx, E0 q nx = true
  |0,_=>⟨_,e0_0⟩ |n+1,h=>absurd h (by omega)
theorem go0 : Go 0 := by
  have k := k0
  simp only [Bool.and_eq_true] at k
  exact go_of (by decide) k.1.1.1 k.1.1.2 k.1.2 k.2 a0 h0 (fun x => out_of (f := tail0) (k := 4) rfl (oA k.1.1.2) (seg_at x0)) w0 (by decide +kernel) (en_of (m := 1) (by decide) (by decide) k.2 ex0)
theorem ex1 : ∀ q, q < 1 → ∃ nx, E1 q nx = true
  |0,_=>⟨_,e1_0⟩ |n+1,h=>absurd h (by omega)
theorem go1 : Go 1 := by
  have k := k1
  simp only [Bool.and_eq_true] at k
  exact go_of (by decide) k.1.1.1 k.1.1.2 k.1.2 k.2 a1 h1 (fun x => out_of (f := tail1) (k := 5) rfl (oA k.1.1.2) (seg_at x1)) w1 (by decide +kernel) (en_of (m := 1) (by decide) (by decide) k.2 ex1)
theorem ex2 : ∀ q, q < 2 → ∃ nx, E2 q nx = true
  |0,_=>⟨_,e2_0⟩ |1,_=>⟨_,e2_1⟩ |n+2,h=>absurd h (by omega)
theorem go2 : Go 2 := by
  have k := k2
  simp only [Bool.and_eq_true] at k
  exact go_of (by decide) k.1.1.1 k.1.1.2 k.1.2 k.2 a2 h2 (fun x => out_of (f := tail2) (k := 6) rfl (oA k.1.1.2) (seg_at x2)) w2 (by decide +kernel) (en_of (m := 2) (by decide) (by decide) k.2 ex2)
theorem ex3 : ∀ q, q < 3 → ∃ nx, E3 q nx = true
  |0,_=>⟨_,e3_0⟩ |1,_=>⟨_,e3_1⟩ |2,_=>⟨_,e3_2⟩ |n+3,h=>absurd h (by omega)
theorem go3 : Go 3 := by
  have k := k3
  simp only [Bool.and_eq_true] at k
  exact go_of (by decide) k.1.1.1 k.1.1.2 k.1.2 k.2 a3 h3 (fun x => out_of (f := tail3) (k := 7) rfl (oA k.1.1.2) (seg_at x3)) w3 (by decide +kernel) (en_of (m := 3) (by decide) (by decide) k.2 ex3)
theorem ex4 : ∀ q, q < 6 → ∃ nx, E4 q nx = true
  |0,_=>⟨_,e4_0⟩ |1,_=>⟨_,e4_1⟩ |2,_=>⟨_,e4_2⟩ |3,_=>⟨_,e4_3⟩ |4,_=>⟨_,e4_4⟩ |5,_=>⟨_,e4_5⟩ |n+6,h=>absurd h (by omega)
theorem go4 : Go 4 := by
  have k := k4
  simp only [Bool.and_eq_true] at k
  exact go_of (by decide) k.1.1.1 k.1.1.2 k.1.2 k.2 a4 h4 (fun x => out_of (f := tail4) (k := 8) rfl (oA k.1.1.2) (seg_at x4)) w4 (by decide +kernel) (en_of (m := 6) (by decide) (by decide) k.2 ex4)
theorem ex5 : ∀ q, q < 7 → ∃ nx, E5 q nx = true
  |0,_=>⟨_,e5_0⟩ |1,_=>⟨_,e5_1⟩ |2,_=>⟨_,e5_2⟩ |3,_=>⟨_,e5_3⟩ |4,_=>⟨_,e5_4⟩ |5,_=>⟨_,e5_5⟩ |6,_=>⟨_,e5_6⟩ |n+7,h=>absurd h (by omega)
theorem go5 : Go 5 := by
  have k := k5
  simp only [Bool.and_eq_true] at k
  exact go_of (by decide) k.1.1.1 k.1.1.2 k.1.2 k.2 a5 h5 (fun x => out_of (f := tail5) (k := 9) rfl (oA k.1.1.2) (seg_at x5)) w5 (by decide +kernel) (en_of (m := 7) (by decide) (by decide) k.2 ex5)
theorem ex6 : ∀ q, q < 8 → ∃ nx, E6 q nx = true
  |0,_=>⟨_,e6_0⟩ |1,_=>⟨_,e6_1⟩ |2,_=>⟨_,e6_2⟩ |3,_=>⟨_,e6_3⟩ |4,_=>⟨_,e6_4⟩ |5,_=>⟨_,e6_5⟩ |6,_=>⟨_,e6_6⟩ |7,_=>⟨_,e6_7⟩ |n+8,h=>absurd h (by omega)
theorem go6 : Go 6 := by
  have k := k6
  simp only [Bool.and_eq_true] at k
  exact go_of (by decide) k.1.1.1 k.1.1.2 k.1.2 k.2 a6 h6 (fun x => out_of (f := tail6) (k := 10) rfl (oA k.1.1.2) (seg_at x6)) w6 (by decide +kernel) (en_of (m := 8) (by decide) (by decide) k.2 ex6)
theorem ex7 : ∀ q, q < 10 → ∃ nx, E7 q nx = true
  |0,_=>⟨_,e7_0⟩ |1,_=>⟨_,e7_1⟩ |2,_=>⟨_,e7_2⟩ |3,_=>⟨_,e7_3⟩ |4,_=>⟨_,e7_4⟩ |5,_=>⟨_,e7_5⟩ |6,_=>⟨_,e7_6⟩ |7,_=>⟨_,e7_7⟩ |8,_=>⟨_,e7_8⟩ |9,_=>⟨_,e7_9⟩ |n+10,h=>absurd h (by omega)
theorem go7 : Go 7 := by
  have k := k7
  simp only [Bool.and_eq_true] at k
  exact go_of (by decide) k.1.1.1 k.1.1.2 k.1.2 k.2 a7 h7 (fun x => out_of (f := tail7) (k := 11) rfl (oA k.1.1.2) (seg_at x7)) w7 (by decide +kernel) (en_of (m := 10) (by decide) (by decide) k.2 ex7)
theorem ex8 : ∀ q, q < 11 → ∃ nx, E8 q nx = true
  |0,_=>⟨_,e8_0⟩ |1,_=>⟨_,e8_1⟩ |2,_=>⟨_,e8_2⟩ |3,_=>⟨_,e8_3⟩ |4,_=>⟨_,e8_4⟩ |5,_=>⟨_,e8_5⟩ |6,_=>⟨_,e8_6⟩ |7,_=>⟨_,e8_7⟩ |8,_=>⟨_,e8_8⟩ |9,_=>⟨_,e8_9⟩ |10,_=>⟨_,e8_10⟩ |n+11,h=>absurd h (by omega)
theorem go8 : Go 8 := by
  have k := k8
  simp only [Bool.and_eq_true] at k
  exact go_of (by decide) k.1.1.1 k.1.1.2 k.1.2 k.2 a8 h8 (fun x => out_of (f := tail8) (k := 12) rfl (oA k.1.1.2) (seg_at x8)) w8 (by decide +kernel) (en_of (m := 11) (by decide) (by decide) k.2 ex8)
theorem ex9 : ∀ q, q < 12 → ∃ nx, E9 q nx = true
  |0,_=>⟨_,e9_0⟩ |1,_=>⟨_,e9_1⟩ |2,_=>⟨_,e9_2⟩ |3,_=>⟨_,e9_3⟩ |4,_=>⟨_,e9_4⟩ |5,_=>⟨_,e9_5⟩ |6,_=>⟨_,e9_6⟩ |7,_=>⟨_,e9_7⟩ |8,_=>⟨_,e9_8⟩ |9,_=>⟨_,e9_9⟩ |10,_=>⟨_,e9_10⟩ |11,_=>⟨_,e9_11⟩ |n+12,h=>absurd h (by omega)
theorem go9 : Go 9 := by
  have k := k9
  simp only [Bool.and_eq_true] at k
  exact go_of (by decide) k.1.1.1.1 k.1.1.1.2 k.1.2 k.2 a9 h9 (fun x => TriS.rounds R okl dkl (oA k.1.1.1.2) (oA k.1.1.2) (seg_at r9_0) (out_of (f := tail9) (k := 0) rfl (oA k.1.1.2) (seg_at x9))) w9 (by decide +kernel) (en_of (m := 12) (by decide) (by decide) k.2 ex9)
theorem ex10 : ∀ q, q < 14 → ∃ nx, E10 q nx = true
  |0,_=>⟨_,e10_0⟩ |1,_=>⟨_,e10_1⟩ |2,_=>⟨_,e10_2⟩ |3,_=>⟨_,e10_3⟩ |4,_=>⟨_,e10_4⟩ |5,_=>⟨_,e10_5⟩ |6,_=>⟨_,e10_6⟩ |7,_=>⟨_,e10_7⟩ |8,_=>⟨_,e10_8⟩ |9,_=>⟨_,e10_9⟩ |10,_=>⟨_,e10_10⟩ |11,_=>⟨_,e10_11⟩ |12,_=>⟨_,e10_12⟩ |13,_=>⟨_,e10_13⟩ |n+14,h=>absurd h (by omega)
theorem go10 : Go 10 := by
  have k := k10
  simp only [Bool.and_eq_true] at k
  exact go_of (by decide) k.1.1.1.1 k.1.1.1.2 k.1.2 k.2 a10 h10 (fun x => TriS.rounds R okl dkl (oA k.1.1.1.2) (oA k.1.1.2) (seg_at r10_0) (out_of (f := tail10) (k := 3) rfl (oA k.1.1.2) (seg_at x10))) w10 (by decide +kernel) (en_of (m := 14) (by decide) (by decide) k.2 ex10)
theorem ex11 : ∀ q, q < 16 → ∃ nx, E11 q nx = true
  |0,_=>⟨_,e11_0⟩ |1,_=>⟨_,e11_1⟩ |2,_=>⟨_,e11_2⟩ |3,_=>⟨_,e11_3⟩ |4,_=>⟨_,e11_4⟩ |5,_=>⟨_,e11_5⟩ |6,_=>⟨_,e11_6⟩ |7,_=>⟨_,e11_7⟩ |8,_=>⟨_,e11_8⟩ |9,_=>⟨_,e11_9⟩ |10,_=>⟨_,e11_10⟩ |11,_=>⟨_,e11_11⟩ |12,_=>⟨_,e11_12⟩ |13,_=>⟨_,e11_13⟩ |14,_=>⟨_,e11_14⟩ |15,_=>⟨_,e11_15⟩ |n+16,h=>absurd h (by omega)
theorem go11 : Go 11 := by
  have k := k11
  simp only [Bool.and_eq_true] at k
  exact go_of (by decide) k.1.1.1.1.1 k.1.1.1.1.2 k.1.2 k.2 a11 h11 (fun x => TriS.rounds R okl dkl (oA k.1.1.1.1.2) (oA k.1.1.1.2) (seg_at r11_0) (TriS.rounds R okl dkl (oA k.1.1.1.2) (oA k.1.1.2) (seg_at r11_1) (out_of (f := tail11) (k := 1) rfl (oA k.1.1.2) (seg_at x11)))) w11 (by decide +kernel) (en_of (m := 16) (by decide) (by decide) k.2 ex11)
theorem ex12 : ∀ q, q < 18 → ∃ nx, E12 q nx = true
  |0,_=>⟨_,e12_0⟩ |1,_=>⟨_,e12_1⟩ |2,_=>⟨_,e12_2⟩ |3,_=>⟨_,e12_3⟩ |4,_=>⟨_,e12_4⟩ |5,_=>⟨_,e12_5⟩ |6,_=>⟨_,e12_6⟩ |7,_=>⟨_,e12_7⟩ |8,_=>⟨_,e12_8⟩ |9,_=>⟨_,e12_9⟩ |10,_=>⟨_,e12_10⟩ |11,_=>⟨_,e12_11⟩ |12,_=>⟨_,e12_12⟩ |13,_=>⟨_,e12_13⟩ |14,_=>⟨_,e12_14⟩ |15,_=>⟨_,e12_15⟩ |16,_=>⟨_,e12_16⟩ |17,_=>⟨_,e12_17⟩ |n+18,h=>absurd h (by omega)
theorem go12 : Go 12 := by
  have k := k12
  simp only [Bool.and_eq_true] at k
  exact go_of (by decide) k.1.1.1.1 k.1.1.1.2 k.1.2 k.2 a12 h12 (fun x => TriS.rounds R okl dkl (oA k.1.1.1.2) (oA k.1.1.2) (seg_at r12_0) (out_of (f := tail12) (k := 1) rfl (oA k.1.1.2) (seg_at x12))) w12 (by decide +kernel) (en_of (m := 18) (by decide) (by decide) k.2 ex12)
theorem ex13 : ∀ q, q < 23 → ∃ nx, E13 q nx = true
  |0,_=>⟨_,e13_0⟩ |1,_=>⟨_,e13_1⟩ |2,_=>⟨_,e13_2⟩ |3,_=>⟨_,e13_3⟩ |4,_=>⟨_,e13_4⟩ |5,_=>⟨_,e13_5⟩ |6,_=>⟨_,e13_6⟩ |7,_=>⟨_,e13_7⟩ |8,_=>⟨_,e13_8⟩ |9,_=>⟨_,e13_9⟩ |10,_=>⟨_,e13_10⟩ |11,_=>⟨_,e13_11⟩ |12,_=>⟨_,e13_12⟩ |13,_=>⟨_,e13_13⟩ |14,_=>⟨_,e13_14⟩ |15,_=>⟨_,e13_15⟩ |16,_=>⟨_,e13_16⟩ |17,_=>⟨_,e13_17⟩ |18,_=>⟨_,e13_18⟩ |19,_=>⟨_,e13_19⟩ |20,_=>⟨_,e13_20⟩ |21,_=>⟨_,e13_21⟩ |22,_=>⟨_,e13_22⟩ |n+23,h=>absurd h (by omega)
theorem go13 : Go 13 := by
  have k := k13
  simp only [Bool.and_eq_true] at k
  exact go_of (by decide) k.1.1.1.1.1 k.1.1.1.1.2 k.1.2 k.2 a13 h13 (fun x => TriS.rounds R okl dkl (oA k.1.1.1.1.2) (oA k.1.1.1.2) (seg_at r13_0) (TriS.rounds R okl dkl (oA k.1.1.1.2) (oA k.1.1.2) (seg_at r13_1) (out_of (f := tail13) (k := 0) rfl (oA k.1.1.2) (seg_at x13)))) w13 (by decide +kernel) (en_of (m := 23) (by decide) (by decide) k.2 ex13)
theorem ex14 : ∀ q, q < 25 → ∃ nx, E14 q nx = true
  |0,_=>⟨_,e14_0⟩ |1,_=>⟨_,e14_1⟩ |2,_=>⟨_,e14_2⟩ |3,_=>⟨_,e14_3⟩ |4,_=>⟨_,e14_4⟩ |5,_=>⟨_,e14_5⟩ |6,_=>⟨_,e14_6⟩ |7,_=>⟨_,e14_7⟩ |8,_=>⟨_,e14_8⟩ |9,_=>⟨_,e14_9⟩ |10,_=>⟨_,e14_10⟩ |11,_=>⟨_,e14_11⟩ |12,_=>⟨_,e14_12⟩ |13,_=>⟨_,e14_13⟩ |14,_=>⟨_,e14_14⟩ |15,_=>⟨_,e14_15⟩ |16,_=>⟨_,e14_16⟩ |17,_=>⟨_,e14_17⟩ |18,_=>⟨_,e14_18⟩ |19,_=>⟨_,e14_19⟩ |20,_=>⟨_,e14_20⟩ |21,_=>⟨_,e14_21⟩ |22,_=>⟨_,e14_22⟩ |23,_=>⟨_,e14_23⟩ |24,_=>⟨_,e14_24⟩ |n+25,h=>absurd h (by omega)
theorem go14 : Go 14 := by
  have k := k14
  simp only [Bool.and_eq_true] at k
  exact go_of (by decide) k.1.1.1.1.1.1 k.1.1.1.1.1.2 k.1.2 k.2 a14 h14 (fun x => TriS.rounds R okl dkl (oA k.1.1.1.1.1.2) (oA k.1.1.1.1.2) (seg_at r14_0) (TriS.rounds R okl dkl (oA k.1.1.1.1.2) (oA k.1.1.1.2) (seg_at r14_1) (TriS.rounds R okl dkl (oA k.1.1.1.2) (oA k.1.1.2) (seg_at r14_2) (out_of (f := tail14) (k := 0) rfl (oA k.1.1.2) (seg_at x14))))) w14 (by decide +kernel) (en_of (m := 25) (by decide) (by decide) k.2 ex14)
theorem ex15 : ∀ q, q < 27 → ∃ nx, E15 q nx = true
  |0,_=>⟨_,e15_0⟩ |1,_=>⟨_,e15_1⟩ |2,_=>⟨_,e15_2⟩ |3,_=>⟨_,e15_3⟩ |4,_=>⟨_,e15_4⟩ |5,_=>⟨_,e15_5⟩ |6,_=>⟨_,e15_6⟩ |7,_=>⟨_,e15_7⟩ |8,_=>⟨_,e15_8⟩ |9,_=>⟨_,e15_9⟩ |10,_=>⟨_,e15_10⟩ |11,_=>⟨_,e15_11⟩ |12,_=>⟨_,e15_12⟩ |13,_=>⟨_,e15_13⟩ |14,_=>⟨_,e15_14⟩ |15,_=>⟨_,e15_15⟩ |16,_=>⟨_,e15_16⟩ |17,_=>⟨_,e15_17⟩ |18,_=>⟨_,e15_18⟩ |19,_=>⟨_,e15_19⟩ |20,_=>⟨_,e15_20⟩ |21,_=>⟨_,e15_21⟩ |22,_=>⟨_,e15_22⟩ |23,_=>⟨_,e15_23⟩ |24,_=>⟨_,e15_24⟩ |25,_=>⟨_,e15_25⟩ |26,_=>⟨_,e15_26⟩ |n+27,h=>absurd h (by omega)
theorem go15 : Go 15 := by
  have k := k15
  simp only [Bool.and_eq_true] at k
  exact go_of (by decide) k.1.1.1.1.1.1 k.1.1.1.1.1.2 k.1.2 k.2 a15 h15 (fun x => TriS.rounds R okl dkl (oA k.1.1.1.1.1.2) (oA k.1.1.1.1.2) (seg_at r15_0) (TriS.rounds R okl dkl (oA k.1.1.1.1.2) (oA k.1.1.1.2) (seg_at r15_1) (TriS.rounds R okl dkl (oA k.1.1.1.2) (oA k.1.1.2) (seg_at r15_2) (out_of (f := tail15) (k := 0) rfl (oA k.1.1.2) (seg_at x15))))) w15 (by decide +kernel) (en_of (m := 27) (by decide) (by decide) k.2 ex15)
theorem ex16 : ∀ q, q < 30 → ∃ nx, E16 q nx = true
  |0,_=>⟨_,e16_0⟩ |1,_=>⟨_,e16_1⟩ |2,_=>⟨_,e16_2⟩ |3,_=>⟨_,e16_3⟩ |4,_=>⟨_,e16_4⟩ |5,_=>⟨_,e16_5⟩ |6,_=>⟨_,e16_6⟩ |7,_=>⟨_,e16_7⟩ |8,_=>⟨_,e16_8⟩ |9,_=>⟨_,e16_9⟩ |10,_=>⟨_,e16_10⟩ |11,_=>⟨_,e16_11⟩ |12,_=>⟨_,e16_12⟩ |13,_=>⟨_,e16_13⟩ |14,_=>⟨_,e16_14⟩ |15,_=>⟨_,e16_15⟩ |16,_=>⟨_,e16_16⟩ |17,_=>⟨_,e16_17⟩ |18,_=>⟨_,e16_18⟩ |19,_=>⟨_,e16_19⟩ |20,_=>⟨_,e16_20⟩ |21,_=>⟨_,e16_21⟩ |22,_=>⟨_,e16_22⟩ |23,_=>⟨_,e16_23⟩ |24,_=>⟨_,e16_24⟩ |25,_=>⟨_,e16_25⟩ |26,_=>⟨_,e16_26⟩ |27,_=>⟨_,e16_27⟩ |28,_=>⟨_,e16_28⟩ |29,_=>⟨_,e16_29⟩ |n+30,h=>absurd h (by omega)
theorem go16 : Go 16 := by
  have k := k16
  simp only [Bool.and_eq_true] at k
  exact go_of (by decide) k.1.1.1.1.1 k.1.1.1.1.2 k.1.2 k.2 a16 h16 (fun x => TriS.rounds R okl dkl (oA k.1.1.1.1.2) (oA k.1.1.1.2) (seg_at r16_0) (TriS.rounds R okl dkl (oA k.1.1.1.2) (oA k.1.1.2) (seg_at r16_1) (out_of (f := tail16) (k := 0) rfl (oA k.1.1.2) (seg_at x16)))) w16 (by decide +kernel) (en_of (m := 30) (by decide) (by decide) k.2 ex16)
theorem ex17 : ∀ q, q < 32 → ∃ nx, E17 q nx = true
  |0,_=>⟨_,e17_0⟩ |1,_=>⟨_,e17_1⟩ |2,_=>⟨_,e17_2⟩ |3,_=>⟨_,e17_3⟩ |4,_=>⟨_,e17_4⟩ |5,_=>⟨_,e17_5⟩ |6,_=>⟨_,e17_6⟩ |7,_=>⟨_,e17_7⟩ |8,_=>⟨_,e17_8⟩ |9,_=>⟨_,e17_9⟩ |10,_=>⟨_,e17_10⟩ |11,_=>⟨_,e17_11⟩ |12,_=>⟨_,e17_12⟩ |13,_=>⟨_,e17_13⟩ |14,_=>⟨_,e17_14⟩ |15,_=>⟨_,e17_15⟩ |16,_=>⟨_,e17_16⟩ |17,_=>⟨_,e17_17⟩ |18,_=>⟨_,e17_18⟩ |19,_=>⟨_,e17_19⟩ |20,_=>⟨_,e17_20⟩ |21,_=>⟨_,e17_21⟩ |22,_=>⟨_,e17_22⟩ |23,_=>⟨_,e17_23⟩ |24,_=>⟨_,e17_24⟩ |25,_=>⟨_,e17_25⟩ |26,_=>⟨_,e17_26⟩ |27,_=>⟨_,e17_27⟩ |28,_=>⟨_,e17_28⟩ |29,_=>⟨_,e17_29⟩ |30,_=>⟨_,e17_30⟩ |31,_=>⟨_,e17_31⟩ |n+32,h=>absurd h (by omega)
theorem go17 : Go 17 := by
  have k := k17
  simp only [Bool.and_eq_true] at k
  exact go_of (by decide) k.1.1.1.1.1.1 k.1.1.1.1.1.2 k.1.2 k.2 a17 h17 (fun x => TriS.rounds R okl dkl (oA k.1.1.1.1.1.2) (oA k.1.1.1.1.2) (seg_at r17_0) (TriS.rounds R okl dkl (oA k.1.1.1.1.2) (oA k.1.1.1.2) (seg_at r17_1) (TriS.rounds R okl dkl (oA k.1.1.1.2) (oA k.1.1.2) (seg_at r17_2) (out_of (f := tail17) (k := 1) rfl (oA k.1.1.2) (seg_at x17))))) w17 (by decide +kernel) (en_of (m := 32) (by decide) (by decide) k.2 ex17)
theorem ex18 : ∀ q, q < 34 → ∃ nx, E18 q nx = true
  |0,_=>⟨_,e18_0⟩ |1,_=>⟨_,e18_1⟩ |2,_=>⟨_,e18_2⟩ |3,_=>⟨_,e18_3⟩ |4,_=>⟨_,e18_4⟩ |5,_=>⟨_,e18_5⟩ |6,_=>⟨_,e18_6⟩ |7,_=>⟨_,e18_7⟩ |8,_=>⟨_,e18_8⟩ |9,_=>⟨_,e18_9⟩ |10,_=>⟨_,e18_10⟩ |11,_=>⟨_,e18_11⟩ |12,_=>⟨_,e18_12⟩ |13,_=>⟨_,e18_13⟩ |14,_=>⟨_,e18_14⟩ |15,_=>⟨_,e18_15⟩ |16,_=>⟨_,e18_16⟩ |17,_=>⟨_,e18_17⟩ |18,_=>⟨_,e18_18⟩ |19,_=>⟨_,e18_19⟩ |20,_=>⟨_,e18_20⟩ |21,_=>⟨_,e18_21⟩ |22,_=>⟨_,e18_22⟩ |23,_=>⟨_,e18_23⟩ |24,_=>⟨_,e18_24⟩ |25,_=>⟨_,e18_25⟩ |26,_=>⟨_,e18_26⟩ |27,_=>⟨_,e18_27⟩ |28,_=>⟨_,e18_28⟩ |29,_=>⟨_,e18_29⟩ |30,_=>⟨_,e18_30⟩ |31,_=>⟨_,e18_31⟩ |32,_=>⟨_,e18_32⟩ |33,_=>⟨_,e18_33⟩ |n+34,h=>absurd h (by omega)
theorem go18 : Go 18 := by
  have k := k18
  simp only [Bool.and_eq_true] at k
  exact go_of (by decide) k.1.1.1.1.1 k.1.1.1.1.2 k.1.2 k.2 a18 h18 (fun x => TriS.rounds R okl dkl (oA k.1.1.1.1.2) (oA k.1.1.1.2) (seg_at r18_0) (TriS.rounds R okl dkl (oA k.1.1.1.2) (oA k.1.1.2) (seg_at r18_1) (out_of (f := tail18) (k := 2) rfl (oA k.1.1.2) (seg_at x18)))) w18 (by decide +kernel) (en_of (m := 34) (by decide) (by decide) k.2 ex18)
theorem ex19 : ∀ q, q < 37 → ∃ nx, E19 q nx = true
  |0,_=>⟨_,e19_0⟩ |1,_=>⟨_,e19_1⟩ |2,_=>⟨_,e19_2⟩ |3,_=>⟨_,e19_3⟩ |4,_=>⟨_,e19_4⟩ |5,_=>⟨_,e19_5⟩ |6,_=>⟨_,e19_6⟩ |7,_=>⟨_,e19_7⟩ |8,_=>⟨_,e19_8⟩ |9,_=>⟨_,e19_9⟩ |10,_=>⟨_,e19_10⟩ |11,_=>⟨_,e19_11⟩ |12,_=>⟨_,e19_12⟩ |13,_=>⟨_,e19_13⟩ |14,_=>⟨_,e19_14⟩ |15,_=>⟨_,e19_15⟩ |16,_=>⟨_,e19_16⟩ |17,_=>⟨_,e19_17⟩ |18,_=>⟨_,e19_18⟩ |19,_=>⟨_,e19_19⟩ |20,_=>⟨_,e19_20⟩ |21,_=>⟨_,e19_21⟩ |22,_=>⟨_,e19_22⟩ |23,_=>⟨_,e19_23⟩ |24,_=>⟨_,e19_24⟩ |25,_=>⟨_,e19_25⟩ |26,_=>⟨_,e19_26⟩ |27,_=>⟨_,e19_27⟩ |28,_=>⟨_,e19_28⟩ |29,_=>⟨_,e19_29⟩ |30,_=>⟨_,e19_30⟩ |31,_=>⟨_,e19_31⟩ |32,_=>⟨_,e19_32⟩ |33,_=>⟨_,e19_33⟩ |34,_=>⟨_,e19_34⟩ |35,_=>⟨_,e19_35⟩ |36,_=>⟨_,e19_36⟩ |n+37,h=>absurd h (by omega)
theorem go19 : Go 19 := by
  have k := k19
  simp only [Bool.and_eq_true] at k
  exact go_of (by decide) k.1.1.1.1.1.1.1 k.1.1.1.1.1.1.2 k.1.2 k.2 a19 h19 (fun x => TriS.rounds R okl dkl (oA k.1.1.1.1.1.1.2) (oA k.1.1.1.1.1.2) (seg_at r19_0) (TriS.rounds R okl dkl (oA k.1.1.1.1.1.2) (oA k.1.1.1.1.2) (seg_at r19_1) (TriS.rounds R okl dkl (oA k.1.1.1.1.2) (oA k.1.1.1.2) (seg_at r19_2) (TriS.rounds R okl dkl (oA k.1.1.1.2) (oA k.1.1.2) (seg_at r19_3) (out_of (f := tail19) (k := 0) rfl (oA k.1.1.2) (seg_at x19)))))) w19 (by decide +kernel) (en_of (m := 37) (by decide) (by decide) k.2 ex19)
theorem walks {x0 x1 : Nat} (h0 : x0 < 256) (h1 : x1 < 256) (w : World) (hG : Grounded (.tup 316 4294967352) w) : Calls Tryz.prog 3 #[.int .u8 x0, .int .u8 x1] w fun e w' => e = .returned (.bool true) ∧ Kept w w' := by
  have hr : x0 % 20 < 20 := Nat.mod_lt _ (by decide)
  have hA : ∀ σ I, VR σ I (restC (x0 % 20) 20) (.int .u8 x0) := fun σ I => restC_rel h0 (by decide) (by decide)
  generalize x0 % 20 = y at hr hA
  match y, hr with
  | 0, _ => exact go0 _ h1 w hG _ hA
  | 1, _ => exact go1 _ h1 w hG _ hA
  | 2, _ => exact go2 _ h1 w hG _ hA
  | 3, _ => exact go3 _ h1 w hG _ hA
  | 4, _ => exact go4 _ h1 w hG _ hA
  | 5, _ => exact go5 _ h1 w hG _ hA
  | 6, _ => exact go6 _ h1 w hG _ hA
  | 7, _ => exact go7 _ h1 w hG _ hA
  | 8, _ => exact go8 _ h1 w hG _ hA
  | 9, _ => exact go9 _ h1 w hG _ hA
  | 10, _ => exact go10 _ h1 w hG _ hA
  | 11, _ => exact go11 _ h1 w hG _ hA
  | 12, _ => exact go12 _ h1 w hG _ hA
  | 13, _ => exact go13 _ h1 w hG _ hA
  | 14, _ => exact go14 _ h1 w hG _ hA
  | 15, _ => exact go15 _ h1 w hG _ hA
  | 16, _ => exact go16 _ h1 w hG _ hA
  | 17, _ => exact go17 _ h1 w hG _ hA
  | 18, _ => exact go18 _ h1 w hG _ hA
  | 19, _ => exact go19 _ h1 w hG _ hA
  | n + 20, h => exact absurd (show n + 20 < 20 from h) (by omega)
end Go.Ev.Spoil
