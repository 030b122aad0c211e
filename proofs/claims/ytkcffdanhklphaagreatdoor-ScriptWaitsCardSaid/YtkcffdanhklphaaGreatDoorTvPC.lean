/-
  What the evaluator answers is what the program does, whatever is drawn: part 3.
-/
import Derived.Test.YtkcffdanhklphaaGreatDoorTvPB
import Derived.Laws.Externs
import Derived.Orders
set_option linter.unusedVariables false
set_option linter.unusedSimpArgs false
namespace Go.Ev
variable {X : Env} {f : FR} {H : HT} {nx : Nat} {call : CallT}

/-! ### Results -/
def resRun (r : ResultVar) (tmps : Array Value) : Sem Value := match r with | .tmp t => pure (tmps.getD t undef) | .cell a t => do loadVar t (← asAddr (tmps.getD a undef))
theorem resCell_tells (hX : EnvOk X) (hFo : FormOk X) {r : ResultVar} (hf : Free H nx) : Tells (resCell X r f H nx) fun c H' nx' => Grow H nx H' nx' ∧ ∀ (I : Imm) (σ : Sig) (w : World) (tmps : Array Value), Holds I H' nx' → SRel σ I H nx w → FrameR σ I f tmps →
    ∃ v, (resRun r tmps).run X.P w = .ok v w ∧ VR σ I c v := by
  cases r with
  | tmp t => exact Tells.frcK ⟨Grow.refl hf, fun I σ w tmps hI hS hF => ⟨_, rfl, hF t⟩⟩
  | cell a t =>
    show Tells (fun k => frc (fun p => br (.bad 140) (rowK H (blk p) fun n N _ _ => br (.bad 141) (take (aggT X t) (szT X t) N (off p) H nx k) (and' (Nat.ble 1 (szT X t)) (Nat.ble (Nat.add (off p) (szT X t)) n))) (isPtr p)) (fget a f)) _
    refine Tells.frc (Tells.ifb fun hp => Tells.row fun n N et op hg => Tells.ifb fun hle => (take_tells hf).mono fun c H' nx' ⟨g, ht⟩ => ⟨g, fun I σ w tmps hI hS hF => ?_⟩)
    simp only [and'_eq, Bool.and_eq_true, ble_iff] at hle
    obtain ⟨e, he1, he2, he3, hv⟩ := isPtr_inv (hF a) hp
    obtain ⟨ti, hti⟩ := desc_of_size hX hle.1
    obtain ⟨d, hd⟩ := szT_form hX hle.1
    have hag : aggT X t = isAggD d := aggT_is hX hd
    have hs := hS.seg hg hle.2
    obtain ⟨vs, r1, r2, r3⟩ := run_seg (P := X.P) hs he1
    have hsz : (sizeOf t).run X.P w = .ok (szT X t) w := run_size' hX hle.1 w
    have r2 : vs.size = szT X t := r2
    have hcell : ∀ i y, (fun i => w.cell? ⟨e.B, e.β + (off (fget a f) + i), none⟩) i = some y → (i < szT X t ∨ i = 0) → CRs σ I (dig N (off (fget a f) + i + 1)) y := fun i y hy hi => by
      have hi' : i < vs.size := by rw [r2]; omega
      obtain ⟨q1, q2⟩ := r3 i hi'
      simp only at hy
      rw [hy] at q2; obtain rfl := Option.some.inj q2; exact q1
    cases hda : isAggD d with
    | true =>
      refine ⟨.agg vs, ?_, .inr (.inr (.inl (ht I σ _ _ hI hcell ?_)))⟩
      · simp only [resRun, hv, asAddr, loadVar, Sem.run_bind, Result.andThen_ok, pure, Sem.run, run_isAgg hd, hda, if_true, hsz, r1]
      · unfold PartR
        rw [hag, hda]
        exact ⟨vs, rfl, r2, fun i hi => (r3 i hi).2⟩
    | false =>
      have h0 : 0 < vs.size := by omega
      obtain ⟨q1, q2⟩ := r3 0 h0
      refine ⟨vs[0], ?_, .inr (.inr (.inl (ht I σ _ _ hI hcell ?_)))⟩
      · rw [Nat.add_zero] at q2
        simp only [resRun, hv, asAddr, loadVar, Sem.run_bind, Result.andThen_ok, pure, Sem.run, run_isAgg hd, hda, Bool.false_eq_true, if_false, run_load, q2]
      · unfold PartR
        rw [hag, hda]
        exact q2
noncomputable def resRowA (X : Env) (k : K0) (f : FR) (l : List ResultVar) : Nat → Nat → HT → Nat → Out :=
  @List.rec ResultVar (fun _ => Nat → Nat → HT → Nat → Out) (fun j N H nx => newTup (Nat.pred j) N H nx k)
      (fun r _ ih j N H nx => resCell X r f H nx fun c H nx => br (.bad 143) (frc (fun N => frc (fun j => ih j N H nx) (Nat.succ j)) (Nat.add N (Nat.shiftLeft c (Nat.shiftLeft j 7)))) (valOk c)) l
theorem resRow_eq (X : Env) (k : K0) (l : List ResultVar) (f : FR) (H : HT) (nx : Nat) : resRow X k l f H nx = resRowA X k f l 1 0 H nx := rfl
theorem resRow_tells (hX : EnvOk X) (hFo : FormOk X) : ∀ (l : List ResultVar) (j N : Nat) (H : HT) (nx : Nat), Free H nx → Tells (fun k => resRowA X k f l j N H nx) fun c H' nx' => Grow H nx H' nx' ∧ ∀ (I : Imm) (σ : Sig) (w : World) (tmps : Array Value) (pre : List Value), Holds I H' nx' → SRel σ I H nx w → FrameR σ I f tmps →
    j = pre.length + 1 → N < 2 ^ (128 * j) → (∀ i (h : i < pre.length), CRa σ I (dig N (i + 1)) pre[i]) → ∃ vs, (l.mapM fun r => resRun r tmps).run X.P w = .ok vs w ∧ vs.length = l.length ∧ CRv σ I c (.tuple (pre ++ vs).toArray)
  | [], j, N, H, nx, hf => (newTup_tells hf).mono fun c H' nx' ⟨g, h⟩ => ⟨g, fun I σ w tmps pre hI hS hF hj hN hp => ⟨[], rfl, rfl, h I σ _ hI (by simp [hj]) fun i hi => by
      have hi' : i < pre.length := by simpa using hi
      have := hp i hi'
      simpa using this⟩⟩
  | r :: l, j, N, H, nx, hf => by
    show Tells (fun k => resCell X r f H nx fun c H nx => br (.bad 143) (frc (fun N => frc (fun j => resRowA X k f l j N H nx) (Nat.succ j)) (Nat.add N (Nat.shiftLeft c (Nat.shiftLeft j 7)))) (valOk c)) _
    refine Tells.bind (resCell_tells hX hFo hf) fun c H1 n1 ⟨g1, h1⟩ => Tells.ifb fun hv => Tells.frc (Tells.frc ((resRow_tells hX hFo l (j + 1) _ H1 n1 g1.free).mono fun c' H' nx' ⟨g2, h2⟩ => ⟨g1.trans g2, fun I σ w tmps pre hI hS hF hj hN hp => ?_⟩))
    obtain ⟨v, r1, r2⟩ := h1 I σ w tmps (hI.back g2.toALe) hS hF
    have hcv := valOk_cra hv r2
    have hlt : c < 2 ^ 128 := hcv.lt
    obtain ⟨vs, s1, s2, s3⟩ := h2 I σ w tmps (pre ++ [v]) hI (hS.grow g1) hF (by simp [hj]) (topk_lt hN hlt) (fun i hi => by
      rw [dig_top hN hlt]
      by_cases hip : i < pre.length
      · rw [if_neg (by omega), if_pos (by omega), List.getElem_append_left hip]
        exact hp i hip
      · have : i = pre.length := by simp at hi; omega
        subst this
        rw [if_pos (by omega), List.getElem_concat_length]
        · exact hcv
        · rfl)
    refine ⟨v :: vs, ?_, by simp [s2], ?_⟩
    · simp [List.mapM_cons, r1, s1]
    · simpa using s3
def oneOf : List Value → Value | [v] => v | vs => .tuple vs.toArray
theorem run_results {P : Program} {fn : Func} {tmps : Array Value} {w : World} {vs : List Value} (h : (fn.results.toList.mapM fun r => resRun r tmps).run P w = .ok vs w) : (results fn tmps).run P w = .ok (oneOf vs) w := by
  have e : (fn.results.mapM fun r => resRun r tmps) = List.toArray <$> fn.results.toList.mapM fun r => resRun r tmps := Array.mapM_eq_mapM_toList
  have h2 : (fn.results.mapM fun r => resRun r tmps).run P w = .ok vs.toArray w := by
    rw [e]; simp [h]
  unfold results
  refine (Sem.run_bind _ _ _ _).trans ?_
  refine (congrArg (fun r : Result (Array Value) => Result.andThen r fun vs w' => (pure (if h : vs.size = 1 then vs[0] else .tuple vs) : Sem Value).run P w') h2).trans ?_
  simp only [Result.andThen_ok, pure, Sem.run]
  match vs with
  | [] => rfl
  | [v] => rfl
  | _ :: _ :: _ => simp [oneOf]
theorem resK_tells (hX : EnvOk X) (hFo : FormOk X) {fn : Func} (hf : Free H nx) : Tells (resK X fn f H nx) fun c H' nx' => Grow H nx H' nx' ∧ ∀ (I : Imm) (σ : Sig) (w : World) (tmps : Array Value), Holds I H' nx' → SRel σ I H nx w → FrameR σ I f tmps →
    ∃ v, (results fn tmps).run X.P w = .ok v w ∧ VR σ I c v := by
  unfold resK
  match hl : fn.results.toList with
  | [] =>
    refine Tells.pure ⟨Grow.refl hf, fun I σ w tmps hI hS hF => ⟨undef, ?_, vr_undef⟩⟩
    exact run_results (vs := []) (by rw [hl]; rfl)
  | [r] =>
    refine (resCell_tells hX hFo hf).mono fun c H' nx' ⟨g, h⟩ => ⟨g, fun I σ w tmps hI hS hF => ?_⟩
    obtain ⟨v, h1, h2⟩ := h I σ w tmps hI hS hF
    exact ⟨v, run_results (vs := [v]) (by rw [hl]; simp [h1]), h2⟩
  | r1 :: r2 :: l =>
    show Tells (fun k => resRowA X k f (r1 :: r2 :: l) 1 0 H nx) _
    refine (resRow_tells hX hFo (r1 :: r2 :: l) 1 0 H nx hf).mono fun c H' nx' ⟨g, h⟩ => ⟨g, fun I σ w tmps hI hS hF => ?_⟩
    obtain ⟨vs, s1, s2, s3⟩ := h I σ w tmps [] hI hS hF rfl (by decide) (fun i h => absurd h (by simp))
    refine ⟨.tuple vs.toArray, ?_, .inr (.inr (by simpa using s3))⟩
    have := run_results (P := X.P) (fn := fn) (by rw [hl]; exact s1)
    match vs, s2 with
    | v1 :: v2 :: vs, _ => exact this

/-! ### Functions -/
theorem fargs_dig {F nx i : Nat} : dig (Nat.xor F (Nat.mul (Nat.land nx 4294967295) 2654435769)) (i + 1) = dig F (i + 1) := by
  refine dig_ext fun k hk => ?_
  show (F ^^^ ((Nat.land nx 4294967295) * 2654435769)).testBit _ = _
  have h1 : (Nat.land nx 4294967295) * 2654435769 < 2 ^ 128 := by
    have : Nat.land nx 4294967295 = nx % 4294967296 := Nat.and_two_pow_sub_one_eq_mod nx 32
    rw [this]
    have := Nat.mod_lt nx (show 0 < 4294967296 by decide)
    omega
  rw [Nat.testBit_xor, testBit_lt h1 (by omega)]
  simp
theorem args_frame {σ : Sig} {I : Imm} {F nx n : Nat} {args : Array Value} (h : ArgsR σ I F args) : FrameR σ I (Nat.xor F (Nat.mul (Nat.land nx 4294967295) 2654435769)) (args ++ Array.replicate (n - args.size) undef) := by
  intro t
  show VR σ I (dig (Nat.xor F (Nat.mul (Nat.land nx 4294967295) 2654435769)) (t + 1)) _
  rw [fargs_dig]
  by_cases ht : t < args.size
  · have := h.2.2 t ht
    have e : (args ++ Array.replicate (n - args.size) undef).getD t undef = args[t] := by
      simp [Array.getD_eq_getD_getElem?, Array.getElem?_append_left ht, ht]
    rw [e]; exact this
  · left
    rw [dig_big h.1 (by omega)]; rfl
/-- what is asked of all functions -/
structure FnsOk (X : Env) : Prop where
  ok : ∀ (g : FuncId) (fn : Func), X.P.funcs[g]? = some fn → X.orc g = 0 → fnOk X g fn = true
  name : ∀ (g : FuncId) (fn : Func), X.P.funcs[g]? = some fn → (fn.name == "runtime.NumGoroutine") = false
/-- what a call tells, as the kit says it -/
def CalC (X : Env) (g F : Nat) (H : HT) (nx : Nat) (c : Nat) (H' : HT) (nx' : Nat) : Prop := ALe H nx H' nx' ∧ ∀ (I : Imm) (σ : Sig) (w : World) (args : Array Value), Holds I H' nx' → SRel σ I H nx w → ArgsR σ I F args →
  Calls X.P g args w fun e w' => ∃ v, e = .returned v ∧ ∃ σ', After σ I H nx w σ' H' nx' w' ∧ VR σ' I c v
theorem fn_callsC (hX : EnvOk X) (hFo : FormOk X) (hN : FnsOk X) {run : RunT} (hr : RunOk X run) {g F : Nat} {fn : Func} (hg : X.P.funcs[g]? = some fn) (ho : X.orc g = 0) (hf : Free H nx) : Tells (callFn fn X run g F H nx) (CalC X g F H nx) := by
  show Tells (fun k => @Option.rec Code (fun _ => Out) (.bad (1000 + g)) (fun c => fargs F nx fun F => afterCall X fn k (run g c F H nx)) fn.body) _
  have hok := hN.ok g fn hg ho
  unfold fnOk at hok
  cases hb : fn.body with
  | none => exact Tells.bad
  | some c =>
    rw [hb] at hok
    simp only [Bool.and_eq_true] at hok
    obtain ⟨hfo, hdr⟩ := hok
    unfold funcOk at hfo
    rw [hb] at hfo
    simp only [Bool.and_eq_true] at hfo
    show Tells (fun k => frc (fun F => afterCall X fn k (run g c F H nx)) (Nat.xor F (Nat.mul (Nat.land nx 4294967295) 2654435769))) _
    refine Tells.frc (F := fun F k => afterCall X fn k (run g c F H nx)) ?_
    have h1 := hr g c (Nat.xor F (Nat.mul (Nat.land nx 4294967295) 2654435769)) H nx fn.ntmps hfo.1 hdr hf
    have key : ∀ (e : Exit) f1 H1 n1, (e = .normal ∨ e = .ret) → CodS X fn.ntmps c (Nat.xor F (Nat.mul (Nat.land nx 4294967295) 2654435769)) H nx e f1 H1 n1 → Tells (fun k => resK X fn f1 H1 n1 k) (CalC X g F H nx) := fun e f1 H1 n1 he hc => by
      refine (resK_tells hX hFo hc.1.free).mono fun c' H' nx' ⟨g2, hres⟩ => ⟨hc.1.trans g2.toALe, fun I σ w args hI hS hA => ?_⟩
      refine calls_of_wp hg hb ?_
      refine wp_mono (hc.2 I σ w _ (hI.back g2.toALe) hS (args_frame (n := fn.ntmps) hA) (by simp; omega) rfl).wp fun e' a' w' hp => ?_
      obtain ⟨rfl, σ', h1, h2, h3, h4⟩ := hp
      obtain ⟨v, hv1, hv2⟩ := hres I σ' w' a'.tmps hI h1.rel h2
      have hR : ∃ v', Ending.returned v = .returned v' ∧ ∃ σ'', After σ I H nx w σ'' H' nx' w' ∧ VR σ'' I c' v' := ⟨v, rfl, σ', h1.trans (.grow h1.rel g2) hc.1.le (fun b e hb => (hS.dom b e hb).1), hv2⟩
      rcases he with rfl | rfl
      · exact ⟨h4, v, hv1, hR⟩
      · exact ⟨h4, v, hv1, hR⟩
    intro k
    cases hrun : run g c (Nat.xor F (Nat.mul (Nat.land nx 4294967295) 2654435769)) H nx with
    | bad m => exact .inl ⟨m, rfl⟩
    | norm f1 H1 n1 => rw [hrun] at h1; exact key .normal _ _ _ (.inl rfl) h1 k
    | ret f1 H1 n1 => rw [hrun] at h1; exact key .ret _ _ _ (.inr rfl) h1 k
    | exit i f1 H1 n1 => exact .inl ⟨151, rfl⟩
theorem fn_calls (hX : EnvOk X) (hFo : FormOk X) (hN : FnsOk X) {run : RunT} (hr : RunOk X run) {g F : Nat} {fn : Func} (hg : X.P.funcs[g]? = some fn) (ho : X.orc g = 0) (hf : Free H nx) : Tells (callFn fn X run g F H nx) (CalR X g F H nx) := by
  cases hb : fn.body with
  | none =>
    show Tells (fun k => @Option.rec Code (fun _ => Out) (.bad (1000 + g)) (fun c => fargs F nx fun F => afterCall X fn k (run g c F H nx)) fn.body) _
    rw [hb]; exact Tells.bad
  | some c =>
    refine (fn_callsC hX hFo hN hr hg ho hf).mono fun c' H' nx' ⟨g1, h⟩ => ⟨g1, fun I σ w args hI hS hA => fun o a hrun => ?_⟩
    have henter : (callFunc g args).run X.P w = .ok (.enter g args) w := by
      have hp : (program).run X.P w = .ok X.P w := rfl
      have hn := hN.name g fn hg
      have hbn : fn.body.isNone = false := by rw [hb]; rfl
      simp only [callFunc, Sem.run_bind, hp, Result.andThen_ok, hg, hn, hbn, Bool.false_eq_true, if_false, pure, Sem.run]
    exact OpDo.enter (hrun.trans henter) (h I σ w args hI hS hA)
/-- the functions that are taken by a law of their own -/
def OrcOk (X : Env) : Prop := ∀ (g : FuncId) (fn : Func) (F : Nat) (H : HT) (nx : Nat), X.P.funcs[g]? = some fn → X.orc g ≠ 0 → Free H nx → Tells (orc (X.orc g) fn X F H nx) (CalR X g F H nx)
theorem callBy_ok (hX : EnvOk X) (hFo : FormOk X) (hN : FnsOk X) (hO : OrcOk X) {run : RunT} (hr : RunOk X run) : CallOk X (callBy X run) := by
  intro g F H nx hf
  show Tells (fun k => @Option.rec Func (fun _ => Out) (.bad 150)
    (fun fn => br (orc (X.orc g) fn X F H nx k) (callFn fn X run g F H nx k) (Nat.beq (X.orc g) 0)) (fnOf X g)) _
  cases hg : fnOf X g with
  | none => exact Tells.bad
  | some fn =>
    have hg' : X.P.funcs[g]? = some fn := by
      have : X.P.funcs.toList[g]? = some fn := hg
      simpa using this
    exact Tells.ite (fun h => fn_calls hX hFo hN hr hg' (beq_iff.1 h) hf) fun h => hO g fn F H nx hg' (beq_false.1 h) hf
theorem run_ok (hX : EnvOk X) (hFo : FormOk X) (hT : 3 ≤ X.P.types.size) (hN : FnsOk X) (hO : OrcOk X) (hD : ∀ call, CallOk X call → DrawOk X call) : ∀ n, RunOk X (Ev.runN n X)
  | 0 => fun g c f H nx n hn hdr hf => trivial
  | n + 1 => fun g c f H nx m hn hdr hf => by
    have hr := run_ok hX hFo hT hN hO hD n
    have hc := callBy_ok hX hFo hN hO hr
    exact runF_sound hX hFo hT hr hc (hD _ hc) c g f H nx m hn hdr hf
end Go.Ev
set_option linter.unusedVariables false
set_option linter.unusedSimpArgs false
namespace Go.Ev
variable {X : Env} {H : HT} {nx : Nat}

/-! ### A map cloned -/
/-- a function that the model stands in for -/
structure ExtAt (X : Env) (g : FuncId) (fn : Func) (e : Array Value → Sem Value) : Prop where
  at_ : X.P.funcs[g]? = some fn
  name : (fn.name == "runtime.NumGoroutine") = false
  body : fn.body.isNone = true
  next : Extern.findNext fn = none
  find : Extern.find fn = some e
theorem args_one {σ : Sig} {I : Imm} {F : Nat} {args : Array Value} (h : ArgsR σ I F args) (h0 : dig F 0 = 1) : ∃ v, args = #[v] ∧ VR σ I (dig F 1) v := by
  have hs : args.size = 1 := by
    rcases h.2.1 with e | e
    · rw [h0] at e; exact absurd e (by decide)
    · rw [h0] at e; exact cntA_inv e.1 (by decide)
  refine ⟨args[0], ?_, h.2.2 0 (by omega)⟩
  refine Array.ext (by simp [hs]) fun i h1 h2 => ?_
  have : i = 0 := by omega
  subst this; rfl
theorem hi_mod (c : Nat) : hi (c % tI) = hi c % 256 := by rw [hi_def, hi_def]; unfold tI; omega
theorem blk_mod (c : Nat) : blk (c % tI) = blk c := by rw [blk_def, blk_def]; unfold tI; omega
theorem some_mod (c : Nat) : some' (c % tI) = some' c := by
  rw [some'_def, some'_def]
  have : c % tI % 16777216 = c % 16777216 := by unfold tI; omega
  rw [this]
theorem oClone_ok {g : FuncId} {fn : Func} (hx : ExtAt X g fn Extern.MapsClone.clone) {F : Nat} (hf : Free H nx) : Tells (oClone F H nx) (CalR X g F H nx) := by
  show Tells (fun k => frc (fun c => br (.bad 170) (mapK H (blk c) fun n q l => new (.map n q l) H nx fun i H nx => frc (fun c => k c H nx) (Nat.add (Nat.shiftLeft (Nat.shiftRight c 104) 104) (mkMap i))) (and' (Nat.beq (dig F 0) 1) (and' (Nat.beq (Nat.land (hi c) 255) 16) (and' (Nat.ble 256 (hi c)) (some' c))))) (dig F 1)) _
  refine Tells.frc ?_
  refine Tells.ifb fun hc => Tells.mapK fun n q l hgl => Tells.bind (new_tells _ H nx hf) fun i H' nx' ⟨e1, e2, hn⟩ => ?_
  subst e1 e2
  refine Tells.frcK ⟨hn.grow.toALe, fun I σ w args hI hS hA o a hrun => ?_⟩
  simp only [and'_eq, Bool.and_eq_true, beq_iff, ble_iff] at hc
  obtain ⟨h0, h16, h256, hsm⟩ := hc
  obtain ⟨v0, rfl, hv⟩ := args_one hA h0
  obtain ⟨t, v, q1, rfl, q3, q4, q5⟩ := iface_inv hv h256
  have hk : hi (dig F 1 % tI) = 16 := by rw [hi_mod, ← land255]; exact h16
  obtain ⟨e, he, rfl⟩ := map_at q4.toV hk (by rw [some_mod]; exact hsm)
  rw [blk_mod] at he
  have hobj := hS.obj _ e he
  rw [hgl] at hobj
  obtain ⟨es, o1, o2, o3⟩ := (show ObjR σ I (.map n q l) e w from hobj).mono (sle_upd (e := ⟨w.heap.size, 0, 0, 0⟩) (hS.none (Nat.le_refl i)))
  refine .value (v := .iface t (.map (some w.heap.size))) (w' := w.alloc (.map es q)) ?_ ⟨_, hS.new (e := ⟨w.heap.size, 0, 0, 0⟩) (ob := .map es q) hn rfl fun w' hw => ⟨es, hw, o2, o3⟩, ?_⟩
  · rw [hrun, run_callFunc_extern hx.at_ hx.name hx.body hx.next hx.find]
    have ec : Extern.MapsClone.clone #[.iface t (.map (some e.B))] = (getObj e.B >>= fun o => match o with
      | .map entries clock => (newObj (.map entries clock) >>= fun n => pure (.iface t (.map (some n))))
      | _ => stuck "maps.clone: a map expected") := rfl
    rw [ec]
    simp [MapKept.run_getObj_map o1, Result.andThen, go_sem]
  · have hlt := hn.lt
    have hm := crp_map (I := I) (e := ⟨w.heap.size, 0, 0, 0⟩) (upd_same (σ := σ) (b := i)) (show i < 16777215 by omega)
    have e2 : Nat.add (Nat.shiftLeft (Nat.shiftRight (dig F 1) 104) 104) (mkMap i) = (t + 1) * tI + mkMap i := by
      show ((dig F 1) >>> 104) <<< 104 + _ = _
      rw [Nat.shiftLeft_eq, Nat.shiftRight_eq_div_pow, show (2 : Nat) ^ 104 = tI from by decide, q1]
    have hmod : ((t + 1) * tI + mkMap i) % tI = mkMap i := by rw [mkMap_def]; unfold tI; omega
    have hdiv : ((t + 1) * tI + mkMap i) / tI = t + 1 := by rw [mkMap_def]; unfold tI; omega
    have ht : t + 1 < 16777216 := by rw [← q1]; unfold tI; omega
    rw [e2]
    refine CRs.toV (.inl (.inl ⟨?_, ?_, t, .map (some w.heap.size), hdiv, rfl, ?_, ?_⟩))
    · rw [hi_def, mkMap_def]; unfold tI; omega
    · rw [mkMap_def]; unfold tI; omega
    · rw [hmod, hi_def, mkMap_def]; omega
    · rw [hmod]; exact hm
end Go.Ev
set_option linter.unusedVariables false
set_option linter.unusedSimpArgs false
namespace Go.Ev
variable {X : Env} {H : HT} {nx : Nat}

/-! ### The world has grown -/
theorem SRel.newBelow {σ : Sig} {I : Imm} {H' : HT} {w w1 : World} {x : Ev.Obj} {e : SE} (h : SRel σ I H nx w) (hsz : w.heap.size ≤ w1.heap.size) (hold : ∀ B, B < w.heap.size → w1.heap[B]? = w.heap[B]?) (hos : w1.os = w.os) (hout : w1.output = w.output) (hn : NewAt x H nx H') (hB : w.heap.size ≤ e.B) (hB2 : e.B < w1.heap.size)
    (ho : ObjR (upd σ nx e) I x e w1) : After σ I H nx w (upd σ nx e) H' (nx + 1) w1 := by
  have hno := h.none (Nat.le_refl nx)
  have hsl : SLe σ (upd σ nx e) := sle_upd hno
  refine ⟨⟨hsl, fun b e' hb => ?_⟩, ⟨fun b e' hb => ?_, fun b e' hb => ?_, fun b b' e1 e2 h1 h2 hBB n1 n2 => ?_, h.g0.next (fun b e' hb => by
    by_cases hbn : b = nx
    · subst hbn; rw [upd_same] at hb; obtain rfl := Option.some.inj hb; exact .inr (by omega)
    · rw [upd_ne hbn] at hb; exact .inl ⟨b, e', hb, rfl⟩) fun z _ hz => hold z hz⟩, ⟨hsz, fun B hB _ => hold B hB, hos, hout⟩, fun b hb _ => hn.same b hb⟩
  · by_cases hbn : b = nx
    · subst hbn; rw [upd_same] at hb; obtain rfl := Option.some.inj hb
      exact .inr ⟨Nat.le_refl _, .inl (by omega)⟩
    · rw [upd_ne hbn] at hb; exact .inl hb
  · by_cases hbn : b = nx
    · subst hbn; rw [upd_same] at hb; obtain rfl := Option.some.inj hb
      exact ⟨by omega, by omega⟩
    · rw [upd_ne hbn] at hb; have := h.dom b e' hb; exact ⟨by omega, by omega⟩
  · by_cases hbn : b = nx
    · subst hbn; rw [upd_same] at hb; obtain rfl := Option.some.inj hb
      rw [hn.at_]
      exact ho
    · rw [upd_ne hbn] at hb
      have hd := h.dom b e' hb
      rw [hn.same b hd.1]
      exact ((h.obj b e' hb).world (hold _ hd.2)).mono hsl
  · by_cases hb1 : b = nx <;> by_cases hb2 : b' = nx
    · omega
    · subst hb1; rw [upd_same] at h1; obtain rfl := Option.some.inj h1
      rw [upd_ne hb2] at h2; have := (h.dom b' e2 h2).2; omega
    · subst hb2; rw [upd_same] at h2; obtain rfl := Option.some.inj h2
      rw [upd_ne hb1] at h1; have := (h.dom b e1 h1).2; omega
    · rw [upd_ne hb1] at h1; rw [upd_ne hb2] at h2
      rw [hn.same b (h.dom b e1 h1).1] at n1
      rw [hn.same b' (h.dom b' e2 h2).1] at n2
      exact h.inj b b' e1 e2 h1 h2 hBB n1 n2
theorem After.below {σ : Sig} {I : Imm} {w w1 : World} (h : SRel σ I H nx w) (hsz : w.heap.size ≤ w1.heap.size) (hold : ∀ B, B < w.heap.size → w1.heap[B]? = w.heap[B]?) (hos : w1.os = w.os) (hout : w1.output = w.output) : After σ I H nx w σ H nx w1 where
  ext := ⟨SLe.refl _, fun b e hb => .inl hb⟩
  rel := h.world hsz (fun b e hb => hold _ (h.dom b e hb).2) fun z _ hz => hold z hz
  unch := ⟨hsz, fun B hB _ => hold B hB, hos, hout⟩
  afr := fun _ _ _ => rfl

/-! ### Keys that are ints -/
theorem intOk_iff {c : Nat} : intOk c = true ↔ 554597137599850363154807652352 ≤ c ∧ c < 554597137599850363154807652352 + 9223372036854775808 := by
  show and' (Nat.ble 554597137599850363154807652352 c) (Nat.blt c (Nat.add 554597137599850363154807652352 9223372036854775808)) = true ↔ _
  rw [and'_eq, Bool.and_eq_true, ble_iff, blt_iff]
def nOf (c : Nat) : Int := ((c - 554597137599850363154807652352 : Nat) : Int)
theorem hi_intOk {c : Nat} (h : intOk c = true) : hi c = 7 := by
  rw [intOk_iff] at h
  rw [hi_def]
  omega
theorem crp_intOk {σ : Sig} {I : Imm} {c : Nat} (h : intOk c = true) : CRp σ I c (.int .i64 (nOf c)) := by
  have h7 := hi_intOk h
  rw [intOk_iff] at h
  unfold CRp; rw [h7]
  refine ⟨nOf c, rfl, ?_, ?_, ?_⟩
  · show (-9223372036854775808 : Int) ≤ _; unfold nOf; omega
  · show _ ≤ (9223372036854775807 : Int); unfold nOf; omega
  · unfold nOf; show c = 7 * 79228162514264337593543950336 + _; omega
theorem val_intOk {σ : Sig} {I : Imm} {c : Nat} {v : Value} (h : intOk c = true) (hv : CRp σ I c v) : v = .int .i64 (nOf c) := by
  have h7 := hi_intOk h
  rw [intOk_iff] at h
  unfold CRp at hv; rw [h7] at hv
  obtain ⟨n, rfl, h1, h2, h3⟩ := hv
  have e1 : (-9223372036854775808 : Int) ≤ n := h1
  have e2 : n ≤ (9223372036854775807 : Int) := h2
  have h3 : c = 7 * 79228162514264337593543950336 + (n % 18446744073709551616).toNat := h3
  congr 1
  unfold nOf; omega
theorem nOf_inj {a b : Nat} (ha : intOk a = true) (hb : intOk b = true) (h : nOf a = nOf b) : a = b := by
  rw [intOk_iff] at ha hb; unfold nOf at h; omega
theorem nOf_le {a b : Nat} (ha : intOk a = true) (hb : intOk b = true) : nOf a ≤ nOf b ↔ a ≤ b := by
  rw [intOk_iff] at ha hb; unfold nOf; omega

/-! ### Sorting -/
theorem insS_perm (x : Nat) : ∀ l : List Nat, (insS x l).Perm (x :: l)
  | [] => List.Perm.refl _
  | y :: l => by
    show (@Bool.rec (fun _ => List Nat) (y :: insS x l) (x :: y :: l) (Nat.ble x y)).Perm _
    cases Nat.ble x y with
    | true => exact List.Perm.refl _
    | false => exact ((insS_perm x l).cons y).trans (List.Perm.swap x y l)
theorem insS_sorted (x : Nat) : ∀ l : List Nat, l.Pairwise (· ≤ ·) → (insS x l).Pairwise (· ≤ ·)
  | [], _ => List.pairwise_singleton _ _
  | y :: l, h => by
    show (@Bool.rec (fun _ => List Nat) (y :: insS x l) (x :: y :: l) (Nat.ble x y)).Pairwise _
    have h2 := List.pairwise_cons.1 h
    cases hxy : Nat.ble x y with
    | true =>
      have hle := ble_iff.1 hxy
      refine List.pairwise_cons.2 ⟨fun z hz => ?_, h⟩
      rcases List.mem_cons.1 hz with rfl | hz
      · exact hle
      · exact Nat.le_trans hle (h2.1 z hz)
    | false =>
      have hlt := ble_false.1 hxy
      refine List.pairwise_cons.2 ⟨fun z hz => ?_, insS_sorted x l h2.2⟩
      rcases List.mem_cons.1 ((insS_perm x l).mem_iff.1 hz) with rfl | hz
      · omega
      · exact h2.1 z hz
theorem sortM_perm : ∀ l : ML, (sortM l).Perm (keysM l)
  | .nil => List.Perm.refl _
  | .cons k v b l => (insS_perm k (sortM l)).trans ((sortM_perm l).cons k)
theorem sortM_sorted : ∀ l : ML, (sortM l).Pairwise (· ≤ ·)
  | .nil => List.Pairwise.nil
  | .cons k v b l => insS_sorted k _ (sortM_sorted l)
theorem packSK_tells : ∀ (l : List Nat) (j N : Nat), N < 2 ^ (128 * j) → Tells1 (fun k => packSK k l j N) fun N' => (∀ c ∈ l, intOk c = true) ∧ (∀ i, i < j → dig N' i = dig N i) ∧ ∀ i (h : i < l.length), dig N' (j + i) = l[i]
  | [], j, N, hN => Tells1.pure ⟨fun c hc => absurd hc (by simp), fun _ _ => rfl, fun i h => absurd h (by simp)⟩
  | c :: l, j, N, hN => by
    show Tells1 (fun k => br (.bad 176) (frc (fun N => frc (fun j => packSK k l j N) (Nat.succ j)) (Nat.add N (Nat.shiftLeft c (Nat.shiftLeft j 7)))) (intOk c)) _
    refine Tells1.ifb fun hc => ?_
    have hlt : c < 2 ^ 128 := by rw [intOk_iff] at hc; omega
    intro k
    rcases packSK_tells l (j + 1) _ (topk_lt hN hlt) k with hb | ⟨N', e, h1, h2, h3⟩
    · exact .inl hb
    · refine .inr ⟨N', e, ?_, fun i hi => ?_, fun i hi => ?_⟩
      · intro x hx
        rcases List.mem_cons.1 hx with rfl | hx
        · exact hc
        · exact h1 x hx
      · rw [h2 i (by omega), dig_top hN hlt, if_neg (by omega), if_pos hi]
      · cases i with
        | zero => rw [Nat.add_zero, h2 j (by omega), dig_top hN hlt, if_pos rfl]; rfl
        | succ i =>
          have := h3 i (by simpa using hi)
          rw [show j + (i + 1) = j + 1 + i by omega, this]; rfl

/-! ### A map's entries, told -/
theorem mlr_ints {σ : Sig} {I : Imm} : ∀ {l : ML} {es : List MapEntry}, MLR σ I l es → (∀ c ∈ keysM l, intOk c = true) → es.map (·.key) = (keysM l).map (fun c => Value.int .i64 (nOf c)) ∧ es.map (·.born) = birthsM l
  | .nil, [], _, _ => ⟨rfl, rfl⟩
  | .cons k v b l, e :: es, h, hk => by
    obtain ⟨⟨a1, a2, a3, a4, a5⟩, h2⟩ := h
    obtain ⟨b1, b2⟩ := mlr_ints h2 fun c hc => hk c (by simp [keysM, hc])
    have := val_intOk (hk k (by simp [keysM])) a1
    refine ⟨?_, ?_⟩
    · simp only [List.map_cons, keysM, this, b1]
    · simp only [List.map_cons, birthsM, a5, b2]
/-- what the function that hands back a map's keys, sorted, is told to do -/
def KeysLaw (P : Program) (g : FuncId) (o : Nat) (et : TypeId) : Prop := ∀ (B a b : Nat) (es : Array MapEntry) (clock : Nat) (ns : List Int) (w : World), w.cell? ⟨B, a + o, none⟩ = some (.map (some b)) → w.heap[b]? = some (.map es clock) → MapKept.Stamped es clock →
  es.toList.map (·.key) = ns.map (fun n => Value.int .i64 n) → (∀ n ∈ ns, 0 ≤ n ∧ n < 9223372036854775808) → es.size ≤ 16777214 →
  Calls P g #[.pointer (some ⟨B, a, none⟩)] w fun e w' => ∃ (v : Value) (ss : List Int), e = .returned v ∧ ss.Perm ns ∧ w'.ownsRow w.heap.size et 1 v ss.length ((ss.mergeSort (fun x y => decide (x ≤ y))).map fun n => Value.int .i64 n) ∧ (v = .slice none 0 0 ↔ ss = []) ∧ w.heap.size ≤ w'.heap.size ∧ w'.os = w.os ∧ w'.output = w.output ∧ ∀ k, k < w.heap.size → w'.heap[k]? = w.heap[k]?
theorem sort_eq {ss : List Int} {l : ML} (hp : ss.Perm ((keysM l).map nOf)) (hk : ∀ c ∈ keysM l, intOk c = true) : ss.mergeSort (fun x y => decide (x ≤ y)) = (sortM l).map nOf := by
  have tr : ∀ a b c : Int, decide (a ≤ b) = true → decide (b ≤ c) = true → decide (a ≤ c) = true := fun a b c h1 h2 => by simp only [decide_eq_true_eq] at *; exact Int.le_trans h1 h2
  have to : ∀ a b : Int, (decide (a ≤ b) || decide (b ≤ a)) = true := fun a b => by simp only [Bool.or_eq_true, decide_eq_true_eq]; exact Int.le_total a b
  refine List.Perm.eq_of_pairwise (le := fun a b => decide (a ≤ b) = true) (fun a b _ _ h1 h2 => ?_) (List.pairwise_mergeSort tr to ss) ?_ (((List.mergeSort_perm ss _).trans hp).trans ((sortM_perm l).map nOf).symm)
  · simp only [decide_eq_true_eq] at h1 h2
    exact Int.le_antisymm h1 h2
  · rw [List.pairwise_map]
    refine (sortM_sorted l).imp_of_mem fun {a b} ha hb hab => ?_
    rw [decide_eq_true_eq]
    exact (nOf_le (hk a ((sortM_perm l).mem_iff.1 ha)) (hk b ((sortM_perm l).mem_iff.1 hb))).2 hab
theorem oKeys_ok {g : FuncId} {et t : TypeId} {o : Nat} (hL : KeysLaw X.P g o et) (hE : ∀ args w, (callFunc g args).run X.P w = .ok (.enter g args) w) {F : Nat} (hf : Free H nx) : Tells (oKeys X o t F H nx) (CalR X g F H nx) := by
  show Tells (fun k => frc (fun p => br (.bad 175) (rowK H (blk p) fun n N _ _ => br (.bad 175) (frc (fun m =>
    br (.bad 176) (mapK H (blk m) fun c _ l => br (packSK (fun N => newRow c N (elemT X t) true H nx fun i H nx => slU i 0 c 1 H nx k) (sortM l) 1 0) (k 1188422437713965063903159255040 H nx) (Nat.beq c 0)) (and' (Nat.beq (hi m) 16) (some' m))) (dig N (Nat.succ (Nat.add (off p) o)))) (Nat.blt (Nat.add (off p) o) n)) (and' (Nat.beq (dig F 0) 1) (isPtr p))) (dig F 1)) _
  refine Tells.frc (Tells.ifb fun hp => Tells.row fun n N et' op hg => Tells.ifb fun hlt => Tells.frc (Tells.ifb fun hm => Tells.mapK fun c q l hgl => ?_))
  simp only [and'_eq, Bool.and_eq_true, beq_iff] at hp hm
  have hlt : off (dig F 1) + o < n := blt_iff.1 hlt
  -- what is known of the world before
  have start : ∀ (I : Imm) (σ : Sig) (w : World) (args : Array Value), SRel σ I H nx w → ArgsR σ I F args → ∃ (B a : Nat) (e2 : SE) (es : Array MapEntry), args = #[.pointer (some ⟨B, a, none⟩)] ∧ w.cell? ⟨B, a + o, none⟩ = some (.map (some e2.B)) ∧ w.heap[e2.B]? = some (.map es q) ∧ MLR σ I l es.toList.reverse ∧ (keysM l).Nodup ∧ (birthsM l).Nodup ∧ (∀ b ∈ birthsM l, b < q) ∧ c = (keysM l).length := by
    intro I σ w args hS hA
    obtain ⟨v0, rfl, hv⟩ := args_one hA hp.1
    obtain ⟨e, he1, he2, he3, rfl⟩ := isPtr_inv hv hp.2
    obtain ⟨v, hv1, hv2⟩ := hS.seg hg (o := off (dig F 1) + o) (m := 1) (by omega) e he1 0 (by omega)
    rw [Nat.add_zero] at hv1 hv2
    obtain ⟨e2, h21, rfl⟩ := map_at (CRs.toV hv2) hm.1 hm.2
    have hobj := hS.obj _ e2 h21
    have hgl' : get H (blk (dig N (off (dig F 1) + o + 1))) = .map c q l := hgl
    rw [hgl'] at hobj
    obtain ⟨es, o1, o2, o3, o4, o5, o6, o7⟩ := hobj
    refine ⟨e.B, e.β + off (dig F 1), e2, es, rfl, ?_, o1, o2, o3, o4, o5, o6⟩
    rw [Nat.add_assoc]; exact hv1
  have law : ∀ (I : Imm) (σ : Sig) (w : World) (args : Array Value), SRel σ I H nx w → ArgsR σ I F args → (∀ k ∈ keysM l, intOk k = true) → c ≤ 16777214 → Calls X.P g args w fun e w' => ∃ (v : Value) (ss : List Int), e = .returned v ∧ ss.Perm ((keysM l).map nOf) ∧ w'.ownsRow w.heap.size et 1 v ss.length ((ss.mergeSort (fun x y => decide (x ≤ y))).map fun n => Value.int .i64 n) ∧ (v = .slice none 0 0 ↔ ss = []) ∧ w.heap.size ≤ w'.heap.size ∧ w'.os = w.os ∧ w'.output = w.output ∧ ∀ k, k < w.heap.size → w'.heap[k]? = w.heap[k]? := by
    intro I σ w args hS hA hk hc
    obtain ⟨B, a, e2, es, rfl, w1, w2, w3, w4, w5, w6, w7⟩ := start I σ w args hS hA
    obtain ⟨m1, m2⟩ := mlr_ints w3 hk
    have hlen := mlr_len w3
    have hkeys : es.toList.map (·.key) = ((keysM l).reverse.map nOf).map (fun n => Value.int .i64 n) := by
      have := congrArg List.reverse m1
      rw [List.map_reverse, List.reverse_reverse] at this
      rw [this, List.map_map, List.map_reverse]; rfl
    have hborn : es.toList.map (·.born) = (birthsM l).reverse := by
      have := congrArg List.reverse m2
      rw [List.map_reverse, List.reverse_reverse] at this
      exact this
    refine (hL B a e2.B es q ((keysM l).reverse.map nOf) w w1 w2 ⟨fun x hx => ?_, ?_, ?_⟩ hkeys (fun n hn => ?_) ?_).mono ?_
    · refine w6 _ ?_
      have : x.born ∈ es.toList.map (·.born) := List.mem_map_of_mem hx
      rw [hborn] at this; simpa using this
    · rw [hborn]; exact List.pairwise_reverse.2 (w5.imp fun h => Ne.symm h)
    · rw [hkeys, List.map_map]
      refine List.pairwise_map.2 ((show (keysM l).reverse.Pairwise (· ≠ ·) from List.pairwise_reverse.2 (w4.imp fun h => Ne.symm h)).imp_of_mem fun {a b} ha hb hab e => hab ?_)
      have e : nOf a = nOf b := by
        have : Value.int .i64 (nOf a) = Value.int .i64 (nOf b) := e
        injection this
      exact nOf_inj (hk a (by simpa using ha)) (hk b (by simpa using hb)) e
    · obtain ⟨k, hk1, rfl⟩ := List.mem_map.1 hn
      have := intOk_iff.1 (hk k (by simpa using hk1))
      unfold nOf; omega
    · have : es.toList.reverse.length = es.size := by simp
      omega
    · rintro e w' ⟨v, ss, rfl, h1, h2⟩
      refine ⟨v, ss, rfl, h1.trans ?_, h2⟩
      exact ((List.reverse_perm (keysM l)).map nOf)
  refine Tells.ite (fun h0 => Tells.pure ⟨(Grow.refl hf).toALe, fun I σ w args hI hS hA o' a' hrun => ?_⟩) fun h0 => ?_
  · obtain ⟨B, a, e2, es, rfl, w1, w2, w3, w4, w5, w6, w7⟩ := start I σ w args hS hA
    have hnil : keysM l = [] := List.length_eq_zero_iff.1 (by rw [← w7]; exact beq_iff.1 h0)
    refine .enter (hrun.trans (hE _ _)) ((law I σ w _ hS hA (fun k hk => by rw [hnil] at hk; exact absurd hk (by simp)) (by have := beq_iff.1 h0; omega)).mono ?_)
    rintro e w' ⟨v, ss, rfl, hp, hown, hn, hsz, hos, hout, hbl⟩
    rw [hnil] at hp
    obtain rfl := hn.2 (List.perm_nil.1 hp)
    refine ⟨_, rfl, σ, After.below hS hsz hbl hos hout, CRp.toV ?_⟩
    unfold CRp
    rw [show hi 1188422437713965063903159255040 = 15 from by decide]
    exact .inl ⟨rfl, rfl⟩
  · refine Tells.bind1 (packSK_tells (sortM l) 1 0 (by decide)) fun N' ⟨hk', _, hd⟩ => Tells.bind (newRow_tells hf) fun i H' nx' ⟨e1, e2, e3, hn⟩ => ?_
    subst e1 e2
    refine slU_tells.mono fun c' H2 n2 ⟨e4, e5, hsl⟩ => ?_
    subst e4 e5
    have hk : ∀ k ∈ keysM l, intOk k = true := fun k hk => hk' k ((sortM_perm l).mem_iff.2 hk)
    refine ⟨hn.grow.toALe, fun I σ w args hI hS hA o' a' hrun => ?_⟩
    obtain ⟨B, a, e2, es, w0, w1, w2, w3, w4, w5, w6, w7⟩ := start I σ w args hS hA
    refine .enter (hrun.trans (hE _ _)) ((law I σ w _ hS hA hk e3).mono ?_)
    rintro e w' ⟨v, ss, rfl, hp, hown, hnil, hsz, hos, hout, hbl⟩
    have hl : ss.length = c := by rw [hp.length_eq, List.length_map, w7]
    have hss : ss ≠ [] := fun h => by rw [h] at hl; exact absurd hl.symm (beq_false.1 h0)
    rw [sort_eq hp hk] at hown
    rcases hown.2 with ⟨rfl, _⟩ | ⟨gb, cap, cur, rfl, hbase, hgb, r1, r2, r3, r4⟩
    · exact absurd (hnil.1 rfl) hss
    have hlt2 : gb < w'.heap.size := (Array.getElem?_eq_some_iff.1 hgb).1
    have hnl := hn.lt
    refine ⟨_, rfl, upd σ i ⟨gb, 0, cap, 1⟩, hS.newBelow (e := ⟨gb, 0, cap, 1⟩) hsz hbl hos hout hn hbase hlt2 ⟨⟨cur, et, (0, 0), hgb, ?_, ?_, .inl (Nat.le_refl _), fun m hm => ?_⟩, fun _ => rfl⟩, ?_⟩
    · show 0 + cap ≤ cur.size; omega
    · show c ≤ cap; omega
    · have hsl' : (sortM l).length = c := by rw [(sortM_perm l).length_eq, w7]
      refine ⟨.int .i64 (nOf ((sortM l)[m]'(by omega))), ?_, ?_⟩
      · show cur[0 + m]? = _
        have hm2 : m < ss.length * 1 := by omega
        have := congrArg (fun x : List Value => x[m]?) r4
        simp only [List.getElem?_take, hm2, if_true, List.getElem?_map] at this
        rw [Nat.zero_add, ← Array.getElem?_toList, this, List.getElem?_eq_getElem (by omega)]
        rfl
      · rw [show m + 1 = 1 + m by omega, hd m (by omega)]
        exact .inl (.inr ⟨by rw [hi_intOk (hk' _ (List.getElem_mem _))]; omega, crp_intOk (hk' _ (List.getElem_mem _))⟩)
    · rw [hl]
      have := hsl (upd σ i ⟨gb, 0, cap, 1⟩) I ⟨gb, 0, cap, 1⟩ cap upd_same (by omega) (by omega) rfl (by show 0 + cap * 1 = cap; omega)
      exact this.toV
end Go.Ev
set_option linter.unusedVariables false
set_option linter.unusedSimpArgs false
namespace Go.Ev
variable {X : Env} {H : HT} {nx : Nat}

/-! ### Numbers as bytes; sums -/
/-- blocks that there were are as they were -/
def Stays (w w' : World) : Prop := w.heap.size ≤ w'.heap.size ∧ w'.os = w.os ∧ w'.output = w.output ∧ ∀ k, k < w.heap.size → w'.heap[k]? = w.heap[k]?
theorem After.stays {σ : Sig} {I : Imm} {w w1 : World} (h : SRel σ I H nx w) (s : Stays w w1) : After σ I H nx w σ H nx w1 := After.below h s.1 s.2.2.2 s.2.1 s.2.2.1
theorem SRel.stays {σ : Sig} {I : Imm} {w w1 : World} (h : SRel σ I H nx w) (s : Stays w w1) : SRel σ I H nx w1 := (After.stays h s).rel
def NumLaw (P : Program) (g : FuncId) : Prop := ∀ (n : Nat) (w : World), n < 18446744073709551616 → Calls P g #[.int .u64 n] w fun e w' => ∃ s : ByteArray, e = .returned (.string s) ∧ s.data.toList.length = 8 ∧ packB s.data.toList = n ∧ Stays w w'
theorem u64_split {c q : Nat} (h3 : c = 11 * 79228162514264337593543950336 + q) (h4 : q < 18446744073709551616) : c = 871509787656907713528983453696 + c % 18446744073709551616 := by omega
theorem u64_of {σ : Sig} {I : Imm} {c : Nat} {v : Value} (hv : VR σ I c v) (h : hi c = 11) : v = .int .u64 (c % 18446744073709551616 : Nat) ∧ c = 871509787656907713528983453696 + c % 18446744073709551616 := by
  have hp := hv.toP ⟨by omega, by omega, by omega⟩
  unfold CRp at hp
  rw [h] at hp
  obtain ⟨n, rfl, h1, h2, h3⟩ := hp
  have e1 : (0 : Int) ≤ n := h1
  have e2 : n ≤ (18446744073709551615 : Int) := h2
  have h3 : c = 11 * 79228162514264337593543950336 + (n % 18446744073709551616).toNat := h3
  have e3 : n = ((c % 18446744073709551616 : Nat) : Int) := by omega
  have h4 : (n % 18446744073709551616).toNat < 18446744073709551616 := by omega
  exact ⟨congrArg (Value.int .u64) e3, u64_split h3 h4⟩
theorem oNum_ok {g : FuncId} (hL : NumLaw X.P g) (hE : ∀ args w, (callFunc g args).run X.P w = .ok (.enter g args) w) {F : Nat} (hf : Free H nx) : Tells (oNum F H nx) (CalR X g F H nx) := by
  show Tells (fun k => frc (fun a => br (.bad 181) (frc (fun N => mkStr 8 N H nx k) (Nat.mod a 18446744073709551616)) (and' (Nat.beq (dig F 0) 1) (Nat.beq (hi a) 11))) (dig F 1)) _
  refine Tells.frc (Tells.ifb fun hc => Tells.frc ((mkStr_tells hf).mono fun c H' nx' ⟨g1, hm⟩ => ⟨g1.toALe, fun I σ w args hI hS hA o' a' hrun => ?_⟩))
  simp only [and'_eq, Bool.and_eq_true, beq_iff] at hc
  obtain ⟨v0, rfl, hv⟩ := args_one hA hc.1
  obtain ⟨rfl, h2⟩ := u64_of hv hc.2
  refine .enter (hrun.trans (hE _ _)) ((hL (dig F 1 % 18446744073709551616) w (Nat.mod_lt _ (by decide))).mono ?_)
  rintro e w' ⟨s, rfl, h1, h3, h4⟩
  refine ⟨_, rfl, σ, ?_, (hm I σ s hI ⟨h1.symm, h3.symm⟩).toV⟩
  exact (After.stays hS h4).trans (After.grow (hS.stays h4) g1) (Nat.le_refl _) fun b e hb => (hS.dom b e hb).1

/-- the sum of bytes: from h, times 33 and the next one -/
def sumB : List UInt8 → Nat → Nat
  | [], h => h
  | b :: l, h => sumB l ((h * 33 + b.toNat) % 18446744073709551616)
def SumLaw (P : Program) (g : FuncId) : Prop := ∀ (s : ByteArray) (w : World), s.data.toList.length ≤ 16777214 → Calls P g #[.string s] w fun e w' => e = .returned (.int .u64 (sumB s.data.toList 5381 : Nat)) ∧ Stays w w'
theorem sumB_lt : ∀ (l : List UInt8) (h : Nat), h < 18446744073709551616 → sumB l h < 18446744073709551616
  | [], h, hh => hh
  | b :: l, h, hh => sumB_lt l _ (Nat.mod_lt _ (by decide))
theorem sumK_tells : ∀ (l : List UInt8) (h : Nat), Tells1 (fun k => sumK k l.length (packB l) h) fun r => r = sumB l h
  | [], h => Tells1.pure rfl
  | b :: l, h => by
    show Tells1 (fun k => frc (fun h => frc (fun N => sumK k l.length N h) (Nat.shiftRight (packB (b :: l)) 8)) (Nat.mod (Nat.add (Nat.mul h 33) (Nat.land (packB (b :: l)) 255)) 18446744073709551616)) _
    have e1 : Nat.shiftRight (packB (b :: l)) 8 = packB l := by
      show packB (b :: l) >>> 8 = _
      rw [Nat.shiftRight_eq_div_pow]
      have := b.toNat_lt
      simp only [packB]; omega
    have e2 : Nat.land (packB (b :: l)) 255 = b.toNat := by
      rw [land255]
      have := b.toNat_lt
      simp only [packB]; omega
    have := sumK_tells l ((h * 33 + b.toNat) % 18446744073709551616)
    intro k
    rcases this k with hb | ⟨r, e, hr⟩
    · refine .inl ?_
      simp only [frc_eq, e1, e2]; exact hb
    · refine .inr ⟨r, ?_, hr⟩
      simp only [frc_eq, e1, e2]; exact e
theorem sumK_all : ∀ (n N h : Nat), ∃ r, ∀ k, sumK k n N h = k r
  | 0, N, h => ⟨h, fun k => rfl⟩
  | n + 1, N, h => by
    obtain ⟨r, e⟩ := sumK_all n (Nat.shiftRight N 8) (Nat.mod (Nat.add (Nat.mul h 33) (Nat.land N 255)) 18446744073709551616)
    exact ⟨r, fun k => e k⟩
theorem Tells.sumK {R : Nat → HT → Nat → Prop} {T : Nat → K0 → Out} {n N h : Nat} {Q : Nat → Prop} (hQ : ∃ r, Q r ∧ ∀ k, Ev.sumK k n N h = k r) (hT : ∀ r, Q r → Tells (T r) R) : Tells (fun k => Ev.sumK (fun r => T r k) n N h) R := by
  intro k
  obtain ⟨r, q, e⟩ := hQ
  show isBad (Ev.sumK (fun r => T r k) n N h) ∨ ∃ c H' nx', Ev.sumK (fun r => T r k) n N h = k c H' nx' ∧ R c H' nx'
  rw [e (fun r => T r k)]; exact hT r q k
theorem oSum_ok {g : FuncId} (hL : SumLaw X.P g) (hE : ∀ args w, (callFunc g args).run X.P w = .ok (.enter g args) w) {F : Nat} (hf : Free H nx) : Tells (oSum F H nx) (CalR X g F H nx) := by
  show Tells (fun k => br (.bad 182) (frc (fun a => str a H fun n N => br (.bad 182) (sumK (fun h => frc (fun c => k c H nx) (Nat.add h 871509787656907713528983453696)) n N 5381) (Nat.ble n 16777214)) (dig F 1)) (Nat.beq (dig F 0) 1)) _
  refine Tells.ifb fun h0 => Tells.frc (Tells.bind2 (str_tells hf) fun n N ⟨_, hs⟩ => Tells.ifb fun hle => Tells.sumK (Q := fun r => ∀ s : ByteArray, StrIs s n N → r = sumB s.data.toList 5381) ?_ fun r hr => Tells.frcK ⟨(Grow.refl hf).toALe, fun I σ w args hI hS hA o' a' hrun => ?_⟩)
  · obtain ⟨r, e⟩ := sumK_all n N 5381
    refine ⟨r, fun s hs1 => ?_, e⟩
    have h2 : isBad (Ev.sumK (fun r => .exit r f0 .e 0) n N 5381) ∨ ∃ a, Ev.sumK (fun r => .exit r f0 .e 0) n N 5381 = .exit a f0 .e 0 ∧ a = sumB s.data.toList 5381 := by
      have := sumK_tells s.data.toList 5381 (fun r => .exit r f0 .e 0)
      rw [← hs1.len, ← hs1.num] at this; exact this
    rw [e] at h2
    rcases h2 with ⟨m, hb⟩ | ⟨q, e2, rfl⟩
    · exact absurd hb (by simp)
    · injection e2
  · obtain ⟨v0, rfl, hv⟩ := args_one hA (beq_iff.1 h0)
    obtain ⟨s, rfl, hs2⟩ := hs I σ v0 hI hv
    refine .enter (hrun.trans (hE _ _)) ((hL s w (by rw [← hs2.len]; exact ble_iff.1 hle)).mono ?_)
    rintro e w' ⟨rfl, h4⟩
    refine ⟨_, rfl, σ, After.stays hS h4, CRp.toV ?_⟩
    rw [← hr s hs2]
    have hlt := sumB_lt s.data.toList 5381 (by decide)
    rw [← hr s hs2] at hlt
    have h11 : hi (Nat.add r 871509787656907713528983453696) = 11 := by
      rw [hi_def]; show (r + 871509787656907713528983453696) / 79228162514264337593543950336 = 11; omega
    unfold CRp; rw [h11]
    refine ⟨r, rfl, ?_, ?_, ?_⟩
    · show (0 : Int) ≤ _; omega
    · show _ ≤ (18446744073709551615 : Int); omega
    · show r + 871509787656907713528983453696 = 11 * 79228162514264337593543950336 + _; omega
end Go.Ev
set_option linter.unusedVariables false
set_option linter.unusedSimpArgs false
namespace Go.Ev
variable {X : Env} {H : HT} {nx : Nat}

/-! ### errors.Is, errors.As -/
theorem args_two {σ : Sig} {I : Imm} {F : Nat} {args : Array Value} (h : ArgsR σ I F args) (h0 : dig F 0 = 2) : ∃ v u, args = #[v, u] ∧ VR σ I (dig F 1) v ∧ VR σ I (dig F 2) u := by
  have hs : args.size = 2 := by
    rcases h.2.1 with e | e
    · rw [h0] at e; exact absurd e (by decide)
    · rw [h0] at e; exact cntA_inv e.1 (by decide)
  refine ⟨args[0], args[1], ?_, h.2.2 0 (by omega), h.2.2 1 (by omega)⟩
  refine Array.ext (by simp [hs]) fun i h1 h2 => ?_
  have : i = 0 ∨ i = 1 := by omega
  rcases this with rfl | rfl <;> rfl
theorem row_cell {σ : Sig} {I : Imm} {b n N et : Nat} {op : Bool} {w : World} {e : SE} {i : Nat} (h : SRel σ I H nx w) (he : σ b = some e) (hg : get H b = .row n N et op) (hi : i < n) :
    ∃ old, w.cell? ⟨e.B, e.β + i, none⟩ = some old ∧ w.frozen? ⟨e.B, e.β + i, none⟩ = false := by
  have ho := h.obj b e he
  rw [hg] at ho
  obtain ⟨⟨cells, el, fz, c1, c2, c3, c4, c5⟩, hz0⟩ := ho
  obtain ⟨v, hv, _⟩ := c5 i hi
  refine ⟨v, by rw [cell_of c1]; exact hv, ?_⟩
  rw [frozen_of c1]
  rcases c4 with c4 | ⟨_, c4 | c4⟩ <;> simp <;> omega
structure IsLaw (P : Program) (g : FuncId) (T : TypeId) : Prop where
  none : ∀ (m : Int) (w : World), Calls P g #[.nilIface, .iface T (.int .i64 m)] w fun e w' => e = .returned (.bool false) ∧ w' = w
  some : ∀ (n m : Int) (w : World), Calls P g #[.iface T (.int .i64 n), .iface T (.int .i64 m)] w fun e w' => e = .returned (.bool (n == m)) ∧ w' = w
/-- an error of type T -/
theorem errno_of {σ : Sig} {I : Imm} {c T : Nat} {v : Value} (hv : VR σ I c v) (hT : Nat.shiftRight c 104 = T + 1) (h7 : Nat.land (hi c) 255 = 7) : ∃ n : Int, v = .iface T (.int .i64 n) ∧ CRp σ I (c % tI) (.int .i64 n) ∧ IntKind.i64.min ≤ n ∧ n ≤ IntKind.i64.max ∧ c = (T + 1) * tI + (554597137599850363154807652352 + (n % 18446744073709551616).toNat) := by
  have hT : c / tI = T + 1 := by
    rw [← hT]; show c / tI = c >>> 104
    rw [Nat.shiftRight_eq_div_pow]
  have h256 : 256 ≤ hi c := by rw [hi_def]; unfold tI at hT; omega
  obtain ⟨t, u, q1, rfl, q3, q4, q5⟩ := iface_inv hv h256
  have hk : hi (c % tI) = 7 := by rw [hi_mod, ← land255]; exact h7
  have q4' := q4
  unfold CRp at q4; rw [hk] at q4
  obtain ⟨n, rfl, n1, n2, n3⟩ := q4
  have ht : t = T := by omega
  subst ht
  refine ⟨n, rfl, q4', n1, n2, ?_⟩
  have n3 : c % tI = 7 * 79228162514264337593543950336 + (n % 18446744073709551616).toNat := n3
  have hd := Nat.div_add_mod c tI
  rw [q1, n3] at hd
  rw [← hd, Nat.mul_comm]
theorem vr_bool {σ : Sig} {I : Imm} (b : Bool) : VR σ I (boolC b) (.bool b) := by
  refine CRp.toV ?_
  have h3 : hi (boolC b) = 3 := by cases b <;> rfl
  unfold CRp; rw [h3]
  exact ⟨b, rfl, rfl⟩
theorem oIs_ok {g : FuncId} {T : TypeId} (hL : IsLaw X.P g T) (hE : ∀ args w, (callFunc g args).run X.P w = .ok (.enter g args) w) {F : Nat} (hf : Free H nx) : Tells (oIs T F H nx) (CalR X g F H nx) := by
  show Tells (fun k => br (.bad 174) (frc (fun e => frc (fun t => br (.bad 174)
  (br (br (.bad 174) (boolK' (Nat.beq e t) H nx k) (and' (Nat.beq (Nat.shiftRight e 104) (Nat.succ T)) (Nat.beq (Nat.land (hi e) 255) 7)))
    (k 237684487542793012780631851008 H nx) (Nat.beq e 1663791412799551089464422957056)) (and' (Nat.beq (Nat.shiftRight t 104) (Nat.succ T)) (Nat.beq (Nat.land (hi t) 255) 7))) (dig F 2)) (dig F 1)) (Nat.beq (dig F 0) 2)) _
  refine Tells.ifb fun h0 => Tells.frc (Tells.frc (Tells.ifb fun ht => ?_))
  rw [and'_eq, Bool.and_eq_true, beq_iff, beq_iff] at ht
  refine Tells.ite (fun hn => Tells.pure ⟨(Grow.refl hf).toALe, fun I σ w args hI hS hA o' a' hrun => ?_⟩) fun _ => Tells.ifb fun he => boolK'_tells.mono fun c H' nx' ⟨e1, e2, e3⟩ => ?_
  · obtain ⟨v, u, rfl, hv, hu⟩ := args_two hA (beq_iff.1 h0)
    obtain ⟨m, rfl, _⟩ := errno_of hu ht.1 ht.2
    have hv0 : v = .nilIface := by
      rw [beq_iff.1 hn] at hv
      have hp := hv.toP ⟨by decide, by decide, by decide, by decide⟩
      unfold CRp at hp
      rw [show hi 1663791412799551089464422957056 = 21 from by decide] at hp
      exact hp.2
    subst hv0
    refine .enter (hrun.trans (hE _ _)) ((hL.none m w).mono ?_)
    rintro e w' ⟨rfl, rfl⟩
    exact ⟨_, rfl, σ, After.grow hS (Grow.refl hf), vr_bool false⟩
  · subst e1 e2 e3
    refine ⟨(Grow.refl hf).toALe, fun I σ w args hI hS hA o' a' hrun => ?_⟩
    rw [and'_eq, Bool.and_eq_true, beq_iff, beq_iff] at he
    obtain ⟨v, u, rfl, hv, hu⟩ := args_two hA (beq_iff.1 h0)
    obtain ⟨m, rfl, _, m1, m2, m3⟩ := errno_of hu ht.1 ht.2
    obtain ⟨n, rfl, _, n1, n2, n3⟩ := errno_of hv he.1 he.2
    refine .enter (hrun.trans (hE _ _)) ((hL.some n m w).mono ?_)
    rintro e w' ⟨rfl, rfl⟩
    refine ⟨_, rfl, σ, After.grow hS (Grow.refl hf), ?_⟩
    have : Nat.beq (dig F 1) (dig F 2) = (n == m) := by
      have l1 : (-9223372036854775808 : Int) ≤ n := n1
      have l2 : n ≤ (9223372036854775807 : Int) := n2
      have l3 : (-9223372036854775808 : Int) ≤ m := m1
      have l4 : m ≤ (9223372036854775807 : Int) := m2
      by_cases hnm : n = m
      · subst hnm
        rw [n3, m3]
        rw [show (n == n) = true from beq_self_eq_true n]
        exact beq_iff.2 rfl
      · rw [show (n == m) = false from beq_eq_false_iff_ne.2 hnm]
        refine beq_false.2 fun e => hnm ?_
        rw [n3, m3] at e
        have e := Nat.add_left_cancel (Nat.add_left_cancel e)
        omega
    rw [this]
    exact vr_bool _
structure AsLaw (P : Program) (g : FuncId) (T TP R E : Nat) : Prop where
  none : ∀ (t : Value) (w : World), Calls P g #[.nilIface, t] w fun e w' => e = .returned (.bool false) ∧ w' = w
  some : ∀ (n : Int) (a : Addr) (old : Value) (w : World), GndW R E w → w.cell? a = some old → w.frozen? a = false → Calls P g #[.iface T (.int .i64 n), .iface TP (.pointer (some a))] w fun e w' => e = .returned (.bool true) ∧ ∃ w1, Stays w w1 ∧ w' = w1.setCell a (.int .i64 n)
theorem Tells.gndObj {R : Nat → HT → Nat → Prop} {G : Nat → Nat → K0 → Out} {ob : Obj} (h : ∀ r e, ob = .tup r e → Tells (G r e) R) : Tells (fun k => Ev.gndObj (fun r e => G r e k) ob) R := by
  intro k
  cases ob with
  | tup r e => exact h r e rfl k
  | _ => exact .inl ⟨173, rfl⟩
theorem oAs_ok {g : FuncId} {T TP R E : Nat} (hL : AsLaw X.P g T TP R E) (hE : ∀ args w, (callFunc g args).run X.P w = .ok (.enter g args) w) {F : Nat} (hf : Free H nx) : Tells (oAs T TP R E F H nx) (CalR X g F H nx) := by
  show Tells (fun k => br (.bad 173) (frc (fun e => frc (fun t =>
  br (br (.bad 173) (gndObj (fun R' E' => br (.bad 173) (frc (fun p => frc (fun c => br (.bad 173) (frc (fun b => rowK H b fun n N et op => br (.bad 173) (lay false 1 N (off p) c H fun N => setRow b n N et op H fun H => k 237684487542793012780631851009 H nx) (Nat.ble (Nat.add (off p) 1) n)) (blk p)) (and' (isPtr p) (Nat.beq (hi c) 7))) (Nat.mod e 20282409603651670423947251286016)) (Nat.mod t 20282409603651670423947251286016)) (and' (Nat.beq R' R) (Nat.beq E' E))) (get H 0))
      (and' (Nat.beq (Nat.shiftRight e 104) (Nat.succ T)) (Nat.beq (Nat.shiftRight t 104) (Nat.succ TP))))
    (k 237684487542793012780631851008 H nx) (Nat.beq e 1663791412799551089464422957056)) (dig F 2)) (dig F 1)) (Nat.beq (dig F 0) 2)) _
  refine Tells.ifb fun h0 => Tells.frc (Tells.frc (Tells.ite (fun hn => Tells.pure ⟨(Grow.refl hf).toALe, fun I σ w args hI hS hA o' a' hrun => ?_⟩) fun _ => Tells.ifb fun ht => Tells.gndObj fun R' E' hgnd => Tells.ifb fun hRE => Tells.frc (Tells.frc (Tells.ifb fun hp => Tells.frc (Tells.row fun n N et op hg => Tells.ifb fun hle => ?_)))))
  · obtain ⟨v, u, rfl, hv, hu⟩ := args_two hA (beq_iff.1 h0)
    have hv0 : v = .nilIface := by
      rw [beq_iff.1 hn] at hv
      have hp := hv.toP ⟨by decide, by decide, by decide, by decide⟩
      unfold CRp at hp
      rw [show hi 1663791412799551089464422957056 = 21 from by decide] at hp
      exact hp.2
    subst hv0
    refine .enter (hrun.trans (hE _ _)) ((hL.none u w).mono ?_)
    rintro e w' ⟨rfl, rfl⟩
    exact ⟨_, rfl, σ, After.grow hS (Grow.refl hf), vr_bool false⟩
  · rw [and'_eq, Bool.and_eq_true, beq_iff, beq_iff] at ht hRE
    rw [and'_eq, Bool.and_eq_true, beq_iff] at hp
    obtain ⟨rfl, rfl⟩ := hRE
    have hle' : off (dig F 2 % tI) + 1 ≤ n := ble_iff.1 hle
    refine Tells.bind1 (lay_tells hf) fun N' hl => Tells.bind1 (setRow_tells (n := n) (N' := N') (et := et) (op := op) hf hg) fun H' ⟨hale, hr⟩ => Tells.pure ⟨hale, fun I σ w args hI hS hA o' a' hrun => ?_⟩
    obtain ⟨v, u, rfl, hv, hu⟩ := args_two hA (beq_iff.1 h0)
    have h256 : 256 ≤ hi (dig F 1) := by have := ht.1; rw [shr104] at this; rw [hi_def]; unfold tI at this; omega
    have h256' : 256 ≤ hi (dig F 2) := by have := ht.2; rw [shr104] at this; rw [hi_def]; unfold tI at this; omega
    obtain ⟨t1, u1, q1, rfl, q3, q4, q5⟩ := iface_inv hv h256
    obtain ⟨t2, u2, r1, rfl, r3, r4, r5⟩ := iface_inv hu h256'
    have e1 : t1 = T := by have := ht.1; rw [shr104, q1] at this; omega
    have e2 : t2 = TP := by have := ht.2; rw [shr104, r1] at this; omega
    subst e1 e2
    have hp2 : hi (dig F 1 % tI) = 7 := hp.2
    have hint : ∃ m : Int, u1 = .int .i64 m := by
      have q4' := q4
      unfold CRp at q4'; rw [hp2] at q4'
      obtain ⟨m, rfl, _⟩ := q4'
      exact ⟨m, rfl⟩
    obtain ⟨m, rfl⟩ := hint
    obtain ⟨e, he1, he2, he3, rfl⟩ := isPtr_inv r4.toV hp.1
    have hI0 : I 0 = .tup R' E' := get_of_holds (hI.back hale) hf (by decide) hgnd trivial
    obtain ⟨hgw, hne⟩ := hS.g0 R' E' hI0
    obtain ⟨old, hc1, hc2⟩ := row_cell hS he1 hg (i := off (dig F 2 % tI)) (by omega)
    obtain ⟨l1, l2, l3, l4⟩ := hl I σ _ (hI.back hale) q4.toV
    refine .enter (hrun.trans (hE _ _)) ((hL.some m _ old w hgw hc1 hc2).mono ?_)
    rintro e' w' ⟨rfl, w1, hst, rfl⟩
    have hS1 := hS.stays hst
    obtain ⟨hr, hafr⟩ := hr (hS.dom _ _ he1).1
    obtain ⟨s1, s2⟩ := hS1.lay (vs := [.int .i64 m]) hf.1 he1 hg hr hle' l3 (fun j _ hj => l4 j hj)
    refine ⟨_, rfl, σ, ?_, vr_bool true⟩
    exact (After.stays hS hst).trans ⟨SExt.refl _ _ _, s1, s2, hafr σ ⟨e, he1⟩⟩ (Nat.le_refl _) fun b e hb => (hS.dom b e hb).1
end Go.Ev
set_option linter.unusedVariables false
set_option linter.unusedSimpArgs false
namespace Go.Ev
variable {X : Env} {H : HT} {nx : Nat}

theorem Tells.k1 {R : Nat → HT → Nat → Prop} {T : Nat → K0 → Out} {f : (Nat → Out) → Out} {r : Nat} (hf : ∀ k, f k = k r) (hT : Tells (T r) R) : Tells (fun k => f fun c => T c k) R := fun k => by
  show isBad (f fun c => T c k) ∨ ∃ c H' nx', (f fun c => T c k) = k c H' nx' ∧ R c H' nx'
  rw [hf]; exact hT k
/-! ### The first place of a number in a row -/
def icell (z : Int) : Nat := 554597137599850363154807652352 + (z % 18446744073709551616).toNat
def InI (z : Int) : Prop := -9223372036854775808 ≤ z ∧ z ≤ 9223372036854775807
def idxZ (x : Int) : List Int → Nat → Int
  | [], _ => -1
  | y :: l, j => if (x == y) = true then (j : Int) else idxZ x l (j + 1)
theorem icell_inj {x y : Int} (hx : InI x) (hy : InI y) (h : icell x = icell y) : x = y := by
  obtain ⟨a, b⟩ := hx
  obtain ⟨c, d⟩ := hy
  unfold icell at h
  have h := Nat.add_left_cancel h
  omega
theorem icell_crp {σ : Sig} {I : Imm} {z : Int} (h : InI z) : CRp σ I (icell z) (.int .i64 z) := by
  have h7 : hi (icell z) = 7 := by rw [hi_def]; unfold icell; omega
  unfold CRp; rw [h7]
  exact ⟨z, rfl, h.1, h.2, rfl⟩
theorem int_of {σ : Sig} {I : Imm} {c : Nat} {v : Value} (hv : VR σ I c v) (h : hi c = 7) : ∃ z, v = .int .i64 z ∧ InI z ∧ c = icell z := by
  have hp := hv.toP (by rw [h]; decide)
  unfold CRp at hp
  rw [h] at hp
  obtain ⟨n, rfl, h1, h2, h3⟩ := hp
  exact ⟨n, rfl, ⟨h1, h2⟩, h3⟩
theorem icell_m1 : icell (-1) = 554597137618297107228517203967 := by
  have h : (-1 : Int) % 18446744073709551616 = 18446744073709551615 := by omega
  unfold icell
  rw [h]
  have h2 : (18446744073709551615 : Int).toNat = 18446744073709551615 := by omega
  rw [h2]
theorem addT (T i : Nat) (h : i ≤ 16777214) : Nat.add i T = T + ((i : Int) % 18446744073709551616).toNat := by
  show i + T = _
  omega
theorem icell_nat {i : Nat} (h : i ≤ 16777214) : intC i = icell i := by
  unfold icell intC
  exact addT _ i h
theorem icell_lo {z : Int} : icell z % 18446744073709551616 = (z % 18446744073709551616).toNat := by unfold icell; omega
def idxP (N v : Nat) : Nat → Nat → Nat → Nat
  | 0, _, _ => 554597137618297107228517203967
  | n + 1, o, i => if Nat.beq (dig N o) v = true then intC i else idxP N v n (Nat.succ o) (Nat.succ i)
theorem br_true (a b : Out) : br a b true = b := rfl
theorem br_false (a b : Out) : br a b false = a := rfl
theorem idxK_step (N v : Nat) (k : Nat → Out) (n o i : Nat) : idxK N v k (n + 1) o i = br (frc (fun o => frc (fun i => idxK N v k n o i) (Nat.succ i)) (Nat.succ o)) (frc k (intC i)) (Nat.beq (dig N o) v) := rfl
theorem idxK_eq (N v : Nat) (k : Nat → Out) : ∀ n o i, idxK N v k n o i = k (idxP N v n o i)
  | 0, o, i => rfl
  | n + 1, o, i => by
    rw [idxK_step]
    unfold idxP
    cases hb : Nat.beq (dig N o) v with
    | true => rw [br_true, frc_eq, if_pos rfl]
    | false =>
      rw [br_false, frc_eq, frc_eq, if_neg (by simp)]
      exact idxK_eq N v k n _ _
theorem idxP_law (N : Nat) (x : Int) (hx : InI x) : ∀ (n o i : Nat) (xs : List Int), xs.length = n → i + n ≤ 16777214 → (∀ j (h : j < xs.length), dig N (o + j) = icell xs[j] ∧ InI xs[j]) → idxP N (icell x) n o i = icell (idxZ x xs i) ∧ InI (idxZ x xs i)
  | 0, o, i, xs, hn, hi, hd => by
    obtain rfl := List.length_eq_zero_iff.1 hn
    refine ⟨icell_m1.symm, ?_, ?_⟩
    · show (-9223372036854775808 : Int) ≤ -1; omega
    · show (-1 : Int) ≤ 9223372036854775807; omega
  | n + 1, o, i, [], hn, hi, hd => by cases hn
  | n + 1, o, i, y :: l, hn, hi, hd => by
    have h0 := hd 0 (by simp)
    have ih := idxP_law N x hx n (o + 1) (i + 1) l (by simpa using hn) (by omega) (fun j hj => by
      have := hd (j + 1) (by simpa using hj)
      rw [show o + 1 + j = o + (j + 1) by omega]; exact this)
    have h00 : dig N o = icell y := h0.1
    unfold idxP idxZ
    rw [h00]
    by_cases he : x = y
    · subst he
      rw [if_pos (beq_iff.2 rfl), if_pos (by simp)]
      exact ⟨icell_nat (by omega), by constructor <;> omega⟩
    · have hne : Nat.beq (icell y) (icell x) = false := beq_false.2 fun e => he (icell_inj h0.2 hx e).symm
      rw [hne, if_neg (by simp), if_neg (by simpa using he)]
      exact ih
theorem intsB_at {N : Nat} : ∀ {n o : Nat}, intsB N n o = true → ∀ j, j < n → hi (dig N (o + j)) = 7
  | 0, o, _, j, hj => absurd hj (by omega)
  | n + 1, o, h, j, hj => by
    have h : and' (Nat.beq (hi (dig N o)) 7) (intsB N n (Nat.succ o)) = true := h
    rw [and'_eq, Bool.and_eq_true, beq_iff] at h
    cases j with
    | zero => exact h.1
    | succ j =>
      have := intsB_at h.2 j (by omega)
      rw [show o + (j + 1) = Nat.succ o + j by omega]; exact this
structure IdxLaw (P : Program) (g : FuncId) : Prop where
  nil : ∀ (p : Option Addr) (c : Nat) (x : Int) (w : World), Calls P g #[.slice p 0 c, .int .i64 x] w fun e w' => e = .returned (.int .i64 (-1)) ∧ w' = w
  row : ∀ (xs : List Int) (b off c : Nat) (x : Int) (w : World), xs.length ≤ 16777214 → (∀ j (h : j < xs.length), w.cell? ⟨b, off + j, none⟩ = some (.int .i64 xs[j])) → Calls P g #[.slice (some ⟨b, off, none⟩) xs.length c, .int .i64 x] w fun e w' => e = .returned (.int .i64 (idxZ x xs 0)) ∧ w' = w
theorem ints_of {σ : Sig} {I : Imm} {N o : Nat} {w : World} {B β : Nat} : ∀ (n : Nat), (∀ j, j < n → ∃ v, w.cell? ⟨B, β + j, none⟩ = some v ∧ VR σ I (dig N (o + j)) v) → (∀ j, j < n → hi (dig N (o + j)) = 7) → ∃ xs : List Int, xs.length = n ∧ ∀ j (h : j < xs.length), w.cell? ⟨B, β + j, none⟩ = some (.int .i64 xs[j]) ∧ dig N (o + j) = icell xs[j] ∧ InI xs[j]
  | 0, _, _ => ⟨[], rfl, fun j h => absurd h (by simp)⟩
  | n + 1, h, h7 => by
    obtain ⟨xs, hl, hx⟩ := ints_of n (fun j hj => h j (by omega)) (fun j hj => h7 j (by omega))
    obtain ⟨v, h1, h2⟩ := h n (by omega)
    obtain ⟨z, rfl, hz, he⟩ := int_of h2 (h7 n (by omega))
    refine ⟨xs ++ [z], by simp [hl], fun j hj => ?_⟩
    by_cases hjn : j < n
    · rw [List.getElem_append_left (by omega)]; exact hx j (by omega)
    · have : j = n := by simp [hl] at hj; omega
      subst this
      rw [List.getElem_append_right (by omega)]
      simp only [hl, Nat.sub_self, List.getElem_cons_zero]
      exact ⟨h1, he, hz⟩
theorem oIdx_ok {g : FuncId} (hL : IdxLaw X.P g) (hE : ∀ args w, (callFunc g args).run X.P w = .ok (.enter g args) w) {F : Nat} (hf : Free H nx) : Tells (oIdx F H nx) (CalR X g F H nx) := by
  show Tells (fun k => br (.bad 183) (frc (fun a => frc (fun v => br (.bad 183)
  (br (br (.bad 183) (rowK H (blk a) fun n N _ _ => br (.bad 183) (idxK N v (fun c => k c H nx) (sln a) (Nat.succ (off a)) 0) (and' (Nat.ble (Nat.add (off a) (sln a)) n) (intsB N (sln a) (Nat.succ (off a))))) (isSl a))
     (k 554597137618297107228517203967 H nx) (Nat.beq a 1188422437713965063903159255040)) (Nat.beq (hi v) 7)) (dig F 2)) (dig F 1)) (Nat.beq (dig F 0) 2)) _
  refine Tells.ifb fun h0 => Tells.frc (Tells.frc (Tells.ifb fun hv7 => Tells.ite (fun ha => Tells.pure ⟨(Grow.refl hf).toALe, fun I σ w args hI hS hA o' a' hrun => ?_⟩) fun _ => Tells.ifb fun hsl => Tells.row fun n N et op hg => Tells.ifb fun hok => Tells.k1 (T := fun c k => k c H nx) (f := fun k => idxK N (dig F 2) k (sln (dig F 1)) (Nat.succ (off (dig F 1))) 0) (fun k => idxK_eq _ _ k _ _ _) (Tells.pure ⟨(Grow.refl hf).toALe, fun I σ w args hI hS hA o' a' hrun => ?_⟩)))
  · obtain ⟨v, u, rfl, hv, hu⟩ := args_two hA (beq_iff.1 h0)
    obtain ⟨x, rfl, hx, _⟩ := int_of hu (beq_iff.1 hv7)
    have hv0 : v = .slice none 0 0 := by
      rw [beq_iff.1 ha] at hv
      have hp := hv.toP ⟨by decide, by decide, by decide, by decide⟩
      unfold CRp at hp
      rw [show hi 1188422437713965063903159255040 = 15 from by decide] at hp
      rcases hp with ⟨_, e⟩ | ⟨b, o, n, cp, cap, e, _, hb, _, _, _, hc, _⟩
      · exact e
      · rw [mkSl_def] at hc; omega
    subst hv0
    refine .enter (hrun.trans (hE _ _)) ((hL.nil none 0 x w).mono ?_)
    rintro e w' ⟨rfl, rfl⟩
    refine ⟨_, rfl, σ, After.grow hS (Grow.refl hf), ?_⟩
    rw [← icell_m1]
    exact (icell_crp ⟨by decide, by decide⟩).toV
  · rw [and'_eq, Bool.and_eq_true, ble_iff] at hok
    have hle : off (dig F 1) + sln (dig F 1) ≤ n := hok.1
    obtain ⟨v, u, rfl, hv, hu⟩ := args_two hA (beq_iff.1 h0)
    obtain ⟨x, rfl, hx, hxc⟩ := int_of hu (beq_iff.1 hv7)
    obtain ⟨e, cap, hs⟩ := isSl_inv hv hsl
    have hn := hs.nlt
    obtain ⟨xs, hl, hxs⟩ := ints_of (w := w) (B := e.B) (β := e.β + off (dig F 1)) (N := N) (o := Nat.succ (off (dig F 1))) (σ := σ) (I := I) (sln (dig F 1)) (fun j hj => by
      obtain ⟨v, h1, h2⟩ := hS.seg hg (o := off (dig F 1)) (m := sln (dig F 1)) hle e hs.at_ j hj
      refine ⟨v, by rw [Nat.add_assoc]; exact h1, ?_⟩
      rw [show Nat.succ (off (dig F 1)) + j = off (dig F 1) + j + 1 by omega]
      exact CRs.toV h2) (fun j hj => intsB_at hok.2 j hj)
    have hsz : xs.length ≤ 16777214 := by omega
    have hlaw := idxP_law N x hx (sln (dig F 1)) (Nat.succ (off (dig F 1))) 0 xs hl (by omega) (fun j hj => ⟨(hxs j hj).2.1, (hxs j hj).2.2⟩)
    have hvv := hs.val
    subst hvv
    have hcall := hL.row xs e.B (e.β + off (dig F 1)) cap x w hsz (fun j hj => (hxs j hj).1)
    rw [hl] at hcall
    refine .enter (hrun.trans (hE _ _)) (hcall.mono ?_)
    rintro e' w' ⟨rfl, rfl⟩
    refine ⟨_, rfl, σ, After.grow hS (Grow.refl hf), ?_⟩
    rw [hxc, hlaw.1]
    exact (icell_crp hlaw.2).toV
end Go.Ev
set_option linter.unusedVariables false
set_option linter.unusedSimpArgs false
noncomputable section
namespace Go.Ev
variable {X : Env} {H : HT} {nx : Nat}

theorem packB_shr8 (b : UInt8) (l : List UInt8) : Nat.shiftRight (packB (b :: l)) 8 = packB l := by
  show packB (b :: l) >>> 8 = _
  rw [Nat.shiftRight_eq_div_pow]
  have := b.toNat_lt
  simp only [packB]; omega
theorem packB_land8 (b : UInt8) (l : List UInt8) : Nat.land (packB (b :: l)) 255 = b.toNat := by
  rw [land255]
  have := b.toNat_lt
  simp only [packB]; omega
/-- a text of one byte -/
theorem one_byte {s : ByteArray} {M : Nat} (h : StrIs s 1 M) : ∃ b : UInt8, s = ⟨#[b]⟩ ∧ M = b.toNat := by
  obtain ⟨⟨l⟩⟩ := s
  have hl : 1 = l.length := h.len
  have hN : M = packB l := h.num
  cases l with
  | nil => simp at hl
  | cons b r =>
    cases r with
    | nil => exact ⟨b, rfl, by rw [hN]; simp [packB]⟩
    | cons c r => simp at hl

/-! ### How often a byte is in a text -/
def cntP (b : Nat) : Nat → Nat → Nat → Nat
  | 0, _, a => a
  | n + 1, N, a => cntP b n (Nat.shiftRight N 8) (sel a (Nat.succ a) (Nat.beq (Nat.land N 255) b))
theorem cntB_eq (b : Nat) (k : Nat → Out) : ∀ n N a, cntB b k n N a = k (cntP b n N a)
  | 0, _, _ => rfl
  | n + 1, N, a => by
    have e : cntB b k (n + 1) N a = frc (fun N' => frc (fun a => cntB b k n N' a) (sel a (Nat.succ a) (Nat.beq (Nat.land N 255) b))) (Nat.shiftRight N 8) := rfl
    rw [e, frc_eq, frc_eq]
    exact cntB_eq b k n _ _
theorem cntP_law (c : UInt8) : ∀ (l : List UInt8) (a : Nat), cntP c.toNat l.length (packB l) a = a + l.count c
  | [], a => by simp [cntP]
  | b :: l, a => by
    show cntP c.toNat l.length (Nat.shiftRight (packB (b :: l)) 8) (sel a (Nat.succ a) (Nat.beq (Nat.land (packB (b :: l)) 255) c.toNat)) = _
    rw [packB_shr8, packB_land8, cntP_law c l, List.count_cons]
    by_cases h : b = c
    · subst h
      rw [beq_iff.2 rfl]
      simp [sel]; omega
    · have : Nat.beq b.toNat c.toNat = false := beq_false.2 fun e => h (UInt8.toNat_inj.1 e)
      rw [this]
      simp [sel, h]
def CountLaw (P : Program) (g : FuncId) : Prop := ∀ (s : ByteArray) (c : UInt8) (w : World), Calls P g #[.string s, .string ⟨#[c]⟩] w fun e w' => e = .returned (.int .i64 ((s.data.toList.count c : Nat) : Int)) ∧ w' = w
theorem oCount_ok {g : FuncId} (hL : CountLaw X.P g) (hE : ∀ args w, (callFunc g args).run X.P w = .ok (.enter g args) w) {F : Nat} (hf : Free H nx) : Tells (oCount F H nx) (CalR X g F H nx) := by
  show Tells (fun k => br (.bad 184) (frc (fun a => frc (fun b => str a H fun n N => str b H fun m M => br (.bad 184) (cntB M (fun c => br (.bad 184) (frc (fun c => k c H nx) (intC c)) (Nat.ble c 16777214)) n N 0) (and' (Nat.beq m 1) (Nat.blt M 256))) (dig F 2)) (dig F 1)) (Nat.beq (dig F 0) 2)) _
  refine Tells.ifb fun h0 => Tells.frc (Tells.frc (Tells.bind2 (str_tells hf) fun n N ⟨_, hs⟩ => Tells.bind2 (str_tells hf) fun m M ⟨_, ht⟩ => Tells.ifb fun hm => Tells.k1 (T := fun c k => br (.bad 184) (frc (fun c => k c H nx) (intC c)) (Nat.ble c 16777214)) (f := fun k => cntB M k n N 0) (fun k => cntB_eq M k n N 0) (Tells.ifb fun hle => Tells.frcK ⟨(Grow.refl hf).toALe, fun I σ w args hI hS hA o' a' hrun => ?_⟩)))
  rw [and'_eq, Bool.and_eq_true, beq_iff] at hm
  obtain ⟨v, u, rfl, hv, hu⟩ := args_two hA (beq_iff.1 h0)
  obtain ⟨s, rfl, hs1⟩ := hs I σ v hI hv
  obtain ⟨t, rfl, ht1⟩ := ht I σ u hI hu
  rw [hm.1] at ht1
  obtain ⟨c, rfl, rfl⟩ := one_byte ht1
  refine .enter (hrun.trans (hE _ _)) ((hL s c w).mono ?_)
  rintro e w' ⟨rfl, rfl⟩
  refine ⟨_, rfl, σ, After.grow hS (Grow.refl hf), ?_⟩
  have hc := cntP_law c s.data.toList 0
  rw [Nat.zero_add, ← hs1.len, ← hs1.num] at hc
  rw [← hc]
  exact (cra_int (ble_iff.1 hle)).toVR

/-! ### The first place of a byte -/
def posP (b : Nat) : Nat → Nat → Nat → Nat
  | 0, _, _ => 554597137618297107228517203967
  | n + 1, N, i => if Nat.beq (Nat.land N 255) b = true then intC i else posP b n (Nat.shiftRight N 8) (Nat.succ i)
theorem posB_step (b : Nat) (k : Nat → Out) (n N i : Nat) : posB b k (n + 1) N i = br (frc (fun N => frc (fun i => posB b k n N i) (Nat.succ i)) (Nat.shiftRight N 8)) (frc k (intC i)) (Nat.beq (Nat.land N 255) b) := rfl
theorem posB_eq (b : Nat) (k : Nat → Out) : ∀ n N i, posB b k n N i = k (posP b n N i)
  | 0, _, _ => rfl
  | n + 1, N, i => by
    rw [posB_step]
    unfold posP
    cases hb : Nat.beq (Nat.land N 255) b with
    | true => rw [br_true, frc_eq, if_pos rfl]
    | false =>
      rw [br_false, frc_eq, frc_eq, if_neg (by simp)]
      exact posB_eq b k n _ _
/-- the first place, i ahead; or -1 -/
def posZ (c : UInt8) : List UInt8 → Nat → Int
  | [], _ => -1
  | b :: l, i => if b = c then (i : Int) else posZ c l (i + 1)
theorem posP_law (c : UInt8) : ∀ (l : List UInt8) (i : Nat), i + l.length ≤ 16777214 → posP c.toNat l.length (packB l) i = icell (posZ c l i) ∧ InI (posZ c l i)
  | [], i, _ => ⟨icell_m1.symm, show (-9223372036854775808 : Int) ≤ -1 by omega, show (-1 : Int) ≤ 9223372036854775807 by omega⟩
  | b :: l, i, h => by
    have ih := posP_law c l (i + 1) (by simp at h; omega)
    have e : posP c.toNat (b :: l).length (packB (b :: l)) i = if Nat.beq (Nat.land (packB (b :: l)) 255) c.toNat = true then intC i else posP c.toNat l.length (Nat.shiftRight (packB (b :: l)) 8) (Nat.succ i) := rfl
    rw [e, packB_shr8, packB_land8]
    unfold posZ
    by_cases hb : b = c
    · subst hb
      rw [if_pos (beq_iff.2 rfl), if_pos rfl]
      simp at h
      exact ⟨icell_nat (by omega), by constructor <;> omega⟩
    · have : Nat.beq b.toNat c.toNat = false := beq_false.2 fun e => hb (UInt8.toNat_inj.1 e)
      rw [this, if_neg (by simp), if_neg hb]
      exact ih
def IndexLaw (P : Program) (g : FuncId) : Prop := ∀ (s : ByteArray) (c : UInt8) (w : World), s.data.toList.length ≤ 16777214 → Calls P g #[.string s, .string ⟨#[c]⟩] w fun e w' => e = .returned (.int .i64 (posZ c s.data.toList 0)) ∧ w' = w
theorem oIndex_ok {g : FuncId} (hL : IndexLaw X.P g) (hE : ∀ args w, (callFunc g args).run X.P w = .ok (.enter g args) w) {F : Nat} (hf : Free H nx) : Tells (oIndex F H nx) (CalR X g F H nx) := by
  show Tells (fun k => br (.bad 183) (frc (fun a => frc (fun b => str a H fun n N => str b H fun m M => br (.bad 183) (posB M (fun c => k c H nx) n N 0) (and' (and' (Nat.beq m 1) (Nat.blt M 256)) (Nat.ble n 16777214))) (dig F 2)) (dig F 1)) (Nat.beq (dig F 0) 2)) _
  refine Tells.ifb fun h0 => Tells.frc (Tells.frc (Tells.bind2 (str_tells hf) fun n N ⟨_, hs⟩ => Tells.bind2 (str_tells hf) fun m M ⟨_, ht⟩ => Tells.ifb fun hm => Tells.k1 (T := fun c k => k c H nx) (f := fun k => posB M k n N 0) (fun k => posB_eq M k n N 0) (Tells.pure ⟨(Grow.refl hf).toALe, fun I σ w args hI hS hA o' a' hrun => ?_⟩)))
  simp only [and'_eq, Bool.and_eq_true, beq_iff, ble_iff] at hm
  obtain ⟨v, u, rfl, hv, hu⟩ := args_two hA (beq_iff.1 h0)
  obtain ⟨s, rfl, hs1⟩ := hs I σ v hI hv
  obtain ⟨t, rfl, ht1⟩ := ht I σ u hI hu
  rw [hm.1.1] at ht1
  obtain ⟨c, rfl, rfl⟩ := one_byte ht1
  have hlen : s.data.toList.length ≤ 16777214 := by rw [← hs1.len]; exact hm.2
  refine .enter (hrun.trans (hE _ _)) ((hL s c w hlen).mono ?_)
  rintro e w' ⟨rfl, rfl⟩
  refine ⟨_, rfl, σ, After.grow hS (Grow.refl hf), ?_⟩
  have hc := posP_law c s.data.toList 0 (by omega)
  rw [← hs1.len, ← hs1.num] at hc
  rw [hc.1]
  exact (icell_crp hc.2).toV

/-! ### Digits -/
def DigLaw (P : Program) (g : FuncId) (Z : Nat) : Prop := ∀ (u : Nat) (w : World), 1 ≤ u → u ≤ 9999 → (∃ t fz, w.heap[Z]? = some (.cells pow10A t fz)) → Calls P g #[.int .u64 u] w fun e w' => e = .returned (.int .i64 (digN u : Nat)) ∧ w' = w
theorem digN_le (u : Nat) : digN u ≤ 16777214 := by
  unfold digN
  cases Nat.ble u 9 <;> cases Nat.ble u 99 <;> cases Nat.ble u 999 <;> simp [sel]
theorem oDig_ok {g : FuncId} {Z : Nat} (hZ : Z ≠ 0) (hL : DigLaw X.P g Z) (hE : ∀ args w, (callFunc g args).run X.P w = .ok (.enter g args) w) {F : Nat} (hf : Free H nx) : Tells (oDig Z F H nx) (CalR X g F H nx) := by
  show Tells (fun k => br (.bad 186) (gndObj (fun _ E' => br (.bad 186) (frc (fun a => br (.bad 186) (frc (fun c => k c H nx) (intC (digN (lo a)))) (and' (Nat.beq (hi a) 11) (and' (Nat.ble 1 (lo a)) (Nat.ble (lo a) 9999)))) (dig F 1)) (Nat.beq (Nat.mod (Nat.div E' 65536) 65536) Z)) (get H 0)) (Nat.beq (dig F 0) 1)) _
  refine Tells.ifb fun h0 => Tells.gndObj fun R' E' hgnd => Tells.ifb fun hE' => Tells.frc (Tells.ifb fun hc => Tells.frcK ⟨(Grow.refl hf).toALe, fun I σ w args hI hS hA o' a' hrun => ?_⟩)
  simp only [and'_eq, Bool.and_eq_true, beq_iff, ble_iff] at hc
  obtain ⟨v, rfl, hv⟩ := args_one hA (beq_iff.1 h0)
  obtain ⟨rfl, hlo⟩ := u64_of hv hc.1
  have hI0 : I 0 = .tup R' E' := get_of_holds hI hf (by decide) hgnd trivial
  obtain ⟨⟨_, htab⟩, _⟩ := hS.g0 R' E' hI0
  have hz : E' / 65536 % 65536 = Z := beq_iff.1 hE'
  rw [hz] at htab
  refine .enter (hrun.trans (hE _ _)) ((hL (dig F 1 % 18446744073709551616) w hc.2.1 hc.2.2 (htab hZ)).mono ?_)
  rintro e w' ⟨rfl, rfl⟩
  exact ⟨_, rfl, σ, After.grow hS (Grow.refl hf), (cra_int (digN_le _)).toVR⟩

/-! ### A text repeated -/
theorem pack_rep (c : UInt8) : ∀ m : Nat, packB (List.replicate m c) * 255 + c.toNat = c.toNat * 256 ^ m
  | 0 => by simp [packB]
  | m + 1 => by
    have ih := pack_rep c m
    rw [List.replicate_succ]
    simp only [packB, Nat.pow_succ]
    have : c.toNat * (256 ^ m * 256) = (c.toNat * 256 ^ m) * 256 := by rw [Nat.mul_assoc]
    rw [this, ← ih]
    clear this ih
    generalize packB (List.replicate m c) = p
    generalize c.toNat = q
    omega
theorem rep_div (m : Nat) : ∃ q, Nat.pred (Nat.shiftLeft 1 (Nat.shiftLeft m 3)) = 255 * q ∧ 256 ^ m = 255 * q + 1 := by
  have hp : Nat.shiftLeft 1 (Nat.shiftLeft m 3) = 256 ^ m := by
    show 1 <<< (m <<< 3) = _
    rw [Nat.shiftLeft_eq, Nat.shiftLeft_eq, Nat.one_mul, show m * 2 ^ 3 = 8 * m by omega, Nat.pow_mul]
  have : ∃ q, 256 ^ m = 255 * q + 1 := by
    induction m with
    | zero => exact ⟨0, rfl⟩
    | succ m ih => obtain ⟨q, h⟩ := ih (by
        show 1 <<< (m <<< 3) = _
        rw [Nat.shiftLeft_eq, Nat.shiftLeft_eq, Nat.one_mul, show m * 2 ^ 3 = 8 * m by omega, Nat.pow_mul]); exact ⟨256 * q + 1, by rw [Nat.pow_succ, h]; omega⟩
  obtain ⟨q, h⟩ := this
  exact ⟨q, by rw [hp, h]; rfl, h⟩
def RepLaw (P : Program) (g : FuncId) : Prop := ∀ (c : UInt8) (m : Nat) (w : World), m ≤ 16777214 → Calls P g #[.string ⟨#[c]⟩, .int .i64 m] w fun e w' => ∃ s : ByteArray, e = .returned (.string s) ∧ s.data.toList = List.replicate m c ∧ Stays w w'
theorem oRepeat_ok {g : FuncId} (hL : RepLaw X.P g) (hE : ∀ args w, (callFunc g args).run X.P w = .ok (.enter g args) w) {F : Nat} (hf : Free H nx) : Tells (oRepeat F H nx) (CalR X g F H nx) := by
  show Tells (fun k => br (.bad 187) (frc (fun a => frc (fun b => str a H fun n N => natK b fun m => br (.bad 187) (frc (fun M => mkStr m M H nx k) (Nat.mul N (Nat.div (Nat.pred (Nat.shiftLeft 1 (Nat.shiftLeft m 3))) 255))) (and' (Nat.beq n 1) (Nat.beq (hi b) 7))) (dig F 2)) (dig F 1)) (Nat.beq (dig F 0) 2)) _
  refine Tells.ifb fun h0 => Tells.frc (Tells.frc (Tells.bind2 (str_tells hf) fun n N ⟨_, hs⟩ => Tells.bind1 natK_tells fun m ⟨hm1, hm2, hm⟩ => Tells.ifb fun hc => Tells.frc ((mkStr_tells hf).mono fun c H' nx' ⟨g1, hk⟩ => ⟨g1.toALe, fun I σ w args hI hS hA o' a' hrun => ?_⟩)))
  rw [and'_eq, Bool.and_eq_true, beq_iff, beq_iff] at hc
  obtain ⟨v, u, rfl, hv, hu⟩ := args_two hA (beq_iff.1 h0)
  obtain ⟨s, rfl, hs1⟩ := hs I σ v (hI.back g1.toALe) hv
  rw [hc.1] at hs1
  obtain ⟨c, rfl, rfl⟩ := one_byte hs1
  obtain ⟨z, rfl, _⟩ := int_of hu hc.2
  obtain ⟨k, hk1⟩ := hm σ I _ hu
  have hz : z = (m : Int) := by injection hk1
  subst hz
  refine .enter (hrun.trans (hE _ _)) ((hL c m w hm1).mono ?_)
  rintro e w' ⟨t, rfl, h1, h4⟩
  refine ⟨_, rfl, σ, (After.stays hS h4).trans (After.grow (hS.stays h4) g1) (Nat.le_refl _) (fun b e hb => (hS.dom b e hb).1), (hk I σ t hI ⟨by rw [h1, List.length_replicate], ?_⟩).toV⟩
  rw [h1]
  obtain ⟨q, q1, q2⟩ := rep_div m
  have := pack_rep c m
  rw [q2, Nat.mul_add, Nat.mul_one] at this
  have h255 : packB (List.replicate m c) * 255 = c.toNat * (255 * q) := Nat.add_right_cancel this
  rw [q1]
  show c.toNat * (255 * q / 255) = _
  rw [Nat.mul_div_cancel_left q (by decide)]
  have h2 : c.toNat * (255 * q) = (c.toNat * q) * 255 := by rw [Nat.mul_comm 255 q, Nat.mul_assoc]
  rw [h2] at h255
  exact (Nat.mul_right_cancel (by decide) h255).symm

/-! ### An int as bytes -/
def NumLawI (P : Program) (g : FuncId) : Prop := ∀ (n : Int) (w : World), InI n → Calls P g #[.int .i64 n] w fun e w' => ∃ s : ByteArray, e = .returned (.string s) ∧ s.data.toList.length = 8 ∧ packB s.data.toList = (n % 18446744073709551616).toNat ∧ Stays w w'
theorem oNumI_ok {g : FuncId} (hL : NumLawI X.P g) (hE : ∀ args w, (callFunc g args).run X.P w = .ok (.enter g args) w) {F : Nat} (hf : Free H nx) : Tells (oNumI F H nx) (CalR X g F H nx) := by
  show Tells (fun k => frc (fun a => br (.bad 181) (frc (fun N => mkStr 8 N H nx k) (Nat.mod a 18446744073709551616)) (and' (Nat.beq (dig F 0) 1) (Nat.beq (hi a) 7))) (dig F 1)) _
  refine Tells.frc (Tells.ifb fun hc => Tells.frc ((mkStr_tells hf).mono fun c H' nx' ⟨g1, hm⟩ => ⟨g1.toALe, fun I σ w args hI hS hA o' a' hrun => ?_⟩))
  simp only [and'_eq, Bool.and_eq_true, beq_iff] at hc
  obtain ⟨v0, rfl, hv⟩ := args_one hA hc.1
  obtain ⟨z, rfl, hz, hcell⟩ := int_of hv hc.2
  refine .enter (hrun.trans (hE _ _)) ((hL z w hz).mono ?_)
  rintro e w' ⟨s, rfl, h1, h3, h4⟩
  refine ⟨_, rfl, σ, ?_, (hm I σ s hI ⟨h1.symm, ?_⟩).toV⟩
  · exact (After.stays hS h4).trans (After.grow (hS.stays h4) g1) (Nat.le_refl _) fun b e hb => (hS.dom b e hb).1
  · rw [h3, hcell]; exact icell_lo

/-! ### A function of no arguments that says yes -/
theorem args_none {σ : Sig} {I : Imm} {F : Nat} {args : Array Value} (h : ArgsR σ I F args) (h0 : dig F 0 = 256) : args = #[] := by
  rcases h.2.1 with e | ⟨e, h255⟩
  · rw [h0] at e; exact absurd e (by decide)
  · by_cases hs : args.size = 0
    · exact Array.size_eq_zero_iff.1 hs
    · rw [h0, cntA_pos hs] at e; omega
def TrueLaw (P : Program) (g : FuncId) (R E : Nat) : Prop := ∀ w : World, GndW R E w → Calls P g #[] w fun e w' => e = .returned (.bool true) ∧ Stays w w'
theorem oTrue_ok {g : FuncId} {R E : Nat} (hL : TrueLaw X.P g R E) (hE : ∀ args w, (callFunc g args).run X.P w = .ok (.enter g args) w) {F : Nat} (hf : Free H nx) : Tells (oTrue R E F H nx) (CalR X g F H nx) := by
  show Tells (fun k => br (.bad 189) (gndObj (fun R' E' => br (.bad 189) (k 237684487542793012780631851009 H nx) (and' (Nat.beq R' R) (Nat.beq E' E))) (get H 0)) (Nat.beq (dig F 0) 256)) _
  refine Tells.ifb fun h0 => Tells.gndObj fun R' E' hgnd => Tells.ifb fun hRE => Tells.pure ⟨(Grow.refl hf).toALe, fun I σ w args hI hS hA o' a' hrun => ?_⟩
  rw [and'_eq, Bool.and_eq_true, beq_iff, beq_iff] at hRE
  obtain ⟨rfl, rfl⟩ := hRE
  have hI0 : I 0 = .tup R' E' := get_of_holds hI hf (by decide) hgnd trivial
  obtain ⟨hgw, _⟩ := hS.g0 R' E' hI0
  obtain rfl := args_none hA (beq_iff.1 h0)
  refine .enter (hrun.trans (hE _ _)) ((hL w hgw).mono ?_)
  rintro e w' ⟨rfl, h4⟩
  exact ⟨_, rfl, σ, After.stays hS h4, vr_bool true⟩
end Go.Ev
set_option linter.unusedVariables false
set_option linter.unusedSimpArgs false
noncomputable section
namespace Go.Ev
variable {X : Env} {H : HT} {nx : Nat}

/-! ### Eight bytes taken off a text -/
structure CutLaw (P : Program) (g : FuncId) (ec : Value) : Prop where
  ok : ∀ (B o : Nat) (s : ByteArray) (w : World), w.cell? ⟨B, o, none⟩ = some (.string s) → w.cell? ⟨B, o + 1, none⟩ = some .nilIface → w.frozen? ⟨B, o, none⟩ = false → 8 ≤ s.data.toList.length →
    Calls P g #[.pointer (some ⟨B, o, none⟩)] w fun e w' => ∃ r : ByteArray, e = .returned (.int .u64 ((packB (s.data.toList.take 8) : Nat) : Int)) ∧ r.data.toList = s.data.toList.drop 8 ∧ ∃ w1, Stays w w1 ∧ w' = w1.setCell ⟨B, o, none⟩ (.string r)
  short : ∀ (B o : Nat) (s : ByteArray) (er : Value) (w : World), w.cell? ⟨B, o, none⟩ = some (.string s) → w.cell? ⟨B, o + 1, none⟩ = some er → w.frozen? ⟨B, o + 1, none⟩ = false → ((er = .nilIface ∧ s.data.toList.length < 8) ∨ ∃ t v, er = .iface t v) →
    Calls P g #[.pointer (some ⟨B, o, none⟩)] w fun e w' => e = .returned (.int .u64 0) ∧ ∃ w1, Stays w w1 ∧ w' = w1.setCell ⟨B, o + 1, none⟩ ec
theorem packB_take : ∀ (l : List UInt8) (n : Nat), packB (l.take n) = packB l % 256 ^ n ∧ packB (l.drop n) = packB l / 256 ^ n
  | l, 0 => by simp [packB, Nat.mod_one]
  | [], n + 1 => by simp [packB]
  | b :: l, n + 1 => by
    obtain ⟨h1, h2⟩ := packB_take l n
    have hb := b.toNat_lt
    simp only [List.take_succ_cons, List.drop_succ_cons, packB, h1, h2]
    have hp : 256 ^ (n + 1) = 256 * 256 ^ n := by rw [Nat.pow_succ, Nat.mul_comm]
    refine ⟨?_, ?_⟩
    · rw [hp, Nat.mod_mul, show (b.toNat + 256 * packB l) % 256 = b.toNat by omega, show (b.toNat + 256 * packB l) / 256 = packB l by omega]
    · rw [hp, ← Nat.div_div_eq_div_mul, show (b.toNat + 256 * packB l) / 256 = packB l by omega]
theorem nil_of {σ : Sig} {I : Imm} {v : Value} (hv : VR σ I 1663791412799551089464422957056 v) : v = .nilIface := by
  have hp := hv.toP ⟨by decide, by decide, by decide, by decide⟩
  unfold CRp at hp
  rw [show hi 1663791412799551089464422957056 = 21 from by decide] at hp
  exact hp.2
theorem u64cell {σ : Sig} {I : Imm} {n : Nat} (h : n < 18446744073709551616) : VR σ I (Nat.add n 871509787656907713528983453696) (.int .u64 (n : Int)) := by
  refine CRp.toV ?_
  have h11 : hi (Nat.add n 871509787656907713528983453696) = 11 := by
    rw [hi_def]; show (n + 871509787656907713528983453696) / 79228162514264337593543950336 = 11; omega
  unfold CRp; rw [h11]
  refine ⟨n, rfl, ?_, ?_, ?_⟩
  · show (0 : Int) ≤ _; omega
  · show _ ≤ (18446744073709551615 : Int); omega
  · show n + 871509787656907713528983453696 = 11 * 79228162514264337593543950336 + _; omega
theorem oCutNum_ok {g : FuncId} {C : Nat} {ec : Value} (hC : ∀ σ I, VR σ I C ec) (hec : CRs (fun _ => none) ⟨fun _ => .dead, fun _ => none⟩ C ec) (hL : CutLaw X.P g ec) (hE : ∀ args w, (callFunc g args).run X.P w = .ok (.enter g args) w) {F : Nat} (hf : Free H nx) : Tells (oCutNum C F H nx) (CalR X g F H nx) := by
  show Tells (fun k => br (.bad 197) (frc (fun p => br (.bad 197) (frc (fun b => rowK H b fun n N e op => br (.bad 197) (frc (fun t => frc (fun er => str t H fun m M => br
  (br (.bad 198) (lay false 1 N (Nat.add (off p) 1) C H fun N => setRow b n N e op H fun H => k 871509787656907713528983453696 H nx) (or' (Nat.beq er 1663791412799551089464422957056) (Nat.ble 256 (hi er))))
  (mkStr (Nat.sub m 8) (Nat.shiftRight M 64) H nx fun c H nx => rowK H b fun n N e op => lay false 1 N (off p) c H fun N => setRow b n N e op H fun H => frc (fun c => k c H nx) (Nat.add (Nat.mod M 18446744073709551616) 871509787656907713528983453696))
  (and' (Nat.ble 8 m) (Nat.beq er 1663791412799551089464422957056))) (dig N (Nat.succ (Nat.add (off p) 1)))) (dig N (Nat.succ (off p)))) (Nat.ble (Nat.add (off p) 2) n)) (blk p)) (isPtr p)) (dig F 1)) (Nat.beq (dig F 0) 1)) _
  refine Tells.ifb fun h0 => Tells.frc (Tells.ifb fun hp => Tells.frc (Tells.row fun n N et op hg => Tells.ifb fun hle => Tells.frc (Tells.frc (Tells.bind2 (str_tells hf) fun m M ⟨_, hs⟩ => Tells.ite (fun hok => ?_) fun hno => Tells.ifb fun her => ?_))))
  · have hle' : off (dig F 1) + 2 ≤ n := ble_iff.1 hle
    refine Tells.bind (mkStr_tells hf) fun c H1 n1 ⟨g1, hc⟩ => Tells.row fun n2 N2 et2 op2 hg2 => Tells.bind1 (lay_tells g1.free) fun N' hl => Tells.bind1 (setRow_tells (n := n2) (N' := N') (et := et2) (op := op2) g1.free hg2) fun H' ⟨hale, hr⟩ => Tells.frcK ⟨g1.toALe.trans hale, fun I σ w args hI hS hA o' a' hrun => ?_⟩
    rw [and'_eq, Bool.and_eq_true, ble_iff, beq_iff] at hok
    obtain ⟨v, rfl, hv⟩ := args_one hA (beq_iff.1 h0)
    obtain ⟨e, he1, he2, he3, rfl⟩ := isPtr_inv hv hp
    have hbn := (hS.dom _ e he1).1
    have hsame := g1.same _ hbn
    rw [hg2, hg] at hsame
    injection hsame with q1 q2 q3 q4
    subst q1 q2 q3 q4
    obtain ⟨v0, h1, h2⟩ := hS.seg hg (o := off (dig F 1)) (m := 2) hle' e he1 0 (by omega)
    obtain ⟨v1, h3, h4⟩ := hS.seg hg (o := off (dig F 1)) (m := 2) hle' e he1 1 (by omega)
    obtain ⟨s, rfl, hs1⟩ := hs I σ v0 (hI.back (g1.toALe.trans hale)) (CRs.toV h2)
    have hnil : v1 = .nilIface := by
      have h4' : VR σ I (dig N2 (Nat.succ (Nat.add (off (dig F 1)) 1))) v1 := CRs.toV h4
      rw [hok.2] at h4'
      exact nil_of h4'
    subst hnil
    have hfr : w.frozen? ⟨e.B, e.β + off (dig F 1), none⟩ = false := by
      obtain ⟨_, _, q⟩ := row_cell hS he1 hg (i := off (dig F 1)) (by omega)
      exact q
    have hlen : 8 ≤ s.data.toList.length := by rw [← hs1.len]; exact hok.1
    refine .enter (hrun.trans (hE _ _)) ((hL.ok e.B (e.β + off (dig F 1)) s w (by simpa using h1) (by simpa [Nat.add_assoc] using h3) hfr hlen).mono ?_)
    rintro e' w' ⟨r, rfl, hr1, w1, hst, rfl⟩
    obtain ⟨p1, p2⟩ := packB_take s.data.toList 8
    have hrs : StrIs r (Nat.sub m 8) (Nat.shiftRight M 64) := by
      refine ⟨?_, ?_⟩
      · rw [hr1, List.length_drop, ← hs1.len]; rfl
      · rw [hr1, p2, ← hs1.num]; show M >>> 64 = _; rw [Nat.shiftRight_eq_div_pow]
    have hcr := hc I σ r (hI.back hale) hrs
    have hS1 := (hS.stays hst).grow g1
    obtain ⟨l1, l2, l3, l4⟩ := hl I σ _ (hI.back hale) hcr.toV
    obtain ⟨hr2, hafr⟩ := hr (by have := g1.le; omega)
    obtain ⟨s1, s2⟩ := hS1.lay (vs := [.string r]) g1.free.1 he1 hg2 hr2 (by show off (dig F 1) + 1 ≤ n2; omega) l3 (fun j _ hj => l4 j hj)
    refine ⟨_, rfl, σ, ?_, ?_⟩
    · refine ((After.stays hS hst).trans (After.grow (hS.stays hst) g1) (Nat.le_refl _) fun b e hb => (hS.dom b e hb).1).trans (w1 := w1) ⟨SExt.refl _ _ _, s1, s2, hafr σ ⟨e, he1⟩⟩ g1.le fun b e hb => (hS.dom b e hb).1
    · rw [p1, ← hs1.num]
      exact u64cell (Nat.mod_lt _ (by decide))
  · have hle' : off (dig F 1) + 2 ≤ n := ble_iff.1 hle
    refine Tells.bind1 (lay_tells hf) fun N' hl => Tells.bind1 (setRow_tells (n := n) (N' := N') (et := et) (op := op) hf hg) fun H' ⟨hale, hr⟩ => Tells.pure ⟨hale, fun I σ w args hI hS hA o' a' hrun => ?_⟩
    obtain ⟨v, rfl, hv⟩ := args_one hA (beq_iff.1 h0)
    obtain ⟨e, he1, he2, he3, rfl⟩ := isPtr_inv hv hp
    obtain ⟨v0, h1, h2⟩ := hS.seg hg (o := off (dig F 1)) (m := 2) hle' e he1 0 (by omega)
    obtain ⟨v1, h3, h4⟩ := hS.seg hg (o := off (dig F 1)) (m := 2) hle' e he1 1 (by omega)
    obtain ⟨s, rfl, hs1⟩ := hs I σ v0 (hI.back hale) (CRs.toV h2)
    have h4' : VR σ I (dig N (Nat.succ (Nat.add (off (dig F 1)) 1))) v1 := CRs.toV h4
    have hfr : w.frozen? ⟨e.B, e.β + off (dig F 1) + 1, none⟩ = false := by
      obtain ⟨_, _, q⟩ := row_cell hS he1 hg (i := off (dig F 1) + 1) (by omega)
      rw [Nat.add_assoc]; exact q
    have hcase : (v1 = .nilIface ∧ s.data.toList.length < 8) ∨ ∃ t v, v1 = .iface t v := by
      rw [and'_eq, Bool.and_eq_false_iff] at hno
      by_cases hn : dig N (Nat.succ (Nat.add (off (dig F 1)) 1)) = 1663791412799551089464422957056
      · rw [hn] at h4'
        refine .inl ⟨nil_of h4', ?_⟩
        rcases hno with h | h
        · rw [← hs1.len]; exact ble_false.1 h
        · exact absurd hn (beq_false.1 h)
      · rw [or'_eq, Bool.or_eq_true, beq_iff, ble_iff] at her
        obtain ⟨t, u, _, q, _⟩ := iface_inv h4' (her.resolve_left hn)
        exact .inr ⟨t, u, q⟩
    refine .enter (hrun.trans (hE _ _)) ((hL.short e.B (e.β + off (dig F 1)) s v1 w (by simpa using h1) (by simpa [Nat.add_assoc] using h3) hfr hcase).mono ?_)
    rintro e' w' ⟨rfl, w1, hst, rfl⟩
    have hS1 := hS.stays hst
    obtain ⟨l1, l2, l3, l4⟩ := hl I σ _ (hI.back hale) (hC σ I)
    obtain ⟨hr2, hafr⟩ := hr (hS.dom _ _ he1).1
    have hone := hec.one
    have hcells := hone.cells
    have l3' : ∀ j (hj : j < [ec].length), CRs σ I (dig N' (off (dig F 1) + 1 + j + 1)) [ec][j] := by
      have h := l3
      rw [hcells] at h
      exact h
    obtain ⟨s1, s2⟩ := hS1.lay (vs := [ec]) hf.1 he1 hg hr2 (i := off (dig F 1) + 1) (by show off (dig F 1) + 1 + 1 ≤ n; omega) l3' (fun j _ hj => l4 j hj)
    refine ⟨_, rfl, σ, ?_, ?_⟩
    · exact (After.stays hS hst).trans (w1 := w1) ⟨SExt.refl _ _ _, s1, s2, hafr σ ⟨e, he1⟩⟩ (Nat.le_refl _) fun b e hb => (hS.dom b e hb).1
    · exact u64cell (n := 0) (by decide)
end Go.Ev
set_option linter.unusedVariables false
set_option linter.unusedSimpArgs false
noncomputable section
namespace Go.Ev
variable {X : Env} {H : HT} {nx : Nat}

/-! ### A map's keys, texts, sorted -/
def kS (s : List UInt8) : Value := .string ⟨s.toArray⟩
theorem less_iff : ∀ l m : List UInt8, Op.bytesLess l m = true ↔ l < m
  | l, [] => by simp [Op.bytesLess]
  | [], b :: m => by simp [Op.bytesLess]
  | a :: l, b :: m => by
    rw [List.cons_lt_cons_iff, ← less_iff l m]
    simp [Op.bytesLess]
abbrev PX := TX × List UInt8
def GoodP (p : PX) : Prop := p.1.1 = p.2.length ∧ p.1.2.1 = packB p.2
def insP (x : PX) : List PX → List PX
  | [] => [x]
  | y :: l => if slt y.1.1 y.1.2.1 x.1.1 x.1.2.1 = true then y :: insP x l else x :: y :: l
theorem insP_fst (x : PX) : ∀ l : List PX, (insP x l).map (·.1) = insT x.1.1 x.1.2.1 x.1.2.2 (l.map (·.1))
  | [] => rfl
  | y :: l => by
    have e : insT x.1.1 x.1.2.1 x.1.2.2 ((y :: l).map (·.1)) = @Bool.rec (fun _ => List TX) ((x.1.1, x.1.2.1, x.1.2.2) :: y.1 :: l.map (·.1)) (y.1 :: insT x.1.1 x.1.2.1 x.1.2.2 (l.map (·.1))) (slt y.1.1 y.1.2.1 x.1.1 x.1.2.1) := rfl
    rw [e]
    unfold insP
    cases slt y.1.1 y.1.2.1 x.1.1 x.1.2.1 with
    | true => rw [if_pos rfl, List.map_cons, insP_fst x l]
    | false => rw [if_neg (by simp)]; rfl
theorem insP_perm (x : PX) : ∀ l : List PX, (insP x l).Perm (x :: l)
  | [] => List.Perm.refl _
  | y :: l => by
    unfold insP
    by_cases h : slt y.1.1 y.1.2.1 x.1.1 x.1.2.1 = true
    · rw [if_pos h]
      exact ((insP_perm x l).cons y).trans (List.Perm.swap x y l)
    · rw [if_neg h]
theorem insP_sorted (x : PX) (hx : GoodP x) : ∀ l : List PX, (∀ y ∈ l, GoodP y) → l.Pairwise (fun a b => a.2 ≤ b.2) → (insP x l).Pairwise (fun a b => a.2 ≤ b.2)
  | [], _, _ => List.pairwise_singleton _ _
  | y :: l, hg, hs => by
    have h2 := List.pairwise_cons.1 hs
    have hy := hg y (by simp)
    have hslt : slt y.1.1 y.1.2.1 x.1.1 x.1.2.1 = Op.bytesLess y.2 x.2 := by rw [hy.1, hy.2, hx.1, hx.2, slt_lists]
    unfold insP
    by_cases h : slt y.1.1 y.1.2.1 x.1.1 x.1.2.1 = true
    · rw [if_pos h]
      rw [hslt, less_iff] at h
      refine List.pairwise_cons.2 ⟨fun z hz => ?_, insP_sorted x hx l (fun z hz => hg z (by simp [hz])) h2.2⟩
      rcases List.mem_cons.1 ((insP_perm x l).mem_iff.1 hz) with rfl | hz
      · exact List.le_of_lt h
      · exact h2.1 z hz
    · rw [if_neg h]
      rw [hslt, less_iff] at h
      have hle : x.2 ≤ y.2 := List.not_lt.1 h
      refine List.pairwise_cons.2 ⟨fun z hz => ?_, hs⟩
      rcases List.mem_cons.1 hz with rfl | hz
      · exact hle
      · exact List.le_trans hle (h2.1 z hz)
/-- a short text's cell -/
theorem str12 {σ : Sig} {I : Imm} {c : Nat} {s : List UInt8} (hc : CRp σ I c (kS s)) (h3 : 3 ≤ hi c) (h12 : hi c ≤ 12) : c = strC ⟨s.toArray⟩ ∧ s.length ≤ 11 := by
  unfold CRp kS at hc
  have : hi c = 3 ∨ hi c = 4 ∨ hi c = 5 ∨ hi c = 6 ∨ hi c = 7 ∨ hi c = 8 ∨ hi c = 9 ∨ hi c = 10 ∨ hi c = 11 ∨ hi c = 12 := by omega
  rcases this with q | q | q | q | q | q | q | q | q | q <;> rw [q] at hc
  · obtain ⟨_, _, hc⟩ := hc; cases hc
  · obtain ⟨_, hc, _⟩ := hc; cases hc
  · obtain ⟨_, hc, _⟩ := hc; cases hc
  · obtain ⟨_, hc, _⟩ := hc; cases hc
  · obtain ⟨_, hc, _⟩ := hc; cases hc
  · obtain ⟨_, hc, _⟩ := hc; cases hc
  · obtain ⟨_, hc, _⟩ := hc; cases hc
  · obtain ⟨_, hc, _⟩ := hc; cases hc
  · obtain ⟨_, hc, _⟩ := hc; cases hc
  · obtain ⟨s', hs', hl, rfl⟩ := hc
    injection hs' with hs'
    subst hs'
    exact ⟨rfl, by simpa using hl⟩
theorem sortT_tells (hf : Free H nx) : ∀ l : ML, Tells1 (fun k => sortT H k l) fun L => (∀ x ∈ L, x.2.2 < 2 ^ 128) ∧ ∀ (I : Imm) (σ : Sig) (es : List MapEntry), Holds I H nx → MLR σ I l es →
    ∃ (ks : List (List UInt8)) (ps : List PX), es.map (·.key) = ks.map kS ∧ ps.map (·.1) = L ∧ (∀ p ∈ ps, GoodP p ∧ CRp σ I p.1.2.2 (kS p.2) ∧ p.2.length ≤ 11) ∧ (ps.map (·.2)).Perm ks ∧ ps.Pairwise (fun a b => a.2 ≤ b.2)
  | .nil => Tells1.pure ⟨fun x hx => absurd hx (by simp), fun I σ es hI h => by
      cases es with
      | nil => exact ⟨[], [], rfl, rfl, fun p hp => absurd hp (by simp), List.Perm.refl _, List.Pairwise.nil⟩
      | cons a r => exact h.elim⟩
  | .cons c v b l => by
    show Tells1 (fun k => br (.bad 189) (str c H fun n N => sortT H (fun L => k (insT n N c L)) l) (Nat.blt c 340282366920938463463374607431768211456)) _
    refine Tells1.ifb fun hlt => Tells1.bind2 (str_tells hf) fun n N ⟨_, hs⟩ => Tells1.bind1 (sortT_tells hf l) fun L ⟨hL1, hL⟩ => Tells1.pure ⟨fun x hx => ?_, fun I σ es hI h => ?_⟩
    · have hm : x = (n, N, c) ∨ x ∈ L := by
        have hp : ∀ L : List TX, ∀ x ∈ insT n N c L, x = (n, N, c) ∨ x ∈ L := by
          intro L
          induction L with
          | nil => intro x hx; exact .inl (by simpa [insT] using hx)
          | cons y L ih =>
            intro x hx
            have e : insT n N c (y :: L) = @Bool.rec (fun _ => List TX) ((n, N, c) :: y :: L) (y :: insT n N c L) (slt y.1 y.2.1 n N) := rfl
            rw [e] at hx
            cases hq : slt y.1 y.2.1 n N with
            | true =>
              rw [hq] at hx
              rcases List.mem_cons.1 hx with rfl | hx
              · exact .inr (by simp)
              · rcases ih x hx with h | h
                · exact .inl h
                · exact .inr (by simp [h])
            | false =>
              rw [hq] at hx
              rcases List.mem_cons.1 hx with rfl | hx
              · exact .inl rfl
              · exact .inr hx
        exact hp L x hx
      rcases hm with rfl | hm
      · exact blt_iff.1 hlt
      · exact hL1 x hm
    · cases es with
      | nil => exact h.elim
      | cons e es =>
        obtain ⟨⟨a1, a2, a3, a4, a5⟩, h2⟩ := h
        obtain ⟨s, hk, hs1⟩ := hs I σ e.key hI a1.toV
        obtain ⟨ks, ps, p1, p2, p3, p4, p5⟩ := hL I σ es hI h2
        have hks : e.key = kS s.data.toList := by rw [hk]; unfold kS; simp
        have hgood : GoodP ((n, N, c), s.data.toList) := ⟨hs1.len, hs1.num⟩
        refine ⟨s.data.toList :: ks, insP ((n, N, c), s.data.toList) ps, by rw [List.map_cons, List.map_cons, p1, hks], ?_, fun p hp => ?_, ?_, insP_sorted _ hgood ps (fun y hy => (p3 y hy).1) p5⟩
        · rw [insP_fst, p2]
        · rcases List.mem_cons.1 ((insP_perm _ ps).mem_iff.1 hp) with rfl | hp
          · exact ⟨hgood, by rw [← hks]; exact a1, (str12 (by rw [← hks]; exact a1) a2 a3).2⟩
          · exact p3 p hp
        · exact ((insP_perm _ ps).map _).trans (p4.cons _)
theorem packTK_tells : ∀ (l : List TX) (j N : Nat), N < 2 ^ (128 * j) → (∀ x ∈ l, x.2.2 < 2 ^ 128) → Tells1 (fun k => packTK k l j N) fun N' => (∀ i, i < j → dig N' i = dig N i) ∧ ∀ i (h : i < l.length), dig N' (j + i) = l[i].2.2
  | [], j, N, hN, _ => Tells1.pure ⟨fun _ _ => rfl, fun i h => absurd h (by simp)⟩
  | c :: l, j, N, hN, hc => by
    show Tells1 (fun k => frc (fun N => frc (fun j => packTK k l j N) (Nat.succ j)) (Nat.add N (Nat.shiftLeft c.2.2 (Nat.shiftLeft j 7)))) _
    have hlt : c.2.2 < 2 ^ 128 := hc c (by simp)
    intro k
    rcases packTK_tells l (j + 1) _ (topk_lt hN hlt) (fun x hx => hc x (by simp [hx])) k with hb | ⟨N', e, h2, h3⟩
    · exact .inl hb
    · refine .inr ⟨N', e, fun i hi => ?_, fun i hi => ?_⟩
      · rw [h2 i (by omega), dig_top hN hlt, if_neg (by omega), if_pos hi]
      · cases i with
        | zero => rw [Nat.add_zero, h2 j (by omega), dig_top hN hlt, if_pos rfl]; rfl
        | succ i =>
          have := h3 i (by simpa using hi)
          rw [show j + (i + 1) = j + 1 + i by omega, this]; rfl
theorem Tells.cloObj {R : Nat → HT → Nat → Prop} {G : Nat → Nat → Nat → Nat → Nat → K0 → Out} {ob : Obj} (h : ∀ g n1 N1 n2 N2, ob = .clo g n1 N1 n2 N2 → Tells (G g n1 N1 n2 N2) R) : Tells (fun k => Ev.cloObj (fun g n1 N1 n2 N2 => G g n1 N1 n2 N2 k) ob) R := by
  intro k
  cases ob with
  | clo g n1 N1 n2 N2 => exact h g n1 N1 n2 N2 rfl k
  | _ => exact .inl ⟨121, rfl⟩
def SortedLaw (P : Program) (g K : FuncId) (et : TypeId) : Prop := ∀ (B b : Nat) (es : Array MapEntry) (clock : Nat) (ks : List (List UInt8)) (w : World), w.cell? ⟨B, 0, none⟩ = some (.map (some b)) → w.heap[b]? = some (.map es clock) → MapKept.Stamped es clock →
  es.toList.map (·.key) = ks.map kS → (∀ s ∈ ks, s.length ≤ 11) → es.size ≤ 16777214 →
  Calls P g #[.func (.func K) #[] #[.pointer (some ⟨B, 0, none⟩)]] w fun e w' => ∃ (v : Value) (ss : List (List UInt8)), e = .returned v ∧ ss.Perm ks ∧ w'.ownsRow w.heap.size et 1 v ss.length ((ss.mergeSort (fun x y => decide (x ≤ y))).map kS) ∧ (v = .slice none 0 0 ↔ ss = []) ∧ w.heap.size ≤ w'.heap.size ∧ w'.os = w.os ∧ w'.output = w.output ∧ ∀ k, k < w.heap.size → w'.heap[k]? = w.heap[k]?
theorem sortS_eq {ss ks : List (List UInt8)} {ps : List PX} (hp : ss.Perm ks) (h4 : (ps.map (·.2)).Perm ks) (h5 : ps.Pairwise (fun a b => a.2 ≤ b.2)) : ss.mergeSort (fun x y => decide (x ≤ y)) = ps.map (·.2) := by
  have tr : ∀ a b c : List UInt8, decide (a ≤ b) = true → decide (b ≤ c) = true → decide (a ≤ c) = true := fun a b c h1 h2 => by simp only [decide_eq_true_eq] at *; exact List.le_trans h1 h2
  have to : ∀ a b : List UInt8, (decide (a ≤ b) || decide (b ≤ a)) = true := fun a b => by simp only [Bool.or_eq_true, decide_eq_true_eq]; exact List.le_total a b
  refine List.Perm.eq_of_pairwise (le := fun a b => decide (a ≤ b) = true) (fun a b _ _ h1 h2 => ?_) (List.pairwise_mergeSort tr to ss) ?_ (((List.mergeSort_perm ss _).trans hp).trans h4.symm)
  · simp only [decide_eq_true_eq] at h1 h2
    exact List.le_antisymm h1 h2
  · rw [List.pairwise_map]
    exact h5.imp fun h => by simpa using h
theorem mlr_born {σ : Sig} {I : Imm} : ∀ {l : ML} {es : List MapEntry}, MLR σ I l es → es.map (·.born) = birthsM l
  | .nil, [], _ => rfl
  | .cons k v b l, e :: es, h => by
    simp only [List.map_cons, birthsM, h.1.2.2.2.2, mlr_born h.2]
  | .nil, _ :: _, h => h.elim
  | .cons _ _ _ _, [], h => h.elim
/-- keys that differ as numbers differ as values -/
theorem keys_ne {σ : Sig} {I : Imm} : ∀ {l : ML} {es : List MapEntry}, MLR σ I l es → (keysM l).Nodup → ∀ {ks : List (List UInt8)}, es.map (·.key) = ks.map kS → (es.map (·.key)).Pairwise (· ≠ ·)
  | .nil, [], _, _, _, _ => List.Pairwise.nil
  | .cons k v b l, e :: es, h, hn, ks, hk => by
    cases ks with
    | nil => simp at hk
    | cons s0 ks =>
      rw [List.map_cons, List.map_cons] at hk
      injection hk with hk1 hk2
      have hn2 := List.nodup_cons.1 hn
      have ih := keys_ne h.2 hn2.2 hk2
      rw [List.map_cons]
      refine List.pairwise_cons.2 ⟨fun x hx hxe => ?_, ih⟩
      subst hxe
      obtain ⟨e2, he2, hee⟩ := List.mem_map.1 hx
      have c1 := (str12 (s := s0) (by rw [← hk1]; exact h.1.1) h.1.2.1 h.1.2.2.1).1
      have at2 : ∀ {l : ML} {es : List MapEntry}, MLR σ I l es → ∀ e2 ∈ es, ∃ k2 ∈ keysM l, CRp σ I k2 e2.key ∧ 3 ≤ hi k2 ∧ hi k2 ≤ 12 := by
        intro l
        induction l with
        | nil => intro es h e2 h2; cases es with
          | nil => exact absurd h2 (by simp)
          | cons a r => exact h.elim
        | cons k v b l ih => intro es h e2 h2; cases es with
          | nil => exact h.elim
          | cons a r =>
            rcases List.mem_cons.1 h2 with rfl | h2
            · exact ⟨k, by simp [keysM], h.1.1, h.1.2.1, h.1.2.2.1⟩
            · obtain ⟨k2, q1, q2⟩ := ih h.2 e2 h2
              exact ⟨k2, by simp [keysM, q1], q2⟩
      obtain ⟨k2, q1, q2, q3, q4⟩ := at2 h.2 e2 he2
      have c2 := (str12 (s := s0) (by rw [← hk1, ← hee]; exact q2) q3 q4).1
      exact hn2.1 (by rw [c1, ← c2]; exact q1)
  | .nil, _ :: _, h, _, _, _ => h.elim
  | .cons _ _ _ _, [], h, _, _, _ => h.elim
theorem oSorted_ok {g : FuncId} {K : Nat} {t : TypeId} (hL : ∀ K', (K' = Nat.land (Nat.div K 65536) 65535 ∨ K' = Nat.div K 4294967296) → SortedLaw X.P g K' t) (hE : ∀ args w, (callFunc g args).run X.P w = .ok (.enter g args) w) {F : Nat} (hf : Free H nx) : Tells (oSorted K t F H nx) (CalR X g F H nx) := by
  show Tells (fun k => br (.bad 188) (frc (fun f => br (.bad 188)
  (cloObj (fun g n1 N1 n2 N2 => br (.bad 188) (frc (fun p => br (.bad 188) (rowK H (blk p) fun n N _ op => br (.bad 188) (frc (fun m => br (.bad 189) (mapK H (blk m) fun c _ l =>
    br (sortT H (fun L => packTK (fun N => newRow c N t true H nx fun i H nx => slU i 0 c 1 H nx k) L 1 0) l) (k 1188422437713965063903159255040 H nx) (Nat.beq c 0)) (and' (Nat.beq (hi m) 16) (some' m))) (dig N 1)) (and' (Nat.ble 1 n) (not' op))) (and' (isPtr p) (Nat.beq (off p) 0))) (dig N2 1)) (and' (and' (or' (Nat.beq g (Nat.land (Nat.div K 65536) 65535)) (Nat.beq g (Nat.div K 4294967296))) (Nat.beq n1 0)) (Nat.beq n2 1))) (get H (lo f))) (Nat.beq (hi f) 19)) (dig F 1)) (Nat.beq (dig F 0) 1)) _
  refine Tells.ifb fun h0 => Tells.frc (Tells.ifb fun h19 => Tells.cloObj fun g' n1 N1 n2 N2 hclo => Tells.ifb fun hg' => Tells.frc (Tells.ifb fun hp => Tells.row fun n N et' op hg => Tells.ifb fun hno => Tells.frc (Tells.ifb fun hm => Tells.mapK fun c q l hgl => ?_)))
  simp only [and'_eq, or'_eq, not'_eq, Bool.and_eq_true, Bool.or_eq_true, Bool.not_eq_true', beq_iff, ble_iff] at hg' hp hno hm
  obtain ⟨⟨hgK, hn1⟩, hn2⟩ := hg'
  subst hn1 hn2
  have law := hL g' hgK
  have hgl' : get H (blk (dig N 1)) = .map c q l := hgl
  have start : ∀ (I : Imm) (σ : Sig) (w : World) (args : Array Value), Holds I H nx → SRel σ I H nx w → ArgsR σ I F args → ∃ (B : Nat) (e2 : SE) (es : Array MapEntry), args = #[.func (.func g') #[] #[.pointer (some ⟨B, 0, none⟩)]] ∧ w.cell? ⟨B, 0, none⟩ = some (.map (some e2.B)) ∧ w.heap[e2.B]? = some (.map es q) ∧ MLR σ I l es.toList.reverse ∧ (keysM l).Nodup ∧ (birthsM l).Nodup ∧ (∀ b ∈ birthsM l, b < q) ∧ c = (keysM l).length := by
    intro I σ w args hI hS hA
    obtain ⟨v0, rfl, hv⟩ := args_one hA (beq_iff.1 h0)
    have h19' := beq_iff.1 h19
    rcases hv.toS (by omega) with hi' | ⟨_, hlo, g2, n1', N1', n2', N2', a, b, hIc, rfl, ha, hb, _, hbs, _⟩
    · exact absurd h19' hi'.ne.2
    · have hIg := get_of_holds hI hf hlo hclo trivial
      rw [hIc] at hIg
      injection hIg with r1 r2 r3 r4 r5
      subst r1 r2 r3 r4 r5
      have ha0 : a = #[] := Array.size_eq_zero_iff.1 ha
      subst ha0
      have hb1 : b = #[b[0]] := by
        refine Array.ext (by simp [hb]) fun i h1 h2 => ?_
        have : i = 0 := by omega
        subst this; rfl
      have hbc := hbs 0 (by omega)
      obtain ⟨e, he1, he2, he3, hbv⟩ := isPtr_inv (c := dig N2' 1) (CRs.toV (.inl hbc)) hp.1
      have hβ : e.β = 0 := by
        have hob := hS.obj _ e he1
        rw [hg] at hob
        exact hob.2 hno.2
      obtain ⟨v, hv1, hv2⟩ := hS.seg hg (o := 0) (m := 1) (by omega) e he1 0 (by omega)
      obtain ⟨e2, h21, rfl⟩ := map_at (c := dig N 1) (CRs.toV hv2) hm.1 hm.2
      have hobj := hS.obj _ e2 h21
      rw [hgl'] at hobj
      obtain ⟨es, o1, o2, o3, o4, o5, o6, o7⟩ := hobj
      refine ⟨e.B, e2, es, ?_, ?_, o1, o2, o3, o4, o5, o6⟩
      · rw [hb1, hbv, hβ, hp.2]
      · rw [hβ] at hv1; simpa using hv1
  have lawW : ∀ (w : World) (B : Nat) (e2 : SE) (es : Array MapEntry) (ks : List (List UInt8)) (I : Imm) (σ : Sig), w.cell? ⟨B, 0, none⟩ = some (.map (some e2.B)) → w.heap[e2.B]? = some (.map es q) → MLR σ I l es.toList.reverse → (keysM l).Nodup → (birthsM l).Nodup → (∀ b ∈ birthsM l, b < q) → c = (keysM l).length → es.toList.reverse.map (·.key) = ks.map kS → (∀ s ∈ ks, s.length ≤ 11) → c ≤ 16777214 → Calls X.P g #[.func (.func g') #[] #[.pointer (some ⟨B, 0, none⟩)]] w fun e w' => ∃ (v : Value) (ss : List (List UInt8)), e = .returned v ∧ ss.Perm ks ∧ w'.ownsRow w.heap.size t 1 v ss.length ((ss.mergeSort (fun x y => decide (x ≤ y))).map kS) ∧ (v = .slice none 0 0 ↔ ss = []) ∧ w.heap.size ≤ w'.heap.size ∧ w'.os = w.os ∧ w'.output = w.output ∧ ∀ k, k < w.heap.size → w'.heap[k]? = w.heap[k]? := by
    intro w B e2 es ks I σ w1 w2 w3 w4 w5 w6 w7 m1 h11 hc
    have m2 := mlr_born w3
    have hlen := mlr_len w3
    have hkeys : es.toList.map (·.key) = ks.reverse.map kS := by
      have := congrArg List.reverse m1
      rw [List.map_reverse, List.reverse_reverse] at this
      rw [this, List.map_reverse]
    have hborn : es.toList.map (·.born) = (birthsM l).reverse := by
      have := congrArg List.reverse m2
      rw [List.map_reverse, List.reverse_reverse] at this
      exact this
    have hne := keys_ne w3 w4 m1
    refine (law B e2.B es q ks.reverse w w1 w2 ⟨fun x hx => ?_, ?_, ?_⟩ hkeys (fun s hs => h11 s (by simpa using hs)) ?_).mono ?_
    · refine w6 _ ?_
      have : x.born ∈ es.toList.map (·.born) := List.mem_map_of_mem hx
      rw [hborn] at this; simpa using this
    · rw [hborn]; exact List.pairwise_reverse.2 (w5.imp fun h => Ne.symm h)
    · have : (es.toList.reverse.map (·.key)).reverse.Pairwise (· ≠ ·) := List.pairwise_reverse.2 (hne.imp fun h => Ne.symm h)
      rw [List.map_reverse, List.reverse_reverse] at this
      exact this
    · have : es.toList.reverse.length = es.size := by simp
      omega
    · rintro e w' ⟨v, ss, rfl, h1, h2⟩
      exact ⟨v, ss, rfl, h1.trans (List.reverse_perm ks), h2⟩
  refine Tells.ite (fun h0 => Tells.pure ⟨(Grow.refl hf).toALe, fun I σ w args hI hS hA o' a' hrun => ?_⟩) fun h0 => ?_
  · obtain ⟨B, e2, es, rfl, w1, w2, w3, w4, w5, w6, w7⟩ := start I σ w args hI hS hA
    have hnil : keysM l = [] := List.length_eq_zero_iff.1 (by rw [← w7]; exact beq_iff.1 h0)
    have hl : l = .nil := by cases l with
      | nil => rfl
      | cons k v b l => simp [keysM] at hnil
    have hes : es.toList.reverse.map (·.key) = ([] : List (List UInt8)).map kS := by
      rw [hl] at w3
      cases hq : es.toList.reverse with
      | nil => rfl
      | cons a r => rw [hq] at w3; exact w3.elim
    refine .enter (hrun.trans (hE _ _)) ((lawW w B e2 es [] I σ w1 w2 w3 w4 w5 w6 w7 hes (fun s hs => absurd hs (by simp)) (by have := beq_iff.1 h0; omega)).mono ?_)
    rintro e w' ⟨v, ss, rfl, hp, hown, hn, hsz, hos, hout, hbl⟩
    obtain rfl := hn.2 (List.perm_nil.1 hp)
    refine ⟨_, rfl, σ, After.below hS hsz hbl hos hout, CRp.toV ?_⟩
    unfold CRp
    rw [show hi 1188422437713965063903159255040 = 15 from by decide]
    exact .inl ⟨rfl, rfl⟩
  · refine Tells.bind1 (sortT_tells hf l) fun L ⟨hL1, hL2⟩ => Tells.bind1 (packTK_tells L 1 0 (by decide) hL1) fun N' ⟨_, hd⟩ => Tells.bind (newRow_tells hf) fun i H' nx' ⟨e1, e2, e3, hn⟩ => ?_
    subst e1 e2
    refine slU_tells.mono fun c' H2 n2 ⟨e4, e5, hsl⟩ => ?_
    subst e4 e5
    refine ⟨hn.grow.toALe, fun I σ w args hI hS hA o' a' hrun => ?_⟩
    have hIb := hI.back hn.grow.toALe
    obtain ⟨B, e2, es, w0, w1, w2, w3, w4, w5, w6, w7⟩ := start I σ w args hIb hS hA
    obtain ⟨ks, ps, p1, p2, p3, p4, p5⟩ := hL2 I σ _ hIb w3
    subst w0
    refine .enter (hrun.trans (hE _ _)) ((lawW w B e2 es ks I σ w1 w2 w3 w4 w5 w6 w7 p1 (fun s hs => by
      obtain ⟨p, hp1, rfl⟩ := List.mem_map.1 (p4.mem_iff.2 hs)
      exact (p3 p hp1).2.2) e3).mono ?_)
    rintro e w' ⟨v, ss, rfl, hp, hown, hnil, hsz, hos, hout, hbl⟩
    have hlk : ks.length = c := by
      have := congrArg List.length p1
      rw [List.length_map, List.length_map] at this
      rw [← this, w7, mlr_len w3]
    have hl : ss.length = c := by rw [hp.length_eq, hlk]
    have hss : ss ≠ [] := fun h => by rw [h] at hl; exact absurd hl.symm (beq_false.1 h0)
    rw [sortS_eq hp p4 p5] at hown
    rcases hown.2 with ⟨rfl, _⟩ | ⟨gb, cap, cur, rfl, hbase, hgb, r1, r2, r3, r4⟩
    · exact absurd (hnil.1 rfl) hss
    have hlt2 : gb < w'.heap.size := (Array.getElem?_eq_some_iff.1 hgb).1
    have hnl := hn.lt
    have hpl : ps.length = c := by
      have := p4.length_eq
      rw [List.length_map] at this; omega
    refine ⟨_, rfl, upd σ i ⟨gb, 0, cap, 1⟩, hS.newBelow (e := ⟨gb, 0, cap, 1⟩) hsz hbl hos hout hn hbase hlt2 ⟨⟨cur, t, (0, 0), hgb, ?_, ?_, .inl (Nat.le_refl _), fun m hm => ?_⟩, fun _ => rfl⟩, ?_⟩
    · show 0 + cap ≤ cur.size; omega
    · show c ≤ cap; omega
    · have hmp : m < ps.length := by omega
      refine ⟨kS (ps[m]).2, ?_, ?_⟩
      · show cur[0 + m]? = _
        have hm2 : m < ss.length * 1 := by omega
        have := congrArg (fun x : List Value => x[m]?) r4
        simp only [List.getElem?_take, hm2, if_true, List.getElem?_map] at this
        rw [Nat.zero_add, ← Array.getElem?_toList, this, List.getElem?_eq_getElem hmp]
        rfl
      · have hLl : L.length = c := by rw [← p2, List.length_map, hpl]
        rw [show m + 1 = 1 + m by omega, hd m (by omega)]
        have hLm : L[m]'(by omega) = (ps[m]).1 := by
          have : (ps.map (·.1))[m]? = L[m]? := by rw [p2]
          rw [List.getElem?_map, List.getElem?_eq_getElem hmp, List.getElem?_eq_getElem (by omega)] at this
          injection this with this; exact this.symm
        rw [hLm]
        have hc := (p3 _ (List.getElem_mem hmp)).2.1
        have hc2 := hc.mono (sle_upd (e := ⟨gb, 0, cap, 1⟩) (hS.none (Nat.le_refl _)))
        exact .inl (.inr ⟨by have := hc2.hi_le; omega, hc2⟩)
    · rw [hl]
      have := hsl (upd σ i ⟨gb, 0, cap, 1⟩) I ⟨gb, 0, cap, 1⟩ cap upd_same (by omega) (by omega) rfl (by show 0 + cap * 1 = cap; omega)
      exact this.toV
end Go.Ev
set_option linter.unusedVariables false
set_option linter.unusedSimpArgs false
namespace Go.Ev
variable {X : Env} {H : HT} {nx : Nat}

/-! ### slices.Insert -/
theorem args_three {σ : Sig} {I : Imm} {F : Nat} {args : Array Value} (h : ArgsR σ I F args) (h0 : dig F 0 = 3) : ∃ v u x, args = #[v, u, x] ∧ VR σ I (dig F 1) v ∧ VR σ I (dig F 2) u ∧ VR σ I (dig F 3) x := by
  have hs : args.size = 3 := by
    rcases h.2.1 with e | e
    · rw [h0] at e; exact absurd e (by decide)
    · rw [h0] at e; exact cntA_inv e.1 (by decide)
  refine ⟨args[0], args[1], args[2], ?_, h.2.2 0 (by omega), h.2.2 1 (by omega), h.2.2 2 (by omega)⟩
  refine Array.ext (by simp [hs]) fun i h1 h2 => ?_
  have : i = 0 ∨ i = 1 ∨ i = 2 := by omega
  rcases this with rfl | rfl | rfl <;> rfl
/-- what stands where behind an insertion of m elements of s cells at i -/
def insA {α : Type} (s i m : Nat) (old new : Nat → α) (j : Nat) : α := if j < i * s then old j else if j < (i + m) * s then new (j - i * s) else old (j - m * s)
/-- there, and one cell each -/
def OneC (f : Nat → Option Value) (k : Nat) : Prop := ∀ j, j < k → ∃ v, f j = some v ∧ v.oneCell' = true
def Fz (fz : Nat × Nat) (o k : Nat) : Prop := fz.2 ≤ fz.1 ∨ fz.2 ≤ o ∨ o + k ≤ fz.1
theorem Fz.sub {fz : Nat × Nat} {o k o' k' : Nat} (h : Fz fz o k) (h1 : o ≤ o') (h2 : o' + k' ≤ o + k) : Fz fz o' k' := by
  rcases h with h | h | h
  · exact .inl h
  · exact .inr (.inl (by omega))
  · exact .inr (.inr (by omega))
structure InsLaw (P : Program) (g : FuncId) (s : Nat) : Prop where
  room : ∀ (w : World) (B β n c i vB vo m vc : Nat) (cells vcells : Array Value) (el vel : TypeId) (fz vfz : Nat × Nat),
    w.heap[B]? = some (.cells cells el fz) → w.heap[vB]? = some (.cells vcells vel vfz) → vB ≠ B → β + c * s ≤ cells.size → Fz fz β (c * s) → vo + m * s ≤ vcells.size → vfz.2 ≤ vfz.1 → i ≤ n → 1 ≤ m → m ≤ vc → n + m ≤ c → n + m ≤ 16777214 →
    OneC (fun j => cells[β + j]?) (n * s) → OneC (fun j => vcells[vo + j]?) (m * s) →
    Calls P g #[.slice (some ⟨B, β, none⟩) n c, .int .i64 i, .slice (some ⟨vB, vo, none⟩) m vc] w fun e w' => e = .returned (.slice (some ⟨B, β, none⟩) (n + m) c) ∧
      ∃ cells', w'.heap[B]? = some (.cells cells' el fz) ∧ cells'.size = cells.size ∧ (∀ j, j < (n + m) * s → cells'[β + j]? = insA s i m (fun j => cells[β + j]?) (fun j => vcells[vo + j]?) j) ∧ (∀ b, b ≠ B → w'.heap[b]? = w.heap[b]?) ∧ w'.heap.size = w.heap.size ∧ w'.os = w.os ∧ w'.output = w.output
  grow : ∀ (w : World) (base : Option Addr) (n c i vB vo m vc : Nat) (old : Nat → Option Value) (vcells : Array Value) (vel : TypeId) (vfz : Nat × Nat),
    (base = none → n = 0 ∧ c = 0) → (∀ a, base = some a → a.spot = none ∧ ∀ j, j < n * s → w.cell? ⟨a.block, a.off + j, none⟩ = old j) → w.heap[vB]? = some (.cells vcells vel vfz) → vo + m * s ≤ vcells.size → i ≤ n → 1 ≤ m → m ≤ vc → n ≤ c → c < n + m → n + m ≤ 16777214 →
    OneC old (n * s) → OneC (fun j => vcells[vo + j]?) (m * s) →
    Calls P g #[.slice base n c, .int .i64 i, .slice (some ⟨vB, vo, none⟩) m vc] w fun e w' => ∃ C, n + m ≤ C ∧ e = .returned (.slice (some ⟨w.heap.size, 0, none⟩) (n + m) C) ∧
      ∃ cells' el', w'.heap[w.heap.size]? = some (.cells cells' el' (0, 0)) ∧ cells'.size = C * s ∧ (∀ j, j < (n + m) * s → cells'[j]? = insA s i m old (fun j => vcells[vo + j]?) j) ∧ (∀ b, b < w.heap.size → w'.heap[b]? = w.heap[b]?) ∧ w.heap.size < w'.heap.size ∧ w'.os = w.os ∧ w'.output = w.output
theorem join_lt {n s m N M : Nat} (hN : N < 2 ^ (128 * (n * s + 1))) (hM : M < 2 ^ (128 * (m * s + 1))) : join n s N M < 2 ^ (128 * ((n + m) * s + 1)) := by
  have e : join n s N M = 2 ^ (128 * (n * s + 1)) * (M >>> 128) + N := by
    show N + ((M >>> 128) <<< 128) <<< ((n * s) <<< 7) = _
    have h2 : (2 : Nat) ^ (128 * (n * s + 1)) = 2 ^ 128 * 2 ^ (128 * (n * s)) := by rw [Nat.mul_succ, Nat.pow_add, Nat.mul_comm]
    rw [Nat.shiftLeft_eq, Nat.shiftLeft_eq, Nat.shiftLeft_eq, show n * s * 2 ^ 7 = 128 * (n * s) by omega, h2, Nat.add_comm, Nat.mul_assoc, Nat.mul_comm (M >>> 128)]
  have hq : M >>> 128 < 2 ^ (128 * (m * s)) := by
    rw [Nat.shiftRight_eq_div_pow]
    refine Nat.div_lt_of_lt_mul ?_
    rw [← Nat.pow_add, show 128 + 128 * (m * s) = 128 * (m * s + 1) by omega]; exact hM
  rw [e, show 128 * ((n + m) * s + 1) = 128 * (n * s + 1) + 128 * (m * s) by rw [Nat.add_mul]; omega, Nat.pow_add]
  calc 2 ^ (128 * (n * s + 1)) * (M >>> 128) + N < 2 ^ (128 * (n * s + 1)) * (M >>> 128) + 2 ^ (128 * (n * s + 1)) := by omega
    _ = 2 ^ (128 * (n * s + 1)) * (M >>> 128 + 1) := (Nat.mul_succ _ _).symm
    _ ≤ _ := Nat.mul_le_mul_left _ hq
theorem dig_ins {i s m N M j : Nat} (hM : M < 2 ^ (128 * (m * s + 1))) : dig (ins i s N m M) (j + 1) = insA s i m (fun j => dig N (j + 1)) (fun j => dig M (j + 1)) j := by
  have hA : N % 2 ^ (128 * (i * s + 1)) < 2 ^ (128 * (i * s + 1)) := Nat.mod_lt _ (Nat.two_pow_pos _)
  have e : ins i s N m M = join (i + m) s (join i s (N % 2 ^ (128 * (i * s + 1))) M) (N >>> (128 * (i * s))) := by
    show N % (1 <<< ((i * s + 1) <<< 7)) + ((low1 M) <<< ((i * s) <<< 7) + (N >>> ((i * s + 1) <<< 7)) <<< (((i + m) * s + 1) <<< 7)) = (N % 2 ^ (128 * (i * s + 1)) + (low1 M) <<< ((i * s) <<< 7)) + ((N >>> (128 * (i * s))) >>> 128) <<< 128 <<< (((i + m) * s) <<< 7)
    have a1 : (i * s + 1) <<< 7 = 128 * (i * s + 1) := by rw [Nat.shiftLeft_eq]; omega
    have a2 : ((i + m) * s + 1) <<< 7 = 128 + ((i + m) * s) <<< 7 := by rw [Nat.shiftLeft_eq, Nat.shiftLeft_eq]; omega
    rw [a1, a2, Nat.one_shiftLeft, ← Nat.shiftRight_add, show 128 * (i * s) + 128 = 128 * (i * s + 1) by omega, Nat.shiftLeft_add, Nat.add_assoc]
  rw [e, dig_join (join_lt hA hM)]
  unfold insA
  by_cases h2 : j < (i + m) * s
  · rw [if_pos h2, dig_join hA]
    by_cases h1 : j < i * s
    · rw [if_pos h1, if_pos h1]
      refine dig_ext fun k hk => ?_
      rw [Nat.testBit_mod_two_pow]
      have : 128 * (j + 1) + k < 128 * (i * s + 1) := by omega
      simp [this]
    · rw [if_neg h1, if_neg h1, if_pos h2]
  · have h1 : ¬ j < i * s := fun h => h2 (Nat.lt_of_lt_of_le h (Nat.mul_le_mul_right _ (by omega)))
    rw [if_neg h2, if_neg h1, if_neg h2]
    refine dig_ext fun k hk => ?_
    rw [Nat.testBit_shiftRight]
    have := Nat.add_mul i m s
    congr 1; omega
theorem ins_tells {et s n R : Nat} (hf : Free H nx) (hs : 1 ≤ s) : Tells (insNew s n R et H nx) fun c H' nx' => ALe H nx H' nx' ∧ n ≤ 16777214 ∧ nx' = nx + 1 ∧ NewAt (.row (n * s) R et true) H nx H' ∧
      ∀ (σ : Sig) (I : Imm) (e : SE) cap, σ nx = some e → n ≤ cap → e.s = s → cap * s = e.K → CRp σ I c (.slice (some ⟨e.B, e.β, none⟩) n cap) := by
  show Tells (fun k => newRow (Nat.mul n s) R et true H nx fun i H nx => slU i 0 n s H nx k) _
  refine Tells.bind (newRow_tells hf) fun i H' nx' ⟨e1, e2, hle, hn⟩ => ?_
  subst e1 e2
  refine slU_tells.mono fun c H2 n2 ⟨e1, e2, hsl⟩ => ?_
  subst e1 e2
  have hle' : n * s ≤ 16777214 := hle
  have hnm : n ≤ n * s := Nat.le_mul_of_pos_right _ hs
  refine ⟨hn.grow.toALe, by omega, rfl, hn, fun σ I e cap he hc h2 h3 => ?_⟩
  have := hsl σ I e cap he (by have := hn.lt; omega) hc h2 (by rw [Nat.zero_add]; exact h3)
  exact this
/-- a row's block under a new number, its cells told anew -/
theorem moved_row {σ : Sig} {I : Imm} {H H1 H' : HT} {nx b n' N0 et0 et n R : Nat} {op0 : Bool} {w w' : World} {e e' : SE} {cells' : Array Value} {el : TypeId} {fz : Nat × Nat} (hf : Free H nx) (hS : SRel σ I H nx w) (hat : σ b = some e) (hg : get H b = .row n' N0 et0 op0)
    (hx : get H1 b = .dead) (hsame : ∀ j, j < 262144 → j ≠ b → get H1 j = get H j) (hafr : AFr σ nx H H1) (hn : NewAt (.row n R et true) H1 nx H') (heB : e'.B = e.B)
    (d1 : w'.heap[e.B]? = some (.cells cells' el fz)) (k1 : e'.β + e'.K ≤ cells'.size) (k2 : n ≤ e'.K) (k3 : Fz fz e'.β e'.K) (k4 : ∀ i, i < n → ∃ v, cells'[e'.β + i]? = some v ∧ CRs σ I (dig R (i + 1)) v)
    (d4 : ∀ z, z ≠ e.B → w'.heap[z]? = w.heap[z]?) (d5 : w'.heap.size = w.heap.size) (d6 : w'.os = w.os) (d7 : w'.output = w.output) : After σ I H nx w (upd σ nx e') H' (nx + 1) w' := by
  have hno := hS.none (Nat.le_refl nx)
  have hsl : SLe σ (upd σ nx e') := sle_upd hno
  have hold' : ∀ b1 e1, σ b1 = some e1 → get H' b1 ≠ .dead → e1.B ≠ e.B := fun b1 e1 hb hd hB => by
    have hlt := (hS.dom b1 e1 hb).1
    rw [hn.same b1 hlt] at hd
    have hbne : b1 ≠ b := fun h => by rw [h, hx] at hd; exact hd rfl
    rw [hsame b1 (by have := hf.1; omega) hbne] at hd
    exact hbne (hS.inj b1 b e1 e hb hat hB hd (by rw [hg]; simp))
  refine ⟨⟨hsl, fun b1 e1 hb => ?_⟩, ⟨fun b1 e1 hb => ?_, fun b1 e1 hb => ?_, fun b1 b2 e1 e2 h1 h2 hBB n1 n2 => ?_, hS.g0.next (fun b1 e1 hb => by
    by_cases hbn : b1 = nx
    · subst hbn; rw [upd_same] at hb; obtain rfl := Option.some.inj hb; exact .inl ⟨_, e, hat, heB.symm⟩
    · rw [upd_ne hbn] at hb; exact .inl ⟨b1, e1, hb, rfl⟩) fun z hn _ => d4 z fun h => hn _ e hat h.symm⟩, ⟨by rw [d5]; exact Nat.le_refl _, fun B hB hnn => d4 B fun h => hnn _ e hat h.symm, d6, d7⟩, fun b1 hb hnn => by rw [hn.same b1 hb]; exact hafr b1 hb hnn⟩
  · by_cases hbn : b1 = nx
    · subst hbn; rw [upd_same] at hb; obtain rfl := Option.some.inj hb
      exact .inr ⟨Nat.le_refl _, .inr ⟨_, e, hat, heB.symm⟩⟩
    · rw [upd_ne hbn] at hb; exact .inl hb
  · rw [d5]
    by_cases hbn : b1 = nx
    · subst hbn; rw [upd_same] at hb; obtain rfl := Option.some.inj hb
      exact ⟨by omega, by rw [heB]; exact (hS.dom _ e hat).2⟩
    · rw [upd_ne hbn] at hb; have := hS.dom b1 e1 hb; exact ⟨by omega, this.2⟩
  · by_cases hbn : b1 = nx
    · subst hbn; rw [upd_same] at hb; obtain rfl := Option.some.inj hb
      rw [hn.at_]
      refine ⟨⟨cells', el, fz, by rw [heB]; exact d1, k1, k2, k3.imp id fun k3 => ⟨rfl, k3⟩, fun i hi => ?_⟩, fun hop => Bool.noConfusion hop⟩
      obtain ⟨v, q1, q2⟩ := k4 i hi
      exact ⟨v, q1, q2.mono hsl⟩
    · rw [upd_ne hbn] at hb
      have hd := hS.dom b1 e1 hb
      by_cases hdd : get H' b1 = .dead
      · rw [hdd]; trivial
      · have hne := hold' b1 e1 hb hdd
        rw [hn.same b1 hd.1] at hdd ⊢
        have hbne : b1 ≠ b := fun h => by rw [h, hx] at hdd; exact hdd rfl
        rw [hsame b1 (by have := hf.1; omega) hbne]
        exact ((hS.obj b1 e1 hb).world (d4 e1.B hne)).mono hsl
  · by_cases hb1 : b1 = nx <;> by_cases hb2 : b2 = nx
    · omega
    · subst hb1; rw [upd_same] at h1; obtain rfl := Option.some.inj h1
      rw [upd_ne hb2] at h2
      exact absurd (hBB.symm.trans heB) (hold' b2 e2 h2 n2)
    · subst hb2; rw [upd_same] at h2; obtain rfl := Option.some.inj h2
      rw [upd_ne hb1] at h1
      exact absurd (hBB.trans heB) (hold' b1 e1 h1 n1)
    · rw [upd_ne hb1] at h1; rw [upd_ne hb2] at h2
      have := hS.kill hf.1 hx hsame
      rw [hn.same b1 (hS.dom b1 e1 h1).1] at n1
      rw [hn.same b2 (hS.dom b2 e2 h2).1] at n2
      exact this.inj b1 b2 e1 e2 h1 h2 hBB n1 n2
theorem CRs.oneC {σ : Sig} {I : Imm} {c : Nat} {v : Value} (h : CRs σ I c v) : v.oneCell' = true := by
  have h := h.one
  cases v <;> first | rfl | exact (h.1 _ rfl).elim | exact (h.2 _ rfl).elim
/-- the cells of a slice, told of its block -/
theorem slice_cells {σ : Sig} {I : Imm} {w : World} {a n s n' N0 et0 N cap : Nat} {op0 : Bool} {va : Value} {e : SE} (hS : SRel σ I H nx w) (hs : SlInv σ a va e cap) (hg : get H (blk a) = .row n' N0 et0 op0) (hn : n = sln a) (hC : CellsIs X.P s n N σ I va w) (hle : off a + n * s ≤ n') :
    ∃ cells el fz, w.heap[e.B]? = some (.cells cells el fz) ∧ e.β + e.K ≤ cells.size ∧ n' ≤ e.K ∧ Fz fz e.β e.K ∧ (op0 = false → fz.2 ≤ fz.1) ∧ ∀ j, j < n * s → ∃ v, cells[e.β + off a + j]? = some v ∧ CRs σ I (dig N (j + 1)) v := by
  have hob := hS.obj _ e hs.at_
  rw [hg] at hob
  obtain ⟨⟨cells, el, fz, c1, c2, c3, c4, c5⟩, hz0⟩ := hob
  obtain ⟨olds, o1, o2, o3⟩ := hC.2 n (Nat.le_refl _)
  have hFz : Fz fz e.β e.K := by
    rcases c4 with c4 | ⟨_, c4⟩
    · exact .inl c4
    · exact .inr c4
  refine ⟨cells, el, fz, c1, c2, c3, hFz, fun h => c4.resolve_right (fun q => by rw [h] at q; exact Bool.noConfusion q.1), fun j hj => ?_⟩
  have hload := run_loadCells (P := X.P) w ⟨e.B, e.β + off a, none⟩ (n * s) (fun j => cells.getD (e.β + off a + j) undef) (fun j hj => by
    rw [addr_add, cell_of c1]
    have : e.β + off a + j < cells.size := by omega
    simp [this])
  have o1' : (loadCells ⟨e.B, e.β + off a, none⟩ (n * s)).run X.P w = .ok olds w := by
    rw [hs.val] at o1; exact o1
  rw [hload] at o1'
  injection o1' with e1
  have hlt : e.β + off a + j < cells.size := by omega
  have hjo : j < olds.size := by omega
  refine ⟨olds[j], ?_, o3 j hjo⟩
  have e2 : olds[j]? = some (cells[e.β + off a + j]) := by
    rw [← e1]
    rw [Array.getElem?_eq_getElem (by simpa using hj)]
    simp [hlt]
  rw [Array.getElem?_eq_getElem hlt, ← e2, Array.getElem?_eq_getElem hjo]
theorem OneC.of {σ : Sig} {I : Imm} {f : Nat → Option Value} {k N : Nat} (h : ∀ j, j < k → ∃ v, f j = some v ∧ CRs σ I (dig N (j + 1)) v) : OneC f k := fun j hj => let ⟨v, a, b⟩ := h j hj; ⟨v, a, b.oneC⟩
/-- the cells behind an insertion are the digits behind it -/
theorem ins_cells {σ : Sig} {I : Imm} {i n s m N M : Nat} {old new : Nat → Option Value} {c' : Nat → Option Value} (hM : M < 2 ^ (128 * (m * s + 1))) (hin : i ≤ n) (h1 : ∀ j, j < n * s → ∃ v, old j = some v ∧ CRs σ I (dig N (j + 1)) v) (h2 : ∀ j, j < m * s → ∃ v, new j = some v ∧ CRs σ I (dig M (j + 1)) v)
    (hc : ∀ j, j < (n + m) * s → c' j = insA s i m old new j) : ∀ j, j < (n + m) * s → ∃ v, c' j = some v ∧ CRs σ I (dig (ins i s N m M) (j + 1)) v := fun j hj => by
  rw [hc j hj, dig_ins hM]
  unfold insA
  have e1 := Nat.add_mul n m s
  have e2 := Nat.add_mul i m s
  have e3 : i * s ≤ n * s := Nat.mul_le_mul_right _ hin
  by_cases a1 : j < i * s
  · rw [if_pos a1, if_pos a1]; exact h1 j (by omega)
  · rw [if_neg a1, if_neg a1]
    by_cases a2 : j < (i + m) * s
    · rw [if_pos a2, if_pos a2]; exact h2 _ (by omega)
    · rw [if_neg a2, if_neg a2]; exact h1 _ (by omega)
theorem oInsert_ok {t : TypeId} {g : FuncId} {s0 : Nat} (hs0 : szT X (elemT X t) = s0) (hL : InsLaw X.P g s0) (hE : ∀ args w, (callFunc g args).run X.P w = .ok (.enter g args) w) {F : Nat} (hf : Free H nx) : Tells (oInsert X t F H nx) (CalR X g F H nx) := by
  show Tells (fun k => br (.bad 178) (frc (fun a => frc (fun v => frc (fun s => br (.bad 178) (natK (dig F 2) fun i =>
   cellsK s v H fun m M => cellsK s a H fun n N => rowK H (blk v) fun nv _ _ opv => br (.bad 178)
     (frc (fun R => br (insNew s (Nat.add n m) R (elemT X t) H nx k)
        (rowK H (blk a) fun n' _ _ _ => br (.bad 178) (kill (blk a) H fun H => insNew s (Nat.add n m) R (elemT X t) H nx k)
          (and' (Nat.ble (Nat.add (off a) (Nat.mul n s)) n') (or' (and' (isOpn a) (Nat.beq (scp a) (opn s))) (and' (not' (isOpn a)) (Nat.ble (Nat.add (off a) (Nat.mul (scp a) s)) n')))))
        (isSl a)) (ins i s N m M))
     (and' (Nat.ble i n) (and' (Nat.ble 1 m) (and' (not' opv) (Nat.ble (Nat.add (off v) (Nat.mul m s)) nv)))))
   (and' (Nat.ble 1 s) (and' (Nat.beq (hi (dig F 2)) 7) (and' (isSl v) (or' (Nat.beq a 1188422437713965063903159255040) (and' (isSl a) (not' (Nat.beq (blk v) (blk a)))))))))
   (szT X (elemT X t))) (dig F 3)) (dig F 1)) (Nat.beq (dig F 0) 3)) _
  refine Tells.ifb fun h0 => ?_
  generalize hA0 : dig F 1 = a
  generalize hV0 : dig F 3 = v
  rw [hs0]
  generalize s0 = s at hL
  refine Tells.frc (Tells.frc (Tells.frc (Tells.ifb fun hc => Tells.bind1 natK_tells fun i ⟨hi1, hi2, hi3⟩ => Tells.bind2 (cellsK_tells (X := X) hf) fun m M ⟨hM, hms, hCv⟩ => Tells.bind2 (cellsK_tells (X := X) hf) fun n N ⟨hN, hns, hCa⟩ => Tells.row fun nv Nv etv opv hgv => Tells.ifb fun hin => Tells.frc ?_)))
  simp only [and'_eq, or'_eq, not'_eq, Bool.and_eq_true, Bool.or_eq_true, Bool.not_eq_true', beq_iff, beq_false, ble_iff] at hc hin
  obtain ⟨hs1, h7, hslv, ha⟩ := hc
  obtain ⟨hin1, hm1, hopv, hvn⟩ := hin
  have hms := hms hslv
  -- what is known in a world
  have world : ∀ {I : Imm} {σ : Sig} {w : World} {args : Array Value}, Holds I H nx → SRel σ I H nx w → ArgsR σ I F args → ∃ (va vv : Value) (ev : SE) (vc : Nat), args = #[va, .int .i64 (i : Int), vv] ∧ VR σ I a va ∧ SlInv σ v vv ev vc ∧ m ≤ vc ∧ ∃ cells el fz, w.heap[ev.B]? = some (.cells cells el fz) ∧ ev.β + ev.K ≤ cells.size ∧ nv ≤ ev.K ∧ fz.2 ≤ fz.1 ∧ ∀ j, j < m * s → ∃ v', cells[ev.β + off v + j]? = some v' ∧ CRs σ I (dig M (j + 1)) v' := by
    intro I σ w args hI hS hA
    obtain ⟨va, x, vv, rfl, h1, h2, h3⟩ := args_three hA (beq_iff.1 h0)
    rw [hA0] at h1
    rw [hV0] at h3
    obtain ⟨z, rfl, hz, _⟩ := int_of h2 h7
    obtain ⟨k, hk⟩ := hi3 σ I _ h2
    injection hk with hk1 hk2
    obtain ⟨ev, vc, hsv⟩ := isSl_inv h3 hslv
    refine ⟨va, vv, ev, vc, by rw [hk2], h1, hsv, by rw [hms]; exact hsv.le, ?_⟩
    obtain ⟨cells, el, fz, q1, q2, q3, q4, q5, q6⟩ := slice_cells hS hsv hgv hms (hCv I σ vv w hI h3 hS) hvn
    exact ⟨cells, el, fz, q1, q2, q3, q5 hopv, q6⟩
  refine Tells.ite (fun hsl => Tells.row fun n' N' et' op' hg => Tells.ifb fun hok => ?_) fun hsl => ?_
  · -- a row
    simp only [and'_eq, or'_eq, not'_eq, Bool.and_eq_true, Bool.or_eq_true, Bool.not_eq_true', beq_iff, ble_iff] at hok
    obtain ⟨hna, hcap⟩ := hok
    have hnsl := hns hsl
    have hbne : blk v ≠ blk a := by
      rcases ha with ha | ha
      · rw [ha] at hsl; exact absurd hsl (by decide)
      · exact ha.2
    show Tells (fun k => set H .dead (blk a) fun H => insNew s (Nat.add n m) (ins i s N m M) (elemT X t) H nx k) _
    refine Tells.bind1 (set_tells (x := .dead) hf (by rw [hg]; exact id) (by rw [hg]; simp) (fun h => by cases h)) fun H1 ⟨hale1, hset⟩ => (ins_tells hale1.free hs1).mono fun c H' nx' hgr => ⟨hale1.trans hgr.1, fun I σ w args hI hS hA o' a' hrun => ?_⟩
    obtain ⟨hale2, hsm, hnx, hn, hcc⟩ := hgr
    subst hnx
    have hIb := hI.back (hale1.trans hale2)
    obtain ⟨va, vv, ev, vc, rfl, hva, hsv, hmc, vcells, vel, vfz, v1, v2, v3, v4, v5⟩ := world hIb hS hA
    obtain ⟨e, cap, hs⟩ := isSl_inv hva hsl
    obtain ⟨hx, hsame, hafr⟩ := hset (hS.dom _ _ hs.at_).1
    have hS1 := hS.kill hf.1 hx hsame
    obtain ⟨cells, el, fz, c1, c2, c3, c4, c4', c5⟩ := slice_cells hS hs hg hnsl (hCa I σ va w hIb hva hS) hna
    have hkill : After σ I H nx w σ H1 nx w := ⟨SExt.refl _ _ _, hS1, Unch.refl _ _, hafr σ ⟨e, hs.at_⟩⟩
    have hK : off a + cap * s ≤ e.K := by
      rcases hcap with ⟨q1, q2⟩ | ⟨q1, q2⟩
      · have q1' : 8388608 ≤ scp a := ble_iff.1 q1
        obtain ⟨r1, r2, r3⟩ := hs.opens q1'
        have : scp a = 8388608 + s := q2
        have : e.s = s := by omega
        rw [this] at r3; omega
      · have q1' : scp a < 8388608 := by have := ble_false.1 q1; omega
        rw [hs.known q1']
        have : off a + scp a * s ≤ n' := q2
        omega
    have hle : n ≤ cap := by rw [hnsl]; exact hs.le
    have hBne : ev.B ≠ e.B := fun h => hbne (hS.inj _ _ _ _ hsv.at_ hs.at_ h (by rw [hgv]; simp) (by rw [hg]; simp))
    have hvar := hs.val
    have hvvr := hsv.val
    rw [← hnsl] at hvar
    rw [← hms] at hvvr
    subst hvar hvvr
    have hmK : off v + m * s ≤ nv := hvn
    have hcs : n * s ≤ cap * s := Nat.mul_le_mul_right _ hle
    by_cases hroom : n + m ≤ cap
    · have hcall := hL.room w e.B (e.β + off a) n cap i ev.B (ev.β + off v) m vc cells vcells el vel fz vfz c1 v1 hBne (by omega) (c4.sub (by omega) (by omega)) (by omega) v4
        hin1 hm1 hmc hroom hsm (OneC.of c5) (OneC.of v5)
      refine .enter (hrun.trans (hE _ _)) (hcall.mono ?_)
      rintro e' w' ⟨rfl, cells', d1, d2, d3, d4, d5, d6, d7⟩
      have hsz : (n + m) * s ≤ cap * s := Nat.mul_le_mul_right _ hroom
      have haf := moved_row (e' := ⟨e.B, e.β + off a, cap * s, s⟩) hf hS hs.at_ hg hx hsame (hafr σ ⟨e, hs.at_⟩) hn rfl d1 (by show e.β + off a + cap * s ≤ cells'.size; omega) hsz (c4.sub (by show e.β ≤ e.β + off a; omega) (by show e.β + off a + cap * s ≤ e.β + e.K; omega))
        (ins_cells hM hin1 c5 v5 d3) d4 d5 d6 d7
      exact ⟨_, rfl, _, haf, (hcc _ I ⟨e.B, e.β + off a, cap * s, s⟩ cap upd_same hroom rfl rfl).toV⟩
    · have hcall := hL.grow w (some ⟨e.B, e.β + off a, none⟩) n cap i ev.B (ev.β + off v) m vc (fun j => cells[e.β + off a + j]?) vcells vel vfz (fun h => by cases h) (fun b hb => by
          obtain rfl := Option.some.inj hb
          exact ⟨rfl, fun j hj => cell_of c1⟩) v1 (by omega) hin1 hm1 hmc hle (by omega) hsm (OneC.of c5) (OneC.of v5)
      refine .enter (hrun.trans (hE _ _)) (hcall.mono ?_)
      rintro e' w' ⟨C, hC, rfl, cells', el', d1, d2, d3, d4, d5, d6, d7⟩
      have hsz : (n + m) * s ≤ C * s := Nat.mul_le_mul_right _ hC
      have hsl' : SLe σ (upd σ nx ⟨w.heap.size, 0, C * s, s⟩) := sle_upd (hS1.none (Nat.le_refl nx))
      have haf := SRel.newBelow (e := ⟨w.heap.size, 0, C * s, s⟩) hS1 (by omega) d4 d6 d7 hn (Nat.le_refl _) d5 ⟨⟨cells', el', (0, 0), d1, by show 0 + C * s ≤ cells'.size; omega, hsz, .inl (Nat.le_refl _), fun j hj => by
        obtain ⟨u, q1, q2⟩ := ins_cells hM hin1 c5 v5 d3 j hj
        exact ⟨u, by rw [Nat.zero_add]; exact q1, q2.mono hsl'⟩⟩, fun h => Bool.noConfusion h⟩
      exact ⟨_, rfl, _, hkill.trans haf (Nat.le_refl _) (fun b e hb => (hS.dom b e hb).1), (hcc _ I ⟨w.heap.size, 0, C * s, s⟩ C upd_same hC rfl rfl).toV⟩
  · -- nil
    have ha' : a = 1188422437713965063903159255040 := ha.resolve_right (by rw [hsl]; simp)
    refine (ins_tells hf hs1).mono fun c H' nx' hgr => ⟨hgr.1, fun I σ w args hI hS hA o' a' hrun => ?_⟩
    obtain ⟨hale2, hsm, hnx, hn, hcc⟩ := hgr
    subst hnx
    have hIb := hI.back hale2
    obtain ⟨va, vv, ev, vc, rfl, hva, hsv, hmc, vcells, vel, vfz, v1, v2, v3, v4, v5⟩ := world hIb hS hA
    obtain ⟨p, cap, e, hp⟩ := sl_nil (.inl ha') hva
    obtain ⟨rfl, rfl⟩ := hp ha'
    subst e
    have hn0 : n = 0 := by
      have h1 := (hCa I σ _ w hIb hva hS).1 w
      have h2 : (Builtin.lenOf (.slice none 0 0)).run X.P w = .ok 0 w := rfl
      rw [h2] at h1; injection h1 with h1; exact h1.symm
    subst hn0
    have hvvr := hsv.val
    rw [← hms] at hvvr
    subst hvvr
    have hmK : off v + m * s ≤ nv := hvn
    have hcall := hL.grow w none 0 0 i ev.B (ev.β + off v) m vc (fun _ => none) vcells vel vfz (fun _ => ⟨rfl, rfl⟩) (fun b hb => by cases hb) v1 (by omega) hin1 hm1 hmc (Nat.le_refl _) (by omega) hsm (fun j hj => by omega) (OneC.of v5)
    refine .enter (hrun.trans (hE _ _)) (hcall.mono ?_)
    rintro e' w' ⟨C, hC, rfl, cells', el', d1, d2, d3, d4, d5, d6, d7⟩
    have hsz : (0 + m) * s ≤ C * s := Nat.mul_le_mul_right _ hC
    have hsl' : SLe σ (upd σ nx ⟨w.heap.size, 0, C * s, s⟩) := sle_upd (hS.none (Nat.le_refl nx))
    have haf := SRel.newBelow (e := ⟨w.heap.size, 0, C * s, s⟩) hS (by omega) d4 d6 d7 hn (Nat.le_refl _) d5 ⟨⟨cells', el', (0, 0), d1, by show 0 + C * s ≤ cells'.size; omega, hsz, .inl (Nat.le_refl _), fun j hj => by
      obtain ⟨u, q1, q2⟩ := ins_cells hM hin1 (fun j hj => by omega) v5 d3 j hj
      exact ⟨u, by rw [Nat.zero_add]; exact q1, q2.mono hsl'⟩⟩, fun h => Bool.noConfusion h⟩
    exact ⟨_, rfl, _, haf, (hcc _ I ⟨w.heap.size, 0, C * s, s⟩ C upd_same hC rfl rfl).toV⟩
end Go.Ev
set_option linter.unusedVariables false
set_option linter.unusedSimpArgs false
noncomputable section
namespace Go.Ev
variable {X : Env} {H : HT} {nx : Nat}

/-! ### A text taken off a text: two bytes of its length ahead -/
structure TxtLaw (P : Program) (g : FuncId) : Prop where
  ok : ∀ (B o : Nat) (s : ByteArray) (w : World), w.cell? ⟨B, o, none⟩ = some (.string s) → w.cell? ⟨B, o + 1, none⟩ = some .nilIface → w.frozen? ⟨B, o, none⟩ = false → packB (s.data.toList.take 2) + 2 ≤ s.data.toList.length →
    Calls P g #[.pointer (some ⟨B, o, none⟩)] w fun e w' => ∃ t r : ByteArray, e = .returned (.string t) ∧ t.data.toList = (s.data.toList.drop 2).take (packB (s.data.toList.take 2)) ∧ r.data.toList = s.data.toList.drop (packB (s.data.toList.take 2) + 2) ∧ ∃ w1, Stays w w1 ∧ w' = w1.setCell ⟨B, o, none⟩ (.string r)
theorem pow_256 (k : Nat) : 2 ^ (k * 2 ^ 3) = 256 ^ k := by rw [show k * 2 ^ 3 = 8 * k by omega, Nat.pow_mul]
theorem oCutText_ok {g : FuncId} (hL : TxtLaw X.P g) (hE : ∀ args w, (callFunc g args).run X.P w = .ok (.enter g args) w) {F : Nat} (hf : Free H nx) : Tells (oCutText F H nx) (CalR X g F H nx) := by
  show Tells (fun k => br (.bad 197) (frc (fun p => br (.bad 197) (frc (fun b => rowK H b fun n N e op => br (.bad 197) (frc (fun t => frc (fun er => str t H fun m M => frc (fun q => br (.bad 199)
    (mkStr (Nat.sub m (Nat.add q 2)) (Nat.shiftRight M (Nat.shiftLeft (Nat.add q 2) 3)) H nx fun c H nx => rowK H b fun n N e op => lay false 1 N (off p) c H fun N => setRow b n N e op H fun H => mkStr q (Nat.mod (Nat.shiftRight M 16) (Nat.shiftLeft 1 (Nat.shiftLeft q 3))) H nx k)
    (and' (Nat.ble (Nat.add q 2) m) (Nat.beq er 1663791412799551089464422957056))) (Nat.mod M 65536)) (dig N (Nat.succ (Nat.add (off p) 1)))) (dig N (Nat.succ (off p)))) (Nat.ble (Nat.add (off p) 2) n)) (blk p)) (isPtr p)) (dig F 1)) (Nat.beq (dig F 0) 1)) _
  refine Tells.ifb fun h0 => Tells.frc (Tells.ifb fun hp => Tells.frc (Tells.row fun n N et op hg => Tells.ifb fun hle => Tells.frc (Tells.frc (Tells.bind2 (str_tells hf) fun m M ⟨_, hs⟩ => Tells.frc (Tells.ifb fun hok => ?_)))))
  have hle' : off (dig F 1) + 2 ≤ n := ble_iff.1 hle
  refine Tells.bind (mkStr_tells hf) fun c H1 n1 ⟨g1, hc⟩ => Tells.row fun n2 N2 et2 op2 hg2 => Tells.bind1 (lay_tells g1.free) fun N' hl => Tells.bind1 (setRow_tells (n := n2) (N' := N') (et := et2) (op := op2) g1.free hg2) fun H' ⟨hale, hr⟩ => (mkStr_tells hale.free).mono fun c2 H2 nx2 ⟨g2, hc2⟩ => ⟨(g1.toALe.trans hale).trans g2.toALe, fun I σ w args hI hS hA o' a' hrun => ?_⟩
  rw [and'_eq, Bool.and_eq_true, ble_iff, beq_iff] at hok
  obtain ⟨v, rfl, hv⟩ := args_one hA (beq_iff.1 h0)
  obtain ⟨e, he1, he2, he3, rfl⟩ := isPtr_inv hv hp
  have hbn := (hS.dom _ e he1).1
  have hsame := g1.same _ hbn
  rw [hg2, hg] at hsame
  injection hsame with q1 q2 q3 q4
  subst q1 q2 q3 q4
  have hI' := hI.back g2.toALe
  obtain ⟨v0, h1, h2⟩ := hS.seg hg (o := off (dig F 1)) (m := 2) hle' e he1 0 (by omega)
  obtain ⟨v1, h3, h4⟩ := hS.seg hg (o := off (dig F 1)) (m := 2) hle' e he1 1 (by omega)
  obtain ⟨s, rfl, hs1⟩ := hs I σ v0 (hI'.back (g1.toALe.trans hale)) (CRs.toV h2)
  have hnil : v1 = .nilIface := by
    have h4' : VR σ I (dig N2 (Nat.succ (Nat.add (off (dig F 1)) 1))) v1 := CRs.toV h4
    rw [hok.2] at h4'
    exact nil_of h4'
  subst hnil
  have hfr : w.frozen? ⟨e.B, e.β + off (dig F 1), none⟩ = false := by
    obtain ⟨_, _, q⟩ := row_cell hS he1 hg (i := off (dig F 1)) (by omega)
    exact q
  have hq : Nat.mod M 65536 = packB (s.data.toList.take 2) := by
    rw [(packB_take s.data.toList 2).1, ← hs1.num]; rfl
  have hlen : packB (s.data.toList.take 2) + 2 ≤ s.data.toList.length := by
    rw [← hs1.len, ← hq]; exact hok.1
  refine .enter (hrun.trans (hE _ _)) ((hL.ok e.B (e.β + off (dig F 1)) s w (by simpa using h1) (by simpa [Nat.add_assoc] using h3) hfr hlen).mono ?_)
  rintro e' w' ⟨t, r, rfl, ht1, hr1, w1, hst, rfl⟩
  rw [← hq] at ht1 hr1
  have hql : Nat.mod M 65536 + 2 ≤ s.data.toList.length := by rw [hq]; exact hlen
  generalize Nat.mod M 65536 = q at ht1 hr1 hok hc hc2 hql
  have hrs : StrIs r (Nat.sub m (Nat.add q 2)) (Nat.shiftRight M (Nat.shiftLeft (Nat.add q 2) 3)) := by
    refine ⟨?_, ?_⟩
    · rw [hr1, List.length_drop, ← hs1.len]; rfl
    · rw [hr1, (packB_take s.data.toList (q + 2)).2, ← hs1.num]
      show M >>> ((q + 2) <<< 3) = _
      rw [Nat.shiftRight_eq_div_pow, Nat.shiftLeft_eq, pow_256]
  have hts : StrIs t q (Nat.mod (Nat.shiftRight M 16) (Nat.shiftLeft 1 (Nat.shiftLeft q 3))) := by
    refine ⟨?_, ?_⟩
    · rw [ht1, List.length_take, List.length_drop]; omega
    · rw [ht1, (packB_take (s.data.toList.drop 2) q).1, (packB_take s.data.toList 2).2, ← hs1.num]
      show (M >>> 16) % (1 <<< (q <<< 3)) = _
      rw [Nat.shiftRight_eq_div_pow, Nat.shiftLeft_eq, Nat.shiftLeft_eq, pow_256, Nat.one_mul]
  have hcr := hc I σ r (hI'.back hale) hrs
  have hS1 := (hS.stays hst).grow g1
  obtain ⟨l1, l2, l3, l4⟩ := hl I σ _ (hI'.back hale) hcr.toV
  obtain ⟨hr2, hafr⟩ := hr (by have := g1.le; omega)
  obtain ⟨s1, s2⟩ := hS1.lay (vs := [.string r]) g1.free.1 he1 hg2 hr2 (by show off (dig F 1) + 1 ≤ n2; omega) l3 (fun j _ hj => l4 j hj)
  refine ⟨_, rfl, σ, ?_, (hc2 I σ t hI hts).toV⟩
  exact (((After.stays hS hst).trans (After.grow (hS.stays hst) g1) (Nat.le_refl _) fun b e hb => (hS.dom b e hb).1).trans (w1 := w1) ⟨SExt.refl _ _ _, s1, s2, hafr σ ⟨e, he1⟩⟩ g1.le fun b e hb => (hS.dom b e hb).1).trans (After.grow s1 g2) g1.le fun b e hb => (hS.dom b e hb).1
/-! ### Two ints compared -/
def CmpLaw (P : Program) (g : FuncId) : Prop := ∀ (x y : Int) (w : World), Calls P g #[.int .i64 x, .int .i64 y] w fun e w' => e = .returned (.int .i64 (if x < y then -1 else if y < x then 1 else 0)) ∧ Stays w w'
theorem icell_bias {z : Int} (h : InI z) : ((Nat.mod (Nat.add (icell z) 9223372036854775808) 18446744073709551616 : Nat) : Int) = z + 9223372036854775808 := by
  unfold InI at h
  show (((icell z + 9223372036854775808) % 18446744073709551616 : Nat) : Int) = _
  unfold icell; omega
theorem vr_i64 {σ : Sig} {I : Imm} {c : Nat} {n : Int} (h1 : IntKind.i64.min ≤ n) (h2 : n ≤ IntKind.i64.max) (hc : c = 554597137599850363154807652352 + (n % 18446744073709551616).toNat) : VR σ I c (.int .i64 n) := by
  refine CRp.toV ?_
  have h7 : hi c = 7 := by rw [hi_def]; omega
  unfold CRp; rw [h7]
  exact ⟨n, rfl, h1, h2, by subst hc; rfl⟩
theorem oCmp_ok {g : FuncId} (hL : CmpLaw X.P g) (hE : ∀ args w, (callFunc g args).run X.P w = .ok (.enter g args) w) {F : Nat} (hf : Free H nx) : Tells (oCmp F H nx) (CalR X g F H nx) := by
  show Tells (fun k => br (.bad 193) (frc (fun a => frc (fun b => br (.bad 193) (frc (fun x => frc (fun y => br (br (k 554597137599850363154807652352 H nx) (k 554597137599850363154807652353 H nx) (Nat.blt y x)) (k 554597137618297107228517203967 H nx) (Nat.blt x y)) (Nat.mod (Nat.add b 9223372036854775808) 18446744073709551616)) (Nat.mod (Nat.add a 9223372036854775808) 18446744073709551616)) (and' (Nat.beq (hi a) 7) (Nat.beq (hi b) 7))) (dig F 2)) (dig F 1)) (Nat.beq (dig F 0) 2)) _
  refine Tells.ifb fun h0 => Tells.frc (Tells.frc (Tells.ifb fun hc => Tells.frc (Tells.frc ?_)))
  simp only [and'_eq, Bool.and_eq_true, beq_iff] at hc
  have key : ∀ (c : Nat) (n : Int), (∀ z u : Int, InI z → InI u → dig F 1 = icell z → dig F 2 = icell u → (if z < u then -1 else if u < z then 1 else 0) = n) → IntKind.i64.min ≤ n → n ≤ IntKind.i64.max → c = 554597137599850363154807652352 + (n % 18446744073709551616).toNat → CalR X g F H nx c H nx := fun c n hz h1 h2 h3 => ⟨(Grow.refl hf).toALe, fun I σ w args hI hS hA o' a' hrun => by
    obtain ⟨v, u, rfl, hv, hu⟩ := args_two hA (beq_iff.1 h0)
    obtain ⟨z, rfl, z1, z2⟩ := int_of hv hc.1
    obtain ⟨y, rfl, y1, y2⟩ := int_of hu hc.2
    refine .enter (hrun.trans (hE _ _)) ((hL z y w).mono ?_)
    rintro e w' ⟨rfl, hst⟩
    rw [hz z y z1 y1 z2 y2]
    exact ⟨_, rfl, σ, After.stays hS hst, vr_i64 h1 h2 h3⟩⟩
  refine Tells.ite (fun hlt => Tells.pure (key _ (-1) (fun z u z1 u1 z2 u2 => ?_) (by decide) (by decide) (by decide))) fun hnl => Tells.ite (fun hgt => Tells.pure (key _ 1 (fun z u z1 u1 z2 u2 => ?_) (by decide) (by decide) (by decide))) fun hng => Tells.pure (key _ 0 (fun z u z1 u1 z2 u2 => ?_) (by decide) (by decide) (by decide))
  · rw [z2, u2, blt_iff] at hlt
    have b1 := icell_bias z1
    have b2 := icell_bias u1
    rw [if_pos (by omega)]
  · rw [z2, u2] at hnl hgt
    rw [blt_iff] at hgt
    have b1 := icell_bias z1
    have b2 := icell_bias u1
    rw [if_neg (by omega), if_pos (by omega)]
  · rw [z2, u2] at hnl hng
    have b1 := icell_bias z1
    have b2 := icell_bias u1
    have hnl' : ¬ _ := fun q => absurd (blt_iff.2 q) (by rw [hnl]; decide)
    have hng' : ¬ _ := fun q => absurd (blt_iff.2 q) (by rw [hng]; decide)
    rw [if_neg (by omega), if_neg (by omega)]
/-! ### The first int that is no nought -/
def orZ : List Int → Int
  | [] => 0
  | y :: l => if (y == 0) = true then orZ l else y
def orP (N : Nat) : Nat → Nat → Nat
  | 0, _ => 554597137599850363154807652352
  | n + 1, o => if Nat.beq (dig N o) 554597137599850363154807652352 = true then orP N n (Nat.succ o) else dig N o
theorem orK_step (N : Nat) (k : Nat → Out) (n o : Nat) : orK N k (n + 1) o = br (frc k (dig N o)) (frc (fun o => orK N k n o) (Nat.succ o)) (Nat.beq (dig N o) 554597137599850363154807652352) := rfl
theorem orK_eq (N : Nat) (k : Nat → Out) : ∀ n o, orK N k n o = k (orP N n o)
  | 0, o => rfl
  | n + 1, o => by
    rw [orK_step]
    unfold orP
    cases hb : Nat.beq (dig N o) 554597137599850363154807652352 with
    | true =>
      rw [br_true, frc_eq, if_pos rfl]
      exact orK_eq N k n _
    | false => rw [br_false, frc_eq, if_neg (by simp)]
theorem icell_0 : icell 0 = 554597137599850363154807652352 := by decide
theorem orP_law (N : Nat) : ∀ (n o : Nat) (xs : List Int), xs.length = n → (∀ j (h : j < xs.length), dig N (o + j) = icell xs[j] ∧ InI xs[j]) → orP N n o = icell (orZ xs) ∧ InI (orZ xs)
  | 0, o, xs, hn, hd => by
    obtain rfl := List.length_eq_zero_iff.1 hn
    exact ⟨icell_0.symm, by decide, by decide⟩
  | n + 1, o, [], hn, hd => by cases hn
  | n + 1, o, y :: l, hn, hd => by
    have h0 := hd 0 (by simp)
    have ih := orP_law N n (o + 1) l (by simpa using hn) (fun j hj => by
      have := hd (j + 1) (by simpa using hj)
      rw [show o + 1 + j = o + (j + 1) by omega]; exact this)
    have h00 : dig N o = icell y := h0.1
    have h01 : InI y := h0.2
    unfold orP orZ
    rw [h00]
    by_cases he : y = 0
    · subst he
      rw [if_pos (beq_iff.2 icell_0), if_pos (by simp)]
      exact ih
    · have hne : Nat.beq (icell y) 554597137599850363154807652352 = false := beq_false.2 fun e => he (icell_inj h01 ⟨by decide, by decide⟩ (e.trans icell_0.symm))
      rw [hne, if_neg (by simp), if_neg (by simpa using he)]
      exact ⟨rfl, h01⟩
def OrLaw (P : Program) (g : FuncId) : Prop := ∀ (xs : List Int) (b off c : Nat) (w : World), xs.length ≤ 16777214 → (∀ j (h : j < xs.length), w.cell? ⟨b, off + j, none⟩ = some (.int .i64 xs[j])) → Calls P g #[.slice (some ⟨b, off, none⟩) xs.length c] w fun e w' => e = .returned (.int .i64 (orZ xs)) ∧ w' = w
theorem oOr_ok {g : FuncId} (hL : OrLaw X.P g) (hE : ∀ args w, (callFunc g args).run X.P w = .ok (.enter g args) w) {F : Nat} (hf : Free H nx) : Tells (oOr F H nx) (CalR X g F H nx) := by
  show Tells (fun k => br (.bad 192) (frc (fun a => br (.bad 192) (rowK H (blk a) fun n N _ _ => br (.bad 192) (orK N (fun c => k c H nx) (sln a) (Nat.succ (off a))) (and' (Nat.ble (Nat.add (off a) (sln a)) n) (intsB N (sln a) (Nat.succ (off a))))) (isSl a)) (dig F 1)) (Nat.beq (dig F 0) 1)) _
  refine Tells.ifb fun h0 => Tells.frc (Tells.ifb fun hsl => Tells.row fun n N et op hg => Tells.ifb fun hok => Tells.k1 (T := fun c k => k c H nx) (f := fun k => orK N k (sln (dig F 1)) (Nat.succ (off (dig F 1)))) (fun k => orK_eq _ k _ _) (Tells.pure ⟨(Grow.refl hf).toALe, fun I σ w args hI hS hA o' a' hrun => ?_⟩))
  rw [and'_eq, Bool.and_eq_true, ble_iff] at hok
  have hle : off (dig F 1) + sln (dig F 1) ≤ n := hok.1
  obtain ⟨v, rfl, hv⟩ := args_one hA (beq_iff.1 h0)
  obtain ⟨e, cap, hs⟩ := isSl_inv hv hsl
  have hn := hs.nlt
  obtain ⟨xs, hl, hxs⟩ := ints_of (w := w) (B := e.B) (β := e.β + off (dig F 1)) (N := N) (o := Nat.succ (off (dig F 1))) (σ := σ) (I := I) (sln (dig F 1)) (fun j hj => by
    obtain ⟨v, h1, h2⟩ := hS.seg hg (o := off (dig F 1)) (m := sln (dig F 1)) hle e hs.at_ j hj
    refine ⟨v, by rw [Nat.add_assoc]; exact h1, ?_⟩
    rw [show Nat.succ (off (dig F 1)) + j = off (dig F 1) + j + 1 by omega]
    exact CRs.toV h2) (fun j hj => intsB_at hok.2 j hj)
  have hsz : xs.length ≤ 16777214 := by omega
  have hlaw := orP_law N (sln (dig F 1)) (Nat.succ (off (dig F 1))) xs hl (fun j hj => ⟨(hxs j hj).2.1, (hxs j hj).2.2⟩)
  have hvv := hs.val
  subst hvv
  have hcall := hL xs e.B (e.β + off (dig F 1)) cap w hsz (fun j hj => (hxs j hj).1)
  rw [hl] at hcall
  refine .enter (hrun.trans (hE _ _)) (hcall.mono ?_)
  rintro e' w' ⟨rfl, rfl⟩
  refine ⟨_, rfl, σ, After.grow hS (Grow.refl hf), ?_⟩
  rw [hlaw.1]
  exact (icell_crp hlaw.2).toV
end Go.Ev
set_option linter.unusedVariables false
set_option linter.unusedSimpArgs false
noncomputable section
namespace Go.Ev
variable {X : Env} {H : HT} {nx : Nat}

/-! ### The greatest version that was told ahead of a time -/
/-- what counts of an entry: kind, till, code, version -/
structure TlX where
  kind : Int
  till : Int
  code : Int
  txn : Nat
def tlC (frm : Int) (x : TlX) : Bool := decide (x.kind = 6) && (decide (x.code = 0) && (decide (0 < x.till) && decide (x.till < frm)))
def tlStep (frm : Int) (a : Nat) (x : TlX) : Nat := if tlC frm x = true then max a x.txn else a
def tlV (frm : Int) (l : List TlX) (a : Nat) : Nat := l.foldl (tlStep frm) a
def TldLaw (P : Program) (g : FuncId) : Prop := ∀ (xs : List TlX) (V : Nat → Nat → Value) (b off c : Nat) (frm : Int) (w : World), xs.length ≤ 16777214 → 1 ≤ xs.length → (∀ j (h : j < xs.length), V j 2 = .int .i64 xs[j].kind ∧ V j 9 = .int .i64 xs[j].till ∧ V j 10 = .int .i64 xs[j].code ∧ V j 13 = .int .u64 xs[j].txn ∧ xs[j].txn < 18446744073709551616) →
    (∀ j k, j < xs.length → k < 14 → (V j k).oneCell' = true) → (∀ j k, j < xs.length → k < 14 → w.cell? ⟨b, off + j * 14 + k, none⟩ = some (V j k)) → Calls P g #[.slice (some ⟨b, off, none⟩) xs.length c, .int .i64 frm] w fun e w' => e = .returned (.int .u64 (tlV frm xs 0)) ∧ Stays w w'
theorem tldB_ok {E b : Nat} {x : TlX} {frm : Int} (h2 : dig E 2 = icell x.kind) (h9 : dig E 9 = icell x.till) (h10 : dig E 10 = icell x.code) (hb : b = icell frm) (i2 : InI x.kind) (i9 : InI x.till) (i10 : InI x.code) (ib : InI frm) : tldB E b = tlC frm x := by
  show and' (Nat.beq (dig E 2) 554597137599850363154807652358) (and' (Nat.beq (dig E 10) 554597137599850363154807652352) (and' (Nat.blt (Nat.mod (Nat.add 554597137599850363154807652352 9223372036854775808) 18446744073709551616) (Nat.mod (Nat.add (dig E 9) 9223372036854775808) 18446744073709551616)) (Nat.blt (Nat.mod (Nat.add (dig E 9) 9223372036854775808) 18446744073709551616) (Nat.mod (Nat.add b 9223372036854775808) 18446744073709551616)))) = _
  have b0 := icell_bias (z := 0) ⟨by decide, by decide⟩
  have b9 := icell_bias i9
  have bb := icell_bias ib
  have c6 : icell 6 = 554597137599850363154807652358 := by decide
  unfold tlC
  rw [and'_eq, and'_eq, and'_eq, h2, h9, h10, hb, ← icell_0, ← c6]
  have e1 : Nat.beq (icell x.kind) (icell 6) = decide (x.kind = 6) := by
    by_cases h : x.kind = 6
    · rw [h, decide_eq_true rfl]; exact beq_iff.2 rfl
    · rw [decide_eq_false h]; exact beq_false.2 fun e => h (icell_inj i2 ⟨by decide, by decide⟩ e)
  have e2 : Nat.beq (icell x.code) (icell 0) = decide (x.code = 0) := by
    by_cases h : x.code = 0
    · rw [h, decide_eq_true rfl]; exact beq_iff.2 rfl
    · rw [decide_eq_false h]; exact beq_false.2 fun e => h (icell_inj i10 ⟨by decide, by decide⟩ e)
  clear h2 h9 h10 hb c6
  generalize Nat.mod (Nat.add (icell 0) 9223372036854775808) 18446744073709551616 = q0 at *
  generalize Nat.mod (Nat.add (icell x.till) 9223372036854775808) 18446744073709551616 = q9 at *
  generalize Nat.mod (Nat.add (icell frm) 9223372036854775808) 18446744073709551616 = qb at *
  have e3 : Nat.blt q0 q9 = decide (0 < x.till) := by
    by_cases h : 0 < x.till
    · rw [decide_eq_true h]; exact blt_iff.2 (by omega)
    · rw [decide_eq_false h, ← Bool.not_eq_true, blt_iff]; omega
  have e4 : Nat.blt q9 qb = decide (x.till < frm) := by
    by_cases h : x.till < frm
    · rw [decide_eq_true h]; exact blt_iff.2 (by omega)
    · rw [decide_eq_false h, ← Bool.not_eq_true, blt_iff]; omega
  rw [e1, e2, e3, e4]
def tldE (N : Nat) : Nat := Nat.mod N (Nat.shiftLeft 1 1792)
theorem mod_shift (N k : Nat) : Nat.mod N (Nat.shiftLeft 1 k) = N % 2 ^ k := by
  show N % (1 <<< k) = _
  rw [Nat.shiftLeft_eq, Nat.one_mul]
theorem mod_digs (N n : Nat) : Nat.mod N (Nat.shiftLeft 1 (128 * n)) = digs N 0 n := by
  rw [mod_shift, digs_def, Nat.mul_zero, Nat.shiftRight_zero]
theorem tldE_dig {N j : Nat} (h : j < 14) : dig (tldE N) j = dig N j := by
  have e : tldE N = digs N 0 14 := mod_digs N 14
  rw [e, dig_digs h, Nat.zero_add]
theorem dig_shrN (N i j : Nat) : dig (Nat.shiftRight N (Nat.shiftLeft i 7)) j = dig N (i + j) := by
  refine dig_ext fun k hk => ?_
  show (N >>> (i <<< 7)).testBit _ = _
  rw [Nat.testBit_shiftRight, Nat.shiftLeft_eq]
  congr 1; omega
theorem dig_shr14 (N j : Nat) : dig (Nat.shiftRight N 1792) j = dig N (14 + j) := dig_shrN N 14 j
def tldN (b E a : Nat) : Nat := sel a (sel (lo (dig E 13)) a (Nat.ble (lo (dig E 13)) a)) (tldB E b)
def tldP (b : Nat) : Nat → Nat → Nat → Option Nat
  | 0, _, a => some a
  | n + 1, N, a => if tldOk (tldE N) = true then tldP b n (Nat.shiftRight N 1792) (tldN b (tldE N) a) else none
theorem tldK_step (b : Nat) (k : Nat → Out) (n N a : Nat) : tldK b k (n + 1) N a = frc (fun E => br (.bad 194) (frc (fun a => frc (fun N => tldK b k n N a) (Nat.shiftRight N 1792)) (sel a (sel (lo (dig E 13)) a (Nat.ble (lo (dig E 13)) a)) (tldB E b))) (tldOk E)) (Nat.mod N (Nat.shiftLeft 1 1792)) := rfl
def optO (k : Nat → Out) : Option Nat → Out
  | none => .bad 194
  | some r => k r
theorem tldK_eq (b : Nat) (k : Nat → Out) : ∀ n N a, tldK b k n N a = optO k (tldP b n N a)
  | 0, N, a => rfl
  | n + 1, N, a => by
    rw [tldK_step, frc_eq]
    show br (.bad 194) (frc (fun a => frc (fun N => tldK b k n N a) (Nat.shiftRight N 1792)) (tldN b (tldE N) a)) (tldOk (tldE N)) = _
    rw [frc_eq, frc_eq]
    unfold tldP
    cases hb : tldOk (tldE N) with
    | true => rw [br_true, if_pos rfl]; exact tldK_eq b k n _ _
    | false => rw [br_false, if_neg (by simp)]; rfl
theorem Tells.opt {R : Nat → HT → Nat → Prop} {T : Nat → K0 → Out} {f : (Nat → Out) → Out} {o : Option Nat} (hf : ∀ k, f k = optO k o) (hT : ∀ r, o = some r → Tells (T r) R) : Tells (fun k => f fun c => T c k) R := fun k => by
  show isBad (f fun c => T c k) ∨ ∃ c H' nx', f (fun c => T c k) = k c H' nx' ∧ R c H' nx'
  rw [hf]
  cases o with
  | none => exact .inl ⟨194, rfl⟩
  | some r => exact hT r rfl k
theorem tldN_eq {b E a : Nat} {x : TlX} {frm : Int} (hB : tldB E b = tlC frm x) (ht : lo (dig E 13) = x.txn) : tldN b E a = tlStep frm a x := by
  unfold tldN tlStep
  rw [hB, ht]
  cases tlC frm x with
  | false => rfl
  | true =>
    rw [if_pos rfl]
    show sel x.txn a (Nat.ble x.txn a) = _
    cases h : Nat.ble x.txn a with
    | true => show a = _; have := ble_iff.1 h; omega
    | false =>
      show x.txn = _
      have : ¬ x.txn ≤ a := fun q => absurd (ble_iff.2 q) (by rw [h]; decide)
      omega
theorem tldP_law {σ : Sig} {I : Imm} {w : World} {B β b : Nat} {frm : Int} (hb : b = icell frm) (ib : InI frm) : ∀ (n N a r : Nat), (∀ j, j < n * 14 → ∃ v, w.cell? ⟨B, β + j, none⟩ = some v ∧ VR σ I (dig N j) v) → tldP b n N a = some r →
    ∃ xs : List TlX, xs.length = n ∧ r = tlV frm xs a ∧ ∀ j (h : j < xs.length), w.cell? ⟨B, β + j * 14 + 2, none⟩ = some (.int .i64 xs[j].kind) ∧ w.cell? ⟨B, β + j * 14 + 9, none⟩ = some (.int .i64 xs[j].till) ∧ w.cell? ⟨B, β + j * 14 + 10, none⟩ = some (.int .i64 xs[j].code) ∧ w.cell? ⟨B, β + j * 14 + 13, none⟩ = some (.int .u64 xs[j].txn) ∧ xs[j].txn < 18446744073709551616
  | 0, N, a, r, hd, hp => ⟨[], rfl, (Option.some.inj hp).symm, fun j h => absurd h (by simp)⟩
  | n + 1, N, a, r, hd, hp => by
    unfold tldP at hp
    by_cases hok : tldOk (tldE N) = true
    · rw [if_pos hok] at hp
      have hok' : and' (Nat.beq (hi (dig (tldE N) 2)) 7) (and' (Nat.beq (hi (dig (tldE N) 9)) 7) (and' (Nat.beq (hi (dig (tldE N) 10)) 7) (Nat.beq (hi (dig (tldE N) 13)) 11))) = true := hok
      simp only [and'_eq, Bool.and_eq_true, beq_iff, tldE_dig (show 2 < 14 by decide), tldE_dig (show 9 < 14 by decide), tldE_dig (show 10 < 14 by decide), tldE_dig (show 13 < 14 by decide)] at hok'
      obtain ⟨k2, k9, k10, k13⟩ := hok'
      obtain ⟨v2, c2, r2⟩ := hd 2 (by omega)
      obtain ⟨v9, c9, r9⟩ := hd 9 (by omega)
      obtain ⟨v10, c10, r10⟩ := hd 10 (by omega)
      obtain ⟨v13, c13, r13⟩ := hd 13 (by omega)
      obtain ⟨kd, rfl, z2, y2⟩ := int_of r2 k2
      obtain ⟨tl, rfl, z9, y9⟩ := int_of r9 k9
      obtain ⟨cd, rfl, z10, y10⟩ := int_of r10 k10
      obtain ⟨rfl, y13⟩ := u64_of r13 k13
      let x : TlX := ⟨kd, tl, cd, dig N 13 % 18446744073709551616⟩
      have hB : tldB (tldE N) b = tlC frm x := tldB_ok (x := x) (by rw [tldE_dig (by decide)]; exact y2) (by rw [tldE_dig (by decide)]; exact y9) (by rw [tldE_dig (by decide)]; exact y10) hb z2 z9 z10 ib
      have hN : tldN b (tldE N) a = tlStep frm a x := tldN_eq hB (by rw [tldE_dig (by decide)]; rfl)
      rw [hN] at hp
      obtain ⟨xs, hl, hr, hx⟩ := tldP_law (σ := σ) (I := I) (w := w) (B := B) (β := β + 14) hb ib n (Nat.shiftRight N 1792) (tlStep frm a x) r (fun j hj => by
        obtain ⟨v, h1, h2⟩ := hd (14 + j) (by omega)
        refine ⟨v, by rw [Nat.add_assoc]; exact h1, ?_⟩
        rw [dig_shr14]; exact h2) hp
      refine ⟨x :: xs, by simp [hl], hr, fun j hj => ?_⟩
      cases j with
      | zero =>
        show w.cell? ⟨B, β + 0 * 14 + 2, none⟩ = _ ∧ w.cell? ⟨B, β + 0 * 14 + 9, none⟩ = _ ∧ w.cell? ⟨B, β + 0 * 14 + 10, none⟩ = _ ∧ w.cell? ⟨B, β + 0 * 14 + 13, none⟩ = _ ∧ _
        rw [Nat.zero_mul, Nat.add_zero]
        exact ⟨c2, c9, c10, c13, Nat.mod_lt _ (by decide)⟩
      | succ j =>
        have := hx j (by simpa using hj)
        have e : β + (j + 1) * 14 = β + 14 + j * 14 := by omega
        rw [e]
        exact this
    · rw [if_neg hok] at hp; cases hp
theorem oTold_ok {g : FuncId} (hL : TldLaw X.P g) (hE : ∀ args w, (callFunc g args).run X.P w = .ok (.enter g args) w) {F : Nat} (hf : Free H nx) : Tells (oTold F H nx) (CalR X g F H nx) := by
  show Tells (fun k => br (.bad 194) (frc (fun a => frc (fun b => br (.bad 194) (rowK H (blk a) fun n N _ _ => br (.bad 194) (frc (fun N => tldK b (fun r => frc (fun c => k c H nx) (Nat.add r 871509787656907713528983453696)) (sln a) N 0) (Nat.shiftRight N (Nat.shiftLeft (Nat.succ (off a)) 7))) (and' (Nat.ble 1 (sln a)) (Nat.ble (Nat.add (off a) (Nat.mul (sln a) 14)) n))) (and' (isSl a) (Nat.beq (hi b) 7))) (dig F 2)) (dig F 1)) (Nat.beq (dig F 0) 2)) _
  refine Tells.ifb fun h0 => Tells.frc (Tells.frc (Tells.ifb fun hab => Tells.row fun n N et op hg => Tells.ifb fun hok => Tells.frc (Tells.opt (T := fun r k => frc (fun c => k c H nx) (Nat.add r 871509787656907713528983453696)) (f := fun k => tldK (dig F 2) k (sln (dig F 1)) (Nat.shiftRight N (Nat.shiftLeft (Nat.succ (off (dig F 1))) 7)) 0) (o := tldP (dig F 2) (sln (dig F 1)) (Nat.shiftRight N (Nat.shiftLeft (Nat.succ (off (dig F 1))) 7)) 0) (fun k => tldK_eq (dig F 2) k (sln (dig F 1)) (Nat.shiftRight N (Nat.shiftLeft (Nat.succ (off (dig F 1))) 7)) 0) fun r hr => Tells.frcK ⟨(Grow.refl hf).toALe, fun I σ w args hI hS hA o' a' hrun => ?_⟩)))
  rw [and'_eq, Bool.and_eq_true, beq_iff] at hab
  obtain ⟨hsl, hb7⟩ := hab
  rw [and'_eq, Bool.and_eq_true, ble_iff, ble_iff] at hok
  have hle : off (dig F 1) + sln (dig F 1) * 14 ≤ n := hok.2
  obtain ⟨v, u, rfl, hv, hu⟩ := args_two hA (beq_iff.1 h0)
  obtain ⟨e, cap, hs⟩ := isSl_inv hv hsl
  obtain ⟨frm, rfl, ib, hb⟩ := int_of hu hb7
  have hn := hs.nlt
  have hseg : ∀ j, j < sln (dig F 1) * 14 → ∃ v, w.cell? ⟨e.B, e.β + off (dig F 1) + j, none⟩ = some v ∧ VR σ I (dig (Nat.shiftRight N (Nat.shiftLeft (Nat.succ (off (dig F 1))) 7)) j) v := fun j hj => by
    obtain ⟨v, h1, h2⟩ := hS.seg hg (o := off (dig F 1)) (m := sln (dig F 1) * 14) hle e hs.at_ j hj
    refine ⟨v, by rw [Nat.add_assoc]; exact h1, ?_⟩
    rw [dig_shrN, show Nat.succ (off (dig F 1)) + j = off (dig F 1) + j + 1 by omega]
    exact CRs.toV h2
  have hone : ∀ j, j < sln (dig F 1) * 14 → ∀ v, w.cell? ⟨e.B, e.β + off (dig F 1) + j, none⟩ = some v → v.oneCell' = true := fun j hj v hv => by
    obtain ⟨v', h1, h2⟩ := hS.seg hg (o := off (dig F 1)) (m := sln (dig F 1) * 14) hle e hs.at_ j hj
    rw [← Nat.add_assoc] at h1
    rw [h1] at hv
    cases hv
    exact h2.oneC
  obtain ⟨xs, hl, hr', hxs⟩ := tldP_law hb ib _ _ _ _ hseg hr
  have hvv := hs.val
  subst hvv
  have hcall := hL xs (fun j k => ((w.cell? ⟨e.B, e.β + off (dig F 1) + j * 14 + k, none⟩).getD .nilIface)) e.B (e.β + off (dig F 1)) cap frm w (by omega) (by omega) (fun j hj => by
      obtain ⟨q1, q2, q3, q4, q5⟩ := hxs j hj
      simp only [q1, q2, q3, q4, Option.getD_some, true_and]
      exact q5) (fun j k hj hk => by
      obtain ⟨v, h1, h2⟩ := hseg (j * 14 + k) (by omega)
      have h3 := hone (j * 14 + k) (by omega) v h1
      rw [← Nat.add_assoc] at h1
      simp only [h1, Option.getD_some]
      exact h3) (fun j k hj hk => by
      obtain ⟨v, h1, h2⟩ := hseg (j * 14 + k) (by omega)
      rw [← Nat.add_assoc] at h1
      simp only [h1, Option.getD_some])
  rw [hl] at hcall
  refine .enter (hrun.trans (hE _ _)) (hcall.mono ?_)
  rintro e' w' ⟨rfl, hst⟩
  refine ⟨_, rfl, σ, After.stays hS hst, ?_⟩
  have hr64 : r < 18446744073709551616 := by
    rw [hr']
    have key : ∀ (l : List TlX) (a : Nat), a < 18446744073709551616 → (∀ x ∈ l, x.txn < 18446744073709551616) → tlV frm l a < 18446744073709551616 := by
      intro l
      induction l with
      | nil => intro a ha _; exact ha
      | cons x l ih =>
        intro a ha hx
        refine ih _ ?_ fun y hy => hx y (List.mem_cons_of_mem _ hy)
        have := hx x (List.mem_cons_self ..)
        unfold tlStep
        split <;> omega
    refine key xs 0 (by decide) fun x hx => ?_
    obtain ⟨j, hj, rfl⟩ := List.mem_iff_getElem.1 hx
    exact (hxs j hj).2.2.2.2
  rw [← hr']
  refine CRp.toV ?_
  have h11 : hi (Nat.add r 871509787656907713528983453696) = 11 := by
    rw [hi_def]
    show (r + 871509787656907713528983453696) / _ = 11
    omega
  unfold CRp; rw [h11]
  refine ⟨(r : Int), rfl, ?_, ?_, ?_⟩
  · show (0 : Int) ≤ _; omega
  · show (r : Int) ≤ 18446744073709551615; omega
  · show r + 871509787656907713528983453696 = 871509787656907713528983453696 + (((r : Int) % 18446744073709551616).toNat); omega
end Go.Ev
set_option linter.unusedVariables false
set_option linter.unusedSimpArgs false
namespace Go.Ev
variable {X : Env} {o : Oper} {f : FR} {H : HT} {nx : Nat} {call : CallT}

/-! ### What makes memory -/
def MkR (X : Env) (o : Oper) (f : FR) (H : HT) (nx : Nat) (c : Nat) (H' : HT) (nx' : Nat) : Prop :=
  ∃ H1 n1 x, Grow H nx H1 n1 ∧ NewAt x H1 n1 H' ∧ nx' = n1 + 1 ∧ ∀ (I : Imm) (σ : Sig) (A : Act), Holds I H' nx' → FrameR σ I f A.tmps → σ n1 = none → ∀ w, ∃ v ob w' e,
    (execOp A.eval o).run X.P w = .ok (.value v) w' ∧ Pushed w ob w' ∧ e.B = w.heap.size ∧ (∀ w'' : World, w''.heap[e.B]? = some ob → ObjR (upd σ n1 e) I x e w'') ∧ VR (upd σ n1 e) I c v
theorem MkR.snd {c nx' : Nat} {H' : HT} (h : MkR X o f H nx c H' nx') : Snd X o f H nx c H' nx' := by
  obtain ⟨H1, n1, x, g, hn, rfl, h⟩ := h
  refine ⟨(g.trans hn.grow).toALe, fun I σ w A hI hS hF => ?_⟩
  have hS1 := hS.grow g
  obtain ⟨v, ob, w', e, h1, h2, h3, h4, h5⟩ := h I σ A hI hF (hS1.none (Nat.le_refl _)) w
  exact .value h1 ⟨_, (After.grow hS g).trans (hS1.newTo h2 hn h3 h4) g.le (fun b e hb => (hS.dom b e hb).1), h5⟩
theorem newRow_obj {σ : Sig} {I : Imm} {n1 n N et s B : Nat} {op : Bool} {cells : Array Value} {el : TypeId} (h0 : σ n1 = none) (hc : CellsR σ I n N cells) :
    ∀ w'' : World, w''.heap[(⟨B, 0, cells.size, s⟩ : SE).B]? = some (.cells cells el) → ObjR (upd σ n1 ⟨B, 0, cells.size, s⟩) I (.row n N et op) ⟨B, 0, cells.size, s⟩ w'' := fun w'' hw => by
  refine ⟨⟨cells, el, (0, 0), hw, by simp, hc.1, .inl (Nat.le_refl _), fun i hi => ?_⟩, fun _ => rfl⟩
  obtain ⟨v, h1, h2⟩ := hc.2 i hi
  exact ⟨v, by simpa using h1, h2.mono (sle_upd h0)⟩
theorem alloc_mk (hX : EnvOk X) {t : TypeId} (ho : o.op = .alloc t) (hf : Free H nx) : Tells (eAlloc t X call f H nx) (MkR X o f H nx) := by
  show Tells (fun k => br (.bad 33) (newVar (znT X t) (zNT X t) t H nx k) (zokT X t)) _
  refine Tells.ifb fun h => (newVar_tells hf).mono fun c H' nx' ⟨h1, h2, h3⟩ => ?_
  obtain ⟨i, v, z1, z2, z3, z4, z5⟩ := zok_def hX h
  rw [z3, z4] at h2
  refine ⟨H, nx, _, Grow.refl hf, h2, h1, fun I σ A hI hF h0 w => ⟨.pointer (some ⟨w.heap.size, 0, none⟩), .cells v.cells t, w.alloc (.cells v.cells t), ⟨w.heap.size, 0, v.cells.size, 0⟩, ?_, ⟨rfl, rfl, rfl⟩, rfl, newRow_obj h0 (zero_cells z5), (h3 _ I _ upd_same).toV⟩⟩
  simp only [execOp, ho, Instr.alloc, Sem.run_bind, run_zero z1 z2 w, Result.andThen_ok, Go.newVar, Go.newRow, run_newObj_alloc, pure, Sem.run]
theorem box_mk (hX : EnvOk X) {t : TypeId} {x : Operand} (ho : o.op = .box t x) (hf : Free H nx) : Tells (eBox t x X call f H nx) (MkR X o f H nx) := by
  show Tells (fun k => arg x f H nx fun a H nx => br (br (.bad 34) (newVar 1 (Nat.shiftLeft a 128) t H nx k) (and' (Nat.ble 237684487542793012780631851008 a) (not' (Nat.beq a 1822247737828079764651510857728)))) (aggK H a fun n N => newVar n N t H nx k) (Nat.beq (hi a) 1)) _
  refine Tells.bind (arg_tells hf) fun c H1 n1 ⟨g1, hA⟩ => ?_
  have fin : ∀ (n N : Nat), (∀ (I : Imm) (σ : Sig) (v : Value), Holds I H1 n1 → VR σ I c v → v.cells.size = n ∧ CellsR σ I n N v.cells) → Tells (newVar n N t H1 n1) (MkR X o f H nx) := by
    intro n N hc
    refine (newVar_tells g1.free).mono fun c' H' nx' ⟨h1, h2, h3⟩ => ⟨H1, n1, _, g1, h2, h1, fun I σ A hI hF h0 w => ?_⟩
    have hIb : Holds I H1 n1 := by subst h1; exact hI.back h2.grow.toALe
    obtain ⟨c1, c2⟩ := hc I σ _ hIb (hA I σ A hIb hF)
    refine ⟨.pointer (some ⟨w.heap.size, 0, none⟩), .cells (A.eval x).cells t, w.alloc (.cells (A.eval x).cells t), ⟨w.heap.size, 0, (A.eval x).cells.size, 0⟩, ?_, ⟨rfl, rfl, rfl⟩, rfl, newRow_obj h0 c2, (h3 _ I _ upd_same).toV⟩
    simp only [execOp, ho, Instr.box, Sem.run_bind, Result.andThen_ok, Go.newVar, Go.newRow, run_newObj_alloc, pure, Sem.run]
  refine Tells.ite (fun h => Tells.bind2 (aggK_tells g1.free) fun n N ⟨h1, h2⟩ => fin n N fun I σ v hI hv => ?_) fun h => Tells.ifb fun h2 => fin 1 _ fun I σ v hI hv => ?_
  · obtain ⟨cs, rfl, e2, e3⟩ := h2 I σ _ hI hv
    refine ⟨e2, by show n ≤ cs.size; omega, fun i hi => ?_⟩
    have hi' : i < cs.size := by omega
    exact ⟨cs[i], by simp [Value.cells, hi'], e3 i hi'⟩
  · simp only [and'_eq, not'_eq, Bool.and_eq_true, Bool.not_eq_true', beq_false, ble_iff] at h2
    have h3 : 3 ≤ hi c := by rw [hi_def]; omega
    rcases hv with hv | ⟨hv, _⟩ | hv
    · omega
    · exact (h2.2 hv).elim
    · have hs : CRs σ I c v := (hv.toA (by omega)).toS (by omega)
      rw [hs.one.cells]
      refine ⟨rfl, by simp, fun i hi => ⟨v, ?_, ?_⟩⟩
      · have : i = 0 := by omega
        subst this; rfl
      · have : i = 0 := by omega
        subst this
        rw [show dig (Nat.shiftLeft c 128) (0 + 1) = c from ?_]; exact hs
        have hl := hs.lt
        unfold dig
        show (c <<< 128) >>> (1 <<< 7) % _ = c
        rw [show (1 : Nat) <<< 7 = 128 from rfl, Nat.shiftLeft_shiftRight]
        exact Nat.mod_eq_of_lt hl
theorem buildSlice_mk (hX : EnvOk X) (hFo : FormOk X) {t : TypeId} {n : Nat} {ps : Array (Nat × Operand)} (ho : o.op = .buildSlice t n ps) (hf : Free H nx) : Tells (eBuildSlice t n ps X call f H nx) (MkR X o f H nx) := by
  show Tells (fun k => br (.bad 37) (fill (placeE X t) f X (fun N H nx => newRow (Nat.mul n (znT X (elemT X t))) N (elemT X t) false H nx fun i H nx => slK i 0 n n H nx k) ps.toList (Nat.mul n (znT X (elemT X t))) (rep n (znT X (elemT X t)) (zNT X (elemT X t))) H nx) (and' (zokT X (elemT X t)) (Nat.beq (kindT X t) 15))) _
  refine Tells.ifb fun hz => Tells.bind (fill_tells hX ps.toList _ H nx hf) fun N H1 n1 ⟨g1, h1⟩ => Tells.bind (newRow_tells g1.free) fun i H2 n2 ⟨e1, e2, e3, e4⟩ => slK_tells.mono fun c H' nx' ⟨e5, e6, e7⟩ => ?_
  subst e1 e2 e5 e6
  rw [and'_eq, Bool.and_eq_true, beq_iff] at hz
  have hu := elem_slice hX hz.2
  obtain ⟨ti, v, z1, z2, z3, z4, z5, z6, z7⟩ := szn hX hFo hz.1
  refine ⟨H1, _, _, g1, e4, rfl, fun I σ A hI hF h0 w => ?_⟩
  have hall : AllR σ I (Nat.mul n (znT X (elemT X t))) (rep n (znT X (elemT X t)) (zNT X (elemT X t))) ((Array.range (n * v.cells.size)).map ((if n * v.cells.size = 0 then #[] else v.cells)[· % (if n * v.cells.size = 0 then (#[] : Array Value) else v.cells).size]!)) := by
    rw [z5, z6]
    exact rep_all z7 fun h => by rw [if_neg h]
  obtain ⟨cells, f1, f2⟩ := h1 I σ A (fun i => some (i * ti.size, ti.size)) _ (hI.back e4.grow.toALe) hF (fun i o u hp => by
    unfold placeE at hp
    injection hp with hp; injection hp with q1 q2; subst q1 q2
    rw [z4, z3]) hall
  refine ⟨.slice (some ⟨w.heap.size, 0, none⟩) n n, .cells cells (elemT X t), w.alloc (.cells cells (elemT X t)), ⟨w.heap.size, 0, cells.size, szT X (elemT X t)⟩, ?_, ⟨rfl, rfl, rfl⟩, rfl, newRow_obj h0 f2.cells, (e7 _ I _ upd_same (by have := e4.lt; omega) (Nat.le_refl n)).toV⟩
  have hle : ¬ (n * ti.size > 2 ^ 24) := by
    have : n * znT X (elemT X t) ≤ 16777214 := e3
    rw [z5, ← z3] at this; omega
  rw [show execOp A.eval o = ((Instr.buildSlice t n (ps.map fun p => (p.1, A.eval p.2))) >>= fun v => pure (Next.value v)) from by unfold execOp; rw [ho]]
  have hcs : X.P.cellsOf (elemT X t) = v.cells.size := by simp [Program.cellsOf, z1, z3]
  rw [z3] at f1 hle
  by_cases h0 : n * v.cells.size = 0
  · simp only [if_pos h0] at f1
    simp only [Instr.buildSlice, Sem.run_bind, run_underlying hu, Result.andThen_ok, run_sizeOf w z1, hcs, Sem.run_ite, if_neg hle, if_pos h0, pure, Sem.run, Array.toList_map, f1, Go.newRow, run_newObj_alloc]
  · simp only [if_neg h0] at f1
    simp only [Instr.buildSlice, Sem.run_bind, run_underlying hu, Result.andThen_ok, run_sizeOf w z1, hcs, Sem.run_ite, if_neg hle, if_neg h0, run_zero z1 z2 w, pure, Sem.run, Array.toList_map, f1, Go.newRow, run_newObj_alloc]
theorem makeMap_mk {t : TypeId} {r : Option Operand} (ho : o.op = .makeMap t r) (hf : Free H nx) : Tells (eMakeMap t r X call f H nx) (MkR X o f H nx) := by
  cases r with
  | some x => exact Tells.bad
  | none =>
    show Tells (fun k => new (.map 0 0 .nil) H nx fun i H nx => frc (fun c => k c H nx) (mkMap i)) _
    refine Tells.bind (new_tells _ H nx hf) fun i H' nx' ⟨e1, e2, hn⟩ => ?_
    subst e1 e2
    refine Tells.frcK ⟨H, _, _, Grow.refl hf, hn, rfl, fun I σ A hI hF h0 w => ⟨.map (some w.heap.size), .map #[] 0, w.alloc (.map #[] 0), ⟨w.heap.size, 0, 0, 0⟩, ?_, ⟨rfl, rfl, rfl⟩, rfl, fun w' hw => ?_, (crp_map (e := ⟨w.heap.size, 0, 0, 0⟩) upd_same (by have := hn.lt; omega)).toV⟩⟩
    · simp only [execOp, ho, Option.map_none, Instr.makeMap, Sem.run_bind, run_newObj_alloc, Result.andThen_ok, pure, Sem.run]
    · exact ⟨#[], hw, trivial, List.nodup_nil, List.nodup_nil, fun b hb => absurd hb (by simp [birthsM]), rfl, fun k hk => absurd hk (by simp [keysM])⟩
theorem makeSlice_mk (hX : EnvOk X) (hFo : FormOk X) {t : TypeId} {l c : Operand} (ho : o.op = .makeSlice t l c) (hf : Free H nx) : Tells (eMakeSlice t l c X call f H nx) (MkR X o f H nx) := by
  show Tells (fun k => arg2 l c f H nx fun a b H nx => natK a fun n => natK b fun m =>
    br (.bad 58) (newRow (Nat.mul m (znT X (elemT X t))) (rep m (znT X (elemT X t)) (zNT X (elemT X t))) (elemT X t) false H nx fun i H nx => slK i 0 n m H nx k) (and' (zokT X (elemT X t)) (and' (Nat.ble n m) (Nat.beq (kindT X t) 15)))) _
  refine arg2_tells hf fun a b H1 n1 ⟨g1, hAB⟩ => ?_
  refine Tells.bind1 natK_tells fun n ⟨hn1, hn2, hn⟩ => Tells.bind1 natK_tells fun m ⟨hm1, hm2, hm⟩ => ?_
  refine Tells.ifb fun hz => Tells.bind (newRow_tells g1.free) fun i H2 n2 ⟨e1, e2, e3, e4⟩ => slK_tells.mono fun c' H' nx' ⟨e5, e6, e7⟩ => ?_
  subst e1 e2 e5 e6
  simp only [and'_eq, Bool.and_eq_true, beq_iff, ble_iff] at hz
  have hu := elem_slice hX hz.2.2
  obtain ⟨ti, v, z1, z2, z3, z4, z5, z6, z7⟩ := szn hX hFo hz.1
  refine ⟨H1, _, _, g1, e4, rfl, fun I σ A hI hF h0 w => ?_⟩
  obtain ⟨hA, hB⟩ := hAB I σ A (hI.back e4.grow.toALe) hF
  obtain ⟨k1, hk1⟩ := hn σ I _ hA
  obtain ⟨k2, hk2⟩ := hm σ I _ hB
  have hcs : X.P.cellsOf (elemT X t) = v.cells.size := by simp [Program.cellsOf, z1, z3]
  have hby := (zok_more hX hz.1 z1 z2).2.1
  have wl := wrap64 hn1
  have wm := wrap64 hm1
  have hmul : ti.bytes * m ≤ 8388608 * 16777214 := Nat.mul_le_mul hby hm1
  have hmul2 : (ti.bytes : Int) * (m : Int) ≤ 8388608 * 16777214 := by rw [← Int.natCast_mul]; omega
  have n1 : ¬ ((m : Int) < 0) := by omega
  have n2 : ¬ (281474976710656 < (ti.bytes : Int) * (m : Int)) := by omega
  have n3 : ¬ ((n : Int) < 0) := by omega
  have n4 : ¬ ((m : Int) < (n : Int)) := by omega
  have n5 : ¬ (140737488355328 < m * ti.bytes) := by rw [Nat.mul_comm]; omega
  have hall : AllR σ I (Nat.mul m (znT X (elemT X t))) (rep m (znT X (elemT X t)) (zNT X (elemT X t))) ((Array.range (m * v.cells.size)).map ((if m * v.cells.size = 0 then #[] else v.cells)[· % (if m * v.cells.size = 0 then (#[] : Array Value) else v.cells).size]!)) := by
    rw [z5, z6]
    exact rep_all z7 fun h => by rw [if_neg h]
  refine ⟨.slice (some ⟨w.heap.size, 0, none⟩) n m, .cells ((Array.range (m * v.cells.size)).map ((if m * v.cells.size = 0 then #[] else v.cells)[· % (if m * v.cells.size = 0 then (#[] : Array Value) else v.cells).size]!)) (elemT X t), w.alloc (.cells ((Array.range (m * v.cells.size)).map ((if m * v.cells.size = 0 then #[] else v.cells)[· % (if m * v.cells.size = 0 then (#[] : Array Value) else v.cells).size]!)) (elemT X t)), ⟨w.heap.size, 0, _, szT X (elemT X t)⟩, ?_, ⟨rfl, rfl, rfl⟩, rfl, newRow_obj h0 hall.cells, (e7 _ I _ upd_same (by have := e4.lt; omega) hz.2.1).toV⟩
  by_cases h0 : m * v.cells.size = 0
  · simp [execOp, ho, hk1, hk2, Instr.makeSlice, run_underlying hu, asInt, asIntOf, typeInfo, z1, sizeOf, wl, wm, n1, n2, n3, n4, n5, z3, h0, Go.newRow, askRoom, roomBytes]
  · simp [execOp, ho, hk1, hk2, Instr.makeSlice, run_underlying hu, asInt, asIntOf, typeInfo, zeroValue, z1, z2, sizeOf, wl, wm, n1, n2, n3, n4, n5, z3, h0, Go.newRow, askRoom, roomBytes]
end Go.Ev
set_option linter.unusedVariables false
set_option linter.unusedSimpArgs false
namespace Go.Ev
variable {X : Env} {o : Oper} {f : FR} {H : HT} {nx : Nat} {call : CallT}

theorem convert_mk (hX : EnvOk X) {s d : TypeId} {x : Operand} (ho : o.op = .convert s d x) (hf : Free H nx) (hd15 : kindT X d = 15) : Tells (eConvert s d x X call f H nx) (MkR X o f H nx) := by
  show Tells (fun k => arg x f H nx fun a H nx => br (.bad 51) (br (br (br (br (br (.bad 51)
        (k a H nx) (and' (Nat.beq (kindT X d) 12) (isS a)))
      (cvBytes X d a H nx k) (and' (Nat.beq (kindT X d) 15) (isS a)))
      (cvText X s a H nx k) (and' (Nat.beq (kindT X s) 15) (Nat.beq (kindT X d) 12)))
      (ints a a fun _ => wrK (kindT X d) (lo a) H nx k) (and' (isI (kindT X d)) (isI (hi a))))
      (cvSym a H nx k) (and' (Nat.beq (hi a) 24) (Nat.beq (kindT X d) 7))) (Nat.ble 1 (kindT X s))) _
  refine Tells.bind (arg_tells hf) fun a H1 n1 ⟨g1, hA⟩ => Tells.ifb fun hks => ?_
  obtain ⟨ds, hds⟩ := kind_some hX (ble_iff.1 hks)
  refine Tells.ite (fun hc => ?_) fun _ => Tells.ite (fun hc => ?_) fun _ => Tells.ite (fun hc => ?_) fun _ => Tells.ite (fun hc => ?_) fun _ => Tells.ifb fun hc => ?_
  · simp only [and'_eq, Bool.and_eq_true, beq_iff] at hc; omega
  · simp only [and'_eq, isI, Bool.and_eq_true, ble_iff] at hc; omega
  · simp only [and'_eq, Bool.and_eq_true, beq_iff] at hc; omega
  · have hdd := elem_slice hX hd15
    show Tells (fun k => br (.bad 54) (str a H1 fun n S => textCells n S fun N => newRow n N (elemT X d) true H1 n1 fun i H nx => slU i 0 n (szT X (elemT X d)) H nx k) (and' (Nat.beq (kindT X (elemT X d)) 8) (Nat.beq (szT X (elemT X d)) 1))) _
    refine Tells.ifb fun he8 => Tells.bind2 (str_tells g1.free) fun n S ⟨_, hS⟩ => ?_
    simp only [and'_eq, Bool.and_eq_true, beq_iff] at he8
    obtain ⟨k8, hk8, hk8'⟩ := kind_int hX (show 4 ≤ kindT X (elemT X d) by omega) (by omega)
    have : k8 = .u8 := intTag_inj (by rw [← hk8', he8.1]; rfl)
    subst this
    refine Tells.bind1 (textCells_tells (S := S) n 0 0 (by decide)) fun N hN => Tells.bind (newRow_tells g1.free) fun i H' nx' ⟨e1, e2, e3, hn⟩ => ?_
    subst e1 e2
    refine slU_tells.mono fun c H2 n2 ⟨e1, e2, hsl⟩ => ?_
    subst e1 e2
    refine ⟨H1, _, _, g1, hn, rfl, fun I σ A hI hF h0 w => ?_⟩
    have hIb := hI.back hn.grow.toALe
    obtain ⟨s, hs1, hs2⟩ := hS I σ _ hIb (hA I σ A hIb hF)
    obtain ⟨cap, cells, w', q1, q2, q3, q4, q5⟩ := run_stringToBytes (P := X.P) (el := elemT X d) (s := s) (w := w)
    have hns : n = s.size := by rw [hs2.len]; simp
    refine ⟨_, _, w', ⟨w.heap.size, 0, cells.size, 1⟩, run_cvOp ho (by rw [hs1, run_cvBytes hds hdd hk8, q5]), q4, rfl, fun w2 hw2 => ⟨⟨cells, _, _, hw2, by simp, by show n ≤ cells.size; omega, .inr ⟨rfl, .inr (by simp)⟩, fun j hj => ?_⟩, fun _ => rfl⟩, ?_⟩
    · have hj' : j < s.data.toList.length := by rw [← hs2.len]; exact hj
      refine ⟨_, by simpa using q3 j hj', ?_⟩
      exact text_cells hs2 (fun i hi => hN.2.2 i (by omega) (by omega)) j hj'
    · have := hsl (upd σ i ⟨w.heap.size, 0, cells.size, 1⟩) I ⟨w.heap.size, 0, cells.size, 1⟩ cap upd_same (by have := hn.lt; omega) (by omega) (by show (1:Nat) = _; omega) (by show 0 + cap * _ = cells.size; rw [he8.2]; omega)
      rw [hns] at this
      exact this.toV
  · simp only [and'_eq, Bool.and_eq_true, beq_iff] at hc; omega

/-! ### What an operation is, by its class -/
/-- what is looked at: the operand, how many cells -/
def RdOf (X : Env) (o : Op) (x : Operand) (m : Nat → Nat) : Prop := (∃ t, o = .load t x ∧ m = fun _ => szT X t) ∨ (∃ s d, o = .convert s d x ∧ m = sln)
def Res (X : Env) (o : Oper) (f : FR) (H : HT) (nx : Nat) (c : Nat) (H' : HT) (nx' : Nat) : Prop :=
  match cls X o.op with
  | 0 => Pur X o f H nx c H' nx'
  | 1 => MkR X o f H nx c H' nx'
  | 2 => Pur X o f H nx c H' nx' ∨ ∃ x m, RdOf X o.op x m ∧ Rd X o x m f H nx c H' nx'
  | _ => Snd X o f H nx c H' nx'
theorem Res.snd {c nx' : Nat} {H' : HT} (h : Res X o f H nx c H' nx') : Snd X o f H nx c H' nx' := by
  unfold Res at h
  split at h
  · exact h.snd
  · exact h.snd
  · rcases h with h | ⟨x, m, _, h⟩
    · exact h.snd
    · exact h.snd
  · exact h
theorem res0 (hc : cls X o.op = 0) {G : K0 → Out} (h : Tells G (Pur X o f H nx)) : Tells G (Res X o f H nx) := h.mono fun c H' nx' h => by unfold Res; rw [hc]; exact h
theorem res1 (hc : cls X o.op = 1) {G : K0 → Out} (h : Tells G (MkR X o f H nx)) : Tells G (Res X o f H nx) := h.mono fun c H' nx' h => by unfold Res; rw [hc]; exact h
theorem res2 (hc : cls X o.op = 2) {x : Operand} {m : Nat → Nat} (hr : RdOf X o.op x m) {G : K0 → Out} (h : Tells G (Rd X o x m f H nx)) : Tells G (Res X o f H nx) := h.mono fun c H' nx' h => by unfold Res; rw [hc]; exact .inr ⟨x, m, hr, h⟩
theorem res3 (hc : cls X o.op = 3) {G : K0 → Out} (h : Tells G (Snd X o f H nx)) : Tells G (Res X o f H nx) := h.mono fun c H' nx' h => by unfold Res; rw [hc]; exact h
theorem opD_res (hX : EnvOk X) (hFo : FormOk X) (hT : 3 ≤ X.P.types.size) (hc : CallOk X call) (hf : Free H nx) (o : Oper) : Tells (opD X o.op X call f H nx) (Res X o f H nx) := by
  have three : cls X o.op = 3 → Tells (opD X o.op X call f H nx) (Res X o f H nx) := fun h => by
    have e : opD X o.op = opF o.op := by unfold opD; rw [h]; rfl
    rw [e]; exact res3 h (opF_snd hX hFo hT hc hf o)
  have zero : cls X o.op = 0 → opPure o.op = opF o.op → Tells (opF o.op X call f H nx) (Pur X o f H nx) → Tells (opD X o.op X call f H nx) (Res X o f H nx) := fun h e2 hp => by
    have e : opD X o.op = opF o.op := by unfold opD; rw [h]; exact e2
    rw [e]; exact res0 h hp
  have one : cls X o.op = 1 → Tells (opF o.op X call f H nx) (MkR X o f H nx) → Tells (opD X o.op X call f H nx) (Res X o f H nx) := fun h hp => by
    have e : opD X o.op = opF o.op := by unfold opD; rw [h]; rfl
    rw [e]; exact res1 h hp
  cases ho : o.op with
  | move x => rw [← ho]; exact zero (by rw [ho]; rfl) (by rw [ho]; rfl) (by rw [ho]; exact move_pur (call := call) (.inl ho) hf)
  | assign x => rw [← ho]; exact zero (by rw [ho]; rfl) (by rw [ho]; rfl) (by rw [ho]; exact move_pur (call := call) (.inr ho) hf)
  | pick c a b => rw [← ho]; exact zero (by rw [ho]; rfl) (by rw [ho]; rfl) (by rw [ho]; exact pick_pur (call := call) ho hf)
  | alloc t => rw [← ho]; exact one (by rw [ho]; rfl) (by rw [ho]; exact alloc_mk (call := call) hX ho hf)
  | box t x => rw [← ho]; exact one (by rw [ho]; rfl) (by rw [ho]; exact box_mk (call := call) hX ho hf)
  | build t ps => rw [← ho]; exact zero (by rw [ho]; rfl) (by rw [ho]; rfl) (by rw [ho]; exact build_pur (call := call) hX hFo ho hf)
  | buildSlice t n ps => rw [← ho]; exact one (by rw [ho]; rfl) (by rw [ho]; exact buildSlice_mk (call := call) hX hFo ho hf)
  | load t x =>
    have hcl : cls X o.op = 2 := by rw [ho]; rfl
    have e : opD X o.op = opF o.op := by unfold opD; rw [hcl]; rfl
    rw [← ho, e, ho]
    exact res2 hcl (.inl ⟨t, ho, rfl⟩) (load_rd (call := call) hX hFo ho hf)
  | nilCheck x => rw [← ho]; exact zero (by rw [ho]; rfl) (by rw [ho]; rfl) (by rw [ho]; exact nil_pur (call := call) ho hf)
  | binOp op t x y u => rw [← ho]; exact zero (by rw [ho]; rfl) (by rw [ho]; rfl) (by rw [ho]; exact bin_pur (call := call) hX hT ho hf)
  | unOp op t x => rw [← ho]; exact zero (by rw [ho]; rfl) (by rw [ho]; rfl) (by rw [ho]; exact un_pur (call := call) ho hf)
  | convert s d x =>
    have hcl : cls X o.op = if kindT X d == 15 then 1 else if kindT X s == 15 then 2 else 0 := by rw [ho]; rfl
    by_cases h1 : kindT X d = 15
    · rw [← ho]
      have hcl1 : cls X o.op = 1 := by rw [hcl, h1]; rfl
      exact one hcl1 (by rw [ho]; exact convert_mk (call := call) hX ho hf h1)
    · have h1' : (kindT X d == 15) = false := by simpa using h1
      by_cases h2 : kindT X s = 15
      · have hcl2 : cls X o.op = 2 := by rw [hcl, h1', h2]; rfl
        have e : opD X o.op = opF o.op := by unfold opD; rw [hcl2]; rfl
        rw [← ho, e, ho]
        refine (convert_tells (call := call) hX hFo ho hf).mono fun c H' nx' h => ?_
        unfold Res; rw [hcl2]
        rcases h with h | ⟨_, h⟩ | ⟨h, _⟩
        · exact .inl h
        · exact .inr ⟨x, sln, .inr ⟨s, d, ho, rfl⟩, h⟩
        · exact absurd h h1
      · have h2' : (kindT X s == 15) = false := by simpa using h2
        have hcl0 : cls X o.op = 0 := by rw [hcl, h1', h2']; rfl
        rw [← ho]
        refine zero hcl0 (by rw [ho]; rfl) ?_
        rw [ho]
        refine (convert_tells (call := call) hX hFo ho hf).mono fun c H' nx' h => ?_
        rcases h with h | ⟨h, _⟩ | ⟨h, _⟩
        · exact h
        · exact absurd h h2
        · exact absurd h h1
  | makeInterface t x => rw [← ho]; exact zero (by rw [ho]; rfl) (by rw [ho]; rfl) (by rw [ho]; exact iface_pur (call := call) hX ho hf)
  | makeFunc fn a b => rw [← ho]; exact zero (by rw [ho]; rfl) (by rw [ho]; rfl) (by rw [ho]; exact makeFunc_pur (call := call) ho hf)
  | makeMap t r => rw [← ho]; exact one (by rw [ho]; rfl) (by rw [ho]; exact makeMap_mk (call := call) ho hf)
  | makeSlice t l c => rw [← ho]; exact one (by rw [ho]; rfl) (by rw [ho]; exact makeSlice_mk (call := call) hX hFo ho hf)
  | slice t x l h m =>
    have hcl : cls X o.op = 0 := by rw [ho]; rfl
    have e : opD X o.op = eSlice0 false t x l h m := by unfold opD; rw [hcl, ho]; rfl
    rw [← ho, e]
    exact res0 hcl (slice_pur (call := call) hX hFo ho hf)
  | fieldAddr t x i => rw [← ho]; exact zero (by rw [ho]; rfl) (by rw [ho]; rfl) (by rw [ho]; exact fieldAddr_pur (call := call) hX ho hf)
  | field t x i => rw [← ho]; exact zero (by rw [ho]; rfl) (by rw [ho]; rfl) (by rw [ho]; exact field_pur (call := call) hX hFo ho hf)
  | indexAddr t x i => rw [← ho]; exact zero (by rw [ho]; rfl) (by rw [ho]; rfl) (by rw [ho]; exact indexAddr_pur (call := call) hX ho hf)
  | index t x i => rw [← ho]; exact zero (by rw [ho]; rfl) (by rw [ho]; rfl) (by rw [ho]; exact index_pur (call := call) hX hFo ho hf)
  | typeAssert x t u ok => rw [← ho]; exact zero (by rw [ho]; rfl) (by rw [ho]; rfl) (by rw [ho]; exact assert_pur (call := call) hX ho hf)
  | extract x i => rw [← ho]; exact zero (by rw [ho]; rfl) (by rw [ho]; rfl) (by rw [ho]; exact extract_pur (call := call) ho hf)
  | call c =>
    obtain ⟨callee, xs, ts⟩ := c
    cases callee with
    | value x => rw [← ho]; exact three (by rw [ho]; rfl)
    | invoke x name => rw [← ho]; exact three (by rw [ho]; rfl)
    | builtin b =>
      cases b with
      | len =>
        have hcl : cls X o.op = 0 := by rw [ho]; rfl
        have e : opD X o.op = fun X _ f H nx k => withT ts 0 fun t => arg (nth xs 0) f H nx fun a H nx => bLenS t a X H nx k := by unfold opD; rw [hcl, ho]; rfl
        rw [← ho, e]
        exact res0 hcl (lenS_pur hX ho hf)
      | min => rw [← ho]; exact zero (by rw [ho]; rfl) (by rw [ho]; rfl) (by rw [ho]; exact minmax_pur (mx := false) ho hf)
      | max => rw [← ho]; exact zero (by rw [ho]; rfl) (by rw [ho]; rfl) (by rw [ho]; exact minmax_pur (mx := true) ho hf)
      | _ => rw [← ho]; exact three (by rw [ho]; rfl)
  | _ => rw [← ho]; exact three (by rw [ho]; rfl)
end Go.Ev
set_option linter.unusedVariables false
set_option linter.unusedSimpArgs false
namespace Go.Ev
variable {X : Env} {f f' : FR} {call : CallT}

/-! ### An operation looks at its operands alone -/
def Agree (l : List Operand) (f f' : FR) : Prop := ∀ x ∈ l, ∀ t, x = .tmp t → fget t f = fget t f'
theorem arg_agree {x : Operand} (h : ∀ t, x = .tmp t → fget t f = fget t f') : arg x f = arg x f' := by
  cases x with
  | tmp t =>
    funext H nx k
    show frc (fun c => k c H nx) (fget t f) = frc (fun c => k c H nx) (fget t f')
    rw [h t rfl]
  | _ => rfl
theorem Agree.arg {l : List Operand} (h : Agree l f f') {x : Operand} (hx : x ∈ l) : Ev.arg x f = Ev.arg x f' := arg_agree (h x hx)
theorem Agree.sub {l l' : List Operand} (h : Agree l f f') (hs : ∀ x ∈ l', x ∈ l) : Agree l' f f' := fun x hx => h x (hs x hx)
theorem optK_agree {x : Option Operand} {d : Nat} (h : ∀ y, x = some y → Ev.arg y f = Ev.arg y f') : optK x d f = optK x d f' := by
  cases x with
  | none => rfl
  | some y =>
    funext H nx k
    show (Ev.arg y f H nx fun c H nx => natK c fun n => k n H nx) = (Ev.arg y f' H nx fun c H nx => natK c fun n => k n H nx)
    rw [h y rfl]
theorem fill_agree {place : Nat → Option (Nat × TypeId)} {k : K0} {n : Nat} : ∀ (ps : List (Nat × Operand)), Agree (ps.map (·.2)) f f' → ∀ N H nx, fill place f X k ps n N H nx = fill place f' X k ps n N H nx
  | [], _, N, H, nx => rfl
  | p :: ps, h, N, H, nx => by
    have ih := fill_agree (place := place) (k := k) (n := n) ps (h.sub fun x hx => by simp at hx ⊢; exact .inr hx)
    show (match place p.1 with
      | some (o, t) => Ev.arg p.2 f H nx fun c H nx => br (.bad 35) (lay (aggT X t) (szT X t) N o c H fun N => fill place f X k ps n N H nx) (Nat.ble (Nat.add o (szT X t)) n)
      | none => .bad 35) = (match place p.1 with
      | some (o, t) => Ev.arg p.2 f' H nx fun c H nx => br (.bad 35) (lay (aggT X t) (szT X t) N o c H fun N => fill place f' X k ps n N H nx) (Nat.ble (Nat.add o (szT X t)) n)
      | none => .bad 35)
    rw [h.arg (x := p.2) (by simp)]
    simp only [ih]
theorem packC_agree {k : K0} : ∀ (xs : List Operand), Agree xs f f' → ∀ j N H nx, packCA f k xs j N H nx = packCA f' k xs j N H nx
  | [], _, j, N, H, nx => rfl
  | x :: xs, h, j, N, H, nx => by
    have ih := packC_agree (k := k) xs (h.sub fun x hx => by simp [hx])
    show (Ev.arg x f H nx fun c H nx => br (.bad 56) (frc (fun N => frc (fun j => packCA f k xs j N H nx) (Nat.succ j)) (Nat.add N (Nat.shiftLeft c (Nat.shiftLeft j 7)))) _) = (Ev.arg x f' H nx fun c H nx => br (.bad 56) (frc (fun N => frc (fun j => packCA f' k xs j N H nx) (Nat.succ j)) (Nat.add N (Nat.shiftLeft c (Nat.shiftLeft j 7)))) _)
    rw [h.arg (x := x) (by simp)]
    simp only [ih]
theorem packK_agree {k : K0} : ∀ (xs : List Operand), Agree xs f f' → ∀ j N H nx, packKA f k xs j N H nx = packKA f' k xs j N H nx
  | [], _, j, N, H, nx => rfl
  | x :: xs, h, j, N, H, nx => by
    have ih := packK_agree (k := k) xs (h.sub fun x hx => by simp [hx])
    show (Ev.arg x f H nx fun c H nx => frc (fun N => frc (fun j => packKA f k xs j N H nx) (Nat.succ j)) (Nat.add N (Nat.shiftLeft c (Nat.shiftLeft j 7)))) = (Ev.arg x f' H nx fun c H nx => frc (fun N => frc (fun j => packKA f' k xs j N H nx) (Nat.succ j)) (Nat.add N (Nat.shiftLeft c (Nat.shiftLeft j 7))))
    rw [h.arg (x := x) (by simp)]
    simp only [ih]
theorem minmax_agree {mx : Bool} {k : K0} : ∀ (xs : List Operand), Agree xs f f' → ∀ a H nx, minmaxA mx f k xs a H nx = minmaxA mx f' k xs a H nx
  | [], _, a, H, nx => rfl
  | x :: xs, h, a, H, nx => by
    have ih := minmax_agree (mx := mx) (k := k) xs (h.sub fun x hx => by simp [hx])
    show (Ev.arg x f H nx fun b H nx => br (ints a b fun h => br (minmaxA mx f k xs a H nx) (minmaxA mx f k xs b H nx) _) (mmS mx a b fun c => minmaxA mx f k xs c H nx) _) = (Ev.arg x f' H nx fun b H nx => br (ints a b fun h => br (minmaxA mx f' k xs a H nx) (minmaxA mx f' k xs b H nx) _) (mmS mx a b fun c => minmaxA mx f' k xs c H nx) _)
    rw [h.arg (x := x) (by simp)]
    simp only [ih]
theorem nth_agree {xs : Array Operand} {i : Nat} (h : Agree xs.toList f f') : Ev.arg (nth xs i) f = Ev.arg (nth xs i) f' := by
  rcases nth_cases xs i with e | e
  · rw [e]; rfl
  · exact h.arg (List.mem_of_getElem? e)
theorem slice_agree {own : Bool} {t : TypeId} {x : Operand} {l h m : Option Operand} (hx : Ev.arg x f = Ev.arg x f') (hl : ∀ y, l = some y → Ev.arg y f = Ev.arg y f') (hh : ∀ y, h = some y → Ev.arg y f = Ev.arg y f') (hm : ∀ y, m = some y → Ev.arg y f = Ev.arg y f') (H : HT) (nx : Nat) (k : K0) :
    eSlice0 own t x l h m X call f H nx k = eSlice0 own t x l h m X call f' H nx k := by
  have e1 : ∀ d, optK l d f = optK l d f' := fun d => optK_agree hl
  have e2 : ∀ d, optK h d f = optK h d f' := fun d => optK_agree hh
  have e3 : ∀ d, optK m d f = optK m d f' := fun d => optK_agree hm
  have e4 : ∀ a l s kb H nx k, slOpenB a l s kb h m f H nx k = slOpenB a l s kb h m f' H nx k := fun a l s kb H nx k => by
    unfold slOpenB
    rw [e2]
    cases m with
    | none => rfl
    | some y => simp only [hm y rfl]
  unfold eSlice0 slNil slKnown slOpen slArr slStr
  simp only [hx, e1, e2, e3, e4]
theorem opF_agree (o : Op) (h : Agree o.operands.toList f f') (H : HT) (nx : Nat) (k : K0) : opF o X call f H nx k = opF o X call f' H nx k := by
  cases o with
  | move x => have hx := h.arg (x := x) (by simp [Op.operands]); show eMove x X call f H nx k = eMove x X call f' H nx k; unfold eMove; rw [hx]
  | assign x => have hx := h.arg (x := x) (by simp [Op.operands]); show eMove x X call f H nx k = eMove x X call f' H nx k; unfold eMove; rw [hx]
  | pick c a b =>
    have h1 := h.arg (x := c) (by simp [Op.operands]); have h2 := h.arg (x := a) (by simp [Op.operands]); have h3 := h.arg (x := b) (by simp [Op.operands])
    show ePick c a b X call f H nx k = ePick c a b X call f' H nx k; unfold ePick; simp only [h1, h2, h3]
  | alloc t => rfl
  | box t x => have hx := h.arg (x := x) (by simp [Op.operands]); show eBox t x X call f H nx k = eBox t x X call f' H nx k; unfold eBox; simp only [hx]
  | build t ps =>
    have hf : ∀ (k : K0) n N H nx, fill (placeB X t) f X k ps.toList n N H nx = fill (placeB X t) f' X k ps.toList n N H nx := fun k n N H nx => fill_agree ps.toList (h.sub fun x hx => by simpa [Op.operands] using hx) N H nx
    show eBuild t ps X call f H nx k = eBuild t ps X call f' H nx k; unfold eBuild; simp only [hf]
  | buildSlice t n ps =>
    have hf : ∀ (k : K0) n N H nx, fill (placeE X t) f X k ps.toList n N H nx = fill (placeE X t) f' X k ps.toList n N H nx := fun k n N H nx => fill_agree ps.toList (h.sub fun x hx => by simpa [Op.operands] using hx) N H nx
    show eBuildSlice t n ps X call f H nx k = eBuildSlice t n ps X call f' H nx k; unfold eBuildSlice; simp only [hf]
  | insert t a b c =>
    have h1 := h.arg (x := a) (by simp [Op.operands]); have h2 := h.arg (x := b) (by simp [Op.operands]); have h3 := h.arg (x := c) (by simp [Op.operands])
    show eMapUpdate t a b c X call f H nx k = eMapUpdate t a b c X call f' H nx k; unfold eMapUpdate arg2; simp only [h1, h2, h3]
  | load t x => have hx := h.arg (x := x) (by simp [Op.operands]); show eLoad t x X call f H nx k = eLoad t x X call f' H nx k; unfold eLoad; simp only [hx]
  | store t a b =>
    have h1 := h.arg (x := a) (by simp [Op.operands]); have h2 := h.arg (x := b) (by simp [Op.operands])
    show eStore t a b X call f H nx k = eStore t a b X call f' H nx k; unfold eStore arg2; simp only [h1, h2]
  | ready g => rfl
  | waits g => rfl
  | nilCheck x => have hx := h.arg (x := x) (by simp [Op.operands]); show eNil x X call f H nx k = eNil x X call f' H nx k; unfold eNil; simp only [hx]
  | binOp op t a b u =>
    have h1 := h.arg (x := a) (by simp [Op.operands]); have h2 := h.arg (x := b) (by simp [Op.operands])
    show eBin op t a b u X call f H nx k = eBin op t a b u X call f' H nx k
    cases op <;> first
      | (show eEql t a b X call f H nx k = eEql t a b X call f' H nx k; unfold eEql arg2; simp only [h1, h2]; done)
      | (show eNeq t a b X call f H nx k = eNeq t a b X call f' H nx k; unfold eNeq arg2; simp only [h1, h2]; done)
      | (show eBin0 _ t a b X call f H nx k = eBin0 _ t a b X call f' H nx k; unfold eBin0 arg2; simp only [h1, h2]; done)
  | unOp op t x => have hx := h.arg (x := x) (by simp [Op.operands]); show eUn op t x X call f H nx k = eUn op t x X call f' H nx k; unfold eUn; simp only [hx]
  | convert s d x => have hx := h.arg (x := x) (by simp [Op.operands]); show eConvert s d x X call f H nx k = eConvert s d x X call f' H nx k; unfold eConvert; simp only [hx]
  | sliceToArrayPointer d x => rfl
  | makeInterface t x => have hx := h.arg (x := x) (by simp [Op.operands]); show eIface t x X call f H nx k = eIface t x X call f' H nx k; unfold eIface; simp only [hx]
  | makeFunc fn a b =>
    cases fn with
    | func g =>
      have ha : ∀ k H nx, packC f k a.toList H nx = packC f' k a.toList H nx := fun k H nx => packC_agree a.toList (h.sub fun x hx => by simp [Op.operands]; exact .inl (by simpa using hx)) 1 0 H nx
      have hb : ∀ k H nx, packC f k b.toList H nx = packC f' k b.toList H nx := fun k H nx => packC_agree b.toList (h.sub fun x hx => by simp [Op.operands]; exact .inr (by simpa using hx)) 1 0 H nx
      show eMakeFunc (.func g) a b X call f H nx k = eMakeFunc (.func g) a b X call f' H nx k
      unfold eMakeFunc
      simp only [ha, hb]
    | _ => rfl
  | makeMap t r => rfl
  | makeChan t x => have hx := h.arg (x := x) (by simp [Op.operands]); show eMakeChan t x X call f H nx k = eMakeChan t x X call f' H nx k; unfold eMakeChan; simp only [hx]
  | makeSlice t a b =>
    have h1 := h.arg (x := a) (by simp [Op.operands]); have h2 := h.arg (x := b) (by simp [Op.operands])
    show eMakeSlice t a b X call f H nx k = eMakeSlice t a b X call f' H nx k; unfold eMakeSlice arg2; simp only [h1, h2]
  | slice t x l hh m =>
    exact slice_agree (call := call) (h.arg (by simp [Op.operands])) (fun y hy => h.arg (by simp [Op.operands, hy])) (fun y hy => h.arg (by simp [Op.operands, hy])) (fun y hy => h.arg (by simp [Op.operands, hy])) H nx k
  | fieldAddr t x i => have hx := h.arg (x := x) (by simp [Op.operands]); show eFieldAddr t x i X call f H nx k = eFieldAddr t x i X call f' H nx k; unfold eFieldAddr; simp only [hx]
  | field t x i => have hx := h.arg (x := x) (by simp [Op.operands]); show eField t x i X call f H nx k = eField t x i X call f' H nx k; unfold eField; simp only [hx]
  | indexAddr t a b =>
    have h1 := h.arg (x := a) (by simp [Op.operands]); have h2 := h.arg (x := b) (by simp [Op.operands])
    show eIndexAddr t a b X call f H nx k = eIndexAddr t a b X call f' H nx k; unfold eIndexAddr arg2; simp only [h1, h2]
  | index t a b =>
    have h1 := h.arg (x := a) (by simp [Op.operands]); have h2 := h.arg (x := b) (by simp [Op.operands])
    show eIndex t a b X call f H nx k = eIndex t a b X call f' H nx k; unfold eIndex arg2; simp only [h1, h2]
  | lookup t a b ok =>
    have h1 := h.arg (x := a) (by simp [Op.operands]); have h2 := h.arg (x := b) (by simp [Op.operands])
    show eLookup t a b ok X call f H nx k = eLookup t a b ok X call f' H nx k; unfold eLookup arg2; simp only [h1, h2]
  | mapUpdate t a b c =>
    have h1 := h.arg (x := a) (by simp [Op.operands]); have h2 := h.arg (x := b) (by simp [Op.operands]); have h3 := h.arg (x := c) (by simp [Op.operands])
    show eMapUpdate t a b c X call f H nx k = eMapUpdate t a b c X call f' H nx k; unfold eMapUpdate arg2; simp only [h1, h2, h3]
  | mapEntry t a b =>
    have h1 := h.arg (x := a) (by simp [Op.operands]); have h2 := h.arg (x := b) (by simp [Op.operands])
    show eMapEntry t a b X call f H nx k = eMapEntry t a b X call f' H nx k; unfold eMapEntry arg2; simp only [h1, h2]
  | entryStore t a b c =>
    have h1 := h.arg (x := a) (by simp [Op.operands]); have h2 := h.arg (x := b) (by simp [Op.operands]); have h3 := h.arg (x := c) (by simp [Op.operands])
    show eEntryStore t a b c X call f H nx k = eEntryStore t a b c X call f' H nx k; unfold eEntryStore arg2; simp only [h1, h2, h3]
  | range t x => have hx := h.arg (x := x) (by simp [Op.operands]); show eRange t x X call f H nx k = eRange t x X call f' H nx k; unfold eRange; simp only [hx]
  | next x s => have hx := h.arg (x := x) (by simp [Op.operands]); show eNext x s X call f H nx k = eNext x s X call f' H nx k; unfold eNext; simp only [hx]
  | entry x => have hx := h.arg (x := x) (by simp [Op.operands]); show eEntry x X call f H nx k = eEntry x X call f' H nx k; unfold eEntry; simp only [hx]
  | typeAssert x t u ok => have hx := h.arg (x := x) (by simp [Op.operands]); show eAssert x t u ok X call f H nx k = eAssert x t u ok X call f' H nx k; unfold eAssert; simp only [hx]
  | extract x i => have hx := h.arg (x := x) (by simp [Op.operands]); show eExtract x i X call f H nx k = eExtract x i X call f' H nx k; unfold eExtract; simp only [hx]
  | call c =>
    obtain ⟨callee, xs, ts⟩ := c
    have hxs : Agree xs.toList f f' := h.sub fun x hx => by simp [Op.operands, Call.operands]; exact .inr (by simpa using hx)
    have hp : ∀ k H nx, packK f k xs.toList H nx = packK f' k xs.toList H nx := fun k H nx => packK_agree xs.toList hxs 1 0 H nx
    cases callee with
    | value x =>
      have hx : Ev.arg x f = Ev.arg x f' := h.arg (by simp [Op.operands, Call.operands])
      have hv : eCallV x xs X call f H nx k = eCallV x xs X call f' H nx k := by unfold eCallV; simp only [hx, hp]
      cases x with
      | func g => show eCallF g xs X call f H nx k = eCallF g xs X call f' H nx k; unfold eCallF; simp only [hp]
      | tmp t => exact hv
      | const v => exact hv
      | global g => exact hv
    | invoke x name =>
      have hx : Ev.arg x f = Ev.arg x f' := h.arg (by simp [Op.operands, Call.operands])
      show eInvoke x name xs X call f H nx k = eInvoke x name xs X call f' H nx k; unfold eInvoke; simp only [hx, hp]
    | builtin b =>
      have n0 := nth_agree (i := 0) hxs
      have n1 := nth_agree (i := 1) hxs
      show eBuiltin b xs ts X call f H nx k = eBuiltin b xs ts X call f' H nx k
      have hmm : ∀ mx k a H nx, minmax mx f k (xs.toList.drop 1) a H nx = minmax mx f' k (xs.toList.drop 1) a H nx := fun mx k a H nx => minmax_agree (mx := mx) (k := k) (xs.toList.drop 1) (hxs.sub fun x hx => List.mem_of_mem_drop hx) a H nx
      cases b <;> first | rfl | (simp only [eBuiltin, arg2, n0, n1, hmm]; done)
  | go c => rfl
  | defer c => rfl
  | panic x => rfl
  | send a b =>
    have h1 := h.arg (x := a) (by simp [Op.operands]); have h2 := h.arg (x := b) (by simp [Op.operands])
    show eSend a b X call f H nx k = eSend a b X call f' H nx k; unfold eSend arg2; simp only [h1, h2]
  | recv t a ok => have hx := h.arg (x := a) (by simp [Op.operands]); show eRecv t a ok X call f H nx k = eRecv t a ok X call f' H nx k; unfold eRecv; simp only [hx]
  | select cs b =>
    show eSelect cs b X call f H nx k = eSelect cs b X call f' H nx k
    by_cases hs : ∃ s, cs = #[s] ∧ b = false
    · obtain ⟨s, rfl, rfl⟩ := hs
      have hc : Ev.arg s.chan f = Ev.arg s.chan f' := h.arg (by simp [Op.operands])
      show (match s.send with | none => selRecv s.chan s.elem | some v => selSend s.chan v s.elem) X call f H nx k = (match s.send with | none => selRecv s.chan s.elem | some v => selSend s.chan v s.elem) X call f' H nx k
      cases hsend : s.send with
      | none => show selRecv s.chan s.elem X call f H nx k = selRecv s.chan s.elem X call f' H nx k; unfold selRecv; simp only [hc]
      | some v =>
        have hv : Ev.arg v f = Ev.arg v f' := h.arg (by simp [Op.operands, hsend])
        show selSend s.chan v s.elem X call f H nx k = selSend s.chan v s.elem X call f' H nx k; unfold selSend arg2; simp only [hc, hv]
    · have : eSelect cs b = no0 := by
        obtain ⟨l⟩ := cs
        unfold eSelect
        match l, b with
        | [s], false => exact absurd ⟨s, rfl, rfl⟩ hs
        | [], false => rfl
        | _ :: _ :: _, false => rfl
        | [], true => rfl
        | [_], true => rfl
        | _ :: _ :: _, true => rfl
      rw [this]; rfl
theorem opD_agree (o : Op) (h : Agree o.operands.toList f f') (H : HT) (nx : Nat) (k : K0) : opD X o X call f H nx k = opD X o X call f' H nx k := by
  have hF := opF_agree (X := X) (call := call) o h H nx k
  have hP : opPure o X call f H nx k = opPure o X call f' H nx k := by
    unfold opPure
    split
    · rename_i t x l hh m
      exact slice_agree (call := call) (h.arg (by simp [Op.operands])) (fun y hy => h.arg (by simp [Op.operands, hy])) (fun y hy => h.arg (by simp [Op.operands, hy])) (fun y hy => h.arg (by simp [Op.operands, hy])) H nx k
    · rename_i xs ts
      have hxs : Agree xs.toList f f' := h.sub fun x hx => by simp [Op.operands, Call.operands]; simpa using hx
      have n0 := nth_agree (i := 0) hxs
      simp only [n0]
    · exact hF
  unfold opD
  generalize cls X o = n
  cases n with
  | zero => exact hP
  | succ n => exact hF
end Go.Ev
set_option linter.unusedVariables false
set_option linter.unusedSimpArgs false
namespace Go.Ev

/-! ### What comes ahead -/
def closV (acc : List Nat) (o : Oper) : Nat := o.after.toList.foldl (fun s e => if Region.binds .any e then s ||| 2 ^ e.on ||| acc.getD e.on 0 else s) 0
theorem clos_eq (l : List Oper) : clos l = l.foldl (fun acc o => acc ++ [closV acc o]) [] := rfl
theorem clos_foldl : ∀ (l : List Oper) (acc : List Nat), ∃ r, l.foldl (fun acc o => acc ++ [closV acc o]) acc = acc ++ r ∧ r.length = l.length
  | [], acc => ⟨[], by simp⟩
  | o :: l, acc => by
    obtain ⟨r, h1, h2⟩ := clos_foldl l (acc ++ [closV acc o])
    exact ⟨closV acc o :: r, by simp [h1], by simp [h2]⟩
theorem clos_append (l l' : List Oper) : ∃ r, clos (l ++ l') = clos l ++ r ∧ r.length = l'.length := by
  rw [clos_eq, List.foldl_append]
  exact clos_foldl l' _
theorem clos_len (l : List Oper) : (clos l).length = l.length := by
  obtain ⟨r, h1, h2⟩ := clos_foldl l []
  rw [clos_eq, h1]; simpa using h2
theorem clos_get {l : List Oper} {i : Nat} {o : Oper} (h : l[i]? = some o) : (clos l).getD i 0 = closV (clos (l.take i)) o := by
  have hi : i < l.length := (List.getElem?_eq_some_iff.1 h).1
  have hs : l = l.take i ++ (o :: l.drop (i + 1)) := by
    have : l.drop i = o :: l.drop (i + 1) := by
      rw [List.drop_eq_getElem_cons hi, (List.getElem?_eq_some_iff.1 h).2]
    rw [← this, List.take_append_drop]
  have hl : (clos (l.take i)).length = i := by rw [clos_len]; simp; omega
  conv => lhs; rw [hs, clos_eq, List.foldl_append, List.foldl_cons]
  obtain ⟨r, h1, _⟩ := clos_foldl (l.drop (i + 1)) (clos (l.take i) ++ [closV (clos (l.take i)) o])
  rw [← clos_eq, h1, List.append_assoc]
  rw [List.getD_eq_getElem?_getD, List.getElem?_append_right (by omega), hl]
  simp
theorem clos_prefix {l : List Oper} {i k : Nat} (hk : k < i) (hi : i ≤ l.length) : (clos (l.take i)).getD k 0 = (clos l).getD k 0 := by
  obtain ⟨r, h1, _⟩ := clos_append (l.take i) (l.drop i)
  rw [List.take_append_drop] at h1
  rw [h1, List.getD_eq_getElem?_getD, List.getD_eq_getElem?_getD, List.getElem?_append_left (by rw [clos_len]; simp; omega)]
/-- i is ahead of j -/
def Bt (l : List Oper) (i j : Nat) : Bool := ((clos l).getD j 0).testBit i
theorem closV_bit {acc : List Nat} {i : Nat} : ∀ (es : List Edge) (s : Nat), (es.foldl (fun s e => if Region.binds .any e then s ||| 2 ^ e.on ||| acc.getD e.on 0 else s) s).testBit i = true → s.testBit i = true ∨ ∃ e ∈ es, Region.binds .any e = true ∧ (e.on = i ∨ (acc.getD e.on 0).testBit i = true)
  | [], s, h => .inl h
  | e :: es, s, h => by
    rcases closV_bit es _ h with h1 | ⟨e', h1, h2⟩
    · dsimp only at h1
      by_cases hb : Region.binds .any e = true
      · rw [if_pos hb, Nat.testBit_or, Nat.testBit_or, Bool.or_eq_true, Bool.or_eq_true] at h1
        rcases h1 with (h1 | h1) | h1
        · exact .inl h1
        · rw [Nat.testBit_two_pow] at h1
          exact .inr ⟨e, by simp, hb, .inl (by simpa using h1)⟩
        · exact .inr ⟨e, by simp, hb, .inr h1⟩
      · rw [if_neg hb] at h1; exact .inl h1
    · exact .inr ⟨e', by simp [h1], h2⟩
theorem bt_edge {l : List Oper} (hedge : ∀ (i : Nat) (o : Oper), l[i]? = some o → ∀ e ∈ o.after.toList, Region.binds .any e = true → e.on < i) {i j : Nat} (h : Bt l i j = true) : ∃ o e, l[j]? = some o ∧ e ∈ o.after.toList ∧ Region.binds .any e = true ∧ (e.on = i ∨ Bt l i e.on = true) := by
  unfold Bt at h
  cases ho : l[j]? with
  | none =>
    have : l.length ≤ j := by simpa using ho
    rw [List.getD_eq_getElem?_getD, List.getElem?_eq_none (by rw [clos_len]; exact this)] at h
    simp at h
  | some o =>
    rw [clos_get ho] at h
    rcases closV_bit _ _ h with h1 | ⟨e, h1, h2, h3⟩
    · simp at h1
    · refine ⟨o, e, rfl, h1, h2, ?_⟩
      rcases h3 with h3 | h3
      · exact .inl h3
      · right
        unfold Bt
        rw [← clos_prefix (hedge j o ho e h1 h2) (Nat.le_of_lt (List.getElem?_eq_some_iff.1 ho).1)]
        exact h3

/-! ### What a region that draws has -/
structure Good (X : Env) (ops : List Oper) : Prop where
  edge : ∀ (i : Nat) (o : Oper), ops[i]? = some o → ∀ e ∈ o.after.toList, Region.binds .any e = true → e.on < i
  guard : ∀ (i : Nat) (o : Oper) (j : Nat) (w : Bool), ops[i]? = some o → o.guard = some (j, w) → Bt ops j i = true
  one : ∀ (i j : Nat) (o p : Oper) (t : Nat), i ≠ j → ops[i]? = some o → ops[j]? = some p → o.dst = some t → p.dst ≠ some t
  rw' : ∀ (i j : Nat) (o p : Oper) (t : Nat), i ≠ j → ops[i]? = some o → ops[j]? = some p → o.dst = some t → t ∈ tmpsOf p → Bt ops i j = true ∨ Bt ops j i = true
  act : ∀ (i j : Nat) (o p : Oper), i ≠ j → ops[i]? = some o → ops[j]? = some p → cls X o.op = 3 → cls X p.op = 3 → Bt ops i j = true ∨ Bt ops j i = true
  read : ∀ (i j : Nat) (o p : Oper) (t : Nat), ops[i]? = some o → ops[j]? = some p → cls X o.op = 2 → p.dst = some t → t ∈ tmpsOf o → j < i
  less : ∀ (i j : Nat) (o p : Oper), ops[i]? = some o → ops[j]? = some p → Bt ops j i = true → j < i
theorem good_of {X : Env} {ops : List Oper} (h : drawOk X ops = true) : Good X ops := by
  unfold drawOk at h
  simp only at h
  have hall : ∀ i o, ops[i]? = some o → _ := fun i o ho => List.all_eq_true.1 h (o, i) (by
    rw [List.mem_zipIdx_iff_getElem?]; exact ho)
  have parts : ∀ i o, ops[i]? = some o → (∀ e ∈ o.after.toList, Region.binds .any e = true → e.on < i) ∧ (∀ j w, o.guard = some (j, w) → Bt ops j i = true) ∧
      ∀ j p, ops[j]? = some p → (i ≠ j → (∀ t, o.dst = some t → p.dst ≠ some t ∧ (t ∈ tmpsOf p → Bt ops i j = true ∨ Bt ops j i = true)) ∧ (cls X o.op = 3 → cls X p.op = 3 → Bt ops i j = true ∨ Bt ops j i = true)) ∧ (cls X o.op = 2 → ∀ t, p.dst = some t → t ∈ tmpsOf o → j < i) ∧ (Bt ops j i = true → j < i) := by
    intro i o ho
    have h1 := hall i o ho
    simp only [Bool.and_eq_true, List.all_eq_true, Bool.or_eq_true, Bool.not_eq_true', decide_eq_true_eq] at h1
    obtain ⟨⟨h2, h3⟩, h4⟩ := h1
    refine ⟨fun e he hb => (h2 e he).resolve_left (by rw [hb]; simp), fun j w hg => ?_, fun j p hp => ?_⟩
    · rw [hg] at h3
      simp only [Bool.and_eq_true] at h3
      exact h3.1
    · have h5 := h4 (p, j) (by rw [List.mem_zipIdx_iff_getElem?]; exact hp)
      simp only at h5
      obtain ⟨⟨h6, h7⟩, h8⟩ := h5
      refine ⟨fun hne => ?_, fun hc t ht hm => ?_, fun hb => ?_⟩
      · rcases h6 with h6 | h6
        · simp at h6; exact absurd h6 hne
        · obtain ⟨h9, h10⟩ := h6
          refine ⟨fun t ht => ?_, fun c1 c2 => ?_⟩
          · rw [ht] at h9
            simp only [Bool.and_eq_true, bne_iff_ne, ne_eq, Bool.or_eq_true, Bool.not_eq_true', List.contains_eq_mem, decide_eq_false_iff_not] at h9
            refine ⟨h9.1, fun hm => ?_⟩
            rcases h9.2 with (h11 | h11) | h11
            · exact absurd hm h11
            · exact .inl h11
            · exact .inr h11
          · rcases h10 with (h11 | h11) | h11
            · rw [c1, c2] at h11; simp at h11
            · exact .inl h11
            · exact .inr h11
      · rcases h7 with h7 | h7
        · rw [hc] at h7; simp at h7
        · rw [ht] at h7
          simp only [Bool.or_eq_true, Bool.not_eq_true', List.contains_eq_mem, decide_eq_false_iff_not, decide_eq_true_eq] at h7
          exact h7.resolve_left fun h => h hm
      · rcases h8 with h8 | h8
        · have : Bt ops j i = false := h8
          rw [hb] at this; cases this
        · exact h8
  exact {
    edge := fun i o ho => (parts i o ho).1
    guard := fun i o j w ho hg => (parts i o ho).2.1 j w hg
    one := fun i j o p t hne ho hp ht => (((parts i o ho).2.2 j p hp).1 hne).1 t ht |>.1
    rw' := fun i j o p t hne ho hp ht => (((parts i o ho).2.2 j p hp).1 hne).1 t ht |>.2
    act := fun i j o p hne ho hp => (((parts i o ho).2.2 j p hp).1 hne).2
    read := fun i j o p t ho hp hc ht hm => ((parts i o ho).2.2 j p hp).2.1 hc t ht hm
    less := fun i j o p ho hp => ((parts i o ho).2.2 j p hp).2.2 }

/-! ### Every order -/
theorem sched_go {P : Program} {ops : Array Oper} {R : Act → World → Prop} (Inv : Array Bool → Act → World → Prop) (hsz : ∀ l a w, Inv l a w → l.size = ops.size)
    (hstep : ∀ l a w, Inv l a w → ∀ i ∈ Region.ready .any ops l, StOp P ops i (fun a' w' => Inv (l.setIfInBounds i true) a' w') a w) (hend : ∀ l a w, Inv l a w → Region.ready .any ops l = [] → R a w) :
    ∀ (fuel t : Nat) (l : Array Bool) (a : Act) (w : World), Inv l a w → ((List.range ops.size).countP fun i => !l.getD i true) ≤ fuel → ∀ (b : Frame) (k : List Item) (cs : List Frame),
      ∃ a' w', R a' w' ∧ Steps P (lone (b.at a (.inRegion ops (Region.linearise.go .any ops fuel t l []) :: k)) cs w) (lone (b.at a' (.inRegion ops [] :: k)) cs w')
  | 0, t, l, a, w, hI, hc, b, k, cs => by
    refine ⟨a, w, hend l a w hI ?_, Steps.refl _ _⟩
    have hz := List.countP_eq_zero.1 (Nat.le_zero.1 hc)
    cases hr : Region.ready .any ops l with
    | nil => rfl
    | cons x xs =>
      have hx : x ∈ Region.ready .any ops l := by rw [hr]; simp
      obtain ⟨h1, o, ho, _⟩ := mem_ready.1 hx
      have := hz x (List.mem_range.2 (Array.getElem?_eq_some_iff.1 ho).1)
      rw [h1] at this; simp at this
  | fuel + 1, t, l, a, w, hI, hc, b, k, cs => by
    simp only [Region.linearise.go]
    change ∃ a' w', R a' w' ∧ Steps P (lone (b.at a (.inRegion ops (match (Region.ready .any ops l)[t % (Region.ready .any ops l).length]? with
      | some i => Region.linearise.go .any ops fuel (t / (Region.ready .any ops l).length) (l.setIfInBounds i true) [i]
      | none => [].reverse) :: k)) cs w) _
    cases hi : (Region.ready .any ops l)[t % (Region.ready .any ops l).length]? with
    | none =>
      have hnil : Region.ready .any ops l = [] := by
        cases hr : Region.ready .any ops l with
        | nil => rfl
        | cons x xs =>
          rw [hr] at hi
          have hlt : t % (x :: xs).length < (x :: xs).length := Nat.mod_lt _ (by simp)
          simp at hi
          simp at hlt
          omega
      exact ⟨a, w, hend l a w hI hnil, Steps.refl _ _⟩
    | some i =>
      have hmem := List.mem_of_getElem? hi
      simp only []
      rw [linearise_go_acc, List.reverse_singleton, List.singleton_append]
      obtain ⟨a1, w1, hI1, hs1⟩ := hstep l a w hI i hmem b (Region.linearise.go .any ops fuel (t / (Region.ready .any ops l).length) (l.setIfInBounds i true) []) k cs
      have hcount : ((List.range ops.size).countP fun j => !(l.setIfInBounds i true).getD j true) ≤ fuel := by
        obtain ⟨h1, o, ho, _⟩ := mem_ready.1 hmem
        have hlt : i < ops.size := (Array.getElem?_eq_some_iff.1 ho).1
        have hil : i < l.size := by rw [hsz l a w hI]; exact hlt
        have h2 : ((List.range ops.size).countP fun j => !(l.setIfInBounds i true).getD j true) < (List.range ops.size).countP fun j => !l.getD j true := by
          have hsplit : List.range ops.size = List.range i ++ i :: List.range' (i + 1) (ops.size - i - 1) := by
            have e : ops.size = i + (1 + (ops.size - i - 1)) := by omega
            rw [List.range_eq_range', List.range_eq_range']
            conv => lhs; rw [e]
            rw [← List.range'_append_1, Nat.zero_add, ← List.range'_append_1]; rfl
          rw [hsplit, List.countP_append, List.countP_append, List.countP_cons, List.countP_cons]
          have e1 : (List.range i).countP (fun j => !(l.setIfInBounds i true).getD j true) = (List.range i).countP fun j => !l.getD j true := List.countP_congr fun j hj => by
            rw [getD_set_ne true (show i ≠ j by have := List.mem_range.1 hj; omega)]
          have e2 : (List.range' (i + 1) (ops.size - i - 1)).countP (fun j => !(l.setIfInBounds i true).getD j true) = (List.range' (i + 1) (ops.size - i - 1)).countP fun j => !l.getD j true := List.countP_congr fun j hj => by
            rw [getD_set_ne true (show i ≠ j by have := (List.mem_range'_1.1 hj).1; omega)]
          rw [e1, e2, h1]
          have : (l.setIfInBounds i true).getD i true = true := by simp [Array.getD_eq_getD_getElem?, hil]
          rw [this]
          simp
        omega
      obtain ⟨a2, w2, hR, hs2⟩ := sched_go Inv hsz hstep hend fuel _ _ a1 w1 hI1 hcount b k cs
      exact ⟨a2, w2, hR, hs1.trans hs2⟩
end Go.Ev
set_option linter.unusedVariables false
set_option linter.unusedSimpArgs false
namespace Go.Ev
variable {X : Env} {call : CallT}

/-! ### A frame of the operands alone -/
noncomputable def maskF : List Nat → FR → FR | [], _ => 0 | t :: l, f => put (maskF l f) (Nat.succ t) (fget t f)
theorem fget_lt (t : Nat) (f : FR) : fget t f < 2 ^ 128 := dig_lt _ _
theorem fget_mask : ∀ (l : List Nat) (f : FR) (u : Nat), fget u (maskF l f) = if u ∈ l then fget u f else 0
  | [], f, u => by simp [maskF]; exact dig_big (n := 0) (by decide) (by omega)
  | t :: l, f, u => by
    unfold maskF
    rw [fget_put (fget_lt t f)]
    by_cases h : u = t
    · subst h; simp
    · rw [if_neg h, fget_mask l f u]
      simp [h]
theorem mask_agree (o : Oper) (f : FR) : Agree o.op.operands.toList f (maskF (tmpsOf o) f) := fun x hx t ht => by
  subst ht
  rw [fget_mask, if_pos]
  unfold tmpsOf
  exact List.mem_filterMap.2 ⟨.tmp t, hx, rfl⟩
theorem mask_rel {σ : Sig} {I : Imm} {o : Oper} {f : FR} {tmps : Array Value} (h : ∀ t ∈ tmpsOf o, VR σ I (fget t f) (tmps.getD t undef)) : FrameR σ I (maskF (tmpsOf o) f) tmps := fun t => by
  rw [fget_mask]
  by_cases ht : t ∈ tmpsOf o
  · rw [if_pos ht]; exact h t ht
  · rw [if_neg ht]; exact .inl rfl

/-! ### The evaluator's own run of the region, in text's order -/
def StepT (X : Env) (L : List Oper) (o : Oper) (F : Nat → FR) (HH : Nat → HT) (N C : Nat → Nat) (j : Nat) : Prop :=
  F (j + 1) = putD (F j) o.dst (C j) ∧ ((GuardR L o (F j) true ∧ Res X o (maskF (tmpsOf o) (F j)) (HH j) (N j) (C j) (HH (j + 1)) (N (j + 1))) ∨
    (GuardR L o (F j) false ∧ C j = 1822247737828079764651510857728 ∧ HH (j + 1) = HH j ∧ N (j + 1) = N j))
/-- what comes first, then the rest -/
def cons0 {α : Type} (a : α) (g : Nat → α) : Nat → α | 0 => a | j + 1 => g j
theorem runOpsD_trace (hX : EnvOk X) (hFo : FormOk X) (hT : 3 ≤ X.P.types.size) (hc : CallOk X call) {all : List Oper} : ∀ (l : List Oper) (n : Nat) (s : SL) (k : SL → KF) (f : FR) (H : HT) (nx : Nat), Free H nx →
    isBad (runOpsD l all n s k X call f H nx) ∨ ∃ (F : Nat → FR) (HH : Nat → HT) (N C : Nat → Nat) (S : Nat → SL) (K : Nat → Nat), F 0 = f ∧ HH 0 = H ∧ N 0 = nx ∧ S 0 = s ∧ K 0 = n ∧
      (∀ j o, l[j]? = some o → StepT X all o F HH N C j ∧ S (j + 1) = snap (cls X o.op) (HH (j + 1)) (K j) (S j) ∧ K (j + 1) = cnt (cls X o.op) (K j)) ∧ (∀ j, j ≤ l.length → Free (HH j) (N j)) ∧
      runOpsD l all n s k X call f H nx = k (S l.length) (F l.length) (HH l.length) (N l.length)
  | [], n, s, k, f, H, nx, hf => .inr ⟨fun _ => f, fun _ => H, fun _ => nx, fun _ => 0, fun _ => s, fun _ => n, rfl, rfl, rfl, rfl, rfl, fun j o h => by simp at h, fun _ _ => hf, rfl⟩
  | o :: l, n, s, k, f, H, nx, hf => by
    show isBad (stepO o.guard all (opD X o.op) o.dst X call f H nx fun f H nx => runOpsD l all (cnt (cls X o.op) n) (snap (cls X o.op) H n s) k X call f H nx) ∨ ∃ (F : Nat → FR) (HH : Nat → HT) (N C : Nat → Nat) (S : Nat → SL) (K : Nat → Nat), F 0 = f ∧ HH 0 = H ∧ N 0 = nx ∧ S 0 = s ∧ K 0 = n ∧
      (∀ j o', (o :: l)[j]? = some o' → StepT X all o' F HH N C j ∧ S (j + 1) = snap (cls X o'.op) (HH (j + 1)) (K j) (S j) ∧ K (j + 1) = cnt (cls X o'.op) (K j)) ∧ (∀ j, j ≤ (o :: l).length → Free (HH j) (N j)) ∧
      (stepO o.guard all (opD X o.op) o.dst X call f H nx fun f H nx => runOpsD l all (cnt (cls X o.op) n) (snap (cls X o.op) H n s) k X call f H nx) = k (S (o :: l).length) (F (o :: l).length) (HH (o :: l).length) (N (o :: l).length)
    have hres : Tells (opD X o.op X call f H nx) (Res X o (maskF (tmpsOf o) f) H nx) := by
      have h := opD_res (f := maskF (tmpsOf o) f) hX hFo hT hc hf o
      intro k
      rw [opD_agree (X := X) (call := call) o.op (mask_agree o f) H nx k]
      exact h k
    rcases stepO_tells (all := all) (o := o) hres (fun f H nx => runOpsD l all (cnt (cls X o.op) n) (snap (cls X o.op) H n s) k X call f H nx) with hb | ⟨f1, H1, n1, e, c, ef, hr⟩
    · exact .inl hb
    have hfree : Free H1 n1 := by
      rcases hr with ⟨_, hr⟩ | ⟨_, _, e1, e2⟩
      · exact hr.snd.1.free
      · subst e1 e2; exact hf
    rcases runOpsD_trace hX hFo hT hc l (cnt (cls X o.op) n) (snap (cls X o.op) H1 n s) k f1 H1 n1 hfree with hb | ⟨F, HH, N, C, S, K, z1, z2, z3, z4, z5, z6, z7, z8⟩
    · exact .inl (by rw [e]; exact hb)
    · refine .inr ⟨cons0 f F, cons0 H HH, cons0 nx N, cons0 c C, cons0 s S, cons0 n K, rfl, rfl, rfl, rfl, rfl, fun j o' hj => ?_, fun j hj => ?_, ?_⟩
      · cases j with
        | zero =>
          have : o = o' := by simpa using hj
          subst this
          refine ⟨⟨?_, ?_⟩, ?_, ?_⟩
          · show F 0 = putD f o.dst c
            rw [z1, ef]
          · show (GuardR all o f true ∧ Res X o (maskF (tmpsOf o) f) H nx c (HH 0) (N 0)) ∨ (GuardR all o f false ∧ c = 1822247737828079764651510857728 ∧ HH 0 = H ∧ N 0 = nx)
            rw [z2, z3]; exact hr
          · show S 0 = snap (cls X o.op) (HH 0) n s
            rw [z4, z2]
          · show K 0 = cnt (cls X o.op) n
            exact z5
        | succ j => exact z6 j o' (by simpa using hj)
      · cases j with
        | zero => exact hf
        | succ j => exact z7 j (by simpa using hj)
      · rw [e, z8]; rfl
structure Trace (X : Env) (L : List Oper) (F : Nat → FR) (HH : Nat → HT) (N C : Nat → Nat) : Prop where
  step : ∀ (j : Nat) (o : Oper), L[j]? = some o → StepT X L o F HH N C j
  free : ∀ j, j ≤ L.length → Free (HH j) (N j)
section
variable {L : List Oper} {F : Nat → FR} {HH : Nat → HT} {N C : Nat → Nat}
theorem Trace.ale1 (h : Trace X L F HH N C) {j : Nat} {o : Oper} (ho : L[j]? = some o) : ALe (HH j) (N j) (HH (j + 1)) (N (j + 1)) := by
  rcases (h.step j o ho).2 with ⟨_, hr⟩ | ⟨_, _, e1, e2⟩
  · exact hr.snd.1
  · rw [e1, e2]
    exact (Grow.refl (h.free j (Nat.le_of_lt (List.getElem?_eq_some_iff.1 ho).1))).toALe
theorem Trace.ale (h : Trace X L F HH N C) {i : Nat} : ∀ {j : Nat}, i ≤ j → j ≤ L.length → ALe (HH i) (N i) (HH j) (N j)
  | 0, hij, hj => by
    have : i = 0 := by omega
    subst this; exact (Grow.refl (h.free 0 hj)).toALe
  | j + 1, hij, hj => by
    by_cases e : i = j + 1
    · subst e; exact (Grow.refl (h.free _ hj)).toALe
    · have hlt : j < L.length := by omega
      exact (h.ale (j := j) (by omega) (by omega)).trans (h.ale1 (List.getElem?_eq_getElem hlt))
/-- what isn't an act leaves what is there -/
theorem Trace.same1 (h : Trace X L F HH N C) {j : Nat} {o : Oper} (ho : L[j]? = some o) (hc : cls X o.op ≠ 3) : ∀ b, b < N j → get (HH (j + 1)) b = get (HH j) b := by
  rcases (h.step j o ho).2 with ⟨_, hr⟩ | ⟨_, _, e1, e2⟩
  · unfold Res at hr
    have h4 : cls X o.op = 0 ∨ cls X o.op = 1 ∨ cls X o.op = 2 ∨ 4 ≤ cls X o.op := by omega
    rcases h4 with e | e | e | e
    · rw [e] at hr; exact hr.1.same
    · rw [e] at hr
      obtain ⟨H1, n1, x, g, hn, _, _⟩ := hr
      exact (g.trans hn.grow).same
    · rw [e] at hr
      rcases hr with hr | ⟨x, m, _, hr⟩
      · exact hr.1.same
      · exact hr.1.same
    · exfalso
      have : cls X o.op ≤ 3 := by
        unfold cls
        split <;> first | omega | (split <;> first | omega | (split <;> omega))
      omega
  · intro b _; rw [e1]
theorem Trace.same (h : Trace X L F HH N C) {i : Nat} : ∀ {j : Nat}, i ≤ j → j ≤ L.length → (∀ (q : Nat) (o : Oper), i ≤ q → q < j → L[q]? = some o → cls X o.op ≠ 3) → ∀ b, b < N i → get (HH j) b = get (HH i) b
  | 0, hij, hj, hn, b, hb => by
    have : i = 0 := by omega
    subst this; rfl
  | j + 1, hij, hj, hn, b, hb => by
    by_cases e : i = j + 1
    · subst e; rfl
    · have hlt : j < L.length := by omega
      have ho : L[j]? = some L[j] := List.getElem?_eq_getElem hlt
      have h1 := h.ale (i := i) (j := j) (by omega) (by omega)
      rw [h.same1 ho (hn j _ (by omega) (by omega) ho) b (Nat.lt_of_lt_of_le hb h1.le)]
      exact h.same (by omega) (by omega) (fun q o h1 h2 => hn q o h1 (by omega)) b hb
/-- run in text's order, the model agrees -/
theorem Trace.sem {ops : Array Oper} (h : Trace X ops.toList F HH N C) {n : Nat} (hn : ∀ o ∈ ops.toList, ∀ t, o.dst = some t → t < n) {I : Imm} {σ : Sig} {w : World} {a : Act} (hI : Holds I (HH ops.toList.length) (N ops.toList.length)) (hS : SRel σ I (HH 0) (N 0) w) (hF : FrameR σ I (F 0) a.tmps) (hs : n ≤ a.tmps.size) :
    ∀ j, j ≤ ops.toList.length → ∃ (σ' : Sig) (w' : World) (a' : Act), SRel σ' I (HH j) (N j) w' ∧ FrameR σ' I (F j) a'.tmps ∧ n ≤ a'.tmps.size
  | 0, _ => ⟨σ, w, a, hS, hF, hs⟩
  | j + 1, hj => by
    obtain ⟨σ1, w1, a1, hS1, hF1, hs1⟩ := h.sem hn hI hS hF hs j (by omega)
    have hlt : j < ops.toList.length := by omega
    have ho : ops.toList[j]? = some ops.toList[j] := List.getElem?_eq_getElem hlt
    generalize ops.toList[j] = o at ho
    have ho' : ops[j]? = some o := by simpa using ho
    have hmem : o ∈ ops.toList := List.mem_of_getElem? ho
    obtain ⟨hf, hr⟩ := h.step j o ho
    rw [hf]
    have hguard : ∀ yes, GuardR ops.toList o (F j) yes → Region.wanted o (yielded ops a1.tmps) = yes := fun yes hg => guard_model hg fun jj want t _ ht => ⟨Nat.lt_of_lt_of_le (dst_lt hn ht) hs1, σ1, I, hF1 t⟩
    rcases hr with ⟨hg, hr⟩ | ⟨hg, ec, e1, e2⟩
    · have hIj := hI.back (h.ale (i := j + 1) (j := ops.toList.length) (by omega) (Nat.le_refl _))
      have hdo := hr.snd.2 I σ1 w1 a1 hIj hS1 (mask_rel fun t _ => hF1 t)
      obtain ⟨v, w2, ⟨σ2, ha, hv⟩, _⟩ := hdo default ops j [] [] [] ho' (hguard true hg)
      exact ⟨σ2, w2, a1.put o.dst v, ha.rel, (hF1.mono ha.ext.1).put hv fun t ht => Nat.lt_of_lt_of_le (hn o hmem t ht) hs1, by rw [put_size]; exact hs1⟩
    · rw [e1, e2, ec]
      exact ⟨σ1, w1, a1.put o.dst undef, hS1, hF1.put vr_undef fun t ht => Nat.lt_of_lt_of_le (hn o hmem t ht) hs1, by rw [put_size]; exact hs1⟩
end
end Go.Ev
set_option linter.unusedVariables false
set_option linter.unusedSimpArgs false
namespace Go.Ev
variable {X : Env} {call : CallT}

/-! ### What is known of the first numbers alone -/
def cut (τ : Sig) (n : Nat) : Sig := fun b => if b < n then τ b else none
theorem cut_some {τ : Sig} {n b : Nat} {e : SE} : cut τ n b = some e ↔ b < n ∧ τ b = some e := by
  unfold cut
  by_cases h : b < n
  · rw [if_pos h]; simp [h]
  · rw [if_neg h]; simp [h]
theorem cut_le {τ : Sig} {n : Nat} : SLe (cut τ n) τ := fun b e h => (cut_some.1 h).2
theorem cut_mono {τ τ' : Sig} {n n' : Nat} (h : SLe τ τ') (hn : n ≤ n') : SLe (cut τ n) (cut τ' n') := fun b e hb => cut_some.2 ⟨Nat.lt_of_lt_of_le (cut_some.1 hb).1 hn, h b e (cut_some.1 hb).2⟩
section
variable {σ τ : Sig} {I : Imm} {n : Nat}
theorem crp_cut (hd : ∀ b e, σ b = some e → b < n) {c : Nat} {v v' : Value} (h : CRp σ I c v') (k : CRp τ I c v) : CRp (cut τ n) I c v := by
  unfold CRp at k ⊢
  split at k <;> first | exact k | skip
  · rcases k with k | ⟨b, o, e, q1, q2, q3, q4, q5⟩
    · exact .inl k
    · have hk := ‹hi c = _›
      rcases h.ptr_inv hk with ⟨h, _⟩ | ⟨b', o', e', r1, r2, r3, r4, _⟩
      · rw [q4, mkPtr_def] at h; omega
      · have : b = b' := by rw [q4, mkPtr_def, mkPtr_def] at r4; omega
        subst this
        exact .inr ⟨b, o, e, cut_some.2 ⟨hd _ _ r1, q1⟩, q2, q3, q4, q5⟩
  · rcases k with k | ⟨b, o, n', cp, cap, e, q1, q2, q3, q4, q5, q6, q7⟩
    · exact .inl k
    · have hk := ‹hi c = _›
      rcases h.sl_inv hk with ⟨h, _⟩ | ⟨b', o', n'', cp', cap', e', r1, r2, r3, r4, r5, r6, _⟩
      · rw [q6, mkSl_def] at h; omega
      · have : b = b' := by rw [q6, mkSl_def, mkSl_def] at r6; omega
        subst this
        exact .inr ⟨b, o, n', cp, cap, e, cut_some.2 ⟨hd _ _ r1, q1⟩, q2, q3, q4, q5, q6, q7⟩
  · rcases k with k | ⟨b, e, q1, q2, q3, q4⟩
    · exact .inl k
    · have hk := ‹hi c = _›
      rcases h.map_inv hk with ⟨h, _⟩ | ⟨b', e', r1, r2, r3, _⟩
      · omega
      · have : b = b' := by omega
        subst this
        exact .inr ⟨b, e, cut_some.2 ⟨hd _ _ r1, q1⟩, q2, q3, q4⟩
  · rcases k with k | ⟨b, e, q1, q2, q3, q4⟩
    · exact .inl k
    · have hk := ‹hi c = _›
      rcases h.chan_inv hk with ⟨h, _⟩ | ⟨b', e', r1, r2, r3, _⟩
      · omega
      · have : b = b' := by omega
        subst this
        exact .inr ⟨b, e, cut_some.2 ⟨hd _ _ r1, q1⟩, q2, q3, q4⟩
theorem cri_cut (hd : ∀ b e, σ b = some e → b < n) {c : Nat} {v v' : Value} (h : CRi σ I c v') (k : CRi τ I c v) : CRi (cut τ n) I c v := by
  rcases k with ⟨a, a2, t, w, b, d, e, k⟩ | ⟨a, k⟩
  · rcases h with ⟨_, _, _, _, _, _, _, h⟩ | ⟨h, _⟩
    · exact .inl ⟨a, a2, t, w, b, d, e, crp_cut hd h k⟩
    · omega
  · exact .inr ⟨a, crp_cut hd (h.of_lt a) k⟩
theorem crs_cut (hd : ∀ b e, σ b = some e → b < n) {c : Nat} {v v' : Value} (h : CRs σ I c v') (k : CRs τ I c v) : CRs (cut τ n) I c v := by
  rcases k with k | ⟨a, a2, g, n1, N1, n2, N2, x, y, p, q, r, s, t, u, z⟩
  · exact .inl (cri_cut hd (h.toI k.ne.2) k)
  · rcases h with h | ⟨_, _, g', n1', N1', n2', N2', x', y', p', q', r', s', t', u', _⟩
    · exact absurd a h.ne.2
    · rw [p] at p'
      injection p' with e1 e2 e3 e4 e5
      subst e1 e2 e3 e4 e5
      exact .inr ⟨a, a2, g, n1, N1, n2, N2, x, y, p, q, r, s, fun i hi => cri_cut hd (t' i (by omega)) (t i hi), fun i hi => cri_cut hd (u' i (by omega)) (u i hi), z⟩
theorem cra_cut (hd : ∀ b e, σ b = some e → b < n) {c : Nat} {v v' : Value} (h : CRa σ I c v') (k : CRa τ I c v) : CRa (cut τ n) I c v := by
  rcases k with k | ⟨a, a2, N, cs, p, q, r⟩
  · exact .inl (crs_cut hd (h.toS (fun e => by have := k.ne; omega)) k)
  · rcases h with h | ⟨_, _, N', cs', p', q', r'⟩
    · have := h.ne; omega
    · rw [p] at p'
      injection p' with e1 e2
      subst e2
      exact .inr ⟨a, a2, N, cs, p, q, fun i hi => crs_cut hd (r' i (by omega)) (r i hi)⟩
theorem CRa.hi_ne2 {c : Nat} {v : Value} (k : CRa τ I c v) : hi c ≠ 2 := by
  rcases k with k | ⟨a, _⟩
  · have := k.ne; omega
  · omega
theorem crv_cut (hd : ∀ b e, σ b = some e → b < n) {c : Nat} {v v' : Value} (h : CRv σ I c v') (k : CRv τ I c v) : CRv (cut τ n) I c v := by
  rcases k with k | ⟨a, a2, N, cs, p, q, r⟩
  · exact .inl (cra_cut hd (h.toA k.hi_ne2) k)
  · rcases h with h | ⟨_, _, N', cs', p', q', r'⟩
    · exact absurd a h.hi_ne2
    · rw [p] at p'
      injection p' with e1 e2
      subst e2
      exact .inr ⟨a, a2, N, cs, p, q, fun i hi => cra_cut hd (r' i (by omega)) (r i hi)⟩
theorem CRv.hi_ge {c : Nat} {v : Value} (k : CRv τ I c v) : 1 ≤ hi c ∧ hi c ≠ 23 := by
  rcases k with (k | ⟨a, _⟩) | ⟨a, _⟩
  · have h3 := k.ne
    refine ⟨by omega, fun e => ?_⟩
    have := (k.toI (by omega)).of_lt (by omega)
    have := this.hi_le; omega
  · omega
  · omega
theorem vr_cut (hd : ∀ b e, σ b = some e → b < n) {c : Nat} {v v' : Value} (h : VR σ I c v') (k : VR τ I c v) : VR (cut τ n) I c v := by
  rcases k with k | k | k
  · exact .inl k
  · exact .inr (.inl k)
  · have hg := k.hi_ge
    rcases h with h | ⟨h, _⟩ | h
    · omega
    · rw [h] at hg; exact absurd hi_undef hg.2
    · exact .inr (.inr (crv_cut hd h k))
end

/-! ### Frames of the run in text's order -/
section
variable {ops : Array Oper} {F : Nat → FR} {HH : Nat → HT} {N C : Nat → Nat}
/-- all that is known ahead -/
structure Ctx (X : Env) (ops : Array Oper) (n : Nat) (F : Nat → FR) (HH : Nat → HT) (N C : Nat → Nat) (I : Imm) (σ0 : Sig) (w0 : World) (a0 : Act) : Prop where
  tr : Trace X ops.toList F HH N C
  good : Good X ops.toList
  dst : ∀ o ∈ ops.toList, ∀ t, o.dst = some t → t < n
  holds : Holds I (HH ops.toList.length) (N ops.toList.length)
  rel : SRel σ0 I (HH 0) (N 0) w0
  frame : FrameR σ0 I (F 0) a0.tmps
  size : n ≤ a0.tmps.size
variable {n : Nat} {I : Imm} {σ0 : Sig} {w0 : World} {a0 : Act}
theorem Ctx.sem (c : Ctx X ops n F HH N C I σ0 w0 a0) : ∀ j, j ≤ ops.toList.length → ∃ (σ' : Sig) (w' : World) (a' : Act), SRel σ' I (HH j) (N j) w' ∧ FrameR σ' I (F j) a'.tmps ∧ n ≤ a'.tmps.size :=
  c.tr.sem c.dst c.holds c.rel c.frame c.size
theorem Ctx.holdsAt (c : Ctx X ops n F HH N C I σ0 w0 a0) {j : Nat} (hj : j ≤ ops.toList.length) : Holds I (HH j) (N j) := c.holds.back (c.tr.ale hj (Nat.le_refl _))
theorem Ctx.nle (c : Ctx X ops n F HH N C I σ0 w0 a0) {i j : Nat} (hij : i ≤ j) (hj : j ≤ ops.toList.length) : N i ≤ N j := (c.tr.ale hij hj).le
/-- a result is a cell -/
theorem Ctx.clt (c : Ctx X ops n F HH N C I σ0 w0 a0) {j : Nat} {o : Oper} (ho : ops.toList[j]? = some o) : C j < 2 ^ 128 := by
  have hlt := (List.getElem?_eq_some_iff.1 ho).1
  obtain ⟨σ1, w1, a1, hS1, hF1, hs1⟩ := c.sem j (Nat.le_of_lt hlt)
  rcases (c.tr.step j o ho).2 with ⟨hg, hr⟩ | ⟨_, e, _⟩
  · have hdo := hr.snd.2 I σ1 w1 a1 (c.holdsAt hlt) hS1 (mask_rel fun t _ => hF1 t)
    have hw := guard_model hg (tmps := a1.tmps) fun jj want t _ ht => ⟨Nat.lt_of_lt_of_le (dst_lt c.dst ht) hs1, σ1, I, hF1 t⟩
    obtain ⟨v, w2, ⟨σ2, ha, hv⟩, _⟩ := hdo default ops j [] [] [] (by simpa using ho) hw
    exact hv.lt
  · rw [e]; decide
theorem Ctx.fget_none (c : Ctx X ops n F HH N C I σ0 w0 a0) {t : Nat} : ∀ {i : Nat}, i ≤ ops.toList.length → (∀ (q : Nat) (o : Oper), q < i → ops.toList[q]? = some o → o.dst ≠ some t) → fget t (F i) = fget t (F 0)
  | 0, _, _ => rfl
  | i + 1, hi, h => by
    have hlt : i < ops.toList.length := by omega
    have ho : ops.toList[i]? = some ops.toList[i] := List.getElem?_eq_getElem hlt
    generalize ops.toList[i] = o at ho
    have ih := c.fget_none (t := t) (i := i) (by omega) fun q o hq => h q o (by omega)
    rw [(c.tr.step i o ho).1]
    have hd := h i o (by omega) ho
    cases hdst : o.dst with
    | none => exact ih
    | some u =>
      show fget t (put (F i) (Nat.succ u) (C i)) = _
      rw [fget_put (c.clt ho), if_neg (fun e => hd (by rw [hdst, e]))]
      exact ih
theorem Ctx.fget_some (c : Ctx X ops n F HH N C I σ0 w0 a0) {t q : Nat} {oq : Oper} (hq : ops.toList[q]? = some oq) (ht : oq.dst = some t) : ∀ {i : Nat}, q < i → i ≤ ops.toList.length → fget t (F i) = C q
  | 0, h, _ => absurd h (by omega)
  | i + 1, hqi, hi => by
    have hlt : i < ops.toList.length := by omega
    have ho : ops.toList[i]? = some ops.toList[i] := List.getElem?_eq_getElem hlt
    generalize ops.toList[i] = o at ho
    rw [(c.tr.step i o ho).1]
    by_cases e : q = i
    · subst e
      rw [hq] at ho; obtain rfl := Option.some.inj ho
      rw [ht]
      show fget t (put (F q) (Nat.succ t) (C q)) = _
      rw [fget_put (c.clt hq), if_pos rfl]
    · have ih := c.fget_some hq ht (i := i) (by omega) (by omega)
      have hd := c.good.one q i oq o t e hq ho ht
      cases hdst : o.dst with
      | none => exact ih
      | some u =>
        show fget t (put (F i) (Nat.succ u) (C i)) = _
        rw [fget_put (c.clt ho), if_neg (fun e => hd (by rw [hdst, e]))]
        exact ih
end
end Go.Ev
set_option linter.unusedVariables false
set_option linter.unusedSimpArgs false
namespace Go.Ev
variable {X : Env} {ops : Array Oper} {F : Nat → FR} {HH : Nat → HT} {N C : Nat → Nat} {n : Nat} {I : Imm} {σ0 : Sig} {w0 : World} {a0 : Act}

/-! ### What holds wherever the order stands -/
structure DInv (X : Env) (ops : Array Oper) (F : Nat → FR) (HH : Nat → HT) (N C : Nat → Nat) (I : Imm) (σ0 : Sig) (w0 : World) (a0 : Act) (l : Array Bool) (a : Act) (w : World) (τ : Sig) (p : Nat) : Prop where
  lsz : l.size = ops.size
  ple : p ≤ ops.toList.length
  acts : ∀ (j : Nat) (o : Oper), ops.toList[j]? = some o → cls X o.op = 3 → (l.getD j false = true ↔ j < p)
  edges : ∀ (i : Nat) (o : Oper), ops.toList[i]? = some o → l.getD i false = true → ∀ e ∈ o.after.toList, Region.binds .any e = true → l.getD e.on false = true
  asz : a.tmps.size = a0.tmps.size
  adf : a.defers = a0.defers
  done : ∀ (i : Nat) (o : Oper) (t : Nat), ops.toList[i]? = some o → l.getD i false = true → o.dst = some t → VR τ I (C i) (a.tmps.getD t undef)
  todo : ∀ t, (∀ (i : Nat) (o : Oper), ops.toList[i]? = some o → l.getD i false = true → o.dst ≠ some t) → a.tmps.getD t undef = a0.tmps.getD t undef
  ext : SExt σ0 (N 0) w0 τ
  unch : Unch σ0 w0 w
  rel : SRel (cut τ (N p)) I (HH p) (N p) w
  afr : AFr σ0 (N 0) (HH 0) (HH p)
  src : ∀ b e, τ b = some e → σ0 b = some e ∨ ∃ (q : Nat) (o : Oper), ops.toList[q]? = some o ∧ l.getD q false = true ∧ (cls X o.op = 1 ∨ cls X o.op = 3) ∧ N q ≤ b ∧ b < N (q + 1)
  pend : ∀ b e, τ b = some e → N p ≤ b → ∃ (q : Nat) (o : Oper), ops.toList[q]? = some o ∧ cls X o.op = 1 ∧ l.getD q false = true ∧ p ≤ q ∧ N q ≤ b ∧ b < N (q + 1) ∧ ObjR (cut τ (N (q + 1))) I (get (HH (q + 1)) b) e w ∧ e.B < w.heap.size ∧ ∀ b' e', τ b' = some e' → e'.B = e.B → b' = b
  keep : ∀ (q : Nat) (o : Oper), ops.toList[q]? = some o → l.getD q false = false → q < p → ∀ b, N q ≤ b → b < N (q + 1) → get (HH p) b = get (HH (q + 1)) b
section
variable {l : Array Bool} {a : Act} {w : World} {τ : Sig} {p : Nat}
theorem lt_len {i : Nat} {o : Oper} (h : ops.toList[i]? = some o) : i < ops.toList.length := (List.getElem?_eq_some_iff.1 h).1
theorem DInv.bsz (h : DInv X ops F HH N C I σ0 w0 a0 l a w τ p) {b : Nat} {e : SE} (hb : τ b = some e) : e.B < w.heap.size := by
  by_cases hlt : b < N p
  · exact (h.rel.dom b e (cut_some.2 ⟨hlt, hb⟩)).2
  · obtain ⟨_, _, _, _, _, _, _, _, _, h2, _⟩ := h.pend b e hb (by omega)
    exact h2
theorem DInv.gnd (c : Ctx X ops n F HH N C I σ0 w0 a0) (h : DInv X ops F HH N C I σ0 w0 a0 l a w τ p) : GndR I τ w :=
  c.rel.g0.next (fun b e hb => (h.ext.2 b e hb).elim (fun h1 => .inl ⟨b, e, h1, rfl⟩) fun h2 => h2.2.elim .inr fun ⟨b0, e0, q1, q2⟩ => .inl ⟨b0, e0, q1, q2⟩) fun z hn hz => h.unch.old z hz hn
theorem DInv.blt (c : Ctx X ops n F HH N C I σ0 w0 a0) (h : DInv X ops F HH N C I σ0 w0 a0 l a w τ p) {b : Nat} {e : SE} (hb : τ b = some e) : b < N ops.toList.length := by
  rcases h.src b e hb with hs | ⟨q, o, ho, _, _, _, h2⟩
  · exact Nat.lt_of_lt_of_le (c.rel.dom b e hs).1 (c.nle (Nat.zero_le _) (Nat.le_refl _))
  · exact Nat.lt_of_lt_of_le h2 (c.nle (lt_len ho) (Nat.le_refl _))
/-- the stretches of numbers that operations made lie apart -/
theorem Ctx.apart (c : Ctx X ops n F HH N C I σ0 w0 a0) {i q b : Nat} {o o' : Oper} (hi : ops.toList[i]? = some o) (hq : ops.toList[q]? = some o') (h1 : N i ≤ b) (h2 : b < N (i + 1)) (h3 : N q ≤ b) (h4 : b < N (q + 1)) : q = i := by
  by_cases e : q = i
  · exact e
  · exfalso
    rcases Nat.lt_or_ge q i with hlt | hge
    · have := c.nle (show q + 1 ≤ i by omega) (Nat.le_of_lt (lt_len hi)); omega
    · have := c.nle (show i + 1 ≤ q by omega) (Nat.le_of_lt (lt_len hq)); omega
theorem DInv.closed (c : Ctx X ops n F HH N C I σ0 w0 a0) (h : DInv X ops F HH N C I σ0 w0 a0 l a w τ p) : ∀ (i j : Nat), l.getD i false = true → Bt ops.toList j i = true → l.getD j false = true := by
  intro i
  induction i using Nat.strongRecOn with
  | _ i ih =>
    intro j hi hb
    obtain ⟨o, e, ho, he, hbd, hor⟩ := bt_edge c.good.edge hb
    have hd := h.edges i o ho hi e he hbd
    rcases hor with rfl | hor
    · exact hd
    · exact ih e.on (c.good.edge i o ho e he hbd) j hd hor
/-- what is ahead of an operation that is ready is done -/
theorem DInv.ahead (c : Ctx X ops n F HH N C I σ0 w0 a0) (h : DInv X ops F HH N C I σ0 w0 a0 l a w τ p) {i : Nat} {o : Oper} (ho : ops.toList[i]? = some o) (hr : ∀ e ∈ o.after.toList, Region.binds .any e = true → l.getD e.on false = true) {j : Nat} (hb : Bt ops.toList j i = true) : l.getD j false = true := by
  obtain ⟨o', e, ho', he, hbd, hor⟩ := bt_edge c.good.edge hb
  rw [ho] at ho'; obtain rfl := Option.some.inj ho'
  have hd := hr e he hbd
  rcases hor with rfl | hor
  · exact hd
  · exact h.closed c e.on j hd hor
/-- past an operation that doesn't act -/
theorem DInv.adv1 (c : Ctx X ops n F HH N C I σ0 w0 a0) (h : DInv X ops F HH N C I σ0 w0 a0 l a w τ p) {o : Oper} (ho : ops.toList[p]? = some o) (hc : cls X o.op ≠ 3) : DInv X ops F HH N C I σ0 w0 a0 l a w τ (p + 1) := by
  have hlt := lt_len ho
  have hsame := c.tr.same1 ho hc
  have hle : N p ≤ N (p + 1) := c.nle (Nat.le_succ p) hlt
  have hpend : ∀ b e, τ b = some e → N p ≤ b → b < N (p + 1) → ObjR (cut τ (N (p + 1))) I (get (HH (p + 1)) b) e w ∧ e.B < w.heap.size ∧ ∀ b' e', τ b' = some e' → e'.B = e.B → b' = b := fun b e hb h1 h2 => by
    obtain ⟨q, oq, q1, q2, q3, q4, q5, q6, q7, q8, q9⟩ := h.pend b e hb h1
    have := c.apart ho q1 h1 h2 q5 q6
    subst this
    exact ⟨q7, q8, q9⟩
  refine { lsz := h.lsz, ple := hlt, acts := fun j o' ho' hc' => ?_, edges := h.edges, asz := h.asz, adf := h.adf, done := h.done, todo := h.todo, ext := h.ext, unch := h.unch, rel := ⟨fun b e hb => ?_, fun b e hb => ?_, fun b b' e e' hb hb' hB hd hd' => ?_, (h.gnd c).mono fun b e hb => (cut_some.1 hb).2⟩, afr := fun b hb hn => ?_, src := h.src, pend := fun b e hb h1 => ?_, keep := fun q o' hq hl hqp b h1 h2 => ?_ }
  · rw [h.acts j o' ho' hc']
    refine ⟨fun h => by omega, fun hj => ?_⟩
    have : j ≠ p := fun e => by subst e; rw [ho] at ho'; obtain rfl := Option.some.inj ho'; exact hc hc'
    omega
  · obtain ⟨hb1, hb2⟩ := cut_some.1 hb
    exact ⟨hb1, h.bsz hb2⟩
  · obtain ⟨hb1, hb2⟩ := cut_some.1 hb
    by_cases hlt' : b < N p
    · rw [hsame b hlt']
      exact (h.rel.obj b e (cut_some.2 ⟨hlt', hb2⟩)).mono (cut_mono (SLe.refl _) hle)
    · exact (hpend b e hb2 (by omega) hb1).1
  · obtain ⟨hb1, hb2⟩ := cut_some.1 hb
    obtain ⟨hb1', hb2'⟩ := cut_some.1 hb'
    by_cases hlt1 : b < N p
    · by_cases hlt2 : b' < N p
      · rw [hsame b hlt1] at hd
        rw [hsame b' hlt2] at hd'
        exact h.rel.inj b b' e e' (cut_some.2 ⟨hlt1, hb2⟩) (cut_some.2 ⟨hlt2, hb2'⟩) hB hd hd'
      · exact (hpend b' e' hb2' (by omega) hb1').2.2 b e hb2 hB
    · exact ((hpend b e hb2 (by omega) hb1).2.2 b' e' hb2' hB.symm).symm
  · rw [hsame b (Nat.lt_of_lt_of_le hb (c.nle (Nat.zero_le _) (Nat.le_of_lt hlt)))]
    exact h.afr b hb hn
  · obtain ⟨q, oq, q1, q2, q3, q4, q5, q6, q7⟩ := h.pend b e hb (by omega)
    refine ⟨q, oq, q1, q2, q3, ?_, q5, q6, q7⟩
    by_cases e : q = p
    · subst e; omega
    · omega
  · by_cases e : q = p
    · subst e; rfl
    · have hqlt : q + 1 ≤ p := by omega
      have hN := c.nle hqlt (Nat.le_of_lt hlt)
      rw [hsame b (by omega)]
      exact h.keep q o' hq hl (by omega) b h1 h2
theorem DInv.adv (c : Ctx X ops n F HH N C I σ0 w0 a0) : ∀ {d : Nat} {p : Nat}, DInv X ops F HH N C I σ0 w0 a0 l a w τ p → p + d ≤ ops.toList.length → (∀ (q : Nat) (o : Oper), p ≤ q → q < p + d → ops.toList[q]? = some o → cls X o.op ≠ 3) → DInv X ops F HH N C I σ0 w0 a0 l a w τ (p + d)
  | 0, p, h, _, _ => h
  | d + 1, p, h, hle, hn => by
    have hlt : p < ops.toList.length := by omega
    have ho : ops.toList[p]? = some ops.toList[p] := List.getElem?_eq_getElem hlt
    have h1 := h.adv1 c ho (hn p _ (Nat.le_refl _) (by omega) ho)
    have := DInv.adv c (d := d) h1 (by omega) fun q o hq hq2 => hn q o (by omega) (by omega)
    rw [show p + (d + 1) = p + 1 + d by omega]; exact this
theorem DInv.advTo (c : Ctx X ops n F HH N C I σ0 w0 a0) (h : DInv X ops F HH N C I σ0 w0 a0 l a w τ p) {i : Nat} (hpi : p ≤ i) (hi : i ≤ ops.toList.length) (hn : ∀ (q : Nat) (o : Oper), p ≤ q → q < i → ops.toList[q]? = some o → cls X o.op ≠ 3) : DInv X ops F HH N C I σ0 w0 a0 l a w τ i := by
  have := DInv.adv c (d := i - p) h (by omega) fun q o h1 h2 => hn q o h1 (by omega)
  rw [show p + (i - p) = i by omega] at this; exact this

/-! ### An operation that is ready -/
/-- what is ready -/
structure Rdy (ops : Array Oper) (l : Array Bool) (i : Nat) (o : Oper) : Prop where
  at_ : ops.toList[i]? = some o
  not : l.getD i false = false
  ed : ∀ e ∈ o.after.toList, Region.binds .any e = true → l.getD e.on false = true
theorem DInv.operand (c : Ctx X ops n F HH N C I σ0 w0 a0) (h : DInv X ops F HH N C I σ0 w0 a0 l a w τ p) {i : Nat} {o : Oper} (r : Rdy ops l i o) {t : Nat} (ht : (∀ (q : Nat) (oq : Oper), ops.toList[q]? = some oq → oq.dst = some t → q ≠ i → Bt ops.toList q i = true ∨ Bt ops.toList i q = true)) :
    VR τ I (fget t (F i)) (a.tmps.getD t undef) := by
  have hlt := lt_len r.at_
  have init : (∀ (q : Nat) (oq : Oper), ops.toList[q]? = some oq → oq.dst = some t → l.getD q false = false ∧ i ≤ q) → VR τ I (fget t (F i)) (a.tmps.getD t undef) := fun hno => by
    rw [c.fget_none (Nat.le_of_lt hlt) fun q oq hq hoq hd => by have := (hno q oq hoq hd).2; omega]
    rw [h.todo t fun q oq hoq hl hd => by rw [(hno q oq hoq hd).1] at hl; cases hl]
    exact (c.frame t).mono h.ext.1
  by_cases hw : ∃ (q : Nat) (oq : Oper), ops.toList[q]? = some oq ∧ oq.dst = some t
  · obtain ⟨q, oq, hq, hd⟩ := hw
    have only : ∀ (q' : Nat) (oq' : Oper), ops.toList[q']? = some oq' → oq'.dst = some t → q' = q := fun q' oq' hq' hd' => by
      by_cases e : q' = q
      · exact e
      · exact absurd hd (c.good.one q' q oq' oq t e hq' hq hd')
    by_cases e : q = i
    · subst e
      exact init fun q' oq' hq' hd' => by have := only q' oq' hq' hd'; subst this; exact ⟨r.not, Nat.le_refl _⟩
    · rcases ht q oq hq hd e with hb | hb
      · have hD := h.ahead c r.at_ r.ed hb
        have hqi := c.good.less i q o oq r.at_ hq hb
        rw [c.fget_some hq hd hqi (Nat.le_of_lt hlt)]
        exact h.done q oq t hq hD hd
      · have hiq := c.good.less q i oq o hq r.at_ hb
        refine init fun q' oq' hq' hd' => ?_
        have := only q' oq' hq' hd'
        subst this
        refine ⟨?_, by omega⟩
        cases hl : l.getD q' false with
        | false => rfl
        | true =>
          have := h.closed c q' i hl hb
          rw [r.not] at this; cases this
  · exact init fun q oq hq hd => absurd ⟨q, oq, hq, hd⟩ hw
theorem DInv.opfr (c : Ctx X ops n F HH N C I σ0 w0 a0) (h : DInv X ops F HH N C I σ0 w0 a0 l a w τ p) {i : Nat} {o : Oper} (r : Rdy ops l i o) : FrameR τ I (maskF (tmpsOf o) (F i)) a.tmps :=
  mask_rel fun t ht => h.operand c r fun q oq hq hd hne => c.good.rw' q i oq o t hne hq r.at_ hd ht
theorem DInv.opfr_cut (c : Ctx X ops n F HH N C I σ0 w0 a0) (h : DInv X ops F HH N C I σ0 w0 a0 l a w τ p) {i : Nat} {o : Oper} (r : Rdy ops l i o) : FrameR (cut τ (N i)) I (maskF (tmpsOf o) (F i)) a.tmps := by
  obtain ⟨σ1, w1, a1, hS1, hF1, _⟩ := c.sem i (Nat.le_of_lt (lt_len r.at_))
  refine mask_rel fun t ht => ?_
  exact vr_cut (fun b e hb => (hS1.dom b e hb).1) (hF1 t) (h.operand c r fun q oq hq hd hne => c.good.rw' q i oq o t hne hq r.at_ hd ht)
theorem DInv.guarded (c : Ctx X ops n F HH N C I σ0 w0 a0) (h : DInv X ops F HH N C I σ0 w0 a0 l a w τ p) {i : Nat} {o : Oper} (r : Rdy ops l i o) {yes : Bool} (hg : GuardR ops.toList o (F i) yes) : Region.wanted o (yielded ops a.tmps) = yes := by
  refine guard_model hg fun j want t hgd ht => ⟨by rw [h.asz]; exact Nat.lt_of_lt_of_le (dst_lt c.dst ht) c.size, τ, I, ?_⟩
  have hb := c.good.guard i o j want r.at_ hgd
  refine h.operand c r fun q oq hq hd hne => .inl ?_
  have hj := dstOf_some ht
  cases hoj : ops[j]? with
  | none => rw [hoj] at hj; cases hj
  | some oj =>
    rw [hoj] at hj
    have hoj' : ops.toList[j]? = some oj := by simpa using hoj
    by_cases e : q = j
    · subst e; exact hb
    · exact absurd hj (c.good.one q j oq oj t e hq hoj' hd)
end
end Go.Ev
set_option linter.unusedVariables false
set_option linter.unusedSimpArgs false
namespace Go.Ev
variable {X : Env} {ops : Array Oper} {F : Nat → FR} {HH : Nat → HT} {N C : Nat → Nat} {n : Nat} {I : Imm} {σ0 : Sig} {w0 : World} {a0 : Act}
variable {l : Array Bool} {a : Act} {w : World} {τ : Sig} {p : Nat}

theorem listed_iff {i j : Nat} (hi : i < l.size) : (l.setIfInBounds i true).getD j false = true ↔ j = i ∨ l.getD j false = true := by
  by_cases h : i = j
  · subst h; simp [Array.getD_eq_getD_getElem?, hi]
  · rw [getD_set_ne false h]
    exact ⟨.inr, fun h' => h'.resolve_left fun e => h e.symm⟩
theorem unlisted {i j : Nat} (hi : i < l.size) (h : (l.setIfInBounds i true).getD j false = false) : j ≠ i ∧ l.getD j false = false := by
  refine ⟨fun e => ?_, ?_⟩
  · have := (listed_iff (j := j) hi).2 (.inl e); rw [h] at this; cases this
  · cases hl : l.getD j false with
    | false => rfl
    | true => have := (listed_iff (j := j) hi).2 (.inr hl); rw [h] at this; cases this
theorem Rdy.lt {i : Nat} {o : Oper} (r : Rdy ops l i o) (h : l.size = ops.size) : i < l.size := by
  have := lt_len r.at_; rw [h]; simpa using this
/-- an operation is done -/
theorem DInv.next (c : Ctx X ops n F HH N C I σ0 w0 a0) (h : DInv X ops F HH N C I σ0 w0 a0 l a w τ p) {i : Nat} {o : Oper} (r : Rdy ops l i o) {v : Value} {τ' : Sig} {w' : World} {p' : Nat} (hv : VR τ' I (C i) v) (hle : SLe τ τ')
    (ple : p' ≤ ops.toList.length) (acts : ∀ (j : Nat) (o : Oper), ops.toList[j]? = some o → cls X o.op = 3 → ((l.setIfInBounds i true).getD j false = true ↔ j < p'))
    (ext : SExt σ0 (N 0) w0 τ') (unch : Unch σ0 w0 w') (rel : SRel (cut τ' (N p')) I (HH p') (N p') w') (afr : AFr σ0 (N 0) (HH 0) (HH p'))
    (src : ∀ b e, τ' b = some e → σ0 b = some e ∨ ∃ (q : Nat) (o : Oper), ops.toList[q]? = some o ∧ (l.setIfInBounds i true).getD q false = true ∧ (cls X o.op = 1 ∨ cls X o.op = 3) ∧ N q ≤ b ∧ b < N (q + 1))
    (pend : ∀ b e, τ' b = some e → N p' ≤ b → ∃ (q : Nat) (o : Oper), ops.toList[q]? = some o ∧ cls X o.op = 1 ∧ (l.setIfInBounds i true).getD q false = true ∧ p' ≤ q ∧ N q ≤ b ∧ b < N (q + 1) ∧ ObjR (cut τ' (N (q + 1))) I (get (HH (q + 1)) b) e w' ∧ e.B < w'.heap.size ∧ ∀ b' e', τ' b' = some e' → e'.B = e.B → b' = b)
    (keep : ∀ (q : Nat) (o : Oper), ops.toList[q]? = some o → (l.setIfInBounds i true).getD q false = false → q < p' → ∀ b, N q ≤ b → b < N (q + 1) → get (HH p') b = get (HH (q + 1)) b) :
    DInv X ops F HH N C I σ0 w0 a0 (l.setIfInBounds i true) (a.put o.dst v) w' τ' p' := by
  have hil : i < l.size := Rdy.lt r h.lsz
  have htl : ∀ t, o.dst = some t → t < a.tmps.size := fun t ht => by rw [h.asz]; exact Nat.lt_of_lt_of_le (c.dst o (List.mem_of_getElem? r.at_) t ht) c.size
  have hother : ∀ t, o.dst ≠ some t → (a.put o.dst v).tmps.getD t undef = a.tmps.getD t undef := fun t ht => by
    cases hd : o.dst with
    | none => rfl
    | some u => rw [getD_put (htl u hd), if_neg (fun e => ht (by rw [hd, e]))]
  exact {
    lsz := by simp [h.lsz]
    ple, acts, ext, unch, rel, afr, src, pend, keep
    edges := fun j oj hj hl e he hb => (listed_iff hil).2 (.inr (by
      rcases (listed_iff hil).1 hl with rfl | hl
      · rw [r.at_] at hj; obtain rfl := Option.some.inj hj
        exact r.ed e he hb
      · exact h.edges j oj hj hl e he hb))
    asz := by rw [put_size]; exact h.asz
    adf := by rw [put_defers]; exact h.adf
    done := fun j oj t hj hl hd => by
      by_cases e : j = i
      · subst e
        rw [r.at_] at hj; obtain rfl := Option.some.inj hj
        rw [hd, getD_put (htl t hd), if_pos rfl]; exact hv
      · rw [hother t (fun hd' => c.good.one j i oj o t e hj r.at_ hd hd')]
        exact (h.done j oj t hj (((listed_iff hil).1 hl).resolve_left e) hd).mono hle
    todo := fun t ht => by
      have h1 : o.dst ≠ some t := ht i o r.at_ ((listed_iff hil).2 (.inl rfl))
      rw [hother t h1]
      exact h.todo t fun j oj hj hl => ht j oj hj ((listed_iff hil).2 (.inr hl)) }
/-- one that leaves the world as it is -/
theorem DInv.still (c : Ctx X ops n F HH N C I σ0 w0 a0) (h : DInv X ops F HH N C I σ0 w0 a0 l a w τ p) {i : Nat} {o : Oper} (r : Rdy ops l i o) (hc : cls X o.op ≠ 3) {v : Value} (hv : VR τ I (C i) v) : DInv X ops F HH N C I σ0 w0 a0 (l.setIfInBounds i true) (a.put o.dst v) w τ p := by
  have hil : i < l.size := Rdy.lt r h.lsz
  refine h.next c r hv (SLe.refl _) h.ple (fun j oj hj hcj => ?_) h.ext h.unch h.rel h.afr (fun b e hb => ?_) (fun b e hb hp => ?_) fun q oq hq hl hqp => h.keep q oq hq (unlisted hil hl).2 hqp
  · have hji : j ≠ i := fun e => by subst e; rw [r.at_] at hj; obtain rfl := Option.some.inj hj; exact hc hcj
    rw [listed_iff hil, ← h.acts j oj hj hcj]
    exact ⟨fun h => h.resolve_left hji, .inr⟩
  · rcases h.src b e hb with hs | ⟨q, oq, h1, h2, h3⟩
    · exact .inl hs
    · exact .inr ⟨q, oq, h1, (listed_iff hil).2 (.inr h2), h3⟩
  · obtain ⟨q, oq, h1, h2, h3, h4⟩ := h.pend b e hb hp
    exact ⟨q, oq, h1, h2, (listed_iff hil).2 (.inr h3), h4⟩
/-- one that makes memory -/
theorem DInv.made (c : Ctx X ops n F HH N C I σ0 w0 a0) (h : DInv X ops F HH N C I σ0 w0 a0 l a w τ p) {i : Nat} {o : Oper} (r : Rdy ops l i o) (hc : cls X o.op = 1) {v : Value} {n1 : Nat} {x : Ev.Obj} {ob : Go.Obj} {w' : World} {e : SE} (h1 : N i ≤ n1) (h2 : N (i + 1) = n1 + 1) (hx : get (HH (i + 1)) n1 = x)
    (hq : Pushed w ob w') (hB : e.B = w.heap.size) (ho : ∀ w'' : World, w''.heap[e.B]? = some ob → ObjR (upd (cut τ (N i)) n1 e) I x e w'') (hv : VR (upd (cut τ (N i)) n1 e) I (C i) v) : ∃ τ', DInv X ops F HH N C I σ0 w0 a0 (l.setIfInBounds i true) (a.put o.dst v) w' τ' p := by
  have hheap := hq.heap
  have hil : i < l.size := Rdy.lt r h.lsz
  have hlt := lt_len r.at_
  have hnone : τ n1 = none := by
    cases hb : τ n1 with
    | none => rfl
    | some e' =>
      rcases h.src n1 e' hb with hs | ⟨q, oq, hq, hD, _, q1, q2⟩
      · have := (c.rel.dom n1 e' hs).1
        have := c.nle (Nat.zero_le i) (Nat.le_of_lt hlt)
        omega
      · have := c.apart r.at_ hq h1 (by omega) q1 q2
        subst this
        rw [r.not] at hD; cases hD
  have hle : SLe τ (upd τ n1 e) := sle_upd hnone
  have hold : ∀ B, B < w.heap.size → w'.heap[B]? = w.heap[B]? := fun B hB' => by
    rw [hheap]; rw [Array.getElem?_push, if_neg (by omega)]
  have hnew : w'.heap[e.B]? = some ob := by rw [hheap, hB]; simp
  have hsz : w'.heap.size = w.heap.size + 1 := by rw [hheap]; simp
  have hsub : ∀ m, n1 < m → SLe (upd (cut τ (N i)) n1 e) (cut (upd τ n1 e) m) ∨ True := fun _ _ => .inr trivial
  have hsub' : ∀ m, N (i + 1) ≤ m → SLe (upd (cut τ (N i)) n1 e) (cut (upd τ n1 e) m) := fun m hm b e' hb => by
    by_cases hbn : b = n1
    · subst hbn
      rw [upd_same] at hb; obtain rfl := Option.some.inj hb
      exact cut_some.2 ⟨by omega, upd_same⟩
    · rw [upd_ne hbn] at hb
      obtain ⟨hb1, hb2⟩ := cut_some.1 hb
      exact cut_some.2 ⟨by omega, by rw [upd_ne hbn]; exact hb2⟩
  have hactj : ∀ (j : Nat) (oj : Oper), ops.toList[j]? = some oj → cls X oj.op = 3 → ((l.setIfInBounds i true).getD j false = true ↔ j < p) := fun j oj hj hcj => by
    have hji : j ≠ i := fun e => by subst e; rw [r.at_] at hj; obtain rfl := Option.some.inj hj; omega
    rw [listed_iff hil, ← h.acts j oj hj hcj]
    exact ⟨fun h => h.resolve_left hji, .inr⟩
  refine ⟨upd τ n1 e, h.next c r (hv.mono (fun b e' hb => ?_)) hle h.ple hactj ⟨h.ext.1.trans hle, fun b e' hb => ?_⟩ ⟨by have := h.unch.1; omega, fun B hB' hn => ?_, hq.os.trans h.unch.os, hq.out.trans h.unch.out⟩ ⟨fun b e' hb => ?_, fun b e' hb => ?_, fun b b' e1 e2 hb hb' hBB hd hd' => ?_, ((h.gnd c).next (fun b e' hb => by
    by_cases hbn : b = n1
    · subst hbn; rw [upd_same] at hb; obtain rfl := Option.some.inj hb; exact .inr (by omega)
    · rw [upd_ne hbn] at hb; exact .inl ⟨b, e', hb, rfl⟩) fun z _ hz => hold z hz).mono fun b e hb => (cut_some.1 hb).2⟩ h.afr (fun b e' hb => ?_) (fun b e' hb hp => ?_) (fun q oq hq hl hqp => h.keep q oq hq (unlisted hil hl).2 hqp)⟩
  · by_cases hbn : b = n1
    · subst hbn; rw [upd_same] at hb ⊢; exact hb
    · rw [upd_ne hbn] at hb ⊢; exact (cut_some.1 hb).2
  · by_cases hbn : b = n1
    · subst hbn; rw [upd_same] at hb; obtain rfl := Option.some.inj hb
      have := c.nle (Nat.zero_le i) (Nat.le_of_lt hlt)
      exact .inr ⟨by omega, .inl (by rw [hB]; exact h.unch.1)⟩
    · rw [upd_ne hbn] at hb; exact h.ext.2 b e' hb
  · rw [hold B (Nat.lt_of_lt_of_le hB' h.unch.1)]; exact h.unch.2 B hB' hn
  · obtain ⟨hb1, hb2⟩ := cut_some.1 hb
    refine ⟨hb1, ?_⟩
    by_cases hbn : b = n1
    · subst hbn; rw [upd_same] at hb2; obtain rfl := Option.some.inj hb2; omega
    · rw [upd_ne hbn] at hb2; have := h.bsz hb2; omega
  · obtain ⟨hb1, hb2⟩ := cut_some.1 hb
    by_cases hbn : b = n1
    · subst hbn; rw [upd_same] at hb2; obtain rfl := Option.some.inj hb2
      have hip : i < p := by
        rcases Nat.lt_or_ge i p with hlt' | hge
        · exact hlt'
        · have := c.nle (show p ≤ i from hge) (Nat.le_of_lt hlt); omega
      rw [h.keep i o r.at_ r.not hip b h1 (by omega), hx]
      exact (ho w' hnew).mono (hsub' _ (c.nle (show i + 1 ≤ p from hip) h.ple))
    · rw [upd_ne hbn] at hb2
      refine ((h.rel.obj b e' (cut_some.2 ⟨hb1, hb2⟩)).world (hold _ (h.bsz hb2))).mono (cut_mono hle (Nat.le_refl _))
  · obtain ⟨hb1, hb2⟩ := cut_some.1 hb
    obtain ⟨hb1', hb2'⟩ := cut_some.1 hb'
    by_cases hbn : b = n1 <;> by_cases hbn' : b' = n1
    · omega
    · subst hbn; rw [upd_same] at hb2; obtain rfl := Option.some.inj hb2
      rw [upd_ne hbn'] at hb2'; have := h.bsz hb2'; omega
    · subst hbn'; rw [upd_same] at hb2'; obtain rfl := Option.some.inj hb2'
      rw [upd_ne hbn] at hb2; have := h.bsz hb2; omega
    · rw [upd_ne hbn] at hb2; rw [upd_ne hbn'] at hb2'
      exact h.rel.inj b b' e1 e2 (cut_some.2 ⟨hb1, hb2⟩) (cut_some.2 ⟨hb1', hb2'⟩) hBB hd hd'
  · by_cases hbn : b = n1
    · subst hbn
      exact .inr ⟨i, o, r.at_, (listed_iff hil).2 (.inl rfl), .inl hc, h1, by omega⟩
    · rw [upd_ne hbn] at hb
      rcases h.src b e' hb with hs | ⟨q, oq, q1, q2, q3⟩
      · exact .inl hs
      · exact .inr ⟨q, oq, q1, (listed_iff hil).2 (.inr q2), q3⟩
  · by_cases hbn : b = n1
    · subst hbn
      rw [upd_same] at hb; obtain rfl := Option.some.inj hb
      have hpi : p ≤ i := by
        rcases Nat.lt_or_ge i p with hlt' | hge
        · have := c.nle (show i + 1 ≤ p from hlt') h.ple; omega
        · exact hge
      refine ⟨i, o, r.at_, hc, (listed_iff hil).2 (.inl rfl), hpi, h1, by omega, ?_, by omega, fun b' e'' hb' hBB => ?_⟩
      · rw [hx]; exact (ho w' hnew).mono (hsub' _ (Nat.le_refl _))
      · by_cases hbn' : b' = b
        · exact hbn'
        · rw [upd_ne hbn'] at hb'; have := h.bsz hb'; omega
    · rw [upd_ne hbn] at hb
      obtain ⟨q, oq, q1, q2, q3, q4, q5, q6, q7, q8, q9⟩ := h.pend b e' hb hp
      refine ⟨q, oq, q1, q2, (listed_iff hil).2 (.inr q3), q4, q5, q6, (q7.world (hold _ q8)).mono (cut_mono hle (Nat.le_refl _)), by omega, fun b' e'' hb' hBB => ?_⟩
      by_cases hbn' : b' = n1
      · subst hbn'; rw [upd_same] at hb'; obtain rfl := Option.some.inj hb'; omega
      · rw [upd_ne hbn'] at hb'; exact q9 b' e'' hb' hBB
/-- an act -/
theorem DInv.acted (c : Ctx X ops n F HH N C I σ0 w0 a0) {i : Nat} {o : Oper} (h : DInv X ops F HH N C I σ0 w0 a0 l a w τ i) (r : Rdy ops l i o) (hc : cls X o.op = 3) {v : Value} {w' : World} {σ' : Sig} (ha : After (cut τ (N i)) I (HH i) (N i) w σ' (HH (i + 1)) (N (i + 1)) w') (hv : VR σ' I (C i) v) :
    ∃ τ', DInv X ops F HH N C I σ0 w0 a0 (l.setIfInBounds i true) (a.put o.dst v) w' τ' (i + 1) := by
  have hil : i < l.size := Rdy.lt r h.lsz
  have hlt := lt_len r.at_
  have hNi : N i ≤ N (i + 1) := c.nle (Nat.le_succ i) hlt
  have hN0 : N 0 ≤ N i := c.nle (Nat.zero_le _) (Nat.le_of_lt hlt)
  -- what is known: the act's own, and what is pending
  let τ' : Sig := fun b => if b < N (i + 1) then σ' b else τ b
  have hgap : ∀ b e, τ b = some e → N i ≤ b → N (i + 1) ≤ b := fun b e hb h1 => by
    obtain ⟨q, oq, q1, q2, q3, q4, q5, q6, _⟩ := h.pend b e hb h1
    rcases Nat.lt_or_ge b (N (i + 1)) with hlt' | hge
    · have := c.apart r.at_ q1 h1 hlt' q5 q6
      subst this
      rw [r.not] at q3; cases q3
    · exact hge
  have hlow : ∀ b, b < N (i + 1) → τ' b = σ' b := fun b hb => if_pos hb
  have hhigh : ∀ b, N (i + 1) ≤ b → τ' b = τ b := fun b hb => if_neg (by omega)
  have hcut : cut τ' (N (i + 1)) = σ' := by
    funext b
    unfold cut
    by_cases hb : b < N (i + 1)
    · rw [if_pos hb, hlow b hb]
    · rw [if_neg hb]
      cases hs : σ' b with
      | none => rfl
      | some e => exact absurd (ha.rel.dom b e hs).1 hb
  have hle : SLe τ τ' := fun b e hb => by
    by_cases hb1 : b < N (i + 1)
    · rw [hlow b hb1]
      refine ha.ext.1 b e (cut_some.2 ⟨?_, hb⟩)
      rcases Nat.lt_or_ge b (N i) with hlt' | hge
      · exact hlt'
      · have := hgap b e hb hge; omega
    · rw [hhigh b (by omega)]; exact hb
  have hσ' : SLe σ' τ' := fun b e hb => by rw [hlow b (ha.rel.dom b e hb).1]; exact hb
  -- where what is known came from
  have hcases : ∀ b e, τ' b = some e → τ b = some e ∨ (b < N (i + 1) ∧ N i ≤ b ∧ σ' b = some e ∧ (w.heap.size ≤ e.B ∨ ∃ b0 e0, cut τ (N i) b0 = some e0 ∧ e0.B = e.B)) := fun b e hb => by
    by_cases hb1 : b < N (i + 1)
    · rw [hlow b hb1] at hb
      rcases ha.ext.2 b e hb with h1 | ⟨h1, h2⟩
      · exact .inl (cut_some.1 h1).2
      · exact .inr ⟨hb1, h1, hb, h2⟩
    · rw [hhigh b (by omega)] at hb; exact .inl hb
  have hpkeep : ∀ b e, τ b = some e → N (i + 1) ≤ b → w'.heap[e.B]? = w.heap[e.B]? ∧ e.B < w.heap.size := fun b e hb h1 => by
    obtain ⟨q, oq, q1, q2, q3, q4, q5, q6, q7, q8, q9⟩ := h.pend b e hb (by omega)
    refine ⟨ha.unch.2 e.B q8 fun b' e' hb' hBB => ?_, q8⟩
    obtain ⟨hb1, hb2⟩ := cut_some.1 hb'
    have := q9 b' e' hb2 hBB
    omega
  refine ⟨τ', h.next c r (hv.mono hσ') hle hlt (fun j oj hj hcj => ?_) ⟨h.ext.1.trans hle, fun b e hb => ?_⟩ ⟨Nat.le_trans h.unch.1 ha.unch.1, fun B hB hn => ?_, ha.unch.os.trans h.unch.os, ha.unch.out.trans h.unch.out⟩ (by rw [hcut]; exact ha.rel) (fun b hb hn => ?_) (fun b e hb => ?_) (fun b e hb h1 => ?_) (fun q oq hq hl hqp b h1 h2 => ?_)⟩
  · by_cases hji : j = i
    · subst hji; exact ⟨fun _ => Nat.lt_succ_self _, fun _ => (listed_iff hil).2 (.inl rfl)⟩
    · rw [listed_iff hil]
      have := h.acts j oj hj hcj
      constructor
      · intro hh; have := this.1 (hh.resolve_left hji); omega
      · intro hh; exact .inr (this.2 (by omega))
  · rcases hcases b e hb with h1 | ⟨_, h1, _, h2⟩
    · exact h.ext.2 b e h1
    · refine .inr ⟨by omega, ?_⟩
      rcases h2 with h2 | ⟨b0, e0, h3, h4⟩
      · exact .inl (Nat.le_trans h.unch.1 h2)
      · rcases h.ext.2 b0 e0 (cut_some.1 h3).2 with h5 | ⟨_, h5 | ⟨b1, e1, h6, h7⟩⟩
        · exact .inr ⟨b0, e0, h5, h4⟩
        · exact .inl (by omega)
        · exact .inr ⟨b1, e1, h6, h7.trans h4⟩
  · rw [ha.unch.2 B (Nat.lt_of_lt_of_le hB h.unch.1), h.unch.2 B hB hn]
    intro b e hb
    rcases h.ext.2 b e (cut_some.1 hb).2 with h1 | ⟨_, h2 | ⟨b0, e0, h3, h4⟩⟩
    · exact hn b e h1
    · omega
    · rw [← h4]; exact hn b0 e0 h3
  · have hτ : τ b = none := by
      cases hb' : τ b with
      | none => rfl
      | some e =>
        rcases h.ext.2 b e hb' with h1 | ⟨h1, _⟩
        · rw [hn] at h1; cases h1
        · omega
    have hcn : cut τ (N i) b = none := by unfold cut; split <;> first | exact hτ | rfl
    rw [ha.afr b (by omega) hcn]; exact h.afr b hb hn
  · rcases hcases b e hb with h1 | ⟨h1, h2, _, _⟩
    · rcases h.src b e h1 with hs | ⟨q, oq, q1, q2, q3⟩
      · exact .inl hs
      · exact .inr ⟨q, oq, q1, (listed_iff hil).2 (.inr q2), q3⟩
    · exact .inr ⟨i, o, r.at_, (listed_iff hil).2 (.inl rfl), .inr hc, h2, h1⟩
  · rw [hhigh b h1] at hb
    obtain ⟨q, oq, q1, q2, q3, q4, q5, q6, q7, q8, q9⟩ := h.pend b e hb (by omega)
    have hqi : q ≠ i := fun e => by subst e; rw [r.not] at q3; cases q3
    obtain ⟨k1, k2⟩ := hpkeep b e hb h1
    refine ⟨q, oq, q1, q2, (listed_iff hil).2 (.inr q3), by omega, q5, q6, (q7.world k1).mono (cut_mono hle (Nat.le_refl _)), Nat.lt_of_lt_of_le q8 ha.unch.1, fun b' e' hb' hBB => ?_⟩
    rcases hcases b' e' hb' with h3 | ⟨_, _, _, h4 | ⟨b0, e0, h5, h6⟩⟩
    · exact q9 b' e' h3 hBB
    · omega
    · have := q9 b0 e0 (cut_some.1 h5).2 (h6.trans hBB)
      have := (cut_some.1 h5).1
      omega
  · obtain ⟨hqi, hlq⟩ := unlisted hil hl
    have hlt2 : b < N i := Nat.lt_of_lt_of_le h2 (c.nle (show q + 1 ≤ i by omega) (Nat.le_of_lt hlt))
    have hcn : cut τ (N i) b = none := by
      cases hb' : cut τ (N i) b with
      | none => rfl
      | some e =>
        rcases h.src b e (cut_some.1 hb').2 with hs | ⟨q', oq', q1, q2, q3, q4, q5⟩
        · have := (c.rel.dom b e hs).1
          have := c.nle (Nat.zero_le q) (Nat.le_of_lt (lt_len hq))
          omega
        · have := c.apart hq q1 h1 h2 q4 q5
          subst this
          rw [hlq] at q2; cases q2
    rw [ha.afr b hlt2 hcn]
    exact h.keep q oq hq hlq (by omega) b h1 h2
end Go.Ev
