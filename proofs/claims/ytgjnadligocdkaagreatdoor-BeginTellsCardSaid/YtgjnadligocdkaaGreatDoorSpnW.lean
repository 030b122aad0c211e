/-
  The living, as the program has them and as the document has them: two processes are spawned; the second one is killed.
-/
import Derived.Test.YtgjnadligocdkaaGreatDoorLocD
set_option linter.unusedVariables false
set_option linter.unusedSimpArgs false
set_option maxRecDepth 100000
namespace Go.Proofs.YtgjnadligocdkaaGreatDoor
open Go.RowKit
open Go.Ev (LB CellOk ArgOk LBs lofB csB Got packL mkPtr mkSl nameQ rowIs tupIs liveB)
def PrAt (w : World) (P R β cap : Nat) (is : List Nat) (last : Nat) : Prop := Blk w P #[.slice (some ⟨R, β, none⟩) is.length cap, .int .i64 (last : Int)] ∧ BlkR w R β (is.map fun (i : Nat) => Value.int .i64 (i : Int)).toArray cap ∧ is.length ≤ cap
def prA (P : Nat) : List LB := [⟨P, [1188422437713965063903159255040, iC 0], 122, [Value.slice none 0 0, .int .i64 ((0 : Nat) : Int)].toArray, 0, 2, 0⟩]
def prB (P R β cap : Nat) (is : List Nat) (last : Nat) : List LB := [⟨P, [mkSl 1 0 is.length 8388609, iC last], 122, [Value.slice (some ⟨R, β, none⟩) is.length cap, .int .i64 (last : Int)].toArray, 0, 2, 0⟩, ⟨R, is.map iC, 3, (is.map fun (i : Nat) => Value.int .i64 (i : Int)).toArray, is.length, cap, β⟩]
noncomputable def prRow (H : Ev.HT) (b m : Nat) (is : List Nat) (last : Nat) : Bool :=
  (fun d => (fun r => rowIs H b 2 (packL [0, d, iC last]) && Nat.beq d (mkSl r 0 m 8388609) && rowIs H r is.length (packL (0 :: is.map iC)) && Nat.blt r 262144 && !Nat.beq r b && Nat.ble m is.length) (Ev.blk d)) (Ev.dig (rowN H b) 1)
theorem prRow_at {ns : List Value} {bl : List LB} {chk : Nat → Ev.HT → Nat → Bool} {w0 w : World} {v : Value} {c : Nat} {H : Ev.HT} {nx : Nat} {I : Ev.Imm} {σ : Ev.Sig} {cs : List (Nat × Value)} (h : Got ns bl chk w0 v w c H nx I σ cs) (hk : bl.length < 1000) {q : Nat} {b : LB} (hb : bl[q]? = some b) (hβ : b.β = 0) {m : Nat} {is : List Nat} {last : Nat} (hm : m ≤ 100) (hi : ∀ i ∈ is, i < 1000) (hl : last < 1000)
    (hr : prRow H (bl.length - q) m is last = true) : ∃ R β cap, (R ∈ bl.map (·.B) ∨ w0.heap.size ≤ R) ∧ R ≠ b.B ∧ Blk w b.B #[.slice (some ⟨R, β, none⟩) m cap, .int .i64 (last : Int)] ∧ BlkR w R β (is.map fun (i : Nat) => Value.int .i64 (i : Int)).toArray cap ∧ m ≤ cap := by
  unfold prRow at hr
  simp only [Bool.and_eq_true, Nat.beq_eq, Ev.blt_iff, Bool.not_eq_true', Ev.beq_false, Ev.ble_iff] at hr
  obtain ⟨⟨⟨⟨⟨r1, r2⟩, r3⟩, r4⟩, r5⟩, r6⟩ := hr
  generalize Ev.dig (rowN H (bl.length - q)) 1 = d at *
  obtain ⟨us, K, k1, k2, k3⟩ := h.row hb hk r1
  have hd : ∀ x ∈ [d, iC last], x < 2 ^ 128 := fun x hx => by
    simp only [List.mem_cons, List.not_mem_nil, or_false] at hx
    rcases hx with rfl | rfl
    · rw [r2, Ev.mkSl_def]; omega
    · unfold iC; omega
  have h0 := k3 0 (by omega)
  have h1 := k3 1 (by omega)
  rw [Ev.dig_cl hd] at h0 h1
  replace h0 : Ev.VR σ I d us[0] := h0
  replace h1 : Ev.VR σ I (iC last) us[1] := h1
  rw [r2] at h0
  obtain ⟨e, s1, s2, s3, s4, s5⟩ := got_sl h ⟨r4, hm⟩ hi r3 h0
  have h1' := h.det (iC_ok (ns := ns) (n := last) (by omega)) (.inl (by unfold iC; rw [Ev.hi_def]; omega)) h1
  have e2 := array2 k2 s3 h1'
  rw [e2, hβ] at k1
  exact ⟨e.B, e.β, e.K, s2, got_apart h hk hb r1 r3 r5 s1, cut_of k1, s5, s4⟩
theorem prA_ok {w : World} {P : Nat} (h : Blk w P #[.slice none 0 0, .int .i64 0]) : LBs [] w (prA P) :=
  ⟨okT_of (vs := [.slice none 0 0, .int .i64 ((0 : Nat) : Int)]) h ⟨by decide, by decide⟩ (lt_all (by decide +kernel)) ⟨nil_d, iC_d (by decide), trivial⟩, trivial⟩
theorem prB_ok {w : World} {P R β cap last : Nat} {is : List Nat} {ns : List Value} {tl : List LB} (h : PrAt w P R β cap is last) (hi : is.length ≤ 100) (hcl : (is.map iC).all (fun c => Nat.blt c (2 ^ 128)) = true) (hin : CsOk ns [] (is.map iC) (is.map fun (i : Nat) => Value.int .i64 (i : Int))) (hl : last < 1000) : LBs ns w (prB P R β cap is last) :=
  ⟨okT_of (vs := [.slice (some ⟨R, β, none⟩) is.length cap, .int .i64 (last : Int)]) h.1 ⟨by decide, by decide⟩ (fun c hc => by
      simp only [List.mem_cons, List.not_mem_nil, or_false] at hc
      rcases hc with rfl | rfl
      · rw [Ev.mkSl_def]; omega
      · unfold iC; omega) ⟨sl_d ⟨by decide, hi⟩ (List.mem_cons_self ..), iC_d (by omega), trivial⟩,
    okT_of h.2.1 ⟨hi, h.2.2⟩ (lt_all hcl) hin, trivial⟩
noncomputable def chkP (q m : Nat) (is : List Nat) (last : Nat) (_c : Nat) (H : Ev.HT) (_nx : Nat) : Bool := prRow H q m is last
theorem run_s1 : runA 10 Tryz.f10 [mkPtr 1 0] (prA 0) (chkP 1 1 [1] 1) = true := by decide +kernel
theorem run_s2 : runA 10 Tryz.f10 [mkPtr 2 0] (prB 0 0 0 0 [1] 1) (chkP 2 2 [1, 2] 2) = true := by decide +kernel
theorem run_k2 : runA 16 Tryz.f16 [mkPtr 2 0, iC 2] (prB 0 0 0 0 [1, 2] 2) (chkP 2 1 [1, 0] 2) = true := by decide +kernel
theorem run_k1 : runA 16 Tryz.f16 [mkPtr 2 0, iC 2] (prB 0 0 0 0 [1] 2) (chkP 2 1 [1] 2) = true := by decide +kernel
theorem run_r1 : runA 11 Tryz.f11 [mkPtr 1 0] (prA 0) (chkP 1 1 [1] 1) = true := by decide +kernel
theorem run_r2 : runA 11 Tryz.f11 [mkPtr 2 0] (prB 0 0 0 0 [1] 1) (chkP 2 2 [1, 2] 2) = true := by decide +kernel
theorem run_q2 : runA 17 Tryz.f17 [mkPtr 2 0, iC 2] (prB 0 0 0 0 [1, 2] 2) (chkP 2 1 [1] 2) = true := by decide +kernel
theorem run_q1 : runA 17 Tryz.f17 [mkPtr 2 0, iC 2] (prB 0 0 0 0 [1] 2) (chkP 2 1 [1] 2) = true := by decide +kernel
theorem BlkR.less {w : World} {B β K : Nat} {vs us : Array Value} (h : BlkR w B β vs K) (hu : us.size ≤ vs.size) (he : ∀ i (h : i < us.size), vs[i]? = some us[i]) : BlkR w B β us K := by
  obtain ⟨cells, el, fz, a, b, c, d, e⟩ := h
  refine ⟨cells, el, fz, a, b, c, by omega, fun i hi => ?_⟩
  have h1 := he i hi
  obtain ⟨h2, h3⟩ := Array.getElem?_eq_some_iff.1 h1
  rw [e i h2, h3]
theorem pr_any {g : Nat} {fn : Func} (hg : Tryz.prog.funcs[g]? = some fn) (ho : Ev.orcAt Ev.orcA g = 0) {w : World} {bl : List LB} (hk : bl.length < 1000) (hd : (bl.map (·.B)).Nodup) (hok : LBs [] w bl) {b : LB} (hb : bl[0]? = some b) (hβ : b.β = 0) {xs : List (Nat × Value)} (hx : ∀ x ∈ xs, ArgOk [] bl x) {m last : Nat} {is : List Nat} (hm : m ≤ 100) (hi : ∀ i ∈ is, i < 1000) (hl : last < 1000)
    (hr : runA g fn (xs.map (·.1)) bl (chkP bl.length m is last) = true) : Calls Tryz.prog g (xs.map (·.2)).toArray w fun e w' => ∃ v R β cap, e = .returned v ∧ Turned (bl.map (·.B)) w w' ∧ (R ∈ bl.map (·.B) ∨ w.heap.size ≤ R) ∧ R ≠ b.B ∧ Blk w' b.B #[.slice (some ⟨R, β, none⟩) m cap, .int .i64 (last : Int)] ∧ BlkR w' R β (is.map fun (i : Nat) => Value.int .i64 (i : Int)).toArray cap ∧ m ≤ cap := by
  refine (lc hg ho [] (by simp) (by decide) bl hk hd hok xs hx hr).mono ?_
  rintro e w' ⟨v, c, H, nx, I, σ, cs, rfl, h⟩
  obtain ⟨R, β, cap, a1, a2, a3, a4, a5⟩ := prRow_at h hk hb hβ hm hi hl (by have q := h.chk; exact q)
  exact ⟨v, R, β, cap, rfl, turned h, a1, a2, a3, a4, a5⟩
theorem ptr_ok {ns : List Value} {bl : List LB} {b : LB} {q k : Nat} (hb : bl[q]? = some b) (hk : bl.length - q = k) : ArgOk ns bl (mkPtr k 0, .pointer (some ⟨b.B, b.β, none⟩)) := by
  subst hk
  exact .inr (Ev.csB_at hb)
theorem i_ok {ns : List Value} {bl : List LB} {n : Nat} (h : n < 1000000) : ArgOk ns bl (iC n, .int .i64 (n : Int)) := .inl (iC_ok (by omega))
theorem all1 {α : Type} {Q : α → Prop} {a : α} (h : Q a) : ∀ x ∈ [a], Q x := fun x hx => by
  simp only [List.mem_cons, List.not_mem_nil, or_false] at hx
  subst hx; exact h
theorem all2 {α : Type} {Q : α → Prop} {a b : α} (h : Q a) (k : Q b) : ∀ x ∈ [a, b], Q x := fun x hx => by
  simp only [List.mem_cons, List.not_mem_nil, or_false] at hx
  rcases hx with rfl | rfl
  · exact h
  · exact k
theorem all3 {α : Type} {Q : α → Prop} {a b c : α} (h : Q a) (k : Q b) (l : Q c) : ∀ x ∈ [a, b, c], Q x := fun x hx => by
  simp only [List.mem_cons, List.not_mem_nil, or_false] at hx
  rcases hx with rfl | rfl | rfl
  · exact h
  · exact k
  · exact l
def PrTo (P R : Nat) (w w' : World) (is : List Nat) (last : Nat) (R' : Nat) : Prop := ∃ β cap, Turned [P, R] w w' ∧ (R' = R ∨ w.heap.size ≤ R') ∧ R' ≠ P ∧ PrAt w' P R' β cap is last
def Pr1 (g : Nat) : Prop := ∀ (P : Nat) (w : World), Blk w P #[.slice none 0 0, .int .i64 0] → Calls Tryz.prog g #[.pointer (some ⟨P, 0, none⟩)] w fun e w' => ∃ v R β cap, e = .returned v ∧ Turned [P] w w' ∧ w.heap.size ≤ R ∧ R ≠ P ∧ PrAt w' P R β cap [1] 1
def Pr2 (g : Nat) : Prop := ∀ (P R β cap : Nat) (w : World), PrAt w P R β cap [1] 1 → R ≠ P → Calls Tryz.prog g #[.pointer (some ⟨P, 0, none⟩)] w fun e w' => ∃ v R', e = .returned v ∧ PrTo P R w w' [1, 2] 2 R'
def PrK (g : Nat) (is : List Nat) : Prop := ∀ (P R β cap : Nat) (w : World), PrAt w P R β cap is 2 → R ≠ P → Calls Tryz.prog g #[.pointer (some ⟨P, 0, none⟩), .int .i64 2] w fun e w' => ∃ v R', e = .returned v ∧ PrTo P R w w' [1] 2 R'
theorem pr1_of {g : Nat} {fn : Func} (hg : Tryz.prog.funcs[g]? = some fn) (ho : Ev.orcAt Ev.orcA g = 0) (hr : runA g fn [mkPtr 1 0] (prA 0) (chkP 1 1 [1] 1) = true) : Pr1 g := fun P w h => by
  refine (pr_any hg ho (w := w) (bl := prA P) (by show 1 < 1000; decide) (List.nodup_cons.2 ⟨by simp, List.nodup_nil⟩) (prA_ok h) (b := ⟨P, _, _, _, _, _, _⟩) rfl rfl (xs := [(mkPtr 1 0, .pointer (some ⟨P, 0, none⟩))]) (all1 (ptr_ok (bl := prA P) (q := 0) rfl rfl)) (m := 1) (last := 1) (is := [1]) (by decide) (by decide) (by decide) hr).mono ?_
  rintro e w' ⟨v, R, β, cap, rfl, a1, a2, a3, a4, a5, a6⟩
  refine ⟨v, R, β, cap, rfl, a1, a2.resolve_left fun q => ?_, a3, a4, a5, a6⟩
  exact a3 (List.mem_singleton.1 q)
theorem pr2_of {g : Nat} {fn : Func} (hg : Tryz.prog.funcs[g]? = some fn) (ho : Ev.orcAt Ev.orcA g = 0) (hr : runA g fn [mkPtr 2 0] (prB 0 0 0 0 [1] 1) (chkP 2 2 [1, 2] 2) = true) : Pr2 g := fun P R β cap w h hne => by
  refine (pr_any hg ho (w := w) (bl := prB P R β cap [1] 1) (by show 2 < 1000; decide) (List.nodup_cons.2 ⟨by simp [prB]; exact fun q => hne q.symm, List.nodup_cons.2 ⟨by simp, List.nodup_nil⟩⟩) (prB_ok h (by decide) (by decide +kernel) ⟨iC_d (by decide), trivial⟩ (by decide) (tl := [])) (b := ⟨P, _, _, _, _, _, _⟩) rfl rfl (xs := [(mkPtr 2 0, .pointer (some ⟨P, 0, none⟩))]) (all1 (ptr_ok (bl := prB P R β cap [1] 1) (q := 0) rfl rfl)) (m := 2) (last := 2) (is := [1, 2]) (by decide) (by decide) (by decide) hr).mono ?_
  rintro e w' ⟨v, R', β', cap', rfl, a1, a2, a3, a4, a5, a6⟩
  refine ⟨v, R', rfl, β', cap', a1, a2.imp (fun q => ?_) id, a3, a4, a5, a6⟩
  rcases List.mem_cons.1 q with q | q
  · exact absurd q a3
  · exact List.mem_singleton.1 q
theorem prK_of {g : Nat} {fn : Func} {is is' : List Nat} (hg : Tryz.prog.funcs[g]? = some fn) (ho : Ev.orcAt Ev.orcA g = 0) (hi : is = [1] ∨ is = [1, 2]) (hi' : is' = [1] ∨ is' = [1, 0]) (hr : runA g fn [mkPtr 2 0, iC 2] (prB 0 0 0 0 is 2) (chkP 2 1 is' 2) = true) : PrK g is := fun P R β cap w h hne => by
  refine (pr_any hg ho (w := w) (bl := prB P R β cap is 2) (by show 2 < 1000; decide) (List.nodup_cons.2 ⟨by simp [prB]; exact fun q => hne q.symm, List.nodup_cons.2 ⟨by simp, List.nodup_nil⟩⟩) (prB_ok h (by rcases hi with rfl | rfl <;> decide) (by rcases hi with rfl | rfl <;> decide +kernel) (by
    rcases hi with rfl | rfl
    · exact ⟨iC_d (by decide), trivial⟩
    · exact ⟨iC_d (by decide), iC_d (by decide), trivial⟩) (by decide) (tl := [])) (b := ⟨P, _, _, _, _, _, _⟩) rfl rfl (xs := [(mkPtr 2 0, .pointer (some ⟨P, 0, none⟩)), (iC 2, .int .i64 2)]) (all2 (ptr_ok (bl := prB P R β cap is 2) (q := 0) rfl rfl) (i_ok (n := 2) (by decide))) (m := 1) (last := 2) (is := is') (by decide) (by rcases hi' with rfl | rfl <;> decide) (by decide) hr).mono ?_
  rintro e w' ⟨v, R', β', cap', rfl, a1, a2, a3, a4, a5, a6⟩
  refine ⟨v, R', rfl, β', cap', a1, a2.imp (fun q => ?_) id, a3, a4, a5.less ?_ ?_, a6⟩
  · rcases List.mem_cons.1 q with q | q
    · exact absurd q a3
    · exact List.mem_singleton.1 q
  · rcases hi' with rfl | rfl <;> decide
  · intro i hi2
    have : i = 0 := by simpa using hi2
    subst this
    rcases hi' with rfl | rfl <;> rfl
theorem spawn_1 : Pr1 10 := pr1_of Tryz.func10 (by decide +kernel) run_s1
theorem spawn_2 : Pr2 10 := pr2_of Tryz.func10 (by decide +kernel) run_s2
theorem spawn_r1 : Pr1 11 := pr1_of Tryz.func11 (by decide +kernel) run_r1
theorem spawn_r2 : Pr2 11 := pr2_of Tryz.func11 (by decide +kernel) run_r2
theorem kill_2 : PrK 16 [1, 2] := prK_of Tryz.func16 (by decide +kernel) (.inr rfl) (.inr rfl) run_k2
theorem kill_1 : PrK 16 [1] := prK_of Tryz.func16 (by decide +kernel) (.inl rfl) (.inl rfl) run_k1
theorem kill_r2 : PrK 17 [1, 2] := prK_of Tryz.func17 (by decide +kernel) (.inr rfl) (.inl rfl) run_q2
theorem kill_r1 : PrK 17 [1] := prK_of Tryz.func17 (by decide +kernel) (.inl rfl) (.inl rfl) run_q1
end Go.Proofs.YtgjnadligocdkaaGreatDoor
