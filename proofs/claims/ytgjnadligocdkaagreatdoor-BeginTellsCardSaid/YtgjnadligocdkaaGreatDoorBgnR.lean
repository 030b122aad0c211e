/-
  Begin of both: the free pages read, the transaction made.
-/
import Derived.Test.YtgjnadligocdkaaGreatDoorMc
import Derived.Test.YtgjnadligocdkaaGreatDoorNewW
set_option linter.unusedVariables false
set_option linter.unusedSimpArgs false
set_option maxRecDepth 100000
namespace Go.Proofs.YtgjnadligocdkaaGreatDoor
open Go.RowKit
open Go.Ev (LB CellOk ArgOk LBs lofB csB Got packL mkPtr mkSl nameQ rowIs tupIs liveB)
def upC (k : Nat) : Nat := 2059932225389319521505852260352 + k
theorem upC_ok {ns : List Value} {k : Nat} {n : Int} (h1 : IntKind.i64.min ≤ n) (h2 : n ≤ IntKind.i64.max) (hk : k < 1000) (h : (k : Int) ≤ n) : CellOk ns (upC k) (.int .i64 n) := by
  have h26 : Ev.hi (upC k) = 26 := by unfold upC; rw [Ev.hi_def]; omega
  refine ⟨by rw [h26]; decide, .inr fun σ I => Ev.CRp.toV ?_⟩
  unfold Ev.CRp; rw [h26]
  refine ⟨n, rfl, h1, h2, ?_⟩
  have e1 : upC k / 18446744073709551616 % 2 = 1 := by unfold upC; omega
  have e2 : upC k % 18446744073709551616 = k := by unfold upC; omega
  rw [if_pos e1, e2]
  exact h
def CsIn (ns : List Value) (cs : List (Nat × Value)) : List Nat → List Value → Prop
  | [], [] => True
  | c :: l, v :: r => (CellOk ns c v ∨ ((3 ≤ Ev.hi c ∧ Ev.hi c ≠ 23) ∧ (c, v) ∈ cs)) ∧ CsIn ns cs l r
  | _, _ => False
theorem CsIn.len {ns : List Value} {cs : List (Nat × Value)} : ∀ {l : List Nat} {r : List Value}, CsIn ns cs l r → r.length = l.length
  | [], [], _ => rfl
  | _ :: l, _ :: r, h => congrArg Nat.succ h.2.len
  | [], _ :: _, h => h.elim
  | _ :: _, [], h => h.elim
theorem CsIn.at_ {ns : List Value} {cs : List (Nat × Value)} : ∀ {l : List Nat} {r : List Value}, CsIn ns cs l r → ∀ i (h : i < r.length), CellOk ns (l.getD i 0) r[i] ∨ ((3 ≤ Ev.hi (l.getD i 0) ∧ Ev.hi (l.getD i 0) ≠ 23) ∧ (l.getD i 0, r[i]) ∈ cs)
  | c :: l, v :: r, h, 0, _ => h.1
  | c :: l, v :: r, h, i + 1, hi => h.2.at_ i (by simpa using hi)
  | [], [], _, i, hi => by simp at hi
  | [], _ :: _, h, _, _ => h.elim
  | _ :: _, [], h, _, _ => h.elim
theorem okT_in {ns : List Value} {w : World} {B β cap m et : Nat} {cl : List Nat} {vs : List Value} {cs : List (Nat × Value)} (hB : BlkR w B β vs.toArray cap) (hm : m ≤ 100 ∧ m ≤ cap) (hc : ∀ c ∈ cl, c < 2 ^ 128) (h : CsIn ns cs cl vs) : (LB.mk B cl et vs.toArray m cap β).okT ns w cs :=
  ⟨hB, hm.1, hm.2, by show vs.toArray.size = _; simpa using h.len, hc, fun i hi => h.at_ i (by simpa using hi)⟩
theorem nE_ok {ns : List Value} : CellOk ns nE .nilIface := by
  have h21 : Ev.hi nE = 21 := by decide +kernel
  refine ⟨by rw [h21]; decide, .inr fun σ I => Ev.CRp.toV ?_⟩
  unfold Ev.CRp; rw [h21]
  exact ⟨by decide +kernel, rfl⟩
theorem bC_ok {ns : List Value} : CellOk ns (Ev.boolC false) (.bool false) := by
  have h3 : Ev.hi (Ev.boolC false) = 3 := by decide +kernel
  refine ⟨by rw [h3]; decide, .inr fun σ I => Ev.CRp.toV ?_⟩
  unfold Ev.CRp; rw [h3]
  exact ⟨false, by decide +kernel, rfl⟩
def mosts : List (Nat × Nat) := [(2, iC 2), (2, upC 3), (3, upC 3), (4, upC 4), (5, upC 5), (6, upC 6)]
noncomputable def rdC (m L : Nat) : List Nat := [iC 1, m, iC 4, nameQ 1 0, iC 0, iC 0, iC 0, iC 0, iC L, nameQ 2 0, nameQ 3 0, nameQ 4 0, nameQ 5 0, uC 0, iC 0, iC 0, iC 0, iC 0, iC 0, Ev.boolC false, nE]
noncomputable def rdE (m L T : Nat) : List Nat := [iC 1, m, iC 0, nameQ 1 0, iC 0, iC 0, iC 0, iC 0, iC L, nameQ 2 0, mkPtr T 0, nS, nameQ 5 0, uC 0, iC 0, iC 0, iC 0, iC 0, iC 0, Ev.boolC false, nE]
noncomputable def txE (L S : Nat) : List Nat := [nameQ 1 0, iC 0, iC 0, iC 0, iC 0, iC L, nS, mkPtr S 0, iC 0, iC 0, iC 0, Ev.boolC true, eS, eS, eS, Ev.boolC false]
def stE (m L d : Nat) : List Nat := [nameQ 6 0, d, nS, nS, iC L, m]
noncomputable def rdB (ty A m L : Nat) (vs : List Value) : List LB := [⟨A, rdC m L, ty, vs.toArray, 0, 21, 0⟩]
noncomputable def chkRd (m L : Nat) (c : Nat) (H : Ev.HT) (_nx : Nat) : Bool :=
  tupIs H c 2 (packL [0, Ev.boolC true, nE]) && (fun T => (fun S => rowIs H 1 21 (packL (0 :: rdE m L T)) && (rowIs H T 16 (packL (0 :: txE L S)) && (rowIs H S 6 (packL (0 :: stE m L (Ev.dig (rowN H S) 2))) && (liveB H 1 && (Nat.blt 1 T && (Nat.blt T 1000 && (Nat.blt 1 S && Nat.blt S 1000))))))) (Ev.blk (Ev.dig (rowN H T) 8))) (Ev.blk (Ev.dig (rowN H 1) 11))
theorem rd_run : (mosts.all fun x => runA 26 Tryz.f26 [mkPtr 1 0, nameQ 6 0, nameQ 7 0, nameQ 8 0] (rdB 0 0 x.2 x.1 []) (chkRd x.2 x.1)) = true := by decide +kernel
noncomputable def rqC (m L : Nat) : List Nat := [iC 1, m, iC 4, iC 0, nameQ 1 0, iC 0, iC 0, iC 0, iC 0, iC L, nameQ 2 0, nameQ 3 0, nameQ 4 0, nameQ 5 0, uC 0, iC 0, iC 0, iC 0, iC 0, iC 0, uC 0, Ev.boolC false]
noncomputable def rqE (m L T : Nat) : List Nat := [iC 1, m, iC 0, iC 0, nameQ 1 0, iC 0, iC 0, iC 0, iC 0, iC L, nameQ 2 0, nS, mkPtr T 0, nameQ 5 0, uC 0, iC 0, iC 0, iC 0, iC 0, iC 0, uC 0, Ev.boolC false]
noncomputable def tqE (L S : Nat) : List Nat := [nameQ 1 0, iC 0, iC 0, iC 0, iC 0, iC L, iC 0, iC 0, iC 0, mkPtr S 0, Ev.boolC true, nS, Ev.boolC false, eS, eS, eS]
def sqE (m L : Nat) : List Nat := [nameQ 6 0, iC L, m, nS, nS, nS, nS]
noncomputable def rqB (ty A m L : Nat) (vs : List Value) : List LB := [⟨A, rqC m L, ty, vs.toArray, 0, 22, 0⟩]
noncomputable def chkRq (m L : Nat) (c : Nat) (H : Ev.HT) (_nx : Nat) : Bool :=
  tupIs H c 2 (packL [0, Ev.boolC true, iC 0]) && (fun T => (fun S => rowIs H 1 22 (packL (0 :: rqE m L T)) && (rowIs H T 16 (packL (0 :: tqE L S)) && (rowIs H S 7 (packL (0 :: sqE m L)) && (liveB H 1 && (Nat.blt 1 T && (Nat.blt T 1000 && (Nat.blt 1 S && Nat.blt S 1000))))))) (Ev.blk (Ev.dig (rowN H T) 10))) (Ev.blk (Ev.dig (rowN H 1) 13))
theorem rq_run : (mosts.all fun x => runA 27 Tryz.f27 [mkPtr 1 0, nameQ 6 0, nameQ 7 0, nameQ 8 0] (rqB 0 0 x.2 x.1 []) (chkRq x.2 x.1)) = true := by decide +kernel
theorem most_in {most : Int} {L : Nat} (h : 2 ≤ L ∧ L ≤ 6) (hm : (L : Int) ≤ most) (hM : most ≤ IntKind.i64.max) : ∃ m, (L, m) ∈ mosts ∧ m < 2 ^ 128 ∧ ∀ ns, CellOk ns m (.int .i64 most) := by
  have h1 : IntKind.i64.min ≤ most := by
    simp only [IntKind.min, IntKind.signed, IntKind.bits]
    simp
    omega
  have up : ∀ k : Nat, k < 1000 → (k : Int) ≤ most → upC k < 2 ^ 128 ∧ ∀ ns, CellOk ns (upC k) (.int .i64 most) := fun k hk hl => ⟨by unfold upC; omega, fun ns => upC_ok h1 hM hk hl⟩
  have h5 : L = 2 ∨ L = 3 ∨ L = 4 ∨ L = 5 ∨ L = 6 := by omega
  rcases h5 with rfl | rfl | rfl | rfl | rfl
  · by_cases e : most = 2
    · subst e
      exact ⟨iC 2, by simp [mosts], by unfold iC; omega, fun ns => iC_ok (n := 2) (by decide)⟩
    · exact ⟨upC 3, by simp [mosts], up 3 (by decide) (by omega)⟩
  · exact ⟨upC 3, by simp [mosts], up 3 (by decide) hm⟩
  · exact ⟨upC 4, by simp [mosts], up 4 (by decide) hm⟩
  · exact ⟨upC 5, by simp [mosts], up 5 (by decide) hm⟩
  · exact ⟨upC 6, by simp [mosts], up 6 (by decide) hm⟩
def TxAt (w : World) (TB τ j SB θ i a L : Nat) : Prop := (∀ k v, (metaV a L)[k]? = some v → w.cell? ⟨TB, τ + k, none⟩ = some v) ∧ w.cell? ⟨TB, τ + j, none⟩ = some (.pointer (some ⟨SB, θ, none⟩)) ∧ w.cell? ⟨SB, θ + i, none⟩ = some (.slice none 0 0)
def nsR (a o : Nat) (t on ch f k p : Value) : List Value := [.int .u64 (a : Int), .int .u64 (o : Int), t, on, ch, f, k, p]
theorem nsR_one {a o : Nat} {t on ch f k p : Value} (ht : Ev.One t) (hon : Ev.One on) (hc : Ev.One ch) (hf : Ev.One f) (hk : Ev.One k) (hp : Ev.One p) : ∀ v ∈ nsR a o t on ch f k p, Ev.One v := fun v hv => by
  have hi : ∀ n : Int, Ev.One (.int .u64 n) := fun n => ⟨fun _ e => Value.noConfusion e, fun _ e => Value.noConfusion e⟩
  simp only [nsR, List.mem_cons, List.not_mem_nil, or_false] at hv
  rcases hv with rfl | rfl | rfl | rfl | rfl | rfl | rfl | rfl
  · exact hi _
  · exact hi _
  all_goals assumption
theorem one_ptr (x : Option Addr) : Ev.One (.pointer x) := ⟨fun _ e => Value.noConfusion e, fun _ e => Value.noConfusion e⟩
theorem one_nilsl : Ev.One (.slice none 0 0) := ⟨fun _ e => Value.noConfusion e, fun _ e => Value.noConfusion e⟩
theorem one_chan : Ev.One (.chan none) := ⟨fun _ e => Value.noConfusion e, fun _ e => Value.noConfusion e⟩
theorem nS_vr {σ : Ev.Sig} {I : Ev.Imm} {u : Value} (h : Ev.VR σ I nS u) : u = .slice none 0 0 := nil_det h
theorem bT_vr {σ : Ev.Sig} {I : Ev.Imm} {u : Value} (h : Ev.VR σ I (Ev.boolC true) u) : u = .bool true := by
  have h3 : Ev.hi (Ev.boolC true) = 3 := by decide +kernel
  have hp := h.toP (by omega)
  unfold Ev.CRp at hp
  rw [h3] at hp
  obtain ⟨b', q1, q2⟩ := hp
  subst q2
  cases b' <;> first | rfl | (exact absurd q1 (by decide +kernel))
theorem meta_of {ns : List Value} {bl : List LB} {chk : Nat → Ev.HT → Nat → Bool} {w0 w : World} {v : Value} {c : Nat} {H : Ev.HT} {nx : Nat} {I : Ev.Imm} {σ : Ev.Sig} {cs : List (Nat × Value)} (h : Got ns bl chk w0 v w c H nx I σ cs) {a L : Nat} (hn : ns[0]? = some (.int .u64 (a : Int))) (hL : L < 1000) {vs : Array Value} {cl : List Nat} (hcl : ∀ c ∈ cl, c < 2 ^ 128) (hs : 6 ≤ vs.size) (hl : (nameQ 1 0 :: iC 0 :: iC 0 :: iC 0 :: iC 0 :: iC L :: cl.drop 6) = cl) (hv : ∀ i (hi : i < vs.size), Ev.VR σ I (Ev.dig (packL (0 :: cl)) (i + 1)) vs[i]) :
    ∀ (k : Nat) (v : Value), (metaV a L)[k]? = some v → vs[k]? = some v := by
  have g : ∀ i (hi : i < vs.size), Ev.VR σ I (cl.getD i 0) vs[i] := fun i hi => by
    have := hv i hi
    rwa [Ev.dig_cl hcl] at this
  have z : ∀ (m : Nat), m < 1000 → ∀ u, Ev.VR σ I (iC m) u → u = .int .i64 (m : Int) := fun m hm u hu => h.det (iC_ok (ns := ns) (by omega)) (.inl (by unfold iC; rw [Ev.hi_def]; omega)) hu
  intro k v hk
  have hk6 : k < 6 := (List.getElem?_eq_some_iff.1 hk).1
  have hlt : k < vs.size := by omega
  have gk := g k hlt
  rw [← hl] at gk
  rw [Array.getElem?_eq_getElem hlt]
  match k, hk6 with
  | 0, _ =>
    injection hk with hk; subst hk
    exact congrArg some (h.det (nm_ok (i := 0) hn (by decide)) (.inr (Ev.nameQ_at (j := 1) (q := 0) (by omega) (by decide)).1) gk)
  | 1, _ => injection hk with hk; subst hk; exact congrArg some (z 0 (by decide) _ gk)
  | 2, _ => injection hk with hk; subst hk; exact congrArg some (z 0 (by decide) _ gk)
  | 3, _ => injection hk with hk; subst hk; exact congrArg some (z 0 (by decide) _ gk)
  | 4, _ => injection hk with hk; subst hk; exact congrArg some (z 0 (by decide) _ gk)
  | 5, _ => injection hk with hk; subst hk; exact congrArg some (z L hL _ gk)
theorem begin_4 {w : World} {A a L o : Nat} {most : Int} {t on f k p : Value} (ht : Ev.One t) (hon : Ev.One on) (hf : Ev.One f) (hk : Ev.One k) (hp : Ev.One p) (hA : Blk w A (wrV most 4 (metaV a L) (.int .u64 (o : Int)) t on .nilIface).toArray) (hL : 2 ≤ L ∧ L ≤ 6) (hm : (L : Int) ≤ most) (hM : most ≤ IntKind.i64.max) :
    Calls Tryz.prog 26 #[.pointer (some ⟨A, 0, none⟩), f, k, p] w fun e w' => e = .returned (.tuple #[.bool true, .nilIface]) ∧ Turned [A] w w' ∧ ∃ TB τ SB θ, w.heap.size ≤ TB ∧ w.heap.size ≤ SB ∧ w'.cell? ⟨A, 10, none⟩ = some (.pointer (some ⟨TB, τ, none⟩)) ∧ TxAt w' TB τ 7 SB θ 3 a L := by
  obtain ⟨m, hm1, hm2, hm3⟩ := most_in hL hm hM
  have hL' : L < 1000 := by omega
  have hmt := List.all_eq_true.1 rd_run _ hm1
  have hcl : ∀ c ∈ rdC m L, c < 2 ^ 128 := fun c hc => by
    simp only [rdC, List.mem_cons, List.not_mem_nil, or_false] at hc
    rcases hc with rfl | rfl | rfl | rfl | rfl | rfl | rfl | rfl | rfl | rfl | rfl | rfl | rfl | rfl | rfl | rfl | rfl | rfl | rfl | rfl | rfl
    all_goals first
      | exact hm2
      | (unfold iC; omega)
      | decide +kernel
  have nm := fun {i : Nat} {v : Value} (h : (nsR a o t on (.chan none) f k p)[i]? = some v) (hi : i < 1000) => nm_ok (ns := nsR a o t on (.chan none) f k p) h hi
  have hcs : CsIn (nsR a o t on (.chan none) f k p) [] (rdC m L) (wrV most 4 (metaV a L) (.int .u64 (o : Int)) t on .nilIface) :=
    ⟨.inl (iC_ok (n := 1) (by decide)), .inl (hm3 _), .inl (iC_ok (n := 4) (by decide)), .inl (nm (i := 0) rfl (by decide)), .inl (iC_ok (n := 0) (by decide)), .inl (iC_ok (n := 0) (by decide)), .inl (iC_ok (n := 0) (by decide)), .inl (iC_ok (n := 0) (by decide)), .inl (iC_ok (by omega)), .inl (nm (i := 1) rfl (by decide)), .inl (nm (i := 2) rfl (by decide)), .inl (nm (i := 3) rfl (by decide)), .inl (nm (i := 4) rfl (by decide)), .inl (uC_ok (n := 0) (by decide)), .inl (iC_ok (n := 0) (by decide)), .inl (iC_ok (n := 0) (by decide)), .inl (iC_ok (n := 0) (by decide)), .inl (iC_ok (n := 0) (by decide)), .inl (iC_ok (n := 0) (by decide)), .inl bC_ok, .inl nE_ok, trivial⟩
  refine (lc (w := w) Tryz.func26 (by decide +kernel) (nsR a o t on (.chan none) f k p) (nsR_one ht hon one_chan hf hk hp) (by show 8 < 1000; decide) (rdB 0 A m L (wrV most 4 (metaV a L) (.int .u64 (o : Int)) t on .nilIface)) (by show 1 < 1000; decide) (List.nodup_cons.2 ⟨by simp, List.nodup_nil⟩) ⟨okT_in hA ⟨by decide, by decide⟩ hcl hcs, trivial⟩ [(mkPtr 1 0, .pointer (some ⟨A, 0, none⟩)), (nameQ 6 0, f), (nameQ 7 0, k), (nameQ 8 0, p)] ?_ hmt).mono ?_
  · intro x hx
    simp only [List.mem_cons, List.not_mem_nil, or_false] at hx
    rcases hx with rfl | rfl | rfl | rfl
    · exact (ptr_ok (bl := rdB 0 A m L (wrV most 4 (metaV a L) (.int .u64 (o : Int)) t on .nilIface)) (q := 0) rfl rfl)
    · exact .inl (nm (i := 5) rfl (by decide))
    · exact .inl (nm (i := 6) rfl (by decide))
    · exact .inl (nm (i := 7) rfl (by decide))
  · rintro e w' ⟨v, c, H, nx, I, σ, cs, rfl, h⟩
    have hc := h.chk
    unfold chkRd at hc
    simp only [Bool.and_eq_true, Ev.blt_iff] at hc
    generalize Ev.blk (Ev.dig (rowN H 1) 11) = T at *
    generalize Ev.blk (Ev.dig (rowN H T) 8) = S at *
    obtain ⟨k1, k2, k3, k4, k5, k6, k7, k8, k9⟩ := hc
    obtain ⟨vs, rfl, b2, b3⟩ := h.post.tup k1
    have h0 := b3 0 (by omega)
    have h1 := b3 1 (by omega)
    have e0 := bT_vr (u := vs[0]) (.inr (.inr (.inl h0)))
    have e1 := nE_det σ I vs[1] (.inr (.inr (.inl h1)))
    obtain ⟨us, K, r1, r2, r3⟩ := h.row (k := 0) rfl (by show 1 < 1000; decide) k2
    have dE : ∀ c ∈ rdE m L T, c < 2 ^ 128 := fun c hc => by
      simp only [rdE, List.mem_cons, List.not_mem_nil, or_false] at hc
      rcases hc with rfl | rfl | rfl | rfl | rfl | rfl | rfl | rfl | rfl | rfl | rfl | rfl | rfl | rfl | rfl | rfl | rfl | rfl | rfl | rfl | rfl
      all_goals first
        | exact hm2
        | (unfold iC; omega)
        | (rw [Ev.mkPtr_def]; omega)
        | decide +kernel
    have g10 := r3 10 (by omega)
    rw [Ev.dig_cl dE] at g10
    obtain ⟨TB, τ, K1, us1, q1, q2, q3⟩ := h.newPtr (b := T) (by show 1 < 1000; decide) k5 ⟨k6, by omega⟩ k3 (u := us[10]) g10
    obtain ⟨y1, y2, y3⟩ := q3
    have dT : ∀ c ∈ txE L S, c < 2 ^ 128 := fun c hc => by
      simp only [txE, List.mem_cons, List.not_mem_nil, or_false] at hc
      rcases hc with rfl | rfl | rfl | rfl | rfl | rfl | rfl | rfl | rfl | rfl | rfl | rfl | rfl | rfl | rfl | rfl
      all_goals first
        | (unfold iC; omega)
        | (rw [Ev.mkPtr_def]; omega)
        | decide +kernel
    have g7 := y3 7 (by omega)
    rw [Ev.dig_cl dT] at g7
    obtain ⟨SB, θ, K2, us2, s1, s2, s3⟩ := h.newPtr (b := S) (by show 1 < 1000; decide) k5 ⟨k8, by omega⟩ k4 (u := us1[7]) g7
    obtain ⟨z1, z2, z3⟩ := s3
    have g3 := z3 3 (by omega)
    have hS := k4
    have dS : ∀ c ∈ stE m L (Ev.dig (rowN H S) 2), c < 2 ^ 128 := fun c hc => by
      simp only [stE, List.mem_cons, List.not_mem_nil, or_false] at hc
      rcases hc with rfl | rfl | rfl | rfl | rfl | rfl
      all_goals first
        | exact hm2
        | exact Ev.dig_lt _ _
        | (unfold iC; omega)
        | decide +kernel
    rw [Ev.dig_cl dS] at g3
    have hA10 : us[10]? = some (.pointer (some ⟨TB, τ, none⟩)) := by rw [Array.getElem?_eq_getElem (by omega), q1]
    have hT7 : us1[7]? = some (.pointer (some ⟨SB, θ, none⟩)) := by rw [Array.getElem?_eq_getElem (by omega), s1]
    have hS3 : us2[3]? = some (.slice none 0 0) := by rw [Array.getElem?_eq_getElem (by omega), nS_vr g3]
    refine ⟨congrArg (fun a => Ending.returned (.tuple a)) (array2 b2 e0 e1), turned h, TB, τ, SB, θ, q2, s2, BlkR.cell r1 hA10, fun k v hk => BlkR.at_ y1 (meta_of h (a := a) (L := L) rfl hL' dT (by omega) rfl y3 k v hk), BlkR.at_ y1 hT7, BlkR.at_ z1 hS3⟩
theorem begin_q4 {w : World} {A a L o : Nat} {most : Int} {pg t f k p : Value} (hpg : Ev.One pg) (ht : Ev.One t) (hf : Ev.One f) (hk : Ev.One k) (hp : Ev.One p) (hA : Blk w A (wqV most 4 0 (metaV a L) (.int .u64 (o : Int)) pg t).toArray) (hL : 2 ≤ L ∧ L ≤ 6) (hm : (L : Int) ≤ most) (hM : most ≤ IntKind.i64.max) :
    Calls Tryz.prog 27 #[.pointer (some ⟨A, 0, none⟩), f, k, p] w fun e w' => e = .returned (.tuple #[.bool true, .int .i64 0]) ∧ Turned [A] w w' ∧ ∃ TB τ SB θ, w.heap.size ≤ TB ∧ w.heap.size ≤ SB ∧ w'.cell? ⟨A, 12, none⟩ = some (.pointer (some ⟨TB, τ, none⟩)) ∧ TxAt w' TB τ 9 SB θ 3 a L := by
  obtain ⟨m, hm1, hm2, hm3⟩ := most_in hL hm hM
  have hL' : L < 1000 := by omega
  have hmt := List.all_eq_true.1 rq_run _ hm1
  have hcl : ∀ c ∈ rqC m L, c < 2 ^ 128 := fun c hc => by
    simp only [rqC, List.mem_cons, List.not_mem_nil, or_false] at hc
    rcases hc with rfl | rfl | rfl | rfl | rfl | rfl | rfl | rfl | rfl | rfl | rfl | rfl | rfl | rfl | rfl | rfl | rfl | rfl | rfl | rfl | rfl | rfl
    all_goals first
      | exact hm2
      | (unfold iC; omega)
      | decide +kernel
  have nm := fun {i : Nat} {v : Value} (h : (nsR a o pg t (.slice none 0 0) f k p)[i]? = some v) (hi : i < 1000) => nm_ok (ns := nsR a o pg t (.slice none 0 0) f k p) h hi
  have hcs : CsIn (nsR a o pg t (.slice none 0 0) f k p) [] (rqC m L) (wqV most 4 0 (metaV a L) (.int .u64 (o : Int)) pg t) :=
    ⟨.inl (iC_ok (n := 1) (by decide)), .inl (hm3 _), .inl (iC_ok (n := 4) (by decide)), .inl (iC_ok (n := 0) (by decide)), .inl (nm (i := 0) rfl (by decide)), .inl (iC_ok (n := 0) (by decide)), .inl (iC_ok (n := 0) (by decide)), .inl (iC_ok (n := 0) (by decide)), .inl (iC_ok (n := 0) (by decide)), .inl (iC_ok (by omega)), .inl (nm (i := 1) rfl (by decide)), .inl (nm (i := 2) rfl (by decide)), .inl (nm (i := 3) rfl (by decide)), .inl (nm (i := 4) rfl (by decide)), .inl (uC_ok (n := 0) (by decide)), .inl (iC_ok (n := 0) (by decide)), .inl (iC_ok (n := 0) (by decide)), .inl (iC_ok (n := 0) (by decide)), .inl (iC_ok (n := 0) (by decide)), .inl (iC_ok (n := 0) (by decide)), .inl (uC_ok (n := 0) (by decide)), .inl bC_ok, trivial⟩
  refine (lc (w := w) Tryz.func27 (by decide +kernel) (nsR a o pg t (.slice none 0 0) f k p) (nsR_one hpg ht one_nilsl hf hk hp) (by show 8 < 1000; decide) (rqB 0 A m L (wqV most 4 0 (metaV a L) (.int .u64 (o : Int)) pg t)) (by show 1 < 1000; decide) (List.nodup_cons.2 ⟨by simp, List.nodup_nil⟩) ⟨okT_in hA ⟨by decide, by decide⟩ hcl hcs, trivial⟩ [(mkPtr 1 0, .pointer (some ⟨A, 0, none⟩)), (nameQ 6 0, f), (nameQ 7 0, k), (nameQ 8 0, p)] ?_ hmt).mono ?_
  · intro x hx
    simp only [List.mem_cons, List.not_mem_nil, or_false] at hx
    rcases hx with rfl | rfl | rfl | rfl
    · exact (ptr_ok (bl := rqB 0 A m L (wqV most 4 0 (metaV a L) (.int .u64 (o : Int)) pg t)) (q := 0) rfl rfl)
    · exact .inl (nm (i := 5) rfl (by decide))
    · exact .inl (nm (i := 6) rfl (by decide))
    · exact .inl (nm (i := 7) rfl (by decide))
  · rintro e w' ⟨v, c, H, nx, I, σ, cs, rfl, h⟩
    have hc := h.chk
    unfold chkRq at hc
    simp only [Bool.and_eq_true, Ev.blt_iff] at hc
    generalize Ev.blk (Ev.dig (rowN H 1) 13) = T at *
    generalize Ev.blk (Ev.dig (rowN H T) 10) = S at *
    obtain ⟨k1, k2, k3, k4, k5, k6, k7, k8, k9⟩ := hc
    obtain ⟨vs, rfl, b2, b3⟩ := h.post.tup k1
    have h0 := b3 0 (by omega)
    have h1 := b3 1 (by omega)
    have e0 := bT_vr (u := vs[0]) (.inr (.inr (.inl h0)))
    have e1 := i0_det σ I vs[1] (.inr (.inr (.inl h1)))
    obtain ⟨us, K, r1, r2, r3⟩ := h.row (k := 0) rfl (by show 1 < 1000; decide) k2
    have dE : ∀ c ∈ rqE m L T, c < 2 ^ 128 := fun c hc => by
      simp only [rqE, List.mem_cons, List.not_mem_nil, or_false] at hc
      rcases hc with rfl | rfl | rfl | rfl | rfl | rfl | rfl | rfl | rfl | rfl | rfl | rfl | rfl | rfl | rfl | rfl | rfl | rfl | rfl | rfl | rfl | rfl
      all_goals first
        | exact hm2
        | (unfold iC; omega)
        | (rw [Ev.mkPtr_def]; omega)
        | decide +kernel
    have g12 := r3 12 (by omega)
    rw [Ev.dig_cl dE] at g12
    obtain ⟨TB, τ, K1, us1, q1, q2, q3⟩ := h.newPtr (b := T) (by show 1 < 1000; decide) k5 ⟨k6, by omega⟩ k3 (u := us[12]) g12
    obtain ⟨y1, y2, y3⟩ := q3
    have dT : ∀ c ∈ tqE L S, c < 2 ^ 128 := fun c hc => by
      simp only [tqE, List.mem_cons, List.not_mem_nil, or_false] at hc
      rcases hc with rfl | rfl | rfl | rfl | rfl | rfl | rfl | rfl | rfl | rfl | rfl | rfl | rfl | rfl | rfl | rfl
      all_goals first
        | (unfold iC; omega)
        | (rw [Ev.mkPtr_def]; omega)
        | decide +kernel
    have g9 := y3 9 (by omega)
    rw [Ev.dig_cl dT] at g9
    obtain ⟨SB, θ, K2, us2, s1, s2, s3⟩ := h.newPtr (b := S) (by show 1 < 1000; decide) k5 ⟨k8, by omega⟩ k4 (u := us1[9]) g9
    obtain ⟨z1, z2, z3⟩ := s3
    have g3 := z3 3 (by omega)
    have hS := k4
    have dS : ∀ c ∈ sqE m L, c < 2 ^ 128 := fun c hc => by
      simp only [sqE, List.mem_cons, List.not_mem_nil, or_false] at hc
      rcases hc with rfl | rfl | rfl | rfl | rfl | rfl | rfl
      all_goals first
        | exact hm2
        | (unfold iC; omega)
        | decide +kernel
    rw [Ev.dig_cl dS] at g3
    have hA12 : us[12]? = some (.pointer (some ⟨TB, τ, none⟩)) := by rw [Array.getElem?_eq_getElem (by omega), q1]
    have hT9 : us1[9]? = some (.pointer (some ⟨SB, θ, none⟩)) := by rw [Array.getElem?_eq_getElem (by omega), s1]
    have hS3 : us2[3]? = some (.slice none 0 0) := by rw [Array.getElem?_eq_getElem (by omega), nS_vr g3]
    refine ⟨congrArg (fun a => Ending.returned (.tuple a)) (array2 b2 e0 e1), turned h, TB, τ, SB, θ, q2, s2, BlkR.cell r1 hA12, fun k v hk => BlkR.at_ y1 (meta_of h (a := a) (L := L) rfl hL' dT (by omega) rfl y3 k v hk), BlkR.at_ y1 hT9, BlkR.at_ z1 hS3⟩
end Go.Proofs.YtgjnadligocdkaaGreatDoor
