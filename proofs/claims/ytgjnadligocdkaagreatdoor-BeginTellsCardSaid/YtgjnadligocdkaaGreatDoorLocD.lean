/-
  A call that the evaluator runs from blocks that the caller knows: at this program.
-/
import Derived.Test.YtgjnadligocdkaaGreatDoorSvSA
import Derived.Test.YtgjnadligocdkaaGreatDoorBlkK
set_option linter.unusedVariables false
set_option linter.unusedSimpArgs false
set_option maxRecDepth 100000
namespace Go.Proofs.YtgjnadligocdkaaGreatDoor
open Go.RowKit
open Go.Ev (LB CellOk ArgOk LBs lofB csB Got packL mkPtr mkSl nameQ rowIs tupIs liveB)
noncomputable abbrev runA (g : Nat) (fn : Func) (cs : List Nat) (bl : List LB) (chk : Nat → Ev.HT → Nat → Bool) : Bool := Ev.isTr (Ev.runLo Ev.XA 2000 g fn (packL (0 :: cs)) (lofB bl) (bl.length + 1) chk)
theorem lc {g : Nat} {fn : Func} (hg : Tryz.prog.funcs[g]? = some fn) (ho : Ev.orcAt Ev.orcA g = 0) {w : World} (ns : List Value) (h1 : ∀ v ∈ ns, Ev.One v) (hl : ns.length < 1000) (bl : List LB) (hbl : bl.length < 1000) (hd : (bl.map (·.B)).Nodup) (hok : LBs ns w bl) (xs : List (Nat × Value)) (hx : ∀ x ∈ xs, ArgOk ns bl x)
    {chk : Nat → Ev.HT → Nat → Bool} (hrun : runA g fn (xs.map (·.1)) bl chk = true) :
    Calls Tryz.prog g (xs.map (·.2)).toArray w fun e w' => ∃ v c H nx I σ cs, e = .returned v ∧ Got ns bl chk w v w' c H nx I σ cs :=
  Ev.loc_all (Ev.envE Ev.orcA) Ev.sizeE Ev.fnsOkA Ev.orcA_ok Ev.mixedE hg ho ns h1 hl bl hbl hd hok xs hx hrun
theorem turned {bl : List LB} {ns : List Value} {chk : Nat → Ev.HT → Nat → Bool} {w0 w : World} {v : Value} {c : Nat} {H : Ev.HT} {nx : Nat} {I : Ev.Imm} {σ : Ev.Sig} {cs : List (Nat × Value)} (h : Got ns bl chk w0 v w c H nx I σ cs) : Turned (bl.map (·.B)) w0 w := ⟨h.post.turned.size, h.post.turned.os, h.post.turned.out, h.post.turned.same⟩
def iC (n : Nat) : Nat := 554597137599850363154807652352 + n
def uC (n : Nat) : Nat := 871509787656907713528983453696 + n
theorem iC_ok {ns : List Value} {n : Nat} (h : n < 9223372036854775808) : CellOk ns (iC n) (.int .i64 (n : Int)) :=
  ⟨by unfold iC; rw [Ev.hi_def]; omega, .inr fun σ I => Ev.i64_vr (by simp [IntKind.min, IntKind.signed, IntKind.bits] <;> omega) (by simp [IntKind.max, IntKind.signed, IntKind.bits] <;> omega) (by unfold iC; omega) σ I⟩
theorem uC_ok {ns : List Value} {n : Nat} (h : n < 18446744073709551616) : CellOk ns (uC n) (.int .u64 (n : Int)) := by
  have h11 : Ev.hi (uC n) = 11 := by unfold uC; rw [Ev.hi_def]; omega
  refine ⟨by rw [h11]; decide, .inr fun σ I => Ev.CRp.toV ?_⟩
  unfold Ev.CRp; rw [h11]
  refine ⟨(n : Int), rfl, ?_, ?_, ?_⟩
  · show (0 : Int) ≤ _; omega
  · show (n : Int) ≤ 18446744073709551615; omega
  · show uC n = 871509787656907713528983453696 + (((n : Int) % 18446744073709551616).toNat); unfold uC; omega
theorem nm_ok {ns : List Value} {i : Nat} {v : Value} (h : ns[i]? = some v) (hi : i < 1000) : CellOk ns (nameQ (i + 1) 0) v := by
  obtain ⟨e, _⟩ := Ev.nameQ_at (j := i + 1) (q := 0) (by omega) (by decide)
  exact ⟨by rw [e]; decide, .inl ⟨i, h, rfl⟩⟩
theorem nilS_ok {ns : List Value} : CellOk ns 1188422437713965063903159255040 (.slice none 0 0) :=
  ⟨by decide +kernel, .inr fun σ I => Ev.vr_sl (b := 0) (n := 0) (by decide +kernel) (.inl ⟨rfl, rfl⟩)⟩
noncomputable def rowN (H : Ev.HT) (b : Nat) : Nat := @Ev.Obj.rec (fun _ => Nat) (fun _ N _ _ => N) (fun _ _ => 0) (fun _ _ => 0) (fun _ _ => 0) (fun _ _ _ _ _ => 0) (fun _ _ _ => 0) (fun _ _ _ => 0) 0 (Ev.get H b)
theorem array2 {vs : Array Value} (h : vs.size = 2) {a b : Value} (h0 : vs[0]'(by omega) = a) (h1 : vs[1]'(by omega) = b) : vs = #[a, b] := by
  apply Array.ext
  · simpa using h
  · intro i hi _
    match i with
    | 0 => exact h0
    | 1 => exact h1
    | n + 2 => omega
def CsOk (ns : List Value) (cs : List (Nat × Value)) : List Nat → List Value → Prop
  | [], [] => True
  | c :: l, v :: r => ((CellOk ns c v ∧ (Ev.hi c ≤ 12 ∨ Ev.hi c = 28 ∨ c = 1188422437713965063903159255040)) ∨ ((3 ≤ Ev.hi c ∧ Ev.hi c ≠ 23) ∧ (c, v) ∈ cs)) ∧ CsOk ns cs l r
  | _, _ => False
theorem CsOk.len {ns : List Value} {cs : List (Nat × Value)} : ∀ {l : List Nat} {r : List Value}, CsOk ns cs l r → r.length = l.length
  | [], [], _ => rfl
  | _ :: l, _ :: r, h => congrArg Nat.succ h.2.len
  | [], _ :: _, h => h.elim
  | _ :: _, [], h => h.elim
theorem CsOk.at_ {ns : List Value} {cs : List (Nat × Value)} : ∀ {l : List Nat} {r : List Value}, CsOk ns cs l r → ∀ i (h : i < r.length), (CellOk ns (l.getD i 0) r[i] ∧ (Ev.hi (l.getD i 0) ≤ 12 ∨ Ev.hi (l.getD i 0) = 28 ∨ l.getD i 0 = 1188422437713965063903159255040)) ∨ ((3 ≤ Ev.hi (l.getD i 0) ∧ Ev.hi (l.getD i 0) ≠ 23) ∧ (l.getD i 0, r[i]) ∈ cs)
  | c :: l, v :: r, h, 0, _ => h.1
  | c :: l, v :: r, h, i + 1, hi => h.2.at_ i (by simpa using hi)
  | [], [], _, i, hi => by simp at hi
  | [], _ :: _, h, _, _ => h.elim
  | _ :: _, [], h, _, _ => h.elim
theorem okT_of {ns : List Value} {w : World} {B β cap m et : Nat} {cl : List Nat} {vs : List Value} {cs : List (Nat × Value)} (hB : BlkR w B β vs.toArray cap) (hm : m ≤ 100 ∧ m ≤ cap) (hc : ∀ c ∈ cl, c < 2 ^ 128) (h : CsOk ns cs cl vs) : (LB.mk B cl et vs.toArray m cap β).okT ns w cs :=
  ⟨hB, hm.1, hm.2, by show vs.toArray.size = _; simpa using h.len, hc, fun i hi => by
    have hi' : i < vs.length := by simpa using hi
    rcases h.at_ i hi' with q | q
    · exact .inl q.1
    · exact .inr q⟩
theorem nil_det {σ : Ev.Sig} {I : Ev.Imm} {u : Value} (h : Ev.VR σ I 1188422437713965063903159255040 u) : u = .slice none 0 0 := by
  have h15 : Ev.hi 1188422437713965063903159255040 = 15 := by decide +kernel
  have hp := h.toP (by rw [h15]; decide)
  unfold Ev.CRp at hp
  rw [h15] at hp
  rcases hp with ⟨_, rfl⟩ | ⟨b, o, n, cp, cap, e, _, _, _, _, _, hc, _⟩
  · rfl
  · rw [Ev.mkSl_def] at hc; omega
theorem nil_d {ns : List Value} {cs : List (Nat × Value)} : (CellOk ns 1188422437713965063903159255040 (.slice none 0 0) ∧ (Ev.hi 1188422437713965063903159255040 ≤ 12 ∨ Ev.hi 1188422437713965063903159255040 = 28 ∨ 1188422437713965063903159255040 = 1188422437713965063903159255040)) ∨ ((3 ≤ Ev.hi 1188422437713965063903159255040 ∧ Ev.hi 1188422437713965063903159255040 ≠ 23) ∧ (1188422437713965063903159255040, Value.slice none 0 0) ∈ cs) := .inl ⟨nilS_ok, .inr (.inr rfl)⟩
theorem got_det {ns : List Value} {bl : List LB} {chk : Nat → Ev.HT → Nat → Bool} {w0 w : World} {v : Value} {c : Nat} {H : Ev.HT} {nx : Nat} {I : Ev.Imm} {σ : Ev.Sig} {cs : List (Nat × Value)} (h : Got ns bl chk w0 v w c H nx I σ cs) (hk : bl.length < 1000) {q : Nat} {b : LB} (hb : bl[q]? = some b) {cl : List Nat} {vs : List Value} (hc : ∀ c ∈ cl, c < 2 ^ 128)
    (hr : rowIs H (bl.length - q) cl.length (packL (0 :: cl)) = true) (hv : CsOk ns [] cl vs) : ∃ K, BlkR w b.B b.β vs.toArray K := by
  obtain ⟨us, K, k1, k2, k3⟩ := h.row hb hk hr
  have e : us = vs.toArray := by
    apply Array.ext
    · rw [k2]; simpa using hv.len.symm
    · intro i h1 h2
      have hi' : i < vs.length := by simpa using h2
      have := k3 i h1
      rw [Ev.dig_cl hc] at this
      rcases hv.at_ i hi' with ⟨q1, q2⟩ | ⟨_, q⟩
      · have e3 : us[i] = vs[i] := by
          rcases q2 with q2 | q2 | q2
          · exact h.det q1 (.inl q2) this
          · exact h.det q1 (.inr q2) this
          · rw [q2] at this q1
            have hv' : Ev.VR σ I 1188422437713965063903159255040 vs[i] := by
              rcases q1.2 with ⟨j, r1, r2⟩ | r
              · have k := h.nm j _ r1
                rw [← r2] at k
                exact h.post.cells (1188422437713965063903159255040, vs[i]) k
              · exact r σ I
            exact (nil_det this).trans (nil_det hv').symm
        rw [e3]; simp
      · cases q
  rw [e] at k1
  exact ⟨K, k1⟩
theorem cut_of {w : World} {B K : Nat} {vs : Array Value} (h : BlkR w B 0 vs K) : Blk w B vs := by
  obtain ⟨cells, el, fz, a, b, c, d, e⟩ := h
  exact ⟨cells, el, fz, a, by omega, c.imp id (fun q => by omega), Nat.le_refl _, e⟩
theorem iC_d {ns : List Value} {cs : List (Nat × Value)} {n : Nat} (h : n < 1000000000) : (CellOk ns (iC n) (.int .i64 (n : Int)) ∧ (Ev.hi (iC n) ≤ 12 ∨ Ev.hi (iC n) = 28 ∨ (iC n) = 1188422437713965063903159255040)) ∨ ((3 ≤ Ev.hi (iC n) ∧ Ev.hi (iC n) ≠ 23) ∧ (iC n, .int .i64 (n : Int)) ∈ cs) :=
  .inl ⟨iC_ok (by omega), .inl (by unfold iC; rw [Ev.hi_def]; omega)⟩
theorem uC_d {ns : List Value} {cs : List (Nat × Value)} {n : Nat} (h : n < 1000000000) : (CellOk ns (uC n) (.int .u64 (n : Int)) ∧ (Ev.hi (uC n) ≤ 12 ∨ Ev.hi (uC n) = 28 ∨ (uC n) = 1188422437713965063903159255040)) ∨ ((3 ≤ Ev.hi (uC n) ∧ Ev.hi (uC n) ≠ 23) ∧ (uC n, .int .u64 (n : Int)) ∈ cs) :=
  .inl ⟨uC_ok (by omega), .inl (by unfold uC; rw [Ev.hi_def]; omega)⟩
theorem nm_d {ns : List Value} {cs : List (Nat × Value)} {i : Nat} {v : Value} (h : ns[i]? = some v) (hi : i < 1000) : (CellOk ns (nameQ (i + 1) 0) v ∧ (Ev.hi (nameQ (i + 1) 0) ≤ 12 ∨ Ev.hi (nameQ (i + 1) 0) = 28 ∨ (nameQ (i + 1) 0) = 1188422437713965063903159255040)) ∨ ((3 ≤ Ev.hi (nameQ (i + 1) 0) ∧ Ev.hi (nameQ (i + 1) 0) ≠ 23) ∧ (nameQ (i + 1) 0, v) ∈ cs) :=
  .inl ⟨nm_ok h hi, .inr (.inl (Ev.nameQ_at (j := i + 1) (q := 0) (by omega) (by decide)).1)⟩
theorem sl_d {ns : List Value} {cs : List (Nat × Value)} {b m : Nat} {v : Value} (hb : b < 1000 ∧ m ≤ 100) (h : (mkSl b 0 m 8388609, v) ∈ cs) : (CellOk ns (mkSl b 0 m 8388609) v ∧ (Ev.hi (mkSl b 0 m 8388609) ≤ 12 ∨ Ev.hi (mkSl b 0 m 8388609) = 28 ∨ (mkSl b 0 m 8388609) = 1188422437713965063903159255040)) ∨ ((3 ≤ Ev.hi (mkSl b 0 m 8388609) ∧ Ev.hi (mkSl b 0 m 8388609) ≠ 23) ∧ (mkSl b 0 m 8388609, v) ∈ cs) :=
  .inr ⟨by rw [Ev.hi_mkSl (by omega) (by decide) (by omega) (by decide)]; decide, h⟩
section
variable {ns : List Value} {bl : List LB} {chk : Nat → Ev.HT → Nat → Bool} {w0 w : World} {v : Value} {c : Nat} {H : Ev.HT} {nx : Nat} {I : Ev.Imm} {σ : Ev.Sig} {cs : List (Nat × Value)}
theorem got_apart (h : Got ns bl chk w0 v w c H nx I σ cs) (hk : bl.length < 1000) {q : Nat} {x : LB} (hb : bl[q]? = some x) {n N m M r : Nat} (hr : rowIs H (bl.length - q) n N = true) (hs : rowIs H r m M = true) (hne : r ≠ bl.length - q) {e : Ev.SE} (he : σ r = some e) : e.B ≠ x.B := fun q' => by
  obtain ⟨e2, s1, s2, _⟩ := h.sig hb hk
  exact hne (h.post.rel.inj _ _ _ _ he s1 (by rw [q', s2]) (Ev.rowIs_live hs) (Ev.rowIs_live hr))
theorem got_sl (h : Got ns bl chk w0 v w c H nx I σ cs) {b m : Nat} (hb : b < 262144 ∧ m ≤ 100) {is : List Nat} (hi : ∀ i ∈ is, i < 1000) (hr : rowIs H b is.length (packL (0 :: is.map iC)) = true) {u : Value} (hu : Ev.VR σ I (mkSl b 0 m 8388609) u) :
    ∃ e : Ev.SE, σ b = some e ∧ (e.B ∈ bl.map (·.B) ∨ w0.heap.size ≤ e.B) ∧ u = .slice (some ⟨e.B, e.β, none⟩) m e.K ∧ m ≤ e.K ∧ BlkR w e.B e.β (is.map fun (i : Nat) => Value.int .i64 (i : Int)).toArray e.K := by
  have h15 : Ev.hi (mkSl b 0 m 8388609) = 15 := Ev.hi_mkSl (by omega) (by decide) (by omega) (by decide)
  have his : Ev.isSl (mkSl b 0 m 8388609) = true := by
    unfold Ev.isSl
    rw [Ev.and'_eq, h15]
    have : Ev.some' (mkSl b 0 m 8388609) = true := by
      rw [Ev.some'_def, Ev.mkSl_def]; simp; omega
    rw [this]; rfl
  obtain ⟨e, cap, hs⟩ := Ev.isSl_inv hu his
  have e1 := hs.at_
  rw [Ev.blk_mkSl (by omega)] at e1
  have e2 := hs.val
  rw [Ev.off_mkSl (by omega) (by decide), Ev.sln_mkSl (by omega) (by decide) (by omega)] at e2
  have e3 := hs.opens (by rw [Ev.scp_mkSl (by omega) (by decide) (by omega) (by decide)]; decide)
  rw [Ev.scp_mkSl (by omega) (by decide) (by omega) (by decide), Ev.off_mkSl (by omega) (by decide)] at e3
  have e4 := hs.le
  rw [Ev.sln_mkSl (by omega) (by decide) (by omega)] at e4
  obtain ⟨us, k1, k2, k3⟩ := Ev.row_at h.post.rel e1 hr
  have hes : e.s = 1 := by omega
  have hK : cap = e.K := by rw [← e3.2.2, hes]; omega
  rw [hK] at e2 e4
  refine ⟨e, e1, h.post.range b e e1, e2, e4, ?_⟩
  have hus : us = (is.map fun (i : Nat) => Value.int .i64 (i : Int)).toArray := by
    apply Array.ext
    · simpa using k2
    · intro i h1 h2
      have := k3 i h1
      have hlt : i < is.length := by simpa using h2
      rw [Ev.dig_cl (fun x hx => by
        obtain ⟨y, hy, rfl⟩ := List.mem_map.1 hx
        have := hi y hy
        unfold iC; omega)] at this
      have e1 : (is.map iC).getD i 0 = iC is[i] := by simp [List.getD_eq_getElem?_getD, hlt]
      rw [e1] at this
      have hm := hi is[i] (List.getElem_mem _)
      have ok := iC_ok (ns := ns) (n := is[i]) (by omega)
      have := h.det ok (.inl (by unfold iC; rw [Ev.hi_def]; omega)) this
      rw [this]; simp
  rw [← hus]; exact k1
end
theorem lt_all {l : List Nat} (h : l.all (fun c => Nat.blt c (2 ^ 128)) = true) : ∀ c ∈ l, c < 2 ^ 128 := fun c hc => Ev.blt_iff.1 (List.all_eq_true.1 h c hc)
end Go.Proofs.YtgjnadligocdkaaGreatDoor
