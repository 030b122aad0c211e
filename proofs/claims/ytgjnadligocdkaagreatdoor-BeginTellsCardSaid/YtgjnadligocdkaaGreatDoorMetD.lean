/-
  Metas as texts: told, read again, chosen.
-/
import Derived.Test.YtgjnadligocdkaaGreatDoorLocD
set_option linter.unusedVariables false
set_option linter.unusedSimpArgs false
set_option maxRecDepth 100000
namespace Go.Proofs.YtgjnadligocdkaaGreatDoor
open Go.RowKit
open Go.Ev (LB Im CellOk ArgI LBs lofB lofI csB csI Got packL packB mkPtr mkSl nameQ rowIs tupIs liveB imA imS imC)
noncomputable abbrev runI (g : Nat) (fn : Func) (cs : List Nat) (bl : List LB) (il : List Im) (chk : Nat → Ev.HT → Nat → Bool) : Bool := Ev.isTr (Ev.runLo Ev.XA 2000 g fn (packL (0 :: cs)) (lofI bl il) (bl.length + il.length + 1) chk)
theorem li {g : Nat} {fn : Func} (hg : Tryz.prog.funcs[g]? = some fn) (ho : Ev.orcAt Ev.orcA g = 0) {w : World} (ns : List Value) (h1 : ∀ v ∈ ns, Ev.One v) (hl : ns.length < 1000) (bl : List LB) (il : List Im) (hbl : bl.length + il.length < 1000) (hd : (bl.map (·.B)).Nodup) (hok : LBs ns w bl) (hil : ∀ x ∈ il, x.ok ns) (xs : List (Nat × Value)) (hx : ∀ x ∈ xs, ArgI ns bl il x)
    {chk : Nat → Ev.HT → Nat → Bool} (hrun : runI g fn (xs.map (·.1)) bl il chk = true) :
    Calls Tryz.prog g (xs.map (·.2)).toArray w fun e w' => ∃ v c H nx I σ cs, e = .returned v ∧ Got ns bl chk w v w' c H nx I σ cs :=
  Ev.loc_imm (Ev.envE Ev.orcA) Ev.sizeE Ev.fnsOkA Ev.orcA_ok Ev.mixedE hg ho ns h1 hl bl il hbl hd hok hil xs hx hrun
noncomputable def strIs (H : Ev.HT) (c n N : Nat) : Bool := Nat.beq (Ev.hi c) 13 && @Ev.Obj.rec (fun _ => Bool) (fun _ _ _ _ => false) (fun n' N' => Nat.beq n' n && Nat.beq N' N) (fun _ _ => false) (fun _ _ => false) (fun _ _ _ _ _ => false) (fun _ _ _ => false) (fun _ _ _ => false) false (Ev.get H (Ev.lo c))
noncomputable def aggIs (H : Ev.HT) (c n N : Nat) : Bool := Nat.beq (Ev.hi c) 1 && @Ev.Obj.rec (fun _ => Bool) (fun _ _ _ _ => false) (fun _ _ => false) (fun n' N' => Nat.beq n' n && Nat.beq (Ev.low1 N') (Ev.low1 N)) (fun _ _ => false) (fun _ _ _ _ _ => false) (fun _ _ _ => false) (fun _ _ _ => false) false (Ev.get H (Ev.lo c))
noncomputable def tupN (H : Ev.HT) (c : Nat) : Nat := @Ev.Obj.rec (fun _ => Nat) (fun _ _ _ _ => 0) (fun _ _ => 0) (fun _ _ => 0) (fun _ N => N) (fun _ _ _ _ _ => 0) (fun _ _ _ => 0) (fun _ _ _ => 0) 0 (Ev.get H (Ev.lo c))
section
variable {ns : List Value} {bl : List LB} {chk : Nat → Ev.HT → Nat → Bool} {w0 w : World} {v : Value} {c : Nat} {H : Ev.HT} {nx : Nat} {I : Ev.Imm} {σ : Ev.Sig} {cs : List (Nat × Value)}
theorem imm_at (h : Got ns bl chk w0 v w c H nx I σ cs) {i : Nat} {x : Ev.Obj} (hg : Ev.get H i = x) (hi : Ev.isImm x) (hd : x ≠ .dead) (hl : i < 262144) : I i = x := by
  have hlt : i < nx := by
    rcases Nat.lt_or_ge i nx with q | q
    · exact q
    · rw [h.post.free.2 _ q hl] at hg
      exact absurd hg.symm hd
  have := h.post.holds i hlt (by rw [hg]; exact hi)
  rw [this, hg]
theorem got_str (h : Got ns bl chk w0 v w c H nx I σ cs) {d : Nat} {u : Value} {s : ByteArray} (hs : strIs H d s.data.toList.length (packB s.data.toList) = true) (hu : Ev.VR σ I d u) : u = .string s := by
  unfold strIs at hs
  rw [Bool.and_eq_true, Nat.beq_eq] at hs
  obtain ⟨h13, hs⟩ := hs
  cases hg : Ev.get H (Ev.lo d) with
  | str n N =>
    rw [hg] at hs
    replace hs : (Nat.beq n s.data.toList.length && Nat.beq N (packB s.data.toList)) = true := hs
    rw [Bool.and_eq_true, Nat.beq_eq, Nat.beq_eq] at hs
    have hp := hu.toP (by omega)
    unfold Ev.CRp at hp
    rw [h13] at hp
    obtain ⟨t, rfl, hl, hI⟩ := hp
    have := imm_at h hg trivial (fun e => by cases e) hl
    rw [hI] at this
    injection this with r1 r2
    exact congrArg Value.string (Ev.bytes_ext (Ev.packB_inj (by omega) (by omega)))
  | _ => rw [hg] at hs; exact absurd hs (by simp)
theorem got_agg (h : Got ns bl chk w0 v w c H nx I σ cs) {d : Nat} {u : Value} {cl : List Nat} {vs : List Value} (hc : ∀ c ∈ cl, c < 2 ^ 128) (hs : aggIs H d cl.length (packL (0 :: cl)) = true) (hv : CsOk ns [] cl vs) (hu : Ev.VR σ I d u) : u = .agg vs.toArray := by
  unfold aggIs at hs
  rw [Bool.and_eq_true, Nat.beq_eq] at hs
  obtain ⟨h1, hs⟩ := hs
  cases hg : Ev.get H (Ev.lo d) with
  | agg n N =>
    rw [hg] at hs
    replace hs : (Nat.beq n cl.length && Nat.beq (Ev.low1 N) (Ev.low1 (packL (0 :: cl)))) = true := hs
    rw [Bool.and_eq_true, Nat.beq_eq, Nat.beq_eq] at hs
    rcases (hu.toV (by omega)).toA (by omega) with k | ⟨_, hl, N', us, hI, rfl, hu'⟩
    · have := k.ne; omega
    · have := imm_at h hg trivial (fun e => by cases e) hl
      rw [hI] at this
      injection this with r1 r2
      subst r2
      congr 1
      apply Array.ext
      · rw [r1, hs.1]; simpa using hv.len.symm
      · intro i h1 h2
        have hi' : i < vs.length := by simpa using h2
        have k := hu' i h1
        rw [Ev.low1_eq hs.2, Ev.dig_cl hc] at k
        rcases hv.at_ i hi' with ⟨q1, q2⟩ | ⟨_, q⟩
        · have e3 : us[i] = vs[i] := by
            rcases q2 with q2 | q2 | q2
            · exact h.det q1 (.inl q2) (Ev.CRs.toV k)
            · exact h.det q1 (.inr q2) (Ev.CRs.toV k)
            · rw [q2] at k q1
              have hv' : Ev.VR σ I 1188422437713965063903159255040 vs[i] := by
                rcases q1.2 with ⟨j, r1, r2⟩ | r
                · have k := h.nm j _ r1
                  rw [← r2] at k
                  exact h.post.cells (1188422437713965063903159255040, vs[i]) k
                · exact r σ I
              exact (nil_det (Ev.CRs.toV k)).trans (nil_det hv').symm
          rw [e3]; simp
        · cases q
  | _ => rw [hg] at hs; exact absurd hs (by simp)
end
def n8 (n : Nat) : List UInt8 := (List.range 8).map fun i => UInt8.ofNat (n / 256 ^ i % 256)
def metaX (t L : Nat) : List UInt8 := n8 6 ++ (n8 t ++ (n8 0 ++ (n8 0 ++ (n8 0 ++ (n8 0 ++ n8 L)))))
noncomputable def metaL (t L : Nat) : List UInt8 := n8 (Ev.sumB (metaX t L) 5381) ++ metaX t L
noncomputable def metaB (t L : Nat) : ByteArray := ⟨(metaL t L).toArray⟩
def metaC (t L : Nat) : List Nat := [uC t, iC 0, iC 0, iC 0, iC 0, iC L]
def metaV (t L : Nat) : List Value := [.int .u64 (t : Int), .int .i64 ((0 : Nat) : Int), .int .i64 ((0 : Nat) : Int), .int .i64 ((0 : Nat) : Int), .int .i64 ((0 : Nat) : Int), .int .i64 (L : Int)]
theorem meta_cs {ns : List Value} {cs : List (Nat × Value)} {t L : Nat} (ht : t < 1000) (hL : L < 1000) : CsOk ns cs (metaC t L) (metaV t L) := ⟨uC_d (by omega), iC_d (by decide), iC_d (by decide), iC_d (by decide), iC_d (by decide), iC_d (by omega), trivial⟩
theorem meta_lt {t L : Nat} (ht : t < 1000) (hL : L < 1000) : ∀ c ∈ metaC t L, c < 2 ^ 128 := fun c hc => by
  simp only [metaC, List.mem_cons, List.not_mem_nil, or_false] at hc
  rcases hc with rfl | rfl | rfl | rfl | rfl | rfl <;> (first | (unfold uC; omega) | (unfold iC; omega))
noncomputable def chkM (t L c : Nat) (H : Ev.HT) (_nx : Nat) : Bool := strIs H c (metaL t L).length (packB (metaL t L))
noncomputable def mbR (t d : Nat) : Bool := runI 22 Tryz.f22 [1 + 1 * 79228162514264337593543950336] [] [imA (metaC t (d + 2)) (metaV t (d + 2))] (chkM t (d + 2))
noncomputable def chkC (n r : Nat) (cl : List Nat) (c : Nat) (H : Ev.HT) (_nx : Nat) : Bool := tupIs H c 2 (tupN H c) && aggIs H (Ev.dig (tupN H c) 1) n (packL (0 :: cl)) && Nat.beq (Ev.dig (tupN H c) 2) r
def nS : Nat := 1188422437713965063903159255040
def eS : Nat := 950737950171172051122527404032
def nE : Nat := 1663791412799551089464422957056
def pageC (t L : Nat) : List Nat := iC 6 :: nS :: nS :: nS :: eS :: nS :: nS :: iC 0 :: metaC t L
def pageV (t L : Nat) : List Value := .int .i64 ((6 : Nat) : Int) :: .slice none 0 0 :: .slice none 0 0 :: .slice none 0 0 :: .string ⟨#[]⟩ :: .slice none 0 0 :: .slice none 0 0 :: .int .i64 ((0 : Nat) : Int) :: metaV t L
theorem eS_ok {ns : List Value} : CellOk ns eS (.string ⟨#[]⟩) := ⟨by decide +kernel, .inr fun σ I => by
  have := Ev.crp_str (σ := σ) (I := I) (s := ⟨#[]⟩) (by decide)
  have e : Ev.strC ⟨#[]⟩ = eS := by decide +kernel
  rw [e] at this
  exact this.toV⟩
theorem page_cs {ns : List Value} {cs : List (Nat × Value)} {t L : Nat} (ht : t < 1000) (hL : L < 1000) : CsOk ns cs (pageC t L) (pageV t L) := ⟨iC_d (by decide), nil_d, nil_d, nil_d, .inl ⟨eS_ok, .inl (by decide +kernel)⟩, nil_d, nil_d, iC_d (by decide), meta_cs ht hL⟩
theorem page_lt {t L : Nat} (ht : t < 1000) (hL : L < 1000) : ∀ c ∈ pageC t L, c < 2 ^ 128 := fun c hc => by
  simp only [pageC, List.mem_cons] at hc
  rcases hc with rfl | rfl | rfl | rfl | rfl | rfl | rfl | rfl | hc
  · unfold iC; decide
  all_goals first
    | exact meta_lt ht hL c hc
    | decide +kernel
noncomputable def rdR (g : Nat) (fn : Func) (r t d : Nat) : Bool := runI g fn [1 + 13 * 79228162514264337593543950336] [] [imS (metaB t (d + 2))] (chkC 14 r (pageC t (d + 2)))
noncomputable abbrev mbA (a k : Nat) : Prop := ((List.range k).all fun i => (List.range 5).all (mbR (a + i))) = true
noncomputable abbrev rdA (g : Nat) (fn : Func) (r a k : Nat) : Prop := ((List.range k).all fun i => (List.range 5).all (rdR g fn r (a + i))) = true
end Go.Proofs.YtgjnadligocdkaaGreatDoor
