/-
  Metas: all runs together. Metas told as texts and read again: what the runs say.
-/
import Derived.Test.YtgjnadligocdkaaGreatDoorMa
import Derived.Test.YtgjnadligocdkaaGreatDoorMb
import Derived.Test.YtgjnadligocdkaaGreatDoorSpnW
set_option maxRecDepth 100000
namespace Go.Proofs.YtgjnadligocdkaaGreatDoor
open Go.RowKit
end Go.Proofs.YtgjnadligocdkaaGreatDoor
set_option linter.unusedVariables false
set_option linter.unusedSimpArgs false
set_option maxRecDepth 100000
namespace Go.Proofs.YtgjnadligocdkaaGreatDoor
open Go.RowKit
open Go.Ev (LB Im CellOk ArgI LBs lofB lofI csB csI Got packL packB mkPtr mkSl nameQ rowIs tupIs liveB imA imS imC)
theorem metaB_list (t L : Nat) : (metaB t L).data.toList = metaL t L := by simp [metaB]
theorem parts2 {a k : Nat} {P : Nat → Bool} (h : ((List.range k).all fun i => P (a + i)) = true) {t : Nat} (h1 : a ≤ t) (h2 : t < a + k) : P t = true := by
  have := List.all_eq_true.1 h (t - a) (List.mem_range.2 (by omega))
  rwa [show a + (t - a) = t by omega] at this
theorem mb_run {t d : Nat} (ht : t < 62) (hd : d < 5) : mbR t d = true := by
  have : ((List.range 5).all (mbR t)) = true := by
    rcases Nat.lt_or_ge t 31 with q | q
    · exact parts2 (P := fun t => (List.range 5).all (mbR t)) mb_0 (by omega) (by omega)
    · exact parts2 (P := fun t => (List.range 5).all (mbR t)) mb_31 (by omega) (by omega)
  exact List.all_eq_true.1 this d (List.mem_range.2 hd)
theorem mb_any {t d : Nat} (ht : t < 62) (hd : d < 5) (w : World) : Calls Tryz.prog 22 #[.agg (metaV t (d + 2)).toArray] w fun e w' => e = .returned (.string (metaB t (d + 2))) ∧ Turned [] w w' := by
  refine (li (w := w) Tryz.func22 (by decide +kernel) [] (by simp) (by decide) [] [imA (metaC t (d + 2)) (metaV t (d + 2))] (by show 1 < 1000; decide) List.nodup_nil trivial (all1 (Ev.imA_ok rfl (meta_lt (by omega) (by omega)) fun i hi => ?_)) [(1 + 1 * 79228162514264337593543950336, .agg (metaV t (d + 2)).toArray)] (all1 (.inr (List.mem_singleton.2 rfl))) (mb_run ht hd)).mono ?_
  · rcases (meta_cs (ns := []) (cs := []) (t := t) (L := d + 2) (by omega) (by omega)).at_ i hi with q | q
    · exact q.1
    · cases q.2
  · rintro e w' ⟨v, c, H, nx, I, σ, cs, rfl, h⟩
    have hc := h.chk
    unfold chkM at hc
    have hv := got_str h (s := metaB t (d + 2)) (by rw [metaB_list]; exact hc) h.post.val
    exact ⟨by rw [hv], turned h⟩
theorem rd_of {g : Nat} {fn : Func} {r t d : Nat} {u : Value} (hg : Tryz.prog.funcs[g]? = some fn) (ho : Ev.orcAt Ev.orcA g = 0) (hru : ∀ σ I x, Ev.VR σ I r x → x = u) (hr : rdR g fn r t d = true) (ht : t < 62) (hd : d < 5) (w : World) : Calls Tryz.prog g #[.string (metaB t (d + 2))] w fun e w' => e = .returned (.tuple #[.agg (pageV t (d + 2)).toArray, u]) ∧ Turned [] w w' := by
  refine (li (w := w) hg ho [] (by simp) (by decide) [] [imS (metaB t (d + 2))] (by show 1 < 1000; decide) List.nodup_nil trivial (all1 Ev.imS_ok) [(1 + 13 * 79228162514264337593543950336, .string (metaB t (d + 2)))] (all1 (.inr (List.mem_singleton.2 rfl))) hr).mono ?_
  rintro e w' ⟨v, c, H, nx, I, σ, cs, rfl, h⟩
  have hc := h.chk
  unfold chkC at hc
  rw [Bool.and_eq_true, Bool.and_eq_true] at hc
  obtain ⟨⟨h1, h2⟩, h3⟩ := hc
  obtain ⟨vs, rfl, b2, b3⟩ := h.post.tup h1
  have h0 := b3 0 (by omega)
  have h1' := b3 1 (by omega)
  have e0 := got_agg h (page_lt (by omega) (by omega)) h2 (page_cs (by omega) (by omega)) (u := vs[0]) (.inr (.inr (.inl h0)))
  rw [Nat.eq_of_beq_eq_true h3] at h1'
  have e1 := hru σ I vs[1] (.inr (.inr (.inl h1')))
  exact ⟨congrArg (fun a => Ending.returned (.tuple a)) (array2 b2 e0 e1), turned h⟩
theorem nE_det (σ : Ev.Sig) (I : Ev.Imm) (x : Value) (h : Ev.VR σ I nE x) : x = .nilIface := by
  have h21 : Ev.hi nE = 21 := by decide +kernel
  have hp := h.toP (by omega)
  unfold Ev.CRp at hp
  rw [h21] at hp
  exact hp.2
theorem i0_det (σ : Ev.Sig) (I : Ev.Imm) (x : Value) (h : Ev.VR σ I (iC 0) x) : x = .int .i64 0 :=
  Ev.det_plain h (((iC_ok (ns := []) (n := 0) (by decide)).2.resolve_left fun ⟨i, h, _⟩ => by cases h) σ I) (by decide +kernel) (by decide +kernel)
theorem read_any {t d : Nat} (ht : t < 62) (hd : d < 5) (w : World) : Calls Tryz.prog 118 #[.string (metaB t (d + 2))] w fun e w' => e = .returned (.tuple #[.agg (pageV t (d + 2)).toArray, .nilIface]) ∧ Turned [] w w' :=
  rd_of Tryz.func118 (by decide +kernel) nE_det (by
    have : ((List.range 5).all (rdR 118 Tryz.f118 nE t)) = true := by
      rcases Nat.lt_or_ge t 31 with q | q
      · exact parts2 (P := fun t => (List.range 5).all (rdR _ _ _ t)) rp_0 (by omega) (by omega)
      · exact parts2 (P := fun t => (List.range 5).all (rdR _ _ _ t)) rp_31 (by omega) (by omega)
    exact List.all_eq_true.1 this d (List.mem_range.2 hd)) ht hd w
theorem read_rany {t d : Nat} (ht : t < 62) (hd : d < 5) (w : World) : Calls Tryz.prog 72 #[.string (metaB t (d + 2))] w fun e w' => e = .returned (.tuple #[.agg (pageV t (d + 2)).toArray, .int .i64 0]) ∧ Turned [] w w' :=
  rd_of Tryz.func72 (by decide +kernel) i0_det (by
    have : ((List.range 5).all (rdR 72 Tryz.f72 (iC 0) t)) = true := by
      rcases Nat.lt_or_ge t 21 with q | q
      · exact parts2 (P := fun t => (List.range 5).all (rdR _ _ _ t)) rq_0 (by omega) (by omega)
      · rcases Nat.lt_or_ge t 42 with q | q
        · exact parts2 (P := fun t => (List.range 5).all (rdR _ _ _ t)) rq_21 (by omega) (by omega)
        · exact parts2 (P := fun t => (List.range 5).all (rdR _ _ _ t)) rq_42 (by omega) (by omega)
    exact List.all_eq_true.1 this d (List.mem_range.2 hd)) ht hd w
end Go.Proofs.YtgjnadligocdkaaGreatDoor
