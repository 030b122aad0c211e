/-
  A line asked by hand: says, Do, the closure and asks; the thousand steps by a row of told states.
-/
import Derived.Test.YtkcffdanhklphaaGreatDoorWaS
import Derived.Test.YtkcffdanhklphaaGreatDoorWaR0
import Derived.Test.YtkcffdanhklphaaGreatDoorWaR1
import Derived.Test.YtkcffdanhklphaaGreatDoorWaR2
import Derived.Test.YtkcffdanhklphaaGreatDoorWaR3
import Derived.Test.YtkcffdanhklphaaGreatDoorTrT
import Derived.Deep.RegionWith
set_option linter.unusedVariables false
set_option linter.unusedSimpArgs false
set_option maxRecDepth 100000
namespace Go.Proofs.YtkcffdanhklphaaGreatDoor
open Go.RowKit
open Go.Ev (Ah HT Out K0)
theorem det_pl {σ : Ev.Sig} {I : Ev.Imm} {c : Nat} {u v : Value} (hu : Ev.VR σ I c u) (hv : Ev.VR σ I c v) (h3 : 3 ≤ Ev.hi c) (h12 : Ev.hi c ≤ 12) : u = v :=
  (Ev.cell_eq (hu.toP (by omega)) (hv.toP (by omega)) rfl rfl h3 h12).1 rfl
theorem dig_l {cl : List Nat} (h : ∀ c ∈ cl, c < 2 ^ 128) (i : Nat) : Ev.dig (Ev.packL (0 :: cl)) (i + 1) = cl.getD i 0 := by
  rw [Ev.dig_packL _ _ (fun c hc => by
    rcases List.mem_cons.1 hc with rfl | hc
    · decide
    · exact h c hc)]
  rfl
theorem call_a {g : Nat} {fn : Func} (hg : Tryz.prog.funcs[g]? = some fn) (ho : Ev.orcAt Ev.orcA g = 0) {K : K0} {cs : List (Nat × Value)} {w0 w : World} (xs : List (Nat × Value)) (hx : ∀ x ∈ xs, x ∈ cs) (h : Ah (fun H nx => cA g fn (xs.map (·.1)) K H nx) cs w0 w) :
    Calls Tryz.prog g (xs.map (·.2)).toArray w fun e w' => ∃ c v, e = .returned v ∧ Ah (fun H nx => K c H nx) ((c, v) :: cs) w0 w' :=
  Ev.Ah.call (Ev.envE Ev.orcA) Ev.sizeE Ev.fnsOkA Ev.orcA_ok Ev.mixedE hg ho xs hx h
theorem iA_vr {k : Nat} (h : k < 1000000) (σ : Ev.Sig) (I : Ev.Imm) : Ev.VR σ I (iA k) (.int .i64 (k : Int)) :=
  Ev.i64_vr (by simp [IntKind.min, IntKind.signed, IntKind.bits] <;> omega) (by simp [IntKind.max, IntKind.signed, IntKind.bits] <;> omega) (by unfold iA; omega) σ I
theorem iA_det {k : Nat} (h : k < 1000000) (σ : Ev.Sig) (I : Ev.Imm) {v : Value} (hv : Ev.VR σ I (iA k) v) : v = .int .i64 (k : Int) :=
  det_pl hv (iA_vr h σ I) (by unfold iA; rw [Ev.hi_def]; omega) (by unfold iA; rw [Ev.hi_def]; omega)
theorem eA_vr (σ : Ev.Sig) (I : Ev.Imm) : Ev.VR σ I eA (.string ⟨#[]⟩) := by
  have := Ev.crp_str (σ := σ) (I := I) (s := ⟨#[]⟩) (by decide)
  have e : Ev.strC ⟨#[]⟩ = eA := by decide +kernel
  rw [e] at this
  exact this.toV
theorem eA_det (σ : Ev.Sig) (I : Ev.Imm) {v : Value} (hv : Ev.VR σ I eA v) : v = .string ⟨#[]⟩ := det_pl hv (eA_vr σ I) (by decide +kernel) (by decide +kernel)
theorem sA_vr (σ : Ev.Sig) (I : Ev.Imm) : Ev.VR σ I sA (.slice none 0 0) := Ev.vr_sl (b := 0) (n := 0) (by decide +kernel) (.inl ⟨rfl, rfl⟩)
theorem nA_det (σ : Ev.Sig) (I : Ev.Imm) {v : Value} (hv : Ev.VR σ I nA v) : v = .nilIface := by
  have h21 : Ev.hi nA = 21 := by decide +kernel
  have hp := hv.toP (by omega)
  unfold Ev.CRp at hp
  rw [h21] at hp
  exact hp.2
theorem bA_det (σ : Ev.Sig) (I : Ev.Imm) {v : Value} (hv : Ev.VR σ I (Ev.boolC true) v) : v = .bool true := by
  have h3 : Ev.hi (Ev.boolC true) = 3 := by decide +kernel
  have hp := hv.toP (by omega)
  unfold Ev.CRp at hp
  rw [h3] at hp
  obtain ⟨b', q1, q2⟩ := hp
  subst q2
  cases b' <;> first | rfl | (exact absurd q1 (by decide +kernel))
theorem Ah.loadP {cs : List (Nat × Value)} {w0 w : World} {c i B o : Nat} {K : Nat → HT → Nat → Out} (h : Ah (fun H nx => Ev.ldK H c i fun d => K d H nx) cs w0 w) (hc : (c, .pointer (some ⟨B, o, none⟩)) ∈ cs) :
    ∃ (d : Nat) (u : Value), w.cell? ⟨B, o + i, none⟩ = some u ∧ Ah (fun H nx => K d H nx) ((d, u) :: cs) w0 w := by
  obtain ⟨B', o', d, u, e, h1, h2⟩ := Ev.Ah.load h hc
  injection e with e
  injection e with e
  injection e with e1 e2
  subst e1 e2
  exact ⟨d, u, h1, h2⟩
/-- the act's cells -/
theorem Ah.act {cs : List (Nat × Value)} {w0 w : World} {kind o : Nat} {K : K0} (hk : kind < 1000) (ho : o < 1000) (h : Ah (fun H nx => Ev.agK (actN kind [iA o, eA, eA, eA, iA 0, iA 0]) 10 H nx K) cs w0 w) :
    ∃ c, Ah (fun H nx => K c H nx) ((c, .agg #[.int .i64 kind, .int .i64 2, .int .i64 0, .int .i64 o, .string ⟨#[]⟩, .string ⟨#[]⟩, .string ⟨#[]⟩, .int .i64 0, .int .i64 0, .slice none 0 0]) :: cs) w0 w := by
  have hl := Ev.Ah.lit (Ev.Ah.lit (Ev.Ah.lit (Ev.Ah.lit (Ev.Ah.lit (Ev.Ah.lit h (iA_vr (k := kind) (by omega))) (iA_vr (k := 2) (by omega))) (iA_vr (k := 0) (by omega))) (iA_vr (k := o) (by omega))) eA_vr) sA_vr
  have hi : ∀ k, k < 1000 → (3 ≤ Ev.hi (iA k) ∧ Ev.hi (iA k) ≠ 23) := fun k hk => by unfold iA; rw [Ev.hi_def]; omega
  have he : 3 ≤ Ev.hi eA ∧ Ev.hi eA ≠ 23 := by decide +kernel
  have hs : 3 ≤ Ev.hi sA ∧ Ev.hi sA ≠ 23 := by decide +kernel
  have hlt : ∀ c ∈ [iA kind, iA 2, iA 0, iA o, eA, eA, eA, iA 0, iA 0, sA], c < 2 ^ 128 := fun c hc => by
    simp only [List.mem_cons, List.not_mem_nil, or_false] at hc
    rcases hc with rfl | rfl | rfl | rfl | rfl | rfl | rfl | rfl | rfl | rfl <;> first | (unfold iA; omega) | decide +kernel
  have hd : ∀ i, Ev.dig (actN kind [iA o, eA, eA, eA, iA 0, iA 0]) (i + 1) = [iA kind, iA 2, iA 0, iA o, eA, eA, eA, iA 0, iA 0, sA].getD i 0 := fun i => dig_l hlt i
  obtain ⟨c, h2⟩ := Ev.Ah.agg hl (vs := #[.int .i64 kind, .int .i64 2, .int .i64 0, .int .i64 o, .string ⟨#[]⟩, .string ⟨#[]⟩, .string ⟨#[]⟩, .int .i64 0, .int .i64 0, .slice none 0 0]) rfl (fun i hi' => by
    rw [hd i]
    have h10 : i < 10 := hi'
    match i, h10 with
    | 0, _ => exact ⟨hi kind hk, by simp⟩
    | 1, _ => exact ⟨hi 2 (by decide), by simp⟩
    | 2, _ => exact ⟨hi 0 (by decide), by simp⟩
    | 3, _ => exact ⟨hi o ho, by simp⟩
    | 4, _ => exact ⟨he, by simp⟩
    | 5, _ => exact ⟨he, by simp⟩
    | 6, _ => exact ⟨he, by simp⟩
    | 7, _ => exact ⟨hi 0 (by decide), by simp⟩
    | 8, _ => exact ⟨hi 0 (by decide), by simp⟩
    | 9, _ => exact ⟨hs, by simp⟩)
  exact ⟨c, h2.fewer fun x hx => by
    rcases List.mem_cons.1 hx with rfl | hx
    · simp
    · simp [hx]⟩
theorem parts2 {a k : Nat} {P : Nat → Bool} (h : ((List.range k).all fun i => P (a + i)) = true) {t : Nat} (h1 : a ≤ t) (h2 : t < a + k) : P t = true := by
  have := List.all_eq_true.1 h (t - a) (List.mem_range.2 (by omega))
  rwa [show a + (t - a) = t by omega] at this
theorem rnd_at {k : Nat} (hk : k < 1000) : Ev.okS ⟨[], Lk k, nk k⟩ = true ∧ Ev.isTr (Ev.mkHK (Lk k) fun H => stepK cS (Lk (k + 1)) (nk (k + 1)) H (nk k)) = true := by
  have h : rnd k = true := by
    rcases Nat.lt_or_ge k 50 with q | q
    · exact parts2 (P := rnd) rnd_0 (by omega) (by omega)
    rcases Nat.lt_or_ge k 100 with q | q
    · exact parts2 (P := rnd) rnd_50 (by omega) (by omega)
    rcases Nat.lt_or_ge k 150 with q | q
    · exact parts2 (P := rnd) rnd_100 (by omega) (by omega)
    rcases Nat.lt_or_ge k 200 with q | q
    · exact parts2 (P := rnd) rnd_150 (by omega) (by omega)
    rcases Nat.lt_or_ge k 250 with q | q
    · exact parts2 (P := rnd) rnd_200 (by omega) (by omega)
    rcases Nat.lt_or_ge k 300 with q | q
    · exact parts2 (P := rnd) rnd_250 (by omega) (by omega)
    rcases Nat.lt_or_ge k 350 with q | q
    · exact parts2 (P := rnd) rnd_300 (by omega) (by omega)
    rcases Nat.lt_or_ge k 400 with q | q
    · exact parts2 (P := rnd) rnd_350 (by omega) (by omega)
    rcases Nat.lt_or_ge k 450 with q | q
    · exact parts2 (P := rnd) rnd_400 (by omega) (by omega)
    rcases Nat.lt_or_ge k 500 with q | q
    · exact parts2 (P := rnd) rnd_450 (by omega) (by omega)
    rcases Nat.lt_or_ge k 550 with q | q
    · exact parts2 (P := rnd) rnd_500 (by omega) (by omega)
    rcases Nat.lt_or_ge k 600 with q | q
    · exact parts2 (P := rnd) rnd_550 (by omega) (by omega)
    rcases Nat.lt_or_ge k 650 with q | q
    · exact parts2 (P := rnd) rnd_600 (by omega) (by omega)
    rcases Nat.lt_or_ge k 700 with q | q
    · exact parts2 (P := rnd) rnd_650 (by omega) (by omega)
    rcases Nat.lt_or_ge k 750 with q | q
    · exact parts2 (P := rnd) rnd_700 (by omega) (by omega)
    rcases Nat.lt_or_ge k 800 with q | q
    · exact parts2 (P := rnd) rnd_750 (by omega) (by omega)
    rcases Nat.lt_or_ge k 850 with q | q
    · exact parts2 (P := rnd) rnd_800 (by omega) (by omega)
    rcases Nat.lt_or_ge k 900 with q | q
    · exact parts2 (P := rnd) rnd_850 (by omega) (by omega)
    rcases Nat.lt_or_ge k 950 with q | q
    · exact parts2 (P := rnd) rnd_900 (by omega) (by omega)
    exact parts2 (P := rnd) rnd_950 (by omega) (by omega)
  unfold rnd at h
  rw [Bool.and_eq_true] at h
  exact h
/-- the steps: nothing comes of them, but that time goes on -/
theorem orc_proc : Ev.orcAt Ev.orcA 48 = 0 := by decide +kernel
theorem orc_busy : Ev.orcAt Ev.orcA 49 = 0 := by decide +kernel
theorem orc_do : Ev.orcAt Ev.orcA 30 = 0 := by decide +kernel
theorem orc_last : Ev.orcAt Ev.orcA 50 = 0 := by decide +kernel
theorem orc_does : Ev.orcAt Ev.orcA 19 = 0 := by decide +kernel
abbrev actV (kind o : Nat) : Value := .agg #[.int .i64 kind, .int .i64 2, .int .i64 0, .int .i64 o, .string ⟨#[]⟩, .string ⟨#[]⟩, .string ⟨#[]⟩, .int .i64 0, .int .i64 0, .slice none 0 0]
/-- the state told, the script's pointers -/
abbrev AtS (L : List (Nat × Ev.Obj)) (n B o : Nat) (vs : Value) (w0 w : World) : Prop := Ah (fun H nx => Ev.tellK L n H nx) [(cS, .pointer (some ⟨B, o, none⟩)), (cS, vs)] w0 w
section
variable {w0 w : World} {B o : Nat} {vs : Value}
/-- one step, call by call -/
theorem step_1 {k : Nat} (hk : k < 1000) (h : AtS (Lk k) (nk k) B o vs w0 w) : ∃ u, w.cell? ⟨B, o, none⟩ = some u ∧ Calls Tryz.prog 48 #[u, .int .i64 2] w fun e w1 => ∃ vp, e = .returned vp ∧
    Calls Tryz.prog 49 #[vp] w1 fun e w2 => e = .returned (.bool true) ∧ ∃ u2, w2.cell? ⟨B, o, none⟩ = some u2 ∧
    Calls Tryz.prog 30 #[u2, actV 3 0] w2 fun e w3 => ∃ v, e = .returned v ∧ AtS (Lk (k + 1)) (nk (k + 1)) B o vs w0 w3 := by
  have h1 := Ev.Ah.next h (rnd_at hk).1 (K := fun H nx => stepK cS (Lk (k + 1)) (nk (k + 1)) H nx) (rnd_at hk).2
  obtain ⟨d, u, hu, h2⟩ := Ah.loadP (i := 0) h1 (List.mem_cons_self ..)
  refine ⟨u, hu, (call_a Tryz.func48 orc_proc [(d, u), (iA 2, .int .i64 2)] (fun x hx => by
    simp only [List.mem_cons, List.not_mem_nil, or_false] at hx ⊢
    rcases hx with rfl | rfl <;> simp) (Ev.Ah.lit h2 (iA_vr (k := 2) (by decide)))).mono ?_⟩
  rintro e w1 ⟨cp, vp, rfl, h3⟩
  refine ⟨vp, rfl, (call_a Tryz.func49 orc_busy [(cp, vp)] (fun x hx => by
    simp only [List.mem_cons, List.not_mem_nil, or_false] at hx ⊢
    subst hx; simp) h3).mono ?_⟩
  rintro e w2 ⟨cb, vb, rfl, h4⟩
  obtain ⟨rfl, h5⟩ := Ev.Ah.same h4
  have hb : vb = .bool true := Ev.Ah.val (P := fun v => v = .bool true) h5 (List.mem_cons_self ..) fun σ I hv => bA_det σ I hv
  obtain ⟨d2, u2, hu2, h6⟩ := Ah.loadP (i := 0) (B := B) (o := o) h5 (by simp)
  obtain ⟨ca, h7⟩ := Ah.act (kind := 3) (o := 0) (by decide) (by decide) h6
  refine ⟨by rw [hb], u2, hu2, (call_a Tryz.func30 orc_do [(d2, u2), (ca, actV 3 0)] (fun x hx => by
    simp only [List.mem_cons, List.not_mem_nil, or_false] at hx ⊢
    rcases hx with rfl | rfl <;> simp) h7).mono ?_⟩
  rintro e w3 ⟨r, v, rfl, h8⟩
  exact ⟨v, rfl, h8.fewer fun x hx => by
    simp only [List.mem_cons, List.not_mem_nil, or_false] at hx
    rcases hx with rfl | rfl <;> simp⟩
end
end Go.Proofs.YtkcffdanhklphaaGreatDoor
