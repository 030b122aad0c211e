/-
  A line asked by hand: asks, the closure, Do, says.
-/
import Derived.Test.YtkcffdanhklphaaGreatDoorWaW
set_option linter.unusedVariables false
set_option linter.unusedSimpArgs false
set_option maxRecDepth 100000
namespace Go.Proofs.YtkcffdanhklphaaGreatDoor
open Go.RowKit
open Go.Ev (Ah HT Out K0 Stays)
section
variable {w0 w : World} {B o : Nat} {vs : Value}
theorem stays_ext {a b : World} (h : Ext a b) : Stays a b := ⟨h.size, h.os, h.output, fun k hk => h.block k hk⟩
theorem ask_1 (h : Ah (fun H nx => askK cS (Lk 0) (nk 0) H nx) [(cS, .pointer (some ⟨B, o, none⟩)), (cS, vs)] w0 w) : ∃ u, w.cell? ⟨B, o, none⟩ = some u ∧ ∀ w1, Stays w w1 → Calls Tryz.prog 30 #[u, actV 2 4] w1 fun e w2 => e = .returned .nilIface ∧ AtS (Lk 0) (nk 0) B o vs w0 w2 := by
  obtain ⟨d, u, hu, h2⟩ := Ah.loadP (i := 0) h (List.mem_cons_self ..)
  obtain ⟨ca, h3⟩ := Ah.act (kind := 2) (o := 4) (by decide) (by decide) h2
  refine ⟨u, hu, fun w1 s => (call_a Tryz.func30 orc_do [(d, u), (ca, actV 2 4)] (fun x hx => by
    simp only [List.mem_cons, List.not_mem_nil, or_false] at hx ⊢
    rcases hx with rfl | rfl <;> simp) (h3.stays s)).mono ?_⟩
  rintro e w2 ⟨r, v, rfl, h4⟩
  obtain ⟨rfl, h5⟩ := Ev.Ah.same h4
  have hv : v = .nilIface := Ev.Ah.val (P := fun v => v = .nilIface) h5 (List.mem_cons_self ..) fun σ I hv => nA_det σ I hv
  exact ⟨by rw [hv], h5.fewer fun x hx => by
    simp only [List.mem_cons, List.not_mem_nil, or_false] at hx
    rcases hx with rfl | rfl <;> simp⟩
theorem last_1 (h : AtS (Lk 1000) (nk 1000) B o vs w0 w) : Calls Tryz.prog 50 #[.pointer (some ⟨B, o, none⟩), .int .i64 2] w fun e w2 => e = .returned (.string waitsW) ∧ AtS (Lk 1000) 22000 B o vs w0 w2 := by
  have hr := run_last
  rw [Bool.and_eq_true, Bool.and_eq_true] at hr
  have h1 := Ev.Ah.next h hr.1.1 (K := fun H nx => lastK cS waitsW (Lk 1000) 22000 H nx) hr.2
  refine (call_a Tryz.func50 orc_last [(cS, .pointer (some ⟨B, o, none⟩)), (iA 2, .int .i64 2)] (fun x hx => by
    simp only [List.mem_cons, List.not_mem_nil, or_false] at hx ⊢
    rcases hx with rfl | rfl <;> simp) (Ev.Ah.lit h1 (iA_vr (k := 2) (by decide)))).mono ?_
  rintro e w2 ⟨c, v, rfl, h4⟩
  obtain ⟨rfl, h5⟩ := Ev.Ah.same h4
  have hv : v = .string waitsW := Ev.Ah.val (P := fun v => v = .string waitsW) h5 (List.mem_cons_self ..) fun σ I hv => Ev.str_at (by decide) hv
  exact ⟨by rw [hv], h5.fewer fun x hx => by
    simp only [List.mem_cons, List.not_mem_nil, or_false] at hx
    rcases hx with rfl | rfl <;> simp⟩
theorem asks_w (h : Ah (fun H nx => askK cS (Lk 0) (nk 0) H nx) [(cS, .pointer (some ⟨B, o, none⟩)), (cS, vs)] w0 w) : Calls Tryz.prog 32 #[.pointer (some ⟨B, o, none⟩), .int .i64 2, .agg #[.int .i64 4, .string ⟨#[]⟩, .string ⟨#[]⟩, .string ⟨#[]⟩, .int .i64 0, .int .i64 0]] w fun e w' => e = .returned (.string waitsW) ∧ AtS (Lk 1000) 22000 B o vs w0 w' := by
  obtain ⟨u, hu, hc⟩ := ask_1 h
  have HC := Lib.hid hc
  have hu1 : ∀ ob, (w.alloc ob).cell? ⟨B, o, none⟩ = some u := fun ob => Ext.cell ((Ext.rfl' w).alloc ob) hu
  clear hc h
  go_enter Tryz.func32, Tryz.ntmps32
  go_wp2_with fail
  have hu2 : ∀ ob, (w.alloc ob).drew.cell? ⟨B, o, none⟩ = some u := fun ob => hu1 ob
  go_region_with (first
    | (go_at_call 30; refine (HC.out _ (by first | exact stays_ext ((Ext.rfl' w).alloc _) | exact stays_ext (((Ext.rfl' w).alloc _).step (Ext.drewN _ 1)))).mono ?_; rintro e w2 ⟨rfl, hs⟩; have HS := Lib.hid hs; clear hs))
  all_goals
    clear HC hu hu1 hu2
    go_wp2_with fail
    go_loopw [20] (fun q wr => ∃ k : Nat, k ≤ 1000 ∧ q = .int .i64 k ∧ AtS (Lk k) (nk k) B o vs w0 wr) (fun q _ => 1000 - (intOf q).toNat)
    case atStart => exact ⟨0, by omega, rfl, HS.out⟩
    case round =>
      obtain ⟨k, hk, rfl, hs⟩ := hrel
      clear HS
      have HS := Lib.hid hs
      clear hs
      by_cases hlt : k < 1000
      · obtain ⟨u1, hu1, hc1⟩ := step_1 hlt HS.out
        have HC1 := Lib.hid hc1
        have b2 : (k : Int) < 1000 := by omega
        clear hc1 HS
        go_wp2_with fail
        refine HC1.out.mono ?_
        rintro e w1 ⟨vp, rfl, hc2⟩
        have HC2 := Lib.hid hc2
        clear hc2 hu1 HC1
        go_wp2_with fail
        refine HC2.out.mono ?_
        rintro e w2 ⟨rfl, u2, hu2, hc3⟩
        have HC3 := Lib.hid hc3
        clear hc3 HC2
        go_wp2_with fail
        refine HC3.out.mono ?_
        rintro e w3 ⟨v, rfl, hs3⟩
        have HS3 := Lib.hid hs3
        clear hs3 HC3 hu2
        go_wp2_with fail
        go_roundw
        case rel => exact ⟨k + 1, by omega, by go_num, HS3.out⟩
        case measure => simp [intOf]; omega
      · obtain rfl : k = 1000 := by omega
        have HL := Lib.hid (last_1 HS.out)
        go_wp2_with fail
        refine HL.out.mono ?_
        rintro e w1 ⟨rfl, hs1⟩
        have HS1 := Lib.hid hs1
        clear hs1
        go_wp2_with fail
        go_ret
        exact ⟨rfl, HS1.out⟩
/-- the closure that the line is read to -/
def OpAt (w : World) (x o : Nat) : Prop := w.cell? ⟨x, o, none⟩ = some (.int .i64 4) ∧ w.cell? ⟨x, o + 1, none⟩ = some (.string ⟨#[]⟩) ∧ w.cell? ⟨x, o + 2, none⟩ = some (.string ⟨#[]⟩) ∧ w.cell? ⟨x, o + 3, none⟩ = some (.string ⟨#[]⟩) ∧ w.cell? ⟨x, o + 4, none⟩ = some (.int .i64 0) ∧ w.cell? ⟨x, o + 5, none⟩ = some (.int .i64 0)
theorem clo_w {x0 o0 x1 o1 x2 o2 : Nat} (h : Ah (fun H nx => askK cS (Lk 0) (nk 0) H nx) [(cS, .pointer (some ⟨B, o, none⟩)), (cS, vs)] w0 w) (h0 : w.cell? ⟨x0, o0, none⟩ = some (.pointer (some ⟨B, o, none⟩))) (h1 : w.cell? ⟨x1, o1, none⟩ = some (.int .i64 2)) (h2 : OpAt w x2 o2) :
    Calls Tryz.prog 31 #[.pointer (some ⟨x0, o0, none⟩), .pointer (some ⟨x1, o1, none⟩), .pointer (some ⟨x2, o2, none⟩)] w fun e w' => e = .returned (.string waitsW) ∧ AtS (Lk 1000) 22000 B o vs w0 w' := by
  have HA := Lib.hid (asks_w h)
  obtain ⟨c0, c1, c2, c3, c4, c5⟩ := h2
  clear h
  go_enter Tryz.func31, Tryz.ntmps31
  go_wp2_with fail
  refine HA.out.mono ?_
  rintro e w1 ⟨rfl, hs1⟩
  have HS1 := Lib.hid hs1
  clear hs1
  go_wp2_with fail
  go_ret
  exact ⟨rfl, HS1.out⟩
theorem array3 {b : Array Value} (h : b.size = 3) {x y z : Value} (h0 : b.getD 0 undef = x) (h1 : b.getD 1 undef = y) (h2 : b.getD 2 undef = z) : b = #[x, y, z] := by
  obtain ⟨l⟩ := b
  match l, h with
  | [p, q, r], _ =>
    simp at h0 h1 h2
    subst h0 h1 h2
    rfl
theorem does_w (h : Ah (fun H nx => doesK cS lineW (Lk 0) (nk 0) H nx) [(cS, vs)] w0 w) : Calls Tryz.prog 19 #[vs, .string lineW] w fun e w1 => ∃ x0 o0 x1 o1 x2 o2 B o, e = .returned (.func (.func 31) #[] #[.pointer (some ⟨x0, o0, none⟩), .pointer (some ⟨x1, o1, none⟩), .pointer (some ⟨x2, o2, none⟩)]) ∧ w1.cell? ⟨x0, o0, none⟩ = some (.pointer (some ⟨B, o, none⟩)) ∧ w1.cell? ⟨x1, o1, none⟩ = some (.int .i64 2) ∧ OpAt w1 x2 o2 ∧ Ah (fun H nx => askK cS (Lk 0) (nk 0) H nx) [(cS, .pointer (some ⟨B, o, none⟩)), (cS, vs)] w0 w1 := by
  refine (call_a Tryz.func19 orc_does [(cS, vs), (Ev.strC lineW, .string lineW)] (fun x hx => by
    simp only [List.mem_cons, List.not_mem_nil, or_false] at hx ⊢
    rcases hx with rfl | rfl <;> simp) (Ev.Ah.lit h (c := Ev.strC lineW) (v := .string lineW) (fun σ I => (Ev.crp_str (σ := σ) (I := I) (s := lineW) (by decide)).toV))).mono ?_
  rintro e w1 ⟨c, v, rfl, h1⟩
  obtain ⟨N, b, rfl, hb, h2⟩ := Ev.Ah.clo h1 (List.mem_cons_self ..)
  have m : ∀ i, i < 3 → (Ev.dig N (i + 1), b.getD i undef) ∈ (List.range 3).map (fun i => (Ev.dig N (i + 1), b.getD i undef)) := fun i hi => List.mem_map.2 ⟨i, List.mem_range.2 hi, rfl⟩
  obtain ⟨x0, o0, d0, u0, e0, r0, h3⟩ := Ev.Ah.load h2 (List.mem_append_left _ (m 0 (by decide)))
  obtain ⟨rfl, h4⟩ := Ev.Ah.same h3
  obtain ⟨x1, o1, d1, u1, e1, r1, h5⟩ := Ev.Ah.load h4 (c := Ev.dig N 2) (v := b.getD 1 undef) (List.mem_cons_of_mem _ (List.mem_append_left _ (m 1 (by decide))))
  obtain ⟨rfl, h6⟩ := Ev.Ah.same h5
  obtain ⟨x2, o2, d2, u2, e2, r2, h7⟩ := Ev.Ah.load h6 (c := Ev.dig N 3) (v := b.getD 2 undef) (List.mem_cons_of_mem _ (List.mem_cons_of_mem _ (List.mem_append_left _ (m 2 (by decide)))))
  obtain ⟨rfl, h8⟩ := Ev.Ah.same h7
  have m2 : (Ev.dig N 3, Value.pointer (some ⟨x2, o2, none⟩)) ∈ (List.range 3).map (fun i => (Ev.dig N (i + 1), b.getD i undef)) := by
    have := m 2 (by decide)
    rw [e2] at this
    exact this
  have q1 : u1 = .int .i64 2 := Ev.Ah.val (P := fun v => v = .int .i64 2) h6 (List.mem_cons_self ..) fun σ I hv => iA_det (k := 2) (by decide) σ I hv
  have q2 : u2 = .int .i64 4 := Ev.Ah.val (P := fun v => v = .int .i64 4) h8 (List.mem_cons_self ..) fun σ I hv => iA_det (k := 4) (by decide) σ I hv
  obtain ⟨d3, u3, r3, h9⟩ := Ah.loadP (c := Ev.dig N 3) (i := 1) (B := x2) (o := o2) h8 (by simp only [List.mem_cons, List.mem_append]; exact .inr (.inr (.inr (.inl m2))))
  obtain ⟨rfl, h9⟩ := Ev.Ah.same h9
  have q3 : u3 = .string ⟨#[]⟩ := Ev.Ah.val (P := fun v => v = .string ⟨#[]⟩) h9 (List.mem_cons_self ..) fun σ I hv => eA_det σ I hv
  obtain ⟨d4, u4, r4, h10⟩ := Ah.loadP (c := Ev.dig N 3) (i := 2) (B := x2) (o := o2) h9 (by simp only [List.mem_cons, List.mem_append]; exact .inr (.inr (.inr (.inr (.inl m2)))))
  obtain ⟨rfl, h10⟩ := Ev.Ah.same h10
  have q4 : u4 = .string ⟨#[]⟩ := Ev.Ah.val (P := fun v => v = .string ⟨#[]⟩) h10 (List.mem_cons_self ..) fun σ I hv => eA_det σ I hv
  obtain ⟨d5, u5, r5, h11⟩ := Ah.loadP (c := Ev.dig N 3) (i := 3) (B := x2) (o := o2) h10 (by simp only [List.mem_cons, List.mem_append]; exact .inr (.inr (.inr (.inr (.inr (.inl m2))))))
  obtain ⟨rfl, h11⟩ := Ev.Ah.same h11
  have q5 : u5 = .string ⟨#[]⟩ := Ev.Ah.val (P := fun v => v = .string ⟨#[]⟩) h11 (List.mem_cons_self ..) fun σ I hv => eA_det σ I hv
  obtain ⟨d6, u6, r6, h12⟩ := Ah.loadP (c := Ev.dig N 3) (i := 4) (B := x2) (o := o2) h11 (by simp only [List.mem_cons, List.mem_append]; exact .inr (.inr (.inr (.inr (.inr (.inr (.inl m2)))))))
  obtain ⟨rfl, h12⟩ := Ev.Ah.same h12
  have q6 : u6 = .int .i64 0 := Ev.Ah.val (P := fun v => v = .int .i64 0) h12 (List.mem_cons_self ..) fun σ I hv => iA_det (k := 0) (by decide) σ I hv
  obtain ⟨d7, u7, r7, h13⟩ := Ah.loadP (c := Ev.dig N 3) (i := 5) (B := x2) (o := o2) h12 (by simp only [List.mem_cons, List.mem_append]; exact .inr (.inr (.inr (.inr (.inr (.inr (.inr (.inl m2))))))))
  obtain ⟨rfl, h13⟩ := Ev.Ah.same h13
  have q7 : u7 = .int .i64 0 := Ev.Ah.val (P := fun v => v = .int .i64 0) h13 (List.mem_cons_self ..) fun σ I hv => iA_det (k := 0) (by decide) σ I hv
  have h14 : Ah (fun H nx => askK cS (Lk 0) (nk 0) H nx) [(cS, u0), (cS, vs)] w0 w1 := h13.fewer fun x hx => by
    simp only [List.mem_cons, List.not_mem_nil, or_false] at hx
    rcases hx with rfl | rfl <;> simp
  obtain ⟨B, o, d8, u8, rfl, r8, h15⟩ := Ev.Ah.load h14 (List.mem_cons_self ..)
  subst q1 q2 q3 q4 q5 q6 q7
  exact ⟨x0, o0, x1, o1, x2, o2, B, o, congrArg (fun b => Ending.returned (.func (.func _) #[] b)) (array3 hb e0 e1 e2), r0, r1, ⟨r2, r3, r4, r5, r6, r7⟩, h14⟩
theorem run_eql_func (b : Array Value) (w : World) : (binOp .eql 45 (.func (.func 31) #[] b) .nilFunc).run Tryz.prog w = .ok (.bool false) w := by kernel_rfl
theorem do_w (h : Ah (fun H nx => doesK cS lineW (Lk 0) (nk 0) H nx) [(cS, vs)] w0 w) : Calls Tryz.prog 16 #[vs, .string lineW] w fun e w' => ∃ P, e = .returned (.tuple #[.slice (some ⟨P, 0, none⟩) 1 1, .nilIface]) ∧ w'.cell? ⟨P, 0, none⟩ = some (.string waitsW) ∧ Ah (fun H nx => Ev.tellK (Lk 1000) 22000 H nx) [(cS, vs)] w0 w' := by
  have HD := Lib.hid (does_w h)
  clear h
  go_enter Tryz.func16, Tryz.ntmps16
  go_wp2_with fail
  refine HD.out.mono ?_
  rintro e w1 ⟨x0, o0, x1, o1, x2, o2, B, o, rfl, r0, r1, r2, h1⟩
  have HC := Lib.hid (clo_w h1 r0 r1 r2)
  clear h1 r0 r1 r2 HD
  have heq := run_eql_func #[.pointer (some ⟨x0, o0, none⟩), .pointer (some ⟨x1, o1, none⟩), .pointer (some ⟨x2, o2, none⟩)] w1
  go_wp2_with fail
  refine HC.out.mono ?_
  rintro e w2 ⟨rfl, hs⟩
  have HS := Lib.hid hs
  clear hs heq HC
  go_wp2_with fail
  go_ret2
  exact ⟨w2.heap.size, rfl, by (simp only [World.cell?]; rw [heap_alloc_new]; rfl), (HS.out.stays (stays_ext ((Ext.rfl' w2).alloc _))).fewer fun x hx => by
    simp only [List.mem_cons, List.not_mem_nil, or_false] at hx
    subst hx; simp⟩
theorem says_w (h : Ah (fun H nx => doesK cS lineW (Lk 0) (nk 0) H nx) [(cS, vs)] w0 w) : Calls Tryz.prog 13 #[vs, .string lineW, .string waitsW] w fun e w' => e = .returned (.bool true) ∧ Ah (fun H nx => Ev.tellK (Lk 1000) 22000 H nx) [(cS, vs)] w0 w' := by
  have HD := Lib.hid (do_w h)
  clear h
  go_enter Tryz.func13, Tryz.ntmps13
  go_wp2_with fail
  refine HD.out.mono ?_
  rintro e w1 ⟨P, rfl, hp, hs⟩
  have HS := Lib.hid hs
  clear hs HD
  go_wp2_with fail
  go_ret
  exact ⟨rfl, HS.out⟩
theorem told_ah {c0 k : Nat} {L : List (Nat × Ev.Obj)} {X : Ev.Env} {n g : Nat} {fn : Func} (h : Ev.AtT X n g fn (.told c0 L k) vs w0 w) : Ah (fun H nx => Ev.tellK L k H nx) [(c0, vs)] w0 w := by
  obtain ⟨c, I, σ, H, nx, a2, a3, a4, a5, a6, a7, a8, a9, a10⟩ := h
  have a10 : Ev.isTr (Ev.trK X n g fn (.told c0 L k) c H nx) = true := a10
  rw [Ev.trK_told] at a10
  have hc := Ev.isTr_exit a10
  unfold Ev.toldB at hc
  simp only [Bool.and_eq_true, Ev.beq_iff] at hc
  obtain ⟨⟨rfl, hc3⟩, hc4⟩ := hc
  refine ⟨I, σ, H, nx, a2, a3, a4, a5, a6, a7, a8, a9, ?_⟩
  show Ev.isTr (.exit (Ev.boolC (Nat.ble nx k && Ev.chkL H L)) 0 H nx) = true
  rw [hc3, hc4]; rfl
theorem ah_told {c0 k : Nat} {L : List (Nat × Ev.Obj)} {X : Ev.Env} {n g : Nat} {fn : Func} (h : Ah (fun H nx => Ev.tellK L k H nx) [(c0, vs)] w0 w) : Ev.AtT X n g fn (.told c0 L k) vs w0 w := by
  obtain ⟨I, σ, H, nx, a2, a3, a4, a5, a6, a7, a8, a9, a10⟩ := h
  have hc := Ev.isTr_exit (show Ev.isTr (.exit (Ev.boolC (Nat.ble nx k && Ev.chkL H L)) 0 H nx) = true from a10)
  rw [Bool.and_eq_true] at hc
  refine ⟨c0, I, σ, H, nx, a2, a3, a4, a5, a6, a7, a8, a9, ?_⟩
  show Ev.isTr (.exit (Ev.boolC (Nat.beq c0 c0 && Nat.ble nx k && Ev.chkL H L)) 0 H nx) = true
  rw [hc.1, hc.2, Nat.beq_refl]; rfl
/-- the line that waits -/
theorem waits_w {X : Ev.Env} {n g : Nat} {fn : Func} (h : Ev.AtT X n g fn (.told cS L_T1 846) vs w0 w) : Calls Tryz.prog 13 #[vs, .string lineW, .string waitsW] w fun e w' => e = .returned (.bool true) ∧ Ev.AtT X n g fn (.told cS (Lk 1000) 22000) vs w0 w' := by
  have h1 := Ev.Ah.next (told_ah h) ok_T1 (K := fun H nx => doesK cS lineW (Lk 0) (nk 0) H nx) run_does
  refine (says_w h1).mono ?_
  rintro e w' ⟨rfl, hs⟩
  exact ⟨rfl, ah_told hs⟩
end
end Go.Proofs.YtkcffdanhklphaaGreatDoor
