/-
  The program's Begin: the lock taken. The document's Begin: the lock taken. Begin of both: the lock given back. Begin of both: swept, the oldest version seen.
-/
import Derived.Test.YtgjnadligocdkaaGreatDoorEmpW
import Derived.Test.YtgjnadligocdkaaGreatDoorNewW
import Derived.Test.YtgjnadligocdkaaGreatDoorChoP
import Derived.Test.YtgjnadligocdkaaGreatDoorOldW
import Derived.Deep.QuietTactic
import Derived.BigQuiet
import Derived.Shelf.SlSortCmp.QuietGrown
set_option linter.unusedVariables false
set_option linter.unusedSimpArgs false
set_option maxRecDepth 100000
namespace Go.Proofs.YtgjnadligocdkaaGreatDoor
open Go.RowKit
theorem Blk.setL {w : World} {B : Nat} {l : List Value} (h : Blk w B l.toArray) (i : Nat) (v : Value) : Blk (w.setCell ⟨B, i, none⟩ v) B (l.set i v).toArray := by
  have h2 : BlkR (w.setCell ⟨B, i, none⟩ v) B 0 (l.toArray.setIfInBounds i v) l.toArray.size := BlkR.set h i v
  have e : l.toArray.setIfInBounds i v = (l.set i v).toArray := by simp
  rw [e] at h2
  have e2 : l.toArray.size = (l.set i v).toArray.size := by simp
  rw [e2] at h2
  exact h2
theorem begins_1 {w : World} {A K P R β cap W n : Nat} {T : Nat → Nat} {alive : Bool} {most : Int} {mt : List Value} {old t on er f : Value} (hA : Blk w A (wrV most 1 mt old t on er).toArray) (hm : mt.length = 6) (hK : LkAt w K W n T) (hP : PrAt w P R β cap (liv alive) 2) (h1 : P ≠ K) (h2 : R ≠ K) (h3 : R ≠ P) (hq : (W, 1, alive) ∈ takeQ) (hn : n ≤ 8) (a1 : A ≠ K) (a2 : A ≠ P) (a3 : A ≠ R) :
    Calls Tryz.prog 55 #[.pointer (some ⟨A, 0, none⟩), f, .pointer (some ⟨K, 0, none⟩), .pointer (some ⟨P, 0, none⟩)] w fun e w' => e = .returned (.tuple #[]) ∧ Turned [A, K, P, R] w w' ∧ Blk w' A (wrV most (if takeB W 1 alive then 2 else 1) mt old t on er).toArray ∧ LkAt w' K (if takeB W 1 alive then 1 else W) n T ∧ ∃ cap', PrAt w' P R β cap' (liv alive) 2 := by
  have c0 : w.cell? ⟨A, 0, none⟩ = some (.int .i64 1) := hA.cell rfl
  have c2 : w.cell? ⟨A, 2, none⟩ = some (.int .i64 1) := hA.cell rfl
  have TK := Lib.hid (take_any K P R β cap W n 1 T alive w hK hP h1 h2 h3 hq hn)
  have HA := Lib.hid hA
  clear hA hK hP
  have nA : A ∉ [K, P, R] := by
    simp only [List.mem_cons, List.not_mem_nil, or_false, not_or]
    exact ⟨a1, a2, a3⟩
  have hsub : ∀ x ∈ [K, P, R], x ∈ [A, K, P, R] := fun x hx => List.mem_cons_of_mem _ hx
  generalize hb : takeB W 1 alive = b at *
  clear hb
  cases b with
  | true =>
    go_enter Tryz.func55, Tryz.ntmps55
    go_wp2_with (go_at_call 14; refine TK.out.mono ?_; rintro e w1 ⟨rfl, t1, k1, p1⟩; have A1 := HA.out.turned t1 nA; have d2 : w1.cell? ⟨A, 2, none⟩ = some (.int .i64 1) := A1.cell rfl; have z2 : w1.frozen? ⟨A, 2, none⟩ = false := A1.fro0 (by show 2 < _; simp [wrV]))
    go_end0
    obtain ⟨cap', p2, p3, p4⟩ := p1
    exact ⟨rfl, (t1.mono hsub).set (List.mem_cons_self ..), Blk.setL A1 2 (.int .i64 2), BlkR.off k1 (Ne.symm a1), cap', BlkR.off p2 (Ne.symm a2), BlkR.off p3 (Ne.symm a3), p4⟩
  | false =>
    go_enter Tryz.func55, Tryz.ntmps55
    go_wp2_with (go_at_call 14; refine TK.out.mono ?_; rintro e w1 ⟨rfl, t1, k1, p1⟩)
    go_end0
    exact ⟨rfl, t1.mono hsub, HA.out.turned t1 nA, k1, p1⟩
theorem begin_1 {w : World} {A K P R β cap W n : Nat} {T : Nat → Nat} {alive : Bool} {most : Int} {mt : List Value} {old t on er f : Value} (hA : Blk w A (wrV most 1 mt old t on er).toArray) (hm : mt.length = 6) (hK : LkAt w K W n T) (hP : PrAt w P R β cap (liv alive) 2) (h1 : P ≠ K) (h2 : R ≠ K) (h3 : R ≠ P) (hq : (W, 1, alive) ∈ takeQ) (hn : n ≤ 8) (a1 : A ≠ K) (a2 : A ≠ P) (a3 : A ≠ R) :
    Calls Tryz.prog 26 #[.pointer (some ⟨A, 0, none⟩), f, .pointer (some ⟨K, 0, none⟩), .pointer (some ⟨P, 0, none⟩)] w fun e w' => e = .returned (.tuple #[.bool false, .nilIface]) ∧ Turned [A, K, P, R] w w' ∧ Blk w' A (wrV most (if takeB W 1 alive then 2 else 1) mt old t on er).toArray ∧ LkAt w' K (if takeB W 1 alive then 1 else W) n T ∧ ∃ cap', PrAt w' P R β cap' (liv alive) 2 := by
  have c2 : w.cell? ⟨A, 2, none⟩ = some (.int .i64 1) := hA.cell rfl
  have BG := Lib.hid (begins_1 (f := f) hA hm hK hP h1 h2 h3 hq hn a1 a2 a3)
  clear hA hK hP
  generalize hb : takeB W 1 alive = b at *
  clear hb
  cases b with
  | true =>
    go_enter Tryz.func26, Tryz.ntmps26
    go_wp2_with (go_at_call 55; refine BG.out.mono ?_; rintro e w1 ⟨rfl, t1, k1, p1⟩; have d2 : w1.cell? ⟨A, 2, none⟩ = some (.int .i64 2) := BlkR.cell k1 rfl)
    go_ret2
    exact ⟨rfl, t1, k1, p1⟩
  | false =>
    go_enter Tryz.func26, Tryz.ntmps26
    go_wp2_with (go_at_call 55; refine BG.out.mono ?_; rintro e w1 ⟨rfl, t1, k1, p1⟩; have d2 : w1.cell? ⟨A, 2, none⟩ = some (.int .i64 1) := BlkR.cell k1 rfl)
    go_ret2
    exact ⟨rfl, t1, k1, p1⟩
end Go.Proofs.YtgjnadligocdkaaGreatDoor
set_option linter.unusedVariables false
set_option linter.unusedSimpArgs false
set_option maxRecDepth 100000
namespace Go.Proofs.YtgjnadligocdkaaGreatDoor
open Go.RowKit Go.Sort
theorem done_q {w : World} {A ph : Nat} (c : w.cell? ⟨A, 2, none⟩ = some (.int .i64 (ph : Int))) (h : 0 < ph) : Calls Tryz.prog 63 #[.pointer (some ⟨A, 0, none⟩)] w fun e w' => e = .returned (.int .i64 0) ∧ w' = w := by
  have hh : ¬ (ph : Int) = 0 := by omega
  go_enter Tryz.func63, Tryz.ntmps63
  go_wp2_with fail
  go_ret
  exact ⟨rfl, rfl⟩
theorem done_g {w : World} {A ph : Nat} (c : w.cell? ⟨A, 2, none⟩ = some (.int .i64 (ph : Int))) (h : 0 < ph) : ∀ nq os, Calls Tryz.prog 63 #[.pointer (some ⟨A, 0, none⟩)] (grow (w.drewN nq) os) fun e w' => e = .returned (.int .i64 0) ∧ ∃ q os', w' = grow ((grow (w.drewN nq) os).drewN q) os' := fun nq os =>
  (done_q (w := grow (w.drewN nq) os) (Ext.cell (grow_ext (w := w) (n := nq) (os := os)) c) h).mono fun e w' q => ⟨q.1, 0, #[], q.2⟩
theorem begin_q1 {w : World} {A K P R β cap W n er : Nat} {T : Nat → Nat} {alive : Bool} {most : Int} {mt : List Value} {old pg t f : Value} (hA : Blk w A (wqV most 1 er mt old pg t).toArray) (hm : mt.length = 6) (hK : LkAt w K W n T) (hP : PrAt w P R β cap (liv alive) 2) (h1 : P ≠ K) (h2 : R ≠ K) (h3 : R ≠ P) (hq : (W, 1, alive) ∈ takeQ) (hn : n ≤ 8) (a1 : A ≠ K) (a2 : A ≠ P) (a3 : A ≠ R) :
    Calls Tryz.prog 27 #[.pointer (some ⟨A, 0, none⟩), f, .pointer (some ⟨K, 0, none⟩), .pointer (some ⟨P, 0, none⟩)] w fun e w' => e = .returned (.tuple #[.bool false, .int .i64 0]) ∧ Turned [A, K, P, R] w w' ∧ Blk w' A (wqV most (if takeB W 1 alive then 2 else 1) er mt old pg t).toArray ∧ LkAt w' K (if takeB W 1 alive then 1 else W) n T ∧ ∃ cap', PrAt w' P R β cap' (liv alive) 2 := by
  have c0 : w.cell? ⟨A, 0, none⟩ = some (.int .i64 1) := hA.cell rfl
  have c2 : w.cell? ⟨A, 2, none⟩ = some (.int .i64 1) := hA.cell rfl
  have TK := Lib.hid (take_rany K P R β cap W n 1 T alive w hK hP h1 h2 h3 hq hn)
  have HA := Lib.hid hA
  clear hA hK hP
  have nA : A ∉ [K, P, R] := by
    simp only [List.mem_cons, List.not_mem_nil, or_false, not_or]
    exact ⟨a1, a2, a3⟩
  have hsub : ∀ x ∈ [K, P, R], x ∈ [A, K, P, R] := fun x hx => List.mem_cons_of_mem _ hx
  generalize hb : takeB W 1 alive = b at *
  clear hb
  cases b with
  | true =>
    go_enter Tryz.func27, Tryz.ntmps27
    go_wp2_with (go_at_call 15; refine TK.out.mono ?_; rintro e w1 ⟨rfl, t1, k1, p1⟩; have A1 := HA.out.turned t1 nA; have d2 : w1.cell? ⟨A, 2, none⟩ = some (.int .i64 1) := A1.cell rfl; have z2 : w1.frozen? ⟨A, 2, none⟩ = false := A1.fro0 (by show 2 < _; simp [wqV]))
    have hX : Blk (w1.setCell ⟨A, 2, none⟩ (.int .i64 2)) A (wqV most 2 er mt old pg t).toArray := Blk.setL (HA.out.turned t1 nA) 2 (.int .i64 2)
    have hL : LkAt (w1.setCell ⟨A, 2, none⟩ (.int .i64 2)) K 1 n T := BlkR.off k1 (Ne.symm a1)
    have hP : ∃ cap', PrAt (w1.setCell ⟨A, 2, none⟩ (.int .i64 2)) P R β cap' (liv alive) 2 := by
      obtain ⟨cap', p2, p3, p4⟩ := p1
      exact ⟨cap', BlkR.off p2 (Ne.symm a2), BlkR.off p3 (Ne.symm a3), p4⟩
    have hT : Turned [A, K, P, R] w (w1.setCell ⟨A, 2, none⟩ (.int .i64 2)) := (t1.mono hsub).set (List.mem_cons_self ..)
    clear d2 z2 c0 c2 TK HA A1
    generalize w1.setCell ⟨A, 2, none⟩ (.int .i64 2) = W2 at *
    have x2 : W2.cell? ⟨A, 2, none⟩ = some (.int .i64 2) := BlkR.cell hX rfl
    have g2 : ∀ n os, (grow (W2.drewN n) os).cell? ⟨A, 2, none⟩ = some (.int .i64 2) := fun n os => Ext.cell (grow_ext (w := W2) (n := n) (os := os)) x2
    have HD := Lib.hid (done_g (ph := 2) x2 (by decide))
    have HX := Lib.hid hX
    have HL := Lib.hid hL
    have HP := Lib.hid hP
    have HT := Lib.hid hT
    clear hX hL hP hT x2 t1 k1 p1
    have mixed : Tryz.prog.follows .mixedOrders = true := by kernel_rfl
    refine wp_region_quiet_grown (by assumption) (by kernel_rfl) ?_
    repeat (first | go_big_quiet_step (first | (go_at_call 63; refine Calls.grown_of (HD.out _ _))) | quiet_step (first | (go_at_call 63; refine Calls.grown_of (HD.out _ _))))
    refine wpQuiet_nil ?_
    intro _ hw'
    obtain ⟨pp, hw''⟩ := hw'
    subst hw''
    have hx0 : Ext W2 (grow (W2.drewN pp.n) pp.os) := grow_ext
    generalize grow (W2.drewN pp.n) pp.os = W0 at hx0 ⊢
    clear HD g2
    go_wp2_with fail
    go_ret2
    have hx := Turned.ext (Bs := []) hx0
    obtain ⟨cap', p2, p3, p4⟩ := HP.out
    exact ⟨rfl, HT.out.trans (hx.mono (by simp)), BlkR.turned HX.out hx (by simp), BlkR.turned HL.out hx (by simp), cap', BlkR.turned p2 hx (by simp), BlkR.turned p3 hx (by simp), p4⟩
  | false =>
    go_enter Tryz.func27, Tryz.ntmps27
    go_wp2_with (go_at_call 15; refine TK.out.mono ?_; rintro e w1 ⟨rfl, t1, k1, p1⟩)
    have hX : Blk w1 A (wqV most 1 er mt old pg t).toArray := HA.out.turned t1 nA
    have hL : LkAt w1 K W n T := k1
    have hP : ∃ cap', PrAt w1 P R β cap' (liv alive) 2 := p1
    have hT : Turned [A, K, P, R] w w1 := t1.mono hsub
    clear c0 c2 TK HA
    have x2 : w1.cell? ⟨A, 2, none⟩ = some (.int .i64 1) := BlkR.cell hX rfl
    have g2 : ∀ n os, (grow (w1.drewN n) os).cell? ⟨A, 2, none⟩ = some (.int .i64 1) := fun n os => Ext.cell (grow_ext (w := w1) (n := n) (os := os)) x2
    have HD := Lib.hid (done_g (ph := 1) x2 (by decide))
    have HX := Lib.hid hX
    have HL := Lib.hid hL
    have HP := Lib.hid hP
    have HT := Lib.hid hT
    clear hX hL hP hT x2 t1 k1 p1
    have mixed : Tryz.prog.follows .mixedOrders = true := by kernel_rfl
    refine wp_region_quiet_grown (by assumption) (by kernel_rfl) ?_
    repeat (first | go_big_quiet_step (first | (go_at_call 63; refine Calls.grown_of (HD.out _ _))) | quiet_step (first | (go_at_call 63; refine Calls.grown_of (HD.out _ _))))
    refine wpQuiet_nil ?_
    intro _ hw'
    obtain ⟨pp, hw''⟩ := hw'
    subst hw''
    have hx0 : Ext w1 (grow (w1.drewN pp.n) pp.os) := grow_ext
    generalize grow (w1.drewN pp.n) pp.os = W0 at hx0 ⊢
    clear HD g2
    go_wp2_with fail
    go_ret2
    have hx := Turned.ext (Bs := []) hx0
    obtain ⟨cap', p2, p3, p4⟩ := HP.out
    exact ⟨rfl, HT.out.trans (hx.mono (by simp)), BlkR.turned HX.out hx (by simp), BlkR.turned HL.out hx (by simp), cap', BlkR.turned p2 hx (by simp), BlkR.turned p3 hx (by simp), p4⟩
end Go.Proofs.YtgjnadligocdkaaGreatDoor
set_option linter.unusedVariables false
set_option linter.unusedSimpArgs false
set_option maxRecDepth 100000
namespace Go.Proofs.YtgjnadligocdkaaGreatDoor
open Go.RowKit Go.Sort
theorem len6 {l : List Value} (h : l.length = 6) : ∃ a b c d e f, l = [a, b, c, d, e, f] := by
  match l, h with
  | [a, b, c, d, e, f], _ => exact ⟨a, b, c, d, e, f, rfl⟩
theorem begins_5 {w : World} {A K n : Nat} {T : Nat → Nat} {most : Int} {mt : List Value} {old t on er f p : Value} (hA : Blk w A (wrV most 5 mt old t on er).toArray) (hm : mt.length = 6) (hK : LkAt w K 1 n T) (hn : n ≤ 8) (a1 : A ≠ K) :
    Calls Tryz.prog 55 #[.pointer (some ⟨A, 0, none⟩), f, .pointer (some ⟨K, 0, none⟩), p] w fun e w' => e = .returned (.tuple #[]) ∧ Turned [A, K] w w' ∧ Blk w' A (wrV most 0 mt old t on er).toArray ∧ LkAt w' K 0 n T := by
  have c0 : w.cell? ⟨A, 0, none⟩ = some (.int .i64 1) := hA.cell rfl
  have c2 : w.cell? ⟨A, 2, none⟩ = some (.int .i64 5) := hA.cell rfl
  have TK := Lib.hid (rel_any K n T w hK hn)
  have HA := Lib.hid hA
  clear hA hK
  have nA : A ∉ [K] := fun q => a1 (List.mem_singleton.1 q)
  have hsub : ∀ x ∈ [K], x ∈ [A, K] := fun x hx => List.mem_cons_of_mem _ hx
  go_enter Tryz.func55, Tryz.ntmps55
  go_wp2_with (go_at_call 88; refine TK.out.mono ?_; rintro e w1 ⟨v1, rfl, t1, k1⟩; have A1 := HA.out.turned t1 nA; have d2 : w1.cell? ⟨A, 2, none⟩ = some (.int .i64 5) := A1.cell rfl; have z2 : w1.frozen? ⟨A, 2, none⟩ = false := A1.fro0 (by show 2 < _; simp [wrV]))
  go_end0
  exact ⟨rfl, (t1.mono hsub).set (List.mem_cons_self ..), Blk.setL A1 2 (.int .i64 0), BlkR.off k1 (Ne.symm a1)⟩
theorem begin_5 {w : World} {A K n : Nat} {T : Nat → Nat} {most : Int} {mt : List Value} {old t on er f p : Value} (hA : Blk w A (wrV most 5 mt old t on er).toArray) (hm : mt.length = 6) (hK : LkAt w K 1 n T) (hn : n ≤ 8) (a1 : A ≠ K) :
    Calls Tryz.prog 26 #[.pointer (some ⟨A, 0, none⟩), f, .pointer (some ⟨K, 0, none⟩), p] w fun e w' => e = .returned (.tuple #[.bool true, er]) ∧ Turned [A, K] w w' ∧ Blk w' A (wrV most 0 mt old t on er).toArray ∧ LkAt w' K 0 n T := by
  obtain ⟨m0, m1, m2, m3, m4, m5, rfl⟩ := len6 hm
  have c2 : w.cell? ⟨A, 2, none⟩ = some (.int .i64 5) := hA.cell rfl
  have BG := Lib.hid (begins_5 (f := f) (p := p) hA hm hK hn a1)
  clear hA hK
  go_enter Tryz.func26, Tryz.ntmps26
  go_wp2_with (go_at_call 55; refine BG.out.mono ?_; rintro e w1 ⟨rfl, t1, k1, p1⟩; have d2 : w1.cell? ⟨A, 2, none⟩ = some (.int .i64 0) := BlkR.cell k1 rfl; have d20 : w1.cell? ⟨A, 20, none⟩ = some er := BlkR.cell k1 rfl)
  have g2 : ∀ n os, (grow (w1.drewN n) os).cell? ⟨A, 20, none⟩ = some er := fun n os => Ext.cell (grow_ext (w := w1) (n := n) (os := os)) d20
  have HX := Lib.hid k1
  have HL := Lib.hid p1
  have HT := Lib.hid t1
  clear k1 p1 t1 d2 d20
  have mixed : Tryz.prog.follows .mixedOrders = true := by kernel_rfl
  refine wp_region_quiet_grown (by assumption) (by kernel_rfl) ?_
  repeat (first | go_big_quiet_step (fail) | quiet_step (fail))
  refine wpQuiet_nil ?_
  intro _ hw'
  obtain ⟨pp, hw''⟩ := hw'
  subst hw''
  have hx0 : Ext w1 (grow (w1.drewN pp.n) pp.os) := grow_ext
  generalize grow (w1.drewN pp.n) pp.os = W0 at hx0 ⊢
  clear g2
  go_wp2_with fail
  go_ret2
  have hx := Turned.ext (Bs := []) hx0
  exact ⟨rfl, HT.out.trans (hx.mono (by simp)), BlkR.turned HX.out hx (by simp), BlkR.turned HL.out hx (by simp)⟩
theorem done_0 {w : World} {A er : Nat} (c : w.cell? ⟨A, 2, none⟩ = some (.int .i64 0)) (c3 : w.cell? ⟨A, 3, none⟩ = some (.int .i64 (er : Int))) : Calls Tryz.prog 63 #[.pointer (some ⟨A, 0, none⟩)] w fun e w' => e = .returned (.int .i64 (er : Int)) ∧ w' = w := by
  go_enter Tryz.func63, Tryz.ntmps63
  go_wp2_with fail
  go_ret
  exact ⟨rfl, rfl⟩
theorem done_0g {w : World} {A er : Nat} (c : w.cell? ⟨A, 2, none⟩ = some (.int .i64 0)) (c3 : w.cell? ⟨A, 3, none⟩ = some (.int .i64 (er : Int))) : ∀ nq os, Calls Tryz.prog 63 #[.pointer (some ⟨A, 0, none⟩)] (grow (w.drewN nq) os) fun e w' => e = .returned (.int .i64 (er : Int)) ∧ ∃ q os', w' = grow ((grow (w.drewN nq) os).drewN q) os' := fun nq os =>
  (done_0 (w := grow (w.drewN nq) os) (Ext.cell (grow_ext (w := w) (n := nq) (os := os)) c) (Ext.cell (grow_ext (w := w) (n := nq) (os := os)) c3)).mono fun e w' q => ⟨q.1, 0, #[], q.2⟩
theorem begin_q5 {w : World} {A K n er : Nat} {T : Nat → Nat} {most : Int} {mt : List Value} {old pg t f p : Value} (hA : Blk w A (wqV most 5 er mt old pg t).toArray) (hm : mt.length = 6) (hK : LkAt w K 1 n T) (hn : n ≤ 8) (a1 : A ≠ K) :
    Calls Tryz.prog 27 #[.pointer (some ⟨A, 0, none⟩), f, .pointer (some ⟨K, 0, none⟩), p] w fun e w' => e = .returned (.tuple #[.bool true, .int .i64 (er : Int)]) ∧ Turned [A, K] w w' ∧ Blk w' A (wqV most 0 er mt old pg (.pointer none)).toArray ∧ LkAt w' K 0 n T := by
  obtain ⟨m0, m1, m2, m3, m4, m5, rfl⟩ := len6 hm
  have c0 : w.cell? ⟨A, 0, none⟩ = some (.int .i64 1) := hA.cell rfl
  have c2 : w.cell? ⟨A, 2, none⟩ = some (.int .i64 5) := hA.cell rfl
  have TK := Lib.hid (rel_rany K n T w hK hn)
  have HA := Lib.hid hA
  clear hA hK
  have nA : A ∉ [K] := fun q => a1 (List.mem_singleton.1 q)
  have hsub : ∀ x ∈ [K], x ∈ [A, K] := fun x hx => List.mem_cons_of_mem _ hx
  go_enter Tryz.func27, Tryz.ntmps27
  go_wp2_with (go_at_call 62; refine TK.out.mono ?_; rintro e w1 ⟨v1, rfl, t1, k1⟩; have A1 := HA.out.turned t1 nA; have d2 : w1.cell? ⟨A, 2, none⟩ = some (.int .i64 5) := A1.cell rfl; have z2 : w1.frozen? ⟨A, 2, none⟩ = false := A1.fro0 (by show 2 < 22; decide); have d12 : w1.cell? ⟨A, 12, none⟩ = some t := A1.cell rfl; have z12 : w1.frozen? ⟨A, 12, none⟩ = false := A1.fro0 (by show 12 < 22; decide))
  have hX := Blk.setL (Blk.setL A1 2 (.int .i64 0)) 12 (.pointer none)
  have hL := BlkR.off (B' := A) (i := 12) (v := .pointer none) (BlkR.off (B' := A) (i := 2) (v := .int .i64 0) k1 (Ne.symm a1)) (Ne.symm a1)
  have hT := ((t1.mono hsub).set (B := A) (i := 2) (v := .int .i64 0) (List.mem_cons_self ..)).set (B := A) (i := 12) (v := .pointer none) (List.mem_cons_self ..)
  clear d2 z2 d12 z12 c0 c2 TK HA A1 t1 k1
  generalize (w1.setCell ⟨A, 2, none⟩ (.int .i64 0)).setCell ⟨A, 12, none⟩ (.pointer none) = W2 at *
  have x2 : W2.cell? ⟨A, 2, none⟩ = some (.int .i64 0) := BlkR.cell hX rfl
  have x3 : W2.cell? ⟨A, 3, none⟩ = some (.int .i64 (er : Int)) := BlkR.cell hX rfl
  have g2 : ∀ n os, (grow (W2.drewN n) os).cell? ⟨A, 2, none⟩ = some (.int .i64 0) := fun n os => Ext.cell (grow_ext (w := W2) (n := n) (os := os)) x2
  have HD := Lib.hid (done_0g x2 x3)
  have HX := Lib.hid hX
  have HL := Lib.hid hL
  have HT := Lib.hid hT
  clear hX hL hT x2 x3
  have mixed : Tryz.prog.follows .mixedOrders = true := by kernel_rfl
  refine wp_region_quiet_grown (by assumption) (by kernel_rfl) ?_
  repeat (first | go_big_quiet_step (first | (go_at_call 63; refine Calls.grown_of (HD.out _ _))) | quiet_step (first | (go_at_call 63; refine Calls.grown_of (HD.out _ _))))
  refine wpQuiet_nil ?_
  intro _ hw'
  obtain ⟨pp, hw''⟩ := hw'
  subst hw''
  have hx0 : Ext W2 (grow (W2.drewN pp.n) pp.os) := grow_ext
  generalize grow (W2.drewN pp.n) pp.os = W0 at hx0 ⊢
  clear HD g2
  go_wp2_with fail
  go_ret2
  have hx := Turned.ext (Bs := []) hx0
  exact ⟨rfl, HT.out.trans (hx.mono (by simp)), BlkR.turned HX.out hx (by simp), BlkR.turned HL.out hx (by simp)⟩
end Go.Proofs.YtgjnadligocdkaaGreatDoor
set_option linter.unusedVariables false
set_option linter.unusedSimpArgs false
set_option maxRecDepth 100000
namespace Go.Proofs.YtgjnadligocdkaaGreatDoor
open Go.RowKit Go.Sort
theorem begins_3 {w : World} {A K P R β cap W n a L : Nat} {T : Nat → Nat} {alive : Bool} {most : Int} {old t on er f : Value} (hA : Blk w A (wrV most 3 (metaV a L) old t on er).toArray) (ha : a < 62) (hK : LkAt w K W n T) (hP : PrAt w P R β cap (liv alive) 2) (h1 : P ≠ K) (h2 : R ≠ K) (h3 : R ≠ P) (hW : W < 3) (hn : n ≤ 8) (hT : ∀ i, swT alive n T i < 18446744073709551616) (a1 : A ≠ K) (a2 : A ≠ P) (a3 : A ≠ R) :
    Calls Tryz.prog 55 #[.pointer (some ⟨A, 0, none⟩), f, .pointer (some ⟨K, 0, none⟩), .pointer (some ⟨P, 0, none⟩)] w fun e w' => e = .returned (.tuple #[]) ∧ Turned [A, K, P, R] w w' ∧ (∃ m : Nat, m < 18446744073709551616 ∧ Blk w' A (wrV most 4 (metaV a L) (.int .u64 (m : Int)) t on er).toArray) ∧ LkAt w' K W (swN alive n) (swT alive n T) ∧ ∃ cap', PrAt w' P R β cap' (liv alive) 2 := by
  have c2 : w.cell? ⟨A, 2, none⟩ = some (.int .i64 3) := hA.cell rfl
  have TK := Lib.hid (sweep_any K P R β cap W n T alive w hK hP h1 h2 h3 hW hn)
  have HA := Lib.hid hA
  have HT := Lib.hid hT
  clear hA hK hP hT
  have nA : A ∉ [K, P, R] := by
    simp only [List.mem_cons, List.not_mem_nil, or_false, not_or]
    exact ⟨a1, a2, a3⟩
  have hsub : ∀ x ∈ [K, P, R], x ∈ [A, K, P, R] := fun x hx => List.mem_cons_of_mem _ hx
  go_enter Tryz.func55, Tryz.ntmps55
  go_wp2_with (first | (go_at_call 84; refine TK.out.mono ?_; rintro e w1 ⟨v1, rfl, t1, k1, p1⟩; have A1 := HA.out.turned t1 nA; have d3 : w1.cell? ⟨A, 3, none⟩ = some (.int .u64 (a : Int)) := BlkR.cell A1 rfl) | (go_at_call 85; refine (oldest_p k1 HT.out (Nat.lt_trans ha (by decide))).mono ?_; rintro e w2 ⟨m, rfl, hm, x2⟩; have A2 := BlkR.ext A1 x2; have b2 : w2.cell? ⟨A, 2, none⟩ = some (.int .i64 3) := BlkR.cell A2 rfl; have b9 : w2.cell? ⟨A, 9, none⟩ = some old := BlkR.cell A2 rfl; have z2 : w2.frozen? ⟨A, 2, none⟩ = false := BlkR.fro0 A2 (by show 2 < 21; decide); have z9 : w2.frozen? ⟨A, 9, none⟩ = false := BlkR.fro0 A2 (by show 9 < 21; decide)))
  go_end0
  obtain ⟨cap', p2, p3, p4⟩ := p1
  have t2 : Turned [A, K, P, R] w w2 := (t1.mono hsub).trans (Turned.ext x2)
  exact ⟨rfl, (t2.set (List.mem_cons_self ..)).set (List.mem_cons_self ..), ⟨m, hm, Blk.setL (Blk.setL A2 9 (.int .u64 (m : Int))) 2 (.int .i64 4)⟩, BlkR.off (BlkR.off (BlkR.ext k1 x2) (Ne.symm a1)) (Ne.symm a1), cap', BlkR.off (BlkR.off (BlkR.ext p2 x2) (Ne.symm a2)) (Ne.symm a2), BlkR.off (BlkR.off (BlkR.ext p3 x2) (Ne.symm a3)) (Ne.symm a3), p4⟩
theorem begin_3 {w : World} {A K P R β cap W n a L : Nat} {T : Nat → Nat} {alive : Bool} {most : Int} {old t on er f : Value} (hA : Blk w A (wrV most 3 (metaV a L) old t on er).toArray) (ha : a < 62) (hK : LkAt w K W n T) (hP : PrAt w P R β cap (liv alive) 2) (h1 : P ≠ K) (h2 : R ≠ K) (h3 : R ≠ P) (hW : W < 3) (hn : n ≤ 8) (hT : ∀ i, swT alive n T i < 18446744073709551616) (a1 : A ≠ K) (a2 : A ≠ P) (a3 : A ≠ R) :
    Calls Tryz.prog 26 #[.pointer (some ⟨A, 0, none⟩), f, .pointer (some ⟨K, 0, none⟩), .pointer (some ⟨P, 0, none⟩)] w fun e w' => e = .returned (.tuple #[.bool false, .nilIface]) ∧ Turned [A, K, P, R] w w' ∧ (∃ m : Nat, m < 18446744073709551616 ∧ Blk w' A (wrV most 4 (metaV a L) (.int .u64 (m : Int)) t on er).toArray) ∧ LkAt w' K W (swN alive n) (swT alive n T) ∧ ∃ cap', PrAt w' P R β cap' (liv alive) 2 := by
  have c2 : w.cell? ⟨A, 2, none⟩ = some (.int .i64 3) := hA.cell rfl
  have BG := Lib.hid (begins_3 (f := f) hA ha hK hP h1 h2 h3 hW hn hT a1 a2 a3)
  clear hA hK hP hT
  go_enter Tryz.func26, Tryz.ntmps26
  go_wp2_with (go_at_call 55; refine BG.out.mono ?_; rintro e w1 ⟨rfl, t1, ⟨m, hm, k1⟩, p1⟩; have d2 : w1.cell? ⟨A, 2, none⟩ = some (.int .i64 4) := BlkR.cell k1 rfl)
  go_ret2
  exact ⟨rfl, t1, ⟨m, hm, k1⟩, p1⟩
theorem begin_q3 {w : World} {A K P R β cap W n a L er : Nat} {T : Nat → Nat} {alive : Bool} {most : Int} {old pg t f : Value} (hA : Blk w A (wqV most 3 er (metaV a L) old pg t).toArray) (ha : a < 62) (hK : LkAt w K W n T) (hP : PrAt w P R β cap (liv alive) 2) (h1 : P ≠ K) (h2 : R ≠ K) (h3 : R ≠ P) (hW : W < 3) (hn : n ≤ 8) (hT : ∀ i, swT alive n T i < 18446744073709551616) (a1 : A ≠ K) (a2 : A ≠ P) (a3 : A ≠ R) :
    Calls Tryz.prog 27 #[.pointer (some ⟨A, 0, none⟩), f, .pointer (some ⟨K, 0, none⟩), .pointer (some ⟨P, 0, none⟩)] w fun e w' => e = .returned (.tuple #[.bool false, .int .i64 0]) ∧ Turned [A, K, P, R] w w' ∧ (∃ m : Nat, m < 18446744073709551616 ∧ Blk w' A (wqV most 4 er (metaV a L) (.int .u64 (m : Int)) pg t).toArray) ∧ LkAt w' K W (swN alive n) (swT alive n T) ∧ ∃ cap', PrAt w' P R β cap' (liv alive) 2 := by
  have c2 : w.cell? ⟨A, 2, none⟩ = some (.int .i64 3) := hA.cell rfl
  have TK := Lib.hid (sweep_rany K P R β cap W n T alive w hK hP h1 h2 h3 hW hn)
  have HA := Lib.hid hA
  have HT := Lib.hid hT
  clear hA hK hP hT
  have nA : A ∉ [K, P, R] := by
    simp only [List.mem_cons, List.not_mem_nil, or_false, not_or]
    exact ⟨a1, a2, a3⟩
  have hsub : ∀ x ∈ [K, P, R], x ∈ [A, K, P, R] := fun x hx => List.mem_cons_of_mem _ hx
  go_enter Tryz.func27, Tryz.ntmps27
  go_wp2_with (first | (go_at_call 58; refine TK.out.mono ?_; rintro e w1 ⟨v1, rfl, t1, k1, p1⟩; have A1 := HA.out.turned t1 nA; have d4 : w1.cell? ⟨A, 4, none⟩ = some (.int .u64 (a : Int)) := BlkR.cell A1 rfl) | (go_at_call 59; refine (oldest_q k1 HT.out (Nat.lt_trans ha (by decide))).mono ?_; rintro e w2 ⟨m, rfl, hm, x2⟩; have A2 := BlkR.ext A1 x2; have b2 : w2.cell? ⟨A, 2, none⟩ = some (.int .i64 3) := BlkR.cell A2 rfl; have b10 : w2.cell? ⟨A, 10, none⟩ = some old := BlkR.cell A2 rfl; have z2 : w2.frozen? ⟨A, 2, none⟩ = false := BlkR.fro0 A2 (by show 2 < 22; decide); have z10 : w2.frozen? ⟨A, 10, none⟩ = false := BlkR.fro0 A2 (by show 10 < 22; decide)))
  obtain ⟨cap', p2, p3, p4⟩ := p1
  have t2 : Turned [A, K, P, R] w w2 := (t1.mono hsub).trans (Turned.ext x2)
  have hX := Blk.setL (Blk.setL A2 10 (.int .u64 (m : Int))) 2 (.int .i64 4)
  have hL := BlkR.off (B' := A) (i := 2) (v := .int .i64 4) (BlkR.off (B' := A) (i := 10) (v := .int .u64 (m : Int)) (BlkR.ext k1 x2) (Ne.symm a1)) (Ne.symm a1)
  have hP2 := BlkR.off (B' := A) (i := 2) (v := .int .i64 4) (BlkR.off (B' := A) (i := 10) (v := .int .u64 (m : Int)) (BlkR.ext p2 x2) (Ne.symm a2)) (Ne.symm a2)
  have hP3 := BlkR.off (B' := A) (i := 2) (v := .int .i64 4) (BlkR.off (B' := A) (i := 10) (v := .int .u64 (m : Int)) (BlkR.ext p3 x2) (Ne.symm a3)) (Ne.symm a3)
  have hT := (t2.set (B := A) (i := 10) (v := .int .u64 (m : Int)) (List.mem_cons_self ..)).set (B := A) (i := 2) (v := .int .i64 4) (List.mem_cons_self ..)
  clear b2 b10 z2 z10 c2 d4 TK HA A1 A2 t1 t2 k1 p2 p3 x2
  generalize (w2.setCell ⟨A, 10, none⟩ (.int .u64 (m : Int))).setCell ⟨A, 2, none⟩ (.int .i64 4) = W2 at *
  have x2 : W2.cell? ⟨A, 2, none⟩ = some (.int .i64 4) := BlkR.cell hX rfl
  have g2 : ∀ n os, (grow (W2.drewN n) os).cell? ⟨A, 2, none⟩ = some (.int .i64 4) := fun n os => Ext.cell (grow_ext (w := W2) (n := n) (os := os)) x2
  have HD := Lib.hid (done_g (ph := 4) x2 (by decide))
  have HX := Lib.hid hX
  have HL := Lib.hid hL
  have HP2 := Lib.hid hP2
  have HP3 := Lib.hid hP3
  have HT2 := Lib.hid hT
  clear hX hL hP2 hP3 hT x2
  have mixed : Tryz.prog.follows .mixedOrders = true := by kernel_rfl
  refine wp_region_quiet_grown (by assumption) (by kernel_rfl) ?_
  repeat (first | go_big_quiet_step (first | (go_at_call 63; refine Calls.grown_of (HD.out _ _))) | quiet_step (first | (go_at_call 63; refine Calls.grown_of (HD.out _ _))))
  refine wpQuiet_nil ?_
  intro _ hw'
  obtain ⟨pp, hw''⟩ := hw'
  subst hw''
  have hx0 : Ext W2 (grow (W2.drewN pp.n) pp.os) := grow_ext
  generalize grow (W2.drewN pp.n) pp.os = W0 at hx0 ⊢
  clear HD g2
  go_wp2_with fail
  go_ret2
  have hx := Turned.ext (Bs := []) hx0
  exact ⟨rfl, HT2.out.trans (hx.mono (by simp)), ⟨m, hm, BlkR.turned HX.out hx (by simp)⟩, BlkR.turned HL.out hx (by simp), cap', BlkR.turned HP2.out hx (by simp), BlkR.turned HP3.out hx (by simp), p4⟩
end Go.Proofs.YtgjnadligocdkaaGreatDoor
