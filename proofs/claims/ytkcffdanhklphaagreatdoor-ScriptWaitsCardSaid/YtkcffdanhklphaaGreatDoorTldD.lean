/-
  past.told: the greatest version that was told ahead of a time.
-/
import Derived.Test.YtkcffdanhklphaaGreatDoorProg
import Derived.Test.YtkcffdanhklphaaGreatDoorKit
set_option linter.unusedVariables false
set_option linter.unusedSimpArgs false
namespace Go.Proofs.YtkcffdanhklphaaGreatDoor
open Go.RowKit
/-- what counts of an entry: kind, till, code, version -/
structure TlY where
  kind : Int
  till : Int
  code : Int
  txn : Nat
def tyC (frm : Int) (x : TlY) : Bool := decide (x.kind = 6) && (decide (x.code = 0) && (decide (0 < x.till) && decide (x.till < frm)))
def tyStep (frm : Int) (a : Nat) (x : TlY) : Nat := if tyC frm x = true then max a x.txn else a
def tyV (frm : Int) (l : List TlY) (a : Nat) : Nat := l.foldl (tyStep frm) a
theorem tyV_succ {l : List TlY} {frm : Int} {j : Nat} (h : j < l.length) : tyV frm (l.take (j + 1)) 0 = tyStep frm (tyV frm (l.take j) 0) l[j] := by
  unfold tyV
  rw [List.take_succ_eq_append_getElem h, List.foldl_append]; rfl
set_option maxHeartbeats 4000000 in
set_option maxRecDepth 100000 in
theorem told_plain (xs : List TlY) (V : Nat → Nat → Value) (b off c : Nat) (frm : Int) (w : World) (hn : xs.length ≤ 16777214) (hpos : 1 ≤ xs.length)
    (hv : ∀ j (h : j < xs.length), V j 2 = .int .i64 xs[j].kind ∧ V j 9 = .int .i64 xs[j].till ∧ V j 10 = .int .i64 xs[j].code ∧ V j 13 = .int .u64 xs[j].txn ∧ xs[j].txn < 18446744073709551616)
    (hone : ∀ j k, j < xs.length → k < 14 → (V j k).oneCell' = true) (hc : ∀ j k, j < xs.length → k < 14 → w.cell? ⟨b, off + j * 14 + k, none⟩ = some (V j k)) :
    Calls Tryz.prog 194 #[.slice (some ⟨b, off, none⟩) xs.length c, .int .i64 frm] w fun e w' => e = .returned (.int .u64 (tyV frm xs 0)) ∧ Ext w w' := by
  have HC := Lib.hid hc
  have HV := Lib.hid hv
  have HO := Lib.hid hone
  clear hc hv hpos hone
  go_enter Tryz.func194, Tryz.ntmps194
  go_wp2_with fail
  go_loopw [5, 10] (fun n i wr => ∃ j : Nat, j ≤ xs.length ∧ i = .int .i64 j ∧ n = .int .u64 (tyV frm (xs.take j) 0) ∧ Ext w wr) (fun _ i _ => xs.length - (intOf i).toNat)
  case atStart => exact ⟨0, by omega, rfl, rfl, Ext.rfl' _⟩
  case round =>
    obtain ⟨j, hj, rfl, rfl, hx⟩ := hrel
    obtain ⟨wo, rfl⟩ : ∃ wo : World, wo = wr := ⟨_, rfl⟩
    have HX := Lib.hid hx
    by_cases hlt : j < xs.length
    · have hcell : ∀ k, k < 14 → wo.cell? ⟨b, off + j * 14 + k, none⟩ = some (V j k) := fun k hk => hx.cell (HC.out j k hlt hk)
      obtain ⟨v2, v9, v10, v13, htx⟩ := HV.out j hlt
      have d0 := hcell 0 (by omega)
      have d1 := hcell 1 (by omega)
      have d2 := hcell 2 (by omega)
      have d3 := hcell 3 (by omega)
      have d4 := hcell 4 (by omega)
      have d5 := hcell 5 (by omega)
      have d6 := hcell 6 (by omega)
      have d7 := hcell 7 (by omega)
      have d8 := hcell 8 (by omega)
      have d9 := hcell 9 (by omega)
      have d10 := hcell 10 (by omega)
      have d11 := hcell 11 (by omega)
      have d12 := hcell 12 (by omega)
      have d13 := hcell 13 (by omega)
      have s0 : ∀ (a : Addr) (m : Mode) (w : World), (store a (V j 0) m).run Tryz.prog w = stored Tryz.prog w a (V j 0) m := fun a m w => run_store _ w a _ m (HO.out j 0 hlt (by omega))
      have s1 : ∀ (a : Addr) (m : Mode) (w : World), (store a (V j 1) m).run Tryz.prog w = stored Tryz.prog w a (V j 1) m := fun a m w => run_store _ w a _ m (HO.out j 1 hlt (by omega))
      have s3 : ∀ (a : Addr) (m : Mode) (w : World), (store a (V j 3) m).run Tryz.prog w = stored Tryz.prog w a (V j 3) m := fun a m w => run_store _ w a _ m (HO.out j 3 hlt (by omega))
      have s4 : ∀ (a : Addr) (m : Mode) (w : World), (store a (V j 4) m).run Tryz.prog w = stored Tryz.prog w a (V j 4) m := fun a m w => run_store _ w a _ m (HO.out j 4 hlt (by omega))
      have s5 : ∀ (a : Addr) (m : Mode) (w : World), (store a (V j 5) m).run Tryz.prog w = stored Tryz.prog w a (V j 5) m := fun a m w => run_store _ w a _ m (HO.out j 5 hlt (by omega))
      have s6 : ∀ (a : Addr) (m : Mode) (w : World), (store a (V j 6) m).run Tryz.prog w = stored Tryz.prog w a (V j 6) m := fun a m w => run_store _ w a _ m (HO.out j 6 hlt (by omega))
      have s7 : ∀ (a : Addr) (m : Mode) (w : World), (store a (V j 7) m).run Tryz.prog w = stored Tryz.prog w a (V j 7) m := fun a m w => run_store _ w a _ m (HO.out j 7 hlt (by omega))
      have s8 : ∀ (a : Addr) (m : Mode) (w : World), (store a (V j 8) m).run Tryz.prog w = stored Tryz.prog w a (V j 8) m := fun a m w => run_store _ w a _ m (HO.out j 8 hlt (by omega))
      have s11 : ∀ (a : Addr) (m : Mode) (w : World), (store a (V j 11) m).run Tryz.prog w = stored Tryz.prog w a (V j 11) m := fun a m w => run_store _ w a _ m (HO.out j 11 hlt (by omega))
      have s12 : ∀ (a : Addr) (m : Mode) (w : World), (store a (V j 12) m).run Tryz.prog w = stored Tryz.prog w a (V j 12) m := fun a m w => run_store _ w a _ m (HO.out j 12 hlt (by omega))
      simp only [Nat.add_zero] at d0
      rw [v2] at d2
      rw [v9] at d9
      rw [v10] at d10
      rw [v13] at d13
      generalize V j 0 = u0 at d0 s0
      generalize V j 1 = u1 at d1 s1
      generalize V j 3 = u3 at d3 s3
      generalize V j 4 = u4 at d4 s4
      generalize V j 5 = u5 at d5 s5
      generalize V j 6 = u6 at d6 s6
      generalize V j 7 = u7 at d7 s7
      generalize V j 8 = u8 at d8 s8
      generalize V j 11 = u11 at d11 s11
      generalize V j 12 = u12 at d12 s12
      have HSU := Lib.hid (tyV_succ (frm := frm) hlt)
      clear hcell hx v2 v9 v10 v13
      generalize xs[j] = t at *
      generalize tyV frm (xs.take j) 0 = n at HSU ⊢
      have hways : (((t.kind == 6) = true ∧ decide (0 < t.till) = true ∧ decide (t.till < frm) = true ∧ (t.code == 0) = true) ∧ tyC frm t = true) ∨
          (((t.kind == 6) = false ∨ ((t.kind == 6) = true ∧ decide (0 < t.till) = false) ∨ ((t.kind == 6) = true ∧ decide (0 < t.till) = true ∧ decide (t.till < frm) = false) ∨ ((t.kind == 6) = true ∧ decide (0 < t.till) = true ∧ decide (t.till < frm) = true ∧ (t.code == 0) = false)) ∧ tyC frm t = false) := by
        unfold tyC
        rw [show decide (t.kind = 6) = (t.kind == 6) from rfl, show decide (t.code = 0) = (t.code == 0) from rfl]
        cases (t.kind == 6) <;> cases decide (0 < t.till) <;> cases decide (t.till < frm) <;> cases (t.code == 0) <;> simp
      rcases hways with ⟨⟨p1, p2, p3, p4⟩, hB⟩ | ⟨hr, hB⟩
      · have HS2 : Hid (tyV frm (xs.take (j + 1)) 0 = max n t.txn) := by show _ = _; rw [HSU.out]; unfold tyStep; rw [if_pos hB]
        clear hB HSU
        have hmx : (max (n : Int) (t.txn : Int)) = ((max n t.txn : Nat) : Int) := by omega
        have HMX := Lib.hid hmx
        clear hmx
        go_wp2_with fail
        exact ⟨⟨j + 1, by omega, by go_num, by rw [HS2.out]; first | rw [HMX.out] | (congr 1; split <;> omega), Ext.alloc HX.out _⟩, by simp [intOf]; omega⟩
      · have HS2 : Hid (tyV frm (xs.take (j + 1)) 0 = n) := by show _ = _; rw [HSU.out]; unfold tyStep; rw [if_neg (by rw [hB]; simp)]
        clear hB HSU
        rcases hr with p1 | ⟨p1, p2⟩ | ⟨p1, p2, p3⟩ | ⟨p1, p2, p3, p4⟩
        all_goals
          go_wp2_with fail
          go_roundw
          case rel => exact ⟨j + 1, by omega, by go_num, by rw [HS2.out], Ext.alloc HX.out _⟩
          case measure => simp [intOf]; omega
    · obtain rfl : j = xs.length := by omega
      have HF : Hid (tyV frm (xs.take xs.length) 0 = tyV frm xs 0) := by show _ = _; rw [List.take_length]
      clear hx
      go_wp2_with fail
      go_ret
      exact ⟨by rw [← HF.out]; rfl, HX.out⟩
end Go.Proofs.YtkcffdanhklphaaGreatDoor
