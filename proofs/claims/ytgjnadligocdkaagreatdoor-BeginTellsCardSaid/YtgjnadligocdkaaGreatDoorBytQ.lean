/-
  The document's lock as bytes.
-/
import Derived.Test.YtgjnadligocdkaaGreatDoorBytW
set_option linter.unusedVariables false
set_option linter.unusedSimpArgs false
set_option maxRecDepth 100000
namespace Go.Proofs.YtgjnadligocdkaaGreatDoor
open Go.RowKit Go.Sort
def NumJ (w : World) : Prop := ∀ (k : Int) nq os, 0 ≤ k → k < 9223372036854775808 → Calls Tryz.prog 68 #[.int .i64 k] (grow (w.drewN nq) os) fun e w' => e = .returned (.string (numI k)) ∧ ∃ q os', w' = grow ((grow (w.drewN nq) os).drewN q) os'
theorem numJ_of (w : World) : NumJ w := fun k nq os h0 h1 => by
  have := num_i k.toNat (grow (w.drewN nq) os) (by omega)
  rw [Int.toNat_of_nonneg h0] at this
  exact this
set_option maxHeartbeats 4000000 in
theorem bytes_q {w : World} {K W n : Nat} {T : Nat → Nat} (h : LkAt w K W n T) (hW : W < 1000) (hT : ∀ i, T i < 18446744073709551616) : Calls Tryz.prog 35 #[.pointer (some ⟨K, 0, none⟩)] w fun e w' => e = .returned (.string (lkTx W n T 8)) ∧ Gr w w' := by
  have c0 : w.cell? ⟨K, 0, none⟩ = some (.int .i64 (W : Int)) := h.cell rfl
  have z1 : ¬ 9223372036854775807 < (numI 4242).size + (numI 1).size := by rw [numI_size, numI_size]; decide
  have z2 : ¬ 9223372036854775807 < (numI 4242 ++ numI 1).size + (numI W).size := by rw [ByteArray.size_append, numI_size, numI_size, numI_size]; decide
  have hb0 : (0 : Int) ≤ (W : Int) := by omega
  have hb1 : (W : Int) < 9223372036854775808 := by omega
  have HN := Lib.hid (numI_of num_q w)
  have HM := Lib.hid (numJ_of w)
  have g0 : ∀ n os, (grow (w.drewN n) os).cell? ⟨K, 0, none⟩ = some (.int .i64 (W : Int)) := fun n os => Ext.cell (grow_ext (w := w) (n := n) (os := os)) c0
  go_enter Tryz.func35, Tryz.ntmps35
  go_wp2_with fail
  have mixed : Tryz.prog.follows .mixedOrders = true := by kernel_rfl
  refine wp_region_quiet_grown (by assumption) (by kernel_rfl) ?_
  repeat (first | go_big_quiet_step (first | (go_at_call 67; refine Calls.grown_of (HN.out _ _ _ (by omega) (by omega))) | (go_at_call 68; refine Calls.grown_of (HM.out _ _ _ (by omega) (by omega)))) | quiet_step (first | (go_at_call 67; refine Calls.grown_of (HN.out _ _ _ (by omega) (by omega))) | (go_at_call 68; refine Calls.grown_of (HM.out _ _ _ (by omega) (by omega)))))
  refine wpQuiet_nil ?_
  intro _ hw'
  obtain ⟨pp, hw''⟩ := hw'
  subst hw''
  have hx0 : Gr w (grow (w.drewN pp.n) pp.os) := grow_gr
  have hs0 : (numI 4242 ++ numI 1) ++ numI (W : Int) = lkTx W n T 0 := rfl
  rw [hs0]
  generalize grow (w.drewN pp.n) pp.os = W0 at hx0 ⊢
  have HX := Lib.hid hx0
  have HL := Lib.hid h
  clear hx0 hs0 HN HM c0 g0 z1 z2 h
  have HT := Lib.hid hT
  have hpv : ∀ i, pidv n i < 1000 := pidv_le n
  have HP := Lib.hid hpv
  clear hT hpv hb0 hb1 hW
  go_wp2_with fail
  go_loopw [3, 4] (fun s i wr => ∃ k : Nat, k ≤ 8 ∧ i = .int .i64 k ∧ s = .string (lkTx W n T k) ∧ Gr w wr) (fun _ i _ => 8 - (intOf i).toNat)
  case atStart => exact ⟨0, by omega, rfl, rfl, HX.out⟩
  case round =>
    obtain ⟨k, hk, rfl, rfl, hx⟩ := hrel
    have HXR := Lib.hid hx
    clear hx
    by_cases hlt : k < 8
    · have hL : LkAt wr K W n T := HL.out.ext HXR.out.ext
      have hsz := lkTx_size W n T k
      have hsu : lkTx W n T (k + 1) = lkTx W n T k ++ (numI (pidv n k : Nat) ++ numI (T k : Nat)) := rfl
      have HSU := Lib.hid hsu
      have hp1 := HP.out k
      have ht1 := HT.out k
      generalize lkTx W n T k = S at *
      have hcs : k = 0 ∨ k = 1 ∨ k = 2 ∨ k = 3 ∨ k = 4 ∨ k = 5 ∨ k = 6 ∨ k = 7 := by omega
      rcases hcs with rfl | rfl | rfl | rfl | rfl | rfl | rfl | rfl
      · clear hsu
        have c1 : wr.cell? ⟨K, 1, none⟩ = some (.int .i64 (pidv n 0 : Nat)) := hL.cell rfl
        have c2 : wr.cell? ⟨K, 2, none⟩ = some (.int .u64 (T 0)) := hL.cell rfl
        generalize pidv n 0 = p at *
        generalize T 0 = t at *
        have z1 : ¬ 9223372036854775807 < S.size + (numI (p : Int)).size := by rw [numI_size, hsz]; decide
        have z2 : ¬ 9223372036854775807 < (S ++ numI (p : Int)).size + (numI (t : Int)).size := by rw [ByteArray.size_append, numI_size, numI_size, hsz]; decide
        have HN := Lib.hid (numI_of num_q wr)
        have HM := Lib.hid (numJ_of wr)
        have g0 : ∀ n os, (grow (wr.drewN n) os).cell? ⟨K, 1, none⟩ = some (.int .i64 (p : Int)) := fun n os => Ext.cell (grow_ext (w := wr) (n := n) (os := os)) c1
        have g1 : ∀ n os, (grow (wr.drewN n) os).cell? ⟨K, 2, none⟩ = some (.int .u64 (t : Int)) := fun n os => Ext.cell (grow_ext (w := wr) (n := n) (os := os)) c2
        clear c1 c2 hL
        go_wp2_with fail
        refine wp_region_quiet_grown (by assumption) (by kernel_rfl) ?_
        repeat (first | go_big_quiet_step (first | (go_at_call 67; refine Calls.grown_of (HN.out _ _ _ (by omega) (by omega))) | (go_at_call 68; refine Calls.grown_of (HM.out _ _ _ (by omega) (by omega)))) | quiet_step (first | (go_at_call 67; refine Calls.grown_of (HN.out _ _ _ (by omega) (by omega))) | (go_at_call 68; refine Calls.grown_of (HM.out _ _ _ (by omega) (by omega)))))
        refine wpQuiet_nil ?_
        intro _ hw'
        obtain ⟨pp, hw''⟩ := hw'
        subst hw''
        have hx2 : Gr w (grow (wr.drewN pp.n) pp.os) := HXR.out.step grow_gr
        generalize grow (wr.drewN pp.n) pp.os = W2 at hx2 ⊢
        clear g0 g1 HN HM z1 z2
        go_wp2_with fail
        go_roundw
        case rel => exact ⟨1, by omega, rfl, by rw [HSU.out, ByteArray.append_assoc], hx2⟩
        case measure => simp [intOf]
      · clear hsu
        have c1 : wr.cell? ⟨K, 3, none⟩ = some (.int .i64 (pidv n 1 : Nat)) := hL.cell rfl
        have c2 : wr.cell? ⟨K, 4, none⟩ = some (.int .u64 (T 1)) := hL.cell rfl
        generalize pidv n 1 = p at *
        generalize T 1 = t at *
        have z1 : ¬ 9223372036854775807 < S.size + (numI (p : Int)).size := by rw [numI_size, hsz]; decide
        have z2 : ¬ 9223372036854775807 < (S ++ numI (p : Int)).size + (numI (t : Int)).size := by rw [ByteArray.size_append, numI_size, numI_size, hsz]; decide
        have HN := Lib.hid (numI_of num_q wr)
        have HM := Lib.hid (numJ_of wr)
        have g0 : ∀ n os, (grow (wr.drewN n) os).cell? ⟨K, 3, none⟩ = some (.int .i64 (p : Int)) := fun n os => Ext.cell (grow_ext (w := wr) (n := n) (os := os)) c1
        have g1 : ∀ n os, (grow (wr.drewN n) os).cell? ⟨K, 4, none⟩ = some (.int .u64 (t : Int)) := fun n os => Ext.cell (grow_ext (w := wr) (n := n) (os := os)) c2
        clear c1 c2 hL
        go_wp2_with fail
        refine wp_region_quiet_grown (by assumption) (by kernel_rfl) ?_
        repeat (first | go_big_quiet_step (first | (go_at_call 67; refine Calls.grown_of (HN.out _ _ _ (by omega) (by omega))) | (go_at_call 68; refine Calls.grown_of (HM.out _ _ _ (by omega) (by omega)))) | quiet_step (first | (go_at_call 67; refine Calls.grown_of (HN.out _ _ _ (by omega) (by omega))) | (go_at_call 68; refine Calls.grown_of (HM.out _ _ _ (by omega) (by omega)))))
        refine wpQuiet_nil ?_
        intro _ hw'
        obtain ⟨pp, hw''⟩ := hw'
        subst hw''
        have hx2 : Gr w (grow (wr.drewN pp.n) pp.os) := HXR.out.step grow_gr
        generalize grow (wr.drewN pp.n) pp.os = W2 at hx2 ⊢
        clear g0 g1 HN HM z1 z2
        go_wp2_with fail
        go_roundw
        case rel => exact ⟨2, by omega, rfl, by rw [HSU.out, ByteArray.append_assoc], hx2⟩
        case measure => simp [intOf]
      · clear hsu
        have c1 : wr.cell? ⟨K, 5, none⟩ = some (.int .i64 (pidv n 2 : Nat)) := hL.cell rfl
        have c2 : wr.cell? ⟨K, 6, none⟩ = some (.int .u64 (T 2)) := hL.cell rfl
        generalize pidv n 2 = p at *
        generalize T 2 = t at *
        have z1 : ¬ 9223372036854775807 < S.size + (numI (p : Int)).size := by rw [numI_size, hsz]; decide
        have z2 : ¬ 9223372036854775807 < (S ++ numI (p : Int)).size + (numI (t : Int)).size := by rw [ByteArray.size_append, numI_size, numI_size, hsz]; decide
        have HN := Lib.hid (numI_of num_q wr)
        have HM := Lib.hid (numJ_of wr)
        have g0 : ∀ n os, (grow (wr.drewN n) os).cell? ⟨K, 5, none⟩ = some (.int .i64 (p : Int)) := fun n os => Ext.cell (grow_ext (w := wr) (n := n) (os := os)) c1
        have g1 : ∀ n os, (grow (wr.drewN n) os).cell? ⟨K, 6, none⟩ = some (.int .u64 (t : Int)) := fun n os => Ext.cell (grow_ext (w := wr) (n := n) (os := os)) c2
        clear c1 c2 hL
        go_wp2_with fail
        refine wp_region_quiet_grown (by assumption) (by kernel_rfl) ?_
        repeat (first | go_big_quiet_step (first | (go_at_call 67; refine Calls.grown_of (HN.out _ _ _ (by omega) (by omega))) | (go_at_call 68; refine Calls.grown_of (HM.out _ _ _ (by omega) (by omega)))) | quiet_step (first | (go_at_call 67; refine Calls.grown_of (HN.out _ _ _ (by omega) (by omega))) | (go_at_call 68; refine Calls.grown_of (HM.out _ _ _ (by omega) (by omega)))))
        refine wpQuiet_nil ?_
        intro _ hw'
        obtain ⟨pp, hw''⟩ := hw'
        subst hw''
        have hx2 : Gr w (grow (wr.drewN pp.n) pp.os) := HXR.out.step grow_gr
        generalize grow (wr.drewN pp.n) pp.os = W2 at hx2 ⊢
        clear g0 g1 HN HM z1 z2
        go_wp2_with fail
        go_roundw
        case rel => exact ⟨3, by omega, rfl, by rw [HSU.out, ByteArray.append_assoc], hx2⟩
        case measure => simp [intOf]
      · clear hsu
        have c1 : wr.cell? ⟨K, 7, none⟩ = some (.int .i64 (pidv n 3 : Nat)) := hL.cell rfl
        have c2 : wr.cell? ⟨K, 8, none⟩ = some (.int .u64 (T 3)) := hL.cell rfl
        generalize pidv n 3 = p at *
        generalize T 3 = t at *
        have z1 : ¬ 9223372036854775807 < S.size + (numI (p : Int)).size := by rw [numI_size, hsz]; decide
        have z2 : ¬ 9223372036854775807 < (S ++ numI (p : Int)).size + (numI (t : Int)).size := by rw [ByteArray.size_append, numI_size, numI_size, hsz]; decide
        have HN := Lib.hid (numI_of num_q wr)
        have HM := Lib.hid (numJ_of wr)
        have g0 : ∀ n os, (grow (wr.drewN n) os).cell? ⟨K, 7, none⟩ = some (.int .i64 (p : Int)) := fun n os => Ext.cell (grow_ext (w := wr) (n := n) (os := os)) c1
        have g1 : ∀ n os, (grow (wr.drewN n) os).cell? ⟨K, 8, none⟩ = some (.int .u64 (t : Int)) := fun n os => Ext.cell (grow_ext (w := wr) (n := n) (os := os)) c2
        clear c1 c2 hL
        go_wp2_with fail
        refine wp_region_quiet_grown (by assumption) (by kernel_rfl) ?_
        repeat (first | go_big_quiet_step (first | (go_at_call 67; refine Calls.grown_of (HN.out _ _ _ (by omega) (by omega))) | (go_at_call 68; refine Calls.grown_of (HM.out _ _ _ (by omega) (by omega)))) | quiet_step (first | (go_at_call 67; refine Calls.grown_of (HN.out _ _ _ (by omega) (by omega))) | (go_at_call 68; refine Calls.grown_of (HM.out _ _ _ (by omega) (by omega)))))
        refine wpQuiet_nil ?_
        intro _ hw'
        obtain ⟨pp, hw''⟩ := hw'
        subst hw''
        have hx2 : Gr w (grow (wr.drewN pp.n) pp.os) := HXR.out.step grow_gr
        generalize grow (wr.drewN pp.n) pp.os = W2 at hx2 ⊢
        clear g0 g1 HN HM z1 z2
        go_wp2_with fail
        go_roundw
        case rel => exact ⟨4, by omega, rfl, by rw [HSU.out, ByteArray.append_assoc], hx2⟩
        case measure => simp [intOf]
      · clear hsu
        have c1 : wr.cell? ⟨K, 9, none⟩ = some (.int .i64 (pidv n 4 : Nat)) := hL.cell rfl
        have c2 : wr.cell? ⟨K, 10, none⟩ = some (.int .u64 (T 4)) := hL.cell rfl
        generalize pidv n 4 = p at *
        generalize T 4 = t at *
        have z1 : ¬ 9223372036854775807 < S.size + (numI (p : Int)).size := by rw [numI_size, hsz]; decide
        have z2 : ¬ 9223372036854775807 < (S ++ numI (p : Int)).size + (numI (t : Int)).size := by rw [ByteArray.size_append, numI_size, numI_size, hsz]; decide
        have HN := Lib.hid (numI_of num_q wr)
        have HM := Lib.hid (numJ_of wr)
        have g0 : ∀ n os, (grow (wr.drewN n) os).cell? ⟨K, 9, none⟩ = some (.int .i64 (p : Int)) := fun n os => Ext.cell (grow_ext (w := wr) (n := n) (os := os)) c1
        have g1 : ∀ n os, (grow (wr.drewN n) os).cell? ⟨K, 10, none⟩ = some (.int .u64 (t : Int)) := fun n os => Ext.cell (grow_ext (w := wr) (n := n) (os := os)) c2
        clear c1 c2 hL
        go_wp2_with fail
        refine wp_region_quiet_grown (by assumption) (by kernel_rfl) ?_
        repeat (first | go_big_quiet_step (first | (go_at_call 67; refine Calls.grown_of (HN.out _ _ _ (by omega) (by omega))) | (go_at_call 68; refine Calls.grown_of (HM.out _ _ _ (by omega) (by omega)))) | quiet_step (first | (go_at_call 67; refine Calls.grown_of (HN.out _ _ _ (by omega) (by omega))) | (go_at_call 68; refine Calls.grown_of (HM.out _ _ _ (by omega) (by omega)))))
        refine wpQuiet_nil ?_
        intro _ hw'
        obtain ⟨pp, hw''⟩ := hw'
        subst hw''
        have hx2 : Gr w (grow (wr.drewN pp.n) pp.os) := HXR.out.step grow_gr
        generalize grow (wr.drewN pp.n) pp.os = W2 at hx2 ⊢
        clear g0 g1 HN HM z1 z2
        go_wp2_with fail
        go_roundw
        case rel => exact ⟨5, by omega, rfl, by rw [HSU.out, ByteArray.append_assoc], hx2⟩
        case measure => simp [intOf]
      · clear hsu
        have c1 : wr.cell? ⟨K, 11, none⟩ = some (.int .i64 (pidv n 5 : Nat)) := hL.cell rfl
        have c2 : wr.cell? ⟨K, 12, none⟩ = some (.int .u64 (T 5)) := hL.cell rfl
        generalize pidv n 5 = p at *
        generalize T 5 = t at *
        have z1 : ¬ 9223372036854775807 < S.size + (numI (p : Int)).size := by rw [numI_size, hsz]; decide
        have z2 : ¬ 9223372036854775807 < (S ++ numI (p : Int)).size + (numI (t : Int)).size := by rw [ByteArray.size_append, numI_size, numI_size, hsz]; decide
        have HN := Lib.hid (numI_of num_q wr)
        have HM := Lib.hid (numJ_of wr)
        have g0 : ∀ n os, (grow (wr.drewN n) os).cell? ⟨K, 11, none⟩ = some (.int .i64 (p : Int)) := fun n os => Ext.cell (grow_ext (w := wr) (n := n) (os := os)) c1
        have g1 : ∀ n os, (grow (wr.drewN n) os).cell? ⟨K, 12, none⟩ = some (.int .u64 (t : Int)) := fun n os => Ext.cell (grow_ext (w := wr) (n := n) (os := os)) c2
        clear c1 c2 hL
        go_wp2_with fail
        refine wp_region_quiet_grown (by assumption) (by kernel_rfl) ?_
        repeat (first | go_big_quiet_step (first | (go_at_call 67; refine Calls.grown_of (HN.out _ _ _ (by omega) (by omega))) | (go_at_call 68; refine Calls.grown_of (HM.out _ _ _ (by omega) (by omega)))) | quiet_step (first | (go_at_call 67; refine Calls.grown_of (HN.out _ _ _ (by omega) (by omega))) | (go_at_call 68; refine Calls.grown_of (HM.out _ _ _ (by omega) (by omega)))))
        refine wpQuiet_nil ?_
        intro _ hw'
        obtain ⟨pp, hw''⟩ := hw'
        subst hw''
        have hx2 : Gr w (grow (wr.drewN pp.n) pp.os) := HXR.out.step grow_gr
        generalize grow (wr.drewN pp.n) pp.os = W2 at hx2 ⊢
        clear g0 g1 HN HM z1 z2
        go_wp2_with fail
        go_roundw
        case rel => exact ⟨6, by omega, rfl, by rw [HSU.out, ByteArray.append_assoc], hx2⟩
        case measure => simp [intOf]
      · clear hsu
        have c1 : wr.cell? ⟨K, 13, none⟩ = some (.int .i64 (pidv n 6 : Nat)) := hL.cell rfl
        have c2 : wr.cell? ⟨K, 14, none⟩ = some (.int .u64 (T 6)) := hL.cell rfl
        generalize pidv n 6 = p at *
        generalize T 6 = t at *
        have z1 : ¬ 9223372036854775807 < S.size + (numI (p : Int)).size := by rw [numI_size, hsz]; decide
        have z2 : ¬ 9223372036854775807 < (S ++ numI (p : Int)).size + (numI (t : Int)).size := by rw [ByteArray.size_append, numI_size, numI_size, hsz]; decide
        have HN := Lib.hid (numI_of num_q wr)
        have HM := Lib.hid (numJ_of wr)
        have g0 : ∀ n os, (grow (wr.drewN n) os).cell? ⟨K, 13, none⟩ = some (.int .i64 (p : Int)) := fun n os => Ext.cell (grow_ext (w := wr) (n := n) (os := os)) c1
        have g1 : ∀ n os, (grow (wr.drewN n) os).cell? ⟨K, 14, none⟩ = some (.int .u64 (t : Int)) := fun n os => Ext.cell (grow_ext (w := wr) (n := n) (os := os)) c2
        clear c1 c2 hL
        go_wp2_with fail
        refine wp_region_quiet_grown (by assumption) (by kernel_rfl) ?_
        repeat (first | go_big_quiet_step (first | (go_at_call 67; refine Calls.grown_of (HN.out _ _ _ (by omega) (by omega))) | (go_at_call 68; refine Calls.grown_of (HM.out _ _ _ (by omega) (by omega)))) | quiet_step (first | (go_at_call 67; refine Calls.grown_of (HN.out _ _ _ (by omega) (by omega))) | (go_at_call 68; refine Calls.grown_of (HM.out _ _ _ (by omega) (by omega)))))
        refine wpQuiet_nil ?_
        intro _ hw'
        obtain ⟨pp, hw''⟩ := hw'
        subst hw''
        have hx2 : Gr w (grow (wr.drewN pp.n) pp.os) := HXR.out.step grow_gr
        generalize grow (wr.drewN pp.n) pp.os = W2 at hx2 ⊢
        clear g0 g1 HN HM z1 z2
        go_wp2_with fail
        go_roundw
        case rel => exact ⟨7, by omega, rfl, by rw [HSU.out, ByteArray.append_assoc], hx2⟩
        case measure => simp [intOf]
      · clear hsu
        have c1 : wr.cell? ⟨K, 15, none⟩ = some (.int .i64 (pidv n 7 : Nat)) := hL.cell rfl
        have c2 : wr.cell? ⟨K, 16, none⟩ = some (.int .u64 (T 7)) := hL.cell rfl
        generalize pidv n 7 = p at *
        generalize T 7 = t at *
        have z1 : ¬ 9223372036854775807 < S.size + (numI (p : Int)).size := by rw [numI_size, hsz]; decide
        have z2 : ¬ 9223372036854775807 < (S ++ numI (p : Int)).size + (numI (t : Int)).size := by rw [ByteArray.size_append, numI_size, numI_size, hsz]; decide
        have HN := Lib.hid (numI_of num_q wr)
        have HM := Lib.hid (numJ_of wr)
        have g0 : ∀ n os, (grow (wr.drewN n) os).cell? ⟨K, 15, none⟩ = some (.int .i64 (p : Int)) := fun n os => Ext.cell (grow_ext (w := wr) (n := n) (os := os)) c1
        have g1 : ∀ n os, (grow (wr.drewN n) os).cell? ⟨K, 16, none⟩ = some (.int .u64 (t : Int)) := fun n os => Ext.cell (grow_ext (w := wr) (n := n) (os := os)) c2
        clear c1 c2 hL
        go_wp2_with fail
        refine wp_region_quiet_grown (by assumption) (by kernel_rfl) ?_
        repeat (first | go_big_quiet_step (first | (go_at_call 67; refine Calls.grown_of (HN.out _ _ _ (by omega) (by omega))) | (go_at_call 68; refine Calls.grown_of (HM.out _ _ _ (by omega) (by omega)))) | quiet_step (first | (go_at_call 67; refine Calls.grown_of (HN.out _ _ _ (by omega) (by omega))) | (go_at_call 68; refine Calls.grown_of (HM.out _ _ _ (by omega) (by omega)))))
        refine wpQuiet_nil ?_
        intro _ hw'
        obtain ⟨pp, hw''⟩ := hw'
        subst hw''
        have hx2 : Gr w (grow (wr.drewN pp.n) pp.os) := HXR.out.step grow_gr
        generalize grow (wr.drewN pp.n) pp.os = W2 at hx2 ⊢
        clear g0 g1 HN HM z1 z2
        go_wp2_with fail
        go_roundw
        case rel => exact ⟨8, by omega, rfl, by rw [HSU.out, ByteArray.append_assoc], hx2⟩
        case measure => simp [intOf]
    · obtain rfl : k = 8 := by omega
      go_wp2_with fail
      go_ret
      exact ⟨rfl, HXR.out⟩
end Go.Proofs.YtgjnadligocdkaaGreatDoor
