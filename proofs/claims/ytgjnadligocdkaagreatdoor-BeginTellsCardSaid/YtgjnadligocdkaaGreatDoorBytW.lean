/-
  The lock as bytes.
-/
import Derived.Test.YtgjnadligocdkaaGreatDoorLckW
import Derived.Test.YtgjnadligocdkaaGreatDoorMetD
import Derived.Test.YtgjnadligocdkaaGreatDoorArD
import Derived.Deep.QuietTactic
import Derived.BigQuiet
import Derived.Shelf.SlSortCmp.QuietGrown
set_option linter.unusedVariables false
set_option linter.unusedSimpArgs false
set_option maxRecDepth 100000
namespace Go.Proofs.YtgjnadligocdkaaGreatDoor
open Go.RowKit Go.Sort
def numT (n : Nat) : ByteArray := ⟨(n8 n).toArray⟩
theorem txt_num {n : Nat} {a b c d f g h i : Int} (hn : (n : Int) = a + 256 * b + 65536 * c + 16777216 * d + 4294967296 * f + 1099511627776 * g + 281474976710656 * h + 72057594037927936 * i) (hx : ∀ x ∈ [a, b, c, d, f, g, h, i], 0 ≤ x ∧ x < 256) : txt [a, b, c, d, f, g, h, i] = numT n := by
  have ha := hx a (by simp)
  have hb := hx b (by simp)
  have hc := hx c (by simp)
  have hd := hx d (by simp)
  have hf := hx f (by simp)
  have hg := hx g (by simp)
  have hh := hx h (by simp)
  have hi := hx i (by simp)
  refine Ev.bytes_ext ?_
  rw [txt_list]
  show _ = [UInt8.ofNat (n / 256 ^ 0 % 256), UInt8.ofNat (n / 256 ^ 1 % 256), UInt8.ofNat (n / 256 ^ 2 % 256), UInt8.ofNat (n / 256 ^ 3 % 256), UInt8.ofNat (n / 256 ^ 4 % 256), UInt8.ofNat (n / 256 ^ 5 % 256), UInt8.ofNat (n / 256 ^ 6 % 256), UInt8.ofNat (n / 256 ^ 7 % 256)]
  have e : ∀ (x : Int) (k : Nat), x.toNat = k → UInt8.ofNat x.toNat = UInt8.ofNat k := fun x k h => by rw [h]
  simp only [List.map_cons, List.map_nil]
  rw [e a (n / 256 ^ 0 % 256) (by omega), e b (n / 256 ^ 1 % 256) (by omega), e c (n / 256 ^ 2 % 256) (by omega), e d (n / 256 ^ 3 % 256) (by omega), e f (n / 256 ^ 4 % 256) (by omega), e g (n / 256 ^ 5 % 256) (by omega), e h (n / 256 ^ 6 % 256) (by omega), e i (n / 256 ^ 7 % 256) (by omega)]
theorem alloc_grow (w : World) (o : Obj) : w.alloc o = grow (w.drewN 0) #[o] := rfl
def NumG (g : Nat) : Prop := ∀ (n : Nat) (w : World), n < 18446744073709551616 → Calls Tryz.prog g #[.int .u64 (n : Int)] w fun e w' => e = .returned (.string (numT n)) ∧ ∃ q os', w' = grow (w.drewN q) os'
theorem num_p : NumG 66 := fun n w hn => (num_a n hn w).mono fun e w' ⟨a, b, c, d, f, g, h, i, W, h1, h2, h3, h4⟩ => ⟨by rw [h1, txt_num h3 h4], 0, #[W], h2.trans (alloc_grow w W)⟩
theorem num_q : NumG 67 := fun n w hn => (num_b n hn w).mono fun e w' ⟨a, b, c, d, f, g, h, i, W, h1, h2, h3, h4⟩ => ⟨by rw [h1, txt_num h3 h4], 0, #[W], h2.trans (alloc_grow w W)⟩
set_option maxHeartbeats 1000000 in
theorem num_i (n : Nat) (w : World) (hn : n < 9223372036854775808) : Calls Tryz.prog 68 #[.int .i64 (n : Int)] w fun e w' => e = .returned (.string (numT n)) ∧ ∃ q os', w' = grow (w.drewN q) os' := by
  have hw : IntKind.u64.wrap (n : Int) = (n : Int) := by
    show (n : Int) % 18446744073709551616 = _
    omega
  go_enter Tryz.func68, Tryz.ntmps68
  go_wp2_with fail
  refine (num_q n _ (by omega)).mono ?_
  rintro e w1 ⟨rfl, q, os, rfl⟩
  go_wp2_with fail
  go_ret
  exact ⟨rfl, q, os, rfl⟩
def numI (k : Int) : ByteArray := numT k.toNat
theorem numI_size (k : Int) : (numI k).size = 8 := rfl
def NumI (g : Nat) (w : World) : Prop := ∀ (k : Int) nq os, 0 ≤ k → k < 18446744073709551616 → Calls Tryz.prog g #[.int .u64 k] (grow (w.drewN nq) os) fun e w' => e = .returned (.string (numI k)) ∧ ∃ q os', w' = grow ((grow (w.drewN nq) os).drewN q) os'
theorem numI_of {g : Nat} (h : NumG g) (w : World) : NumI g w := fun k nq os h0 h1 => by
  have := h k.toNat (grow (w.drewN nq) os) (by omega)
  rw [Int.toNat_of_nonneg h0] at this
  exact this
def lkTx (W n : Nat) (T : Nat → Nat) : Nat → ByteArray
  | 0 => (numI 4242 ++ numI 1) ++ numI W
  | k + 1 => lkTx W n T k ++ (numI (pidv n k) ++ numI (T k))
theorem lkTx_size (W n : Nat) (T : Nat → Nat) : ∀ k, (lkTx W n T k).size = 24 + 16 * k
  | 0 => rfl
  | k + 1 => by
    unfold lkTx
    rw [ByteArray.size_append, ByteArray.size_append, lkTx_size W n T k, numI_size, numI_size]; omega
theorem grow_ext {w : World} {n : Nat} {os : Array Obj} : Ext w (grow (w.drewN n) os) := by
  refine ⟨rfl, rfl, rfl, ?_, fun k hk => ?_⟩
  · show w.heap.size ≤ (w.heap ++ os).size
    rw [Array.size_append]; omega
  · show (w.heap ++ os)[k]? = _
    rw [Array.getElem?_append_left hk]
theorem ix_0 (a0 a1 a2 a3 a4 a5 a6 a7 a8 a9 a10 a11 a12 a13 a14 a15 : Value) (w : World) : (Instr.index 36 (.agg #[a0, a1, a2, a3, a4, a5, a6, a7, a8, a9, a10, a11, a12, a13, a14, a15]) (.int .i64 0)).run Tryz.prog w = .ok (.agg #[a0, a1]) w := by kernel_rfl
theorem ix_1 (a0 a1 a2 a3 a4 a5 a6 a7 a8 a9 a10 a11 a12 a13 a14 a15 : Value) (w : World) : (Instr.index 36 (.agg #[a0, a1, a2, a3, a4, a5, a6, a7, a8, a9, a10, a11, a12, a13, a14, a15]) (.int .i64 1)).run Tryz.prog w = .ok (.agg #[a2, a3]) w := by kernel_rfl
theorem ix_2 (a0 a1 a2 a3 a4 a5 a6 a7 a8 a9 a10 a11 a12 a13 a14 a15 : Value) (w : World) : (Instr.index 36 (.agg #[a0, a1, a2, a3, a4, a5, a6, a7, a8, a9, a10, a11, a12, a13, a14, a15]) (.int .i64 2)).run Tryz.prog w = .ok (.agg #[a4, a5]) w := by kernel_rfl
theorem ix_3 (a0 a1 a2 a3 a4 a5 a6 a7 a8 a9 a10 a11 a12 a13 a14 a15 : Value) (w : World) : (Instr.index 36 (.agg #[a0, a1, a2, a3, a4, a5, a6, a7, a8, a9, a10, a11, a12, a13, a14, a15]) (.int .i64 3)).run Tryz.prog w = .ok (.agg #[a6, a7]) w := by kernel_rfl
theorem ix_4 (a0 a1 a2 a3 a4 a5 a6 a7 a8 a9 a10 a11 a12 a13 a14 a15 : Value) (w : World) : (Instr.index 36 (.agg #[a0, a1, a2, a3, a4, a5, a6, a7, a8, a9, a10, a11, a12, a13, a14, a15]) (.int .i64 4)).run Tryz.prog w = .ok (.agg #[a8, a9]) w := by kernel_rfl
theorem ix_5 (a0 a1 a2 a3 a4 a5 a6 a7 a8 a9 a10 a11 a12 a13 a14 a15 : Value) (w : World) : (Instr.index 36 (.agg #[a0, a1, a2, a3, a4, a5, a6, a7, a8, a9, a10, a11, a12, a13, a14, a15]) (.int .i64 5)).run Tryz.prog w = .ok (.agg #[a10, a11]) w := by kernel_rfl
theorem ix_6 (a0 a1 a2 a3 a4 a5 a6 a7 a8 a9 a10 a11 a12 a13 a14 a15 : Value) (w : World) : (Instr.index 36 (.agg #[a0, a1, a2, a3, a4, a5, a6, a7, a8, a9, a10, a11, a12, a13, a14, a15]) (.int .i64 6)).run Tryz.prog w = .ok (.agg #[a12, a13]) w := by kernel_rfl
theorem ix_7 (a0 a1 a2 a3 a4 a5 a6 a7 a8 a9 a10 a11 a12 a13 a14 a15 : Value) (w : World) : (Instr.index 36 (.agg #[a0, a1, a2, a3, a4, a5, a6, a7, a8, a9, a10, a11, a12, a13, a14, a15]) (.int .i64 7)).run Tryz.prog w = .ok (.agg #[a14, a15]) w := by kernel_rfl
def Gr (w w' : World) : Prop := ∃ q os, w' = grow (w.drewN q) os
theorem Gr.rfl' (w : World) : Gr w w := ⟨0, #[], by simp [World.drewN]⟩
theorem grow_gr {w : World} {n : Nat} {os : Array Obj} : Gr w (grow (w.drewN n) os) := ⟨n, os, rfl⟩
theorem Gr.step {a b c : World} (h : Gr a b) (k : Gr b c) : Gr a c := by
  obtain ⟨q, os, rfl⟩ := h
  obtain ⟨q', os', rfl⟩ := k
  refine ⟨q + q', os ++ os', ?_⟩
  simp only [grow, World.drewN, Array.append_assoc, Nat.add_assoc]
theorem Gr.alloc {a b : World} (h : Gr a b) (o : Obj) : Gr a (b.alloc o) := h.step ⟨0, #[o], by rw [alloc_eq_grow]; rfl⟩
theorem Gr.ext {w w' : World} (h : Gr w w') : Ext w w' := by
  obtain ⟨q, os, rfl⟩ := h
  exact grow_ext
set_option maxHeartbeats 4000000 in
theorem bytes_p {w : World} {K W n : Nat} {T : Nat → Nat} (h : LkAt w K W n T) (hW : W < 1000) (hT : ∀ i, T i < 18446744073709551616) : Calls Tryz.prog 34 #[.pointer (some ⟨K, 0, none⟩)] w fun e w' => e = .returned (.string (lkTx W n T 8)) ∧ Gr w w' := by
  have c0 : w.cell? ⟨K, 0, none⟩ = some (.int .i64 (W : Int)) := h.cell rfl
  have hw : IntKind.u64.wrap (W : Int) = (W : Int) := by
    show (W : Int) % 18446744073709551616 = _
    omega
  have z1 : ¬ 9223372036854775807 < (numI 4242).size + (numI 1).size := by rw [numI_size, numI_size]; decide
  have z2 : ¬ 9223372036854775807 < (numI 4242 ++ numI 1).size + (numI W).size := by rw [ByteArray.size_append, numI_size, numI_size, numI_size]; decide
  have hb0 : (0 : Int) ≤ (W : Int) := by omega
  have hb1 : (W : Int) < 18446744073709551616 := by omega
  have HN := Lib.hid (numI_of num_p w)
  have g0 : ∀ n os, (grow (w.drewN n) os).cell? ⟨K, 0, none⟩ = some (.int .i64 (W : Int)) := fun n os => Ext.cell (grow_ext (w := w) (n := n) (os := os)) c0
  go_enter Tryz.func34, Tryz.ntmps34
  go_wp2_with fail
  have mixed : Tryz.prog.follows .mixedOrders = true := by kernel_rfl
  refine wp_region_quiet_grown (by assumption) (by kernel_rfl) ?_
  repeat (first | go_big_quiet_step ((go_at_call 66; refine Calls.grown_of (HN.out _ _ _ (by omega) (by omega)))) | quiet_step ((go_at_call 66; refine Calls.grown_of (HN.out _ _ _ (by omega) (by omega)))))
  refine wpQuiet_nil ?_
  intro _ hw'
  obtain ⟨⟨nq, osq⟩, hw''⟩ := hw'
  subst hw''
  have hx0 : Gr w (grow (w.drewN nq) osq) := grow_gr
  have hs0 : (numI 4242 ++ numI 1) ++ numI (W : Int) = lkTx W n T 0 := rfl
  rw [hs0]
  generalize grow (w.drewN nq) osq = W0 at hx0 ⊢
  have hL : LkAt W0 K W n T := h.ext hx0.ext
  have c1 : W0.cell? ⟨K, 1, none⟩ = some (.int .i64 (pidv n 0 : Nat)) := hL.cell rfl
  have c2 : W0.cell? ⟨K, 2, none⟩ = some (.int .u64 (T 0)) := hL.cell rfl
  have c3 : W0.cell? ⟨K, 3, none⟩ = some (.int .i64 (pidv n 1 : Nat)) := hL.cell rfl
  have c4 : W0.cell? ⟨K, 4, none⟩ = some (.int .u64 (T 1)) := hL.cell rfl
  have c5 : W0.cell? ⟨K, 5, none⟩ = some (.int .i64 (pidv n 2 : Nat)) := hL.cell rfl
  have c6 : W0.cell? ⟨K, 6, none⟩ = some (.int .u64 (T 2)) := hL.cell rfl
  have c7 : W0.cell? ⟨K, 7, none⟩ = some (.int .i64 (pidv n 3 : Nat)) := hL.cell rfl
  have c8 : W0.cell? ⟨K, 8, none⟩ = some (.int .u64 (T 3)) := hL.cell rfl
  have c9 : W0.cell? ⟨K, 9, none⟩ = some (.int .i64 (pidv n 4 : Nat)) := hL.cell rfl
  have c10 : W0.cell? ⟨K, 10, none⟩ = some (.int .u64 (T 4)) := hL.cell rfl
  have c11 : W0.cell? ⟨K, 11, none⟩ = some (.int .i64 (pidv n 5 : Nat)) := hL.cell rfl
  have c12 : W0.cell? ⟨K, 12, none⟩ = some (.int .u64 (T 5)) := hL.cell rfl
  have c13 : W0.cell? ⟨K, 13, none⟩ = some (.int .i64 (pidv n 6 : Nat)) := hL.cell rfl
  have c14 : W0.cell? ⟨K, 14, none⟩ = some (.int .u64 (T 6)) := hL.cell rfl
  have c15 : W0.cell? ⟨K, 15, none⟩ = some (.int .i64 (pidv n 7 : Nat)) := hL.cell rfl
  have c16 : W0.cell? ⟨K, 16, none⟩ = some (.int .u64 (T 7)) := hL.cell rfl
  have HX := Lib.hid hx0
  clear hx0 hL hs0 HN c0 g0 z1 z2 hw h
  have HT := Lib.hid hT
  have hpv : ∀ i, pidv n i < 1000 := pidv_le n
  have HP := Lib.hid hpv
  clear hT hpv hb0 hb1 hW
  go_wp2_with fail
  go_loopw [3, 20] (fun s i wr => ∃ k : Nat, k ≤ 8 ∧ i = .int .i64 k ∧ s = .string (lkTx W n T k) ∧ Gr w wr) (fun _ i _ => 8 - (intOf i).toNat)
  case atStart => exact ⟨0, by omega, rfl, rfl, HX.out⟩
  case round =>
    obtain ⟨k, hk, rfl, rfl, hx⟩ := hrel
    have HXR := Lib.hid hx
    clear hx
    by_cases hlt : k < 8
    · have hsz := lkTx_size W n T k
      have hsu : lkTx W n T (k + 1) = lkTx W n T k ++ (numI (pidv n k : Nat) ++ numI (T k : Nat)) := rfl
      have HSU := Lib.hid hsu
      have hp1 := HP.out k
      have ht1 := HT.out k
      generalize lkTx W n T k = S at *
      have hcs : k = 0 ∨ k = 1 ∨ k = 2 ∨ k = 3 ∨ k = 4 ∨ k = 5 ∨ k = 6 ∨ k = 7 := by omega
      rcases hcs with rfl | rfl | rfl | rfl | rfl | rfl | rfl | rfl
      · clear hsu
        generalize pidv n 0 = p at *
        generalize T 0 = t at *
        have hw : IntKind.u64.wrap (p : Int) = (p : Int) := by
          show (p : Int) % 18446744073709551616 = _
          omega
        have z1 : ¬ 9223372036854775807 < (numI (p : Int)).size + (numI (t : Int)).size := by rw [numI_size, numI_size]; decide
        have z2 : ¬ 9223372036854775807 < S.size + (numI (p : Int) ++ numI (t : Int)).size := by rw [ByteArray.size_append, numI_size, numI_size, hsz]; decide
        go_wp2_with fail
        rw [ix_0]
        go_wp2_with fail
        have hA : (wr.alloc (Obj.cells #[.int .i64 (p : Int), .int .u64 (t : Int)] 35)).cell? ⟨wr.heap.size, 0, none⟩ = some (.int .i64 (p : Int)) := by simp
        have hB : (wr.alloc (Obj.cells #[.int .i64 (p : Int), .int .u64 (t : Int)] 35)).cell? ⟨wr.heap.size, 1, none⟩ = some (.int .u64 (t : Int)) := by simp
        have hX1 := Gr.alloc HXR.out (Obj.cells #[.int .i64 (p : Int), .int .u64 (t : Int)] 35)
        generalize wr.alloc (Obj.cells #[.int .i64 (p : Int), .int .u64 (t : Int)] 35) = W1 at hA hB hX1 ⊢
        have HN := Lib.hid (numI_of num_p W1)
        have g0 : ∀ n os, (grow (W1.drewN n) os).cell? ⟨wr.heap.size, 0, none⟩ = some (.int .i64 (p : Int)) := fun n os => Ext.cell (grow_ext (w := W1) (n := n) (os := os)) hA
        have g1 : ∀ n os, (grow (W1.drewN n) os).cell? ⟨wr.heap.size, 1, none⟩ = some (.int .u64 (t : Int)) := fun n os => Ext.cell (grow_ext (w := W1) (n := n) (os := os)) hB
        have HX1 := Lib.hid hX1
        clear hA hB hX1
        refine wp_region_quiet_grown (by assumption) (by kernel_rfl) ?_
        repeat (first | go_big_quiet_step ((go_at_call 66; refine Calls.grown_of (HN.out _ _ _ (by omega) (by omega)))) | quiet_step ((go_at_call 66; refine Calls.grown_of (HN.out _ _ _ (by omega) (by omega)))))
        refine wpQuiet_nil ?_
        intro _ hw'
        obtain ⟨pp, hw''⟩ := hw'
        subst hw''
        have hx2 : Gr w (grow (W1.drewN pp.n) pp.os) := HX1.out.step grow_gr
        generalize grow (W1.drewN pp.n) pp.os = W2 at hx2 ⊢
        clear g0 g1 HN HX1 z1 z2 hw
        go_wp2_with fail
        go_roundw
        case rel => exact ⟨1, by omega, rfl, by rw [HSU.out], hx2⟩
        case measure => simp [intOf]
      · clear hsu
        generalize pidv n 1 = p at *
        generalize T 1 = t at *
        have hw : IntKind.u64.wrap (p : Int) = (p : Int) := by
          show (p : Int) % 18446744073709551616 = _
          omega
        have z1 : ¬ 9223372036854775807 < (numI (p : Int)).size + (numI (t : Int)).size := by rw [numI_size, numI_size]; decide
        have z2 : ¬ 9223372036854775807 < S.size + (numI (p : Int) ++ numI (t : Int)).size := by rw [ByteArray.size_append, numI_size, numI_size, hsz]; decide
        go_wp2_with fail
        rw [ix_1]
        go_wp2_with fail
        have hA : (wr.alloc (Obj.cells #[.int .i64 (p : Int), .int .u64 (t : Int)] 35)).cell? ⟨wr.heap.size, 0, none⟩ = some (.int .i64 (p : Int)) := by simp
        have hB : (wr.alloc (Obj.cells #[.int .i64 (p : Int), .int .u64 (t : Int)] 35)).cell? ⟨wr.heap.size, 1, none⟩ = some (.int .u64 (t : Int)) := by simp
        have hX1 := Gr.alloc HXR.out (Obj.cells #[.int .i64 (p : Int), .int .u64 (t : Int)] 35)
        generalize wr.alloc (Obj.cells #[.int .i64 (p : Int), .int .u64 (t : Int)] 35) = W1 at hA hB hX1 ⊢
        have HN := Lib.hid (numI_of num_p W1)
        have g0 : ∀ n os, (grow (W1.drewN n) os).cell? ⟨wr.heap.size, 0, none⟩ = some (.int .i64 (p : Int)) := fun n os => Ext.cell (grow_ext (w := W1) (n := n) (os := os)) hA
        have g1 : ∀ n os, (grow (W1.drewN n) os).cell? ⟨wr.heap.size, 1, none⟩ = some (.int .u64 (t : Int)) := fun n os => Ext.cell (grow_ext (w := W1) (n := n) (os := os)) hB
        have HX1 := Lib.hid hX1
        clear hA hB hX1
        refine wp_region_quiet_grown (by assumption) (by kernel_rfl) ?_
        repeat (first | go_big_quiet_step ((go_at_call 66; refine Calls.grown_of (HN.out _ _ _ (by omega) (by omega)))) | quiet_step ((go_at_call 66; refine Calls.grown_of (HN.out _ _ _ (by omega) (by omega)))))
        refine wpQuiet_nil ?_
        intro _ hw'
        obtain ⟨pp, hw''⟩ := hw'
        subst hw''
        have hx2 : Gr w (grow (W1.drewN pp.n) pp.os) := HX1.out.step grow_gr
        generalize grow (W1.drewN pp.n) pp.os = W2 at hx2 ⊢
        clear g0 g1 HN HX1 z1 z2 hw
        go_wp2_with fail
        go_roundw
        case rel => exact ⟨2, by omega, rfl, by rw [HSU.out], hx2⟩
        case measure => simp [intOf]
      · clear hsu
        generalize pidv n 2 = p at *
        generalize T 2 = t at *
        have hw : IntKind.u64.wrap (p : Int) = (p : Int) := by
          show (p : Int) % 18446744073709551616 = _
          omega
        have z1 : ¬ 9223372036854775807 < (numI (p : Int)).size + (numI (t : Int)).size := by rw [numI_size, numI_size]; decide
        have z2 : ¬ 9223372036854775807 < S.size + (numI (p : Int) ++ numI (t : Int)).size := by rw [ByteArray.size_append, numI_size, numI_size, hsz]; decide
        go_wp2_with fail
        rw [ix_2]
        go_wp2_with fail
        have hA : (wr.alloc (Obj.cells #[.int .i64 (p : Int), .int .u64 (t : Int)] 35)).cell? ⟨wr.heap.size, 0, none⟩ = some (.int .i64 (p : Int)) := by simp
        have hB : (wr.alloc (Obj.cells #[.int .i64 (p : Int), .int .u64 (t : Int)] 35)).cell? ⟨wr.heap.size, 1, none⟩ = some (.int .u64 (t : Int)) := by simp
        have hX1 := Gr.alloc HXR.out (Obj.cells #[.int .i64 (p : Int), .int .u64 (t : Int)] 35)
        generalize wr.alloc (Obj.cells #[.int .i64 (p : Int), .int .u64 (t : Int)] 35) = W1 at hA hB hX1 ⊢
        have HN := Lib.hid (numI_of num_p W1)
        have g0 : ∀ n os, (grow (W1.drewN n) os).cell? ⟨wr.heap.size, 0, none⟩ = some (.int .i64 (p : Int)) := fun n os => Ext.cell (grow_ext (w := W1) (n := n) (os := os)) hA
        have g1 : ∀ n os, (grow (W1.drewN n) os).cell? ⟨wr.heap.size, 1, none⟩ = some (.int .u64 (t : Int)) := fun n os => Ext.cell (grow_ext (w := W1) (n := n) (os := os)) hB
        have HX1 := Lib.hid hX1
        clear hA hB hX1
        refine wp_region_quiet_grown (by assumption) (by kernel_rfl) ?_
        repeat (first | go_big_quiet_step ((go_at_call 66; refine Calls.grown_of (HN.out _ _ _ (by omega) (by omega)))) | quiet_step ((go_at_call 66; refine Calls.grown_of (HN.out _ _ _ (by omega) (by omega)))))
        refine wpQuiet_nil ?_
        intro _ hw'
        obtain ⟨pp, hw''⟩ := hw'
        subst hw''
        have hx2 : Gr w (grow (W1.drewN pp.n) pp.os) := HX1.out.step grow_gr
        generalize grow (W1.drewN pp.n) pp.os = W2 at hx2 ⊢
        clear g0 g1 HN HX1 z1 z2 hw
        go_wp2_with fail
        go_roundw
        case rel => exact ⟨3, by omega, rfl, by rw [HSU.out], hx2⟩
        case measure => simp [intOf]
      · clear hsu
        generalize pidv n 3 = p at *
        generalize T 3 = t at *
        have hw : IntKind.u64.wrap (p : Int) = (p : Int) := by
          show (p : Int) % 18446744073709551616 = _
          omega
        have z1 : ¬ 9223372036854775807 < (numI (p : Int)).size + (numI (t : Int)).size := by rw [numI_size, numI_size]; decide
        have z2 : ¬ 9223372036854775807 < S.size + (numI (p : Int) ++ numI (t : Int)).size := by rw [ByteArray.size_append, numI_size, numI_size, hsz]; decide
        go_wp2_with fail
        rw [ix_3]
        go_wp2_with fail
        have hA : (wr.alloc (Obj.cells #[.int .i64 (p : Int), .int .u64 (t : Int)] 35)).cell? ⟨wr.heap.size, 0, none⟩ = some (.int .i64 (p : Int)) := by simp
        have hB : (wr.alloc (Obj.cells #[.int .i64 (p : Int), .int .u64 (t : Int)] 35)).cell? ⟨wr.heap.size, 1, none⟩ = some (.int .u64 (t : Int)) := by simp
        have hX1 := Gr.alloc HXR.out (Obj.cells #[.int .i64 (p : Int), .int .u64 (t : Int)] 35)
        generalize wr.alloc (Obj.cells #[.int .i64 (p : Int), .int .u64 (t : Int)] 35) = W1 at hA hB hX1 ⊢
        have HN := Lib.hid (numI_of num_p W1)
        have g0 : ∀ n os, (grow (W1.drewN n) os).cell? ⟨wr.heap.size, 0, none⟩ = some (.int .i64 (p : Int)) := fun n os => Ext.cell (grow_ext (w := W1) (n := n) (os := os)) hA
        have g1 : ∀ n os, (grow (W1.drewN n) os).cell? ⟨wr.heap.size, 1, none⟩ = some (.int .u64 (t : Int)) := fun n os => Ext.cell (grow_ext (w := W1) (n := n) (os := os)) hB
        have HX1 := Lib.hid hX1
        clear hA hB hX1
        refine wp_region_quiet_grown (by assumption) (by kernel_rfl) ?_
        repeat (first | go_big_quiet_step ((go_at_call 66; refine Calls.grown_of (HN.out _ _ _ (by omega) (by omega)))) | quiet_step ((go_at_call 66; refine Calls.grown_of (HN.out _ _ _ (by omega) (by omega)))))
        refine wpQuiet_nil ?_
        intro _ hw'
        obtain ⟨pp, hw''⟩ := hw'
        subst hw''
        have hx2 : Gr w (grow (W1.drewN pp.n) pp.os) := HX1.out.step grow_gr
        generalize grow (W1.drewN pp.n) pp.os = W2 at hx2 ⊢
        clear g0 g1 HN HX1 z1 z2 hw
        go_wp2_with fail
        go_roundw
        case rel => exact ⟨4, by omega, rfl, by rw [HSU.out], hx2⟩
        case measure => simp [intOf]
      · clear hsu
        generalize pidv n 4 = p at *
        generalize T 4 = t at *
        have hw : IntKind.u64.wrap (p : Int) = (p : Int) := by
          show (p : Int) % 18446744073709551616 = _
          omega
        have z1 : ¬ 9223372036854775807 < (numI (p : Int)).size + (numI (t : Int)).size := by rw [numI_size, numI_size]; decide
        have z2 : ¬ 9223372036854775807 < S.size + (numI (p : Int) ++ numI (t : Int)).size := by rw [ByteArray.size_append, numI_size, numI_size, hsz]; decide
        go_wp2_with fail
        rw [ix_4]
        go_wp2_with fail
        have hA : (wr.alloc (Obj.cells #[.int .i64 (p : Int), .int .u64 (t : Int)] 35)).cell? ⟨wr.heap.size, 0, none⟩ = some (.int .i64 (p : Int)) := by simp
        have hB : (wr.alloc (Obj.cells #[.int .i64 (p : Int), .int .u64 (t : Int)] 35)).cell? ⟨wr.heap.size, 1, none⟩ = some (.int .u64 (t : Int)) := by simp
        have hX1 := Gr.alloc HXR.out (Obj.cells #[.int .i64 (p : Int), .int .u64 (t : Int)] 35)
        generalize wr.alloc (Obj.cells #[.int .i64 (p : Int), .int .u64 (t : Int)] 35) = W1 at hA hB hX1 ⊢
        have HN := Lib.hid (numI_of num_p W1)
        have g0 : ∀ n os, (grow (W1.drewN n) os).cell? ⟨wr.heap.size, 0, none⟩ = some (.int .i64 (p : Int)) := fun n os => Ext.cell (grow_ext (w := W1) (n := n) (os := os)) hA
        have g1 : ∀ n os, (grow (W1.drewN n) os).cell? ⟨wr.heap.size, 1, none⟩ = some (.int .u64 (t : Int)) := fun n os => Ext.cell (grow_ext (w := W1) (n := n) (os := os)) hB
        have HX1 := Lib.hid hX1
        clear hA hB hX1
        refine wp_region_quiet_grown (by assumption) (by kernel_rfl) ?_
        repeat (first | go_big_quiet_step ((go_at_call 66; refine Calls.grown_of (HN.out _ _ _ (by omega) (by omega)))) | quiet_step ((go_at_call 66; refine Calls.grown_of (HN.out _ _ _ (by omega) (by omega)))))
        refine wpQuiet_nil ?_
        intro _ hw'
        obtain ⟨pp, hw''⟩ := hw'
        subst hw''
        have hx2 : Gr w (grow (W1.drewN pp.n) pp.os) := HX1.out.step grow_gr
        generalize grow (W1.drewN pp.n) pp.os = W2 at hx2 ⊢
        clear g0 g1 HN HX1 z1 z2 hw
        go_wp2_with fail
        go_roundw
        case rel => exact ⟨5, by omega, rfl, by rw [HSU.out], hx2⟩
        case measure => simp [intOf]
      · clear hsu
        generalize pidv n 5 = p at *
        generalize T 5 = t at *
        have hw : IntKind.u64.wrap (p : Int) = (p : Int) := by
          show (p : Int) % 18446744073709551616 = _
          omega
        have z1 : ¬ 9223372036854775807 < (numI (p : Int)).size + (numI (t : Int)).size := by rw [numI_size, numI_size]; decide
        have z2 : ¬ 9223372036854775807 < S.size + (numI (p : Int) ++ numI (t : Int)).size := by rw [ByteArray.size_append, numI_size, numI_size, hsz]; decide
        go_wp2_with fail
        rw [ix_5]
        go_wp2_with fail
        have hA : (wr.alloc (Obj.cells #[.int .i64 (p : Int), .int .u64 (t : Int)] 35)).cell? ⟨wr.heap.size, 0, none⟩ = some (.int .i64 (p : Int)) := by simp
        have hB : (wr.alloc (Obj.cells #[.int .i64 (p : Int), .int .u64 (t : Int)] 35)).cell? ⟨wr.heap.size, 1, none⟩ = some (.int .u64 (t : Int)) := by simp
        have hX1 := Gr.alloc HXR.out (Obj.cells #[.int .i64 (p : Int), .int .u64 (t : Int)] 35)
        generalize wr.alloc (Obj.cells #[.int .i64 (p : Int), .int .u64 (t : Int)] 35) = W1 at hA hB hX1 ⊢
        have HN := Lib.hid (numI_of num_p W1)
        have g0 : ∀ n os, (grow (W1.drewN n) os).cell? ⟨wr.heap.size, 0, none⟩ = some (.int .i64 (p : Int)) := fun n os => Ext.cell (grow_ext (w := W1) (n := n) (os := os)) hA
        have g1 : ∀ n os, (grow (W1.drewN n) os).cell? ⟨wr.heap.size, 1, none⟩ = some (.int .u64 (t : Int)) := fun n os => Ext.cell (grow_ext (w := W1) (n := n) (os := os)) hB
        have HX1 := Lib.hid hX1
        clear hA hB hX1
        refine wp_region_quiet_grown (by assumption) (by kernel_rfl) ?_
        repeat (first | go_big_quiet_step ((go_at_call 66; refine Calls.grown_of (HN.out _ _ _ (by omega) (by omega)))) | quiet_step ((go_at_call 66; refine Calls.grown_of (HN.out _ _ _ (by omega) (by omega)))))
        refine wpQuiet_nil ?_
        intro _ hw'
        obtain ⟨pp, hw''⟩ := hw'
        subst hw''
        have hx2 : Gr w (grow (W1.drewN pp.n) pp.os) := HX1.out.step grow_gr
        generalize grow (W1.drewN pp.n) pp.os = W2 at hx2 ⊢
        clear g0 g1 HN HX1 z1 z2 hw
        go_wp2_with fail
        go_roundw
        case rel => exact ⟨6, by omega, rfl, by rw [HSU.out], hx2⟩
        case measure => simp [intOf]
      · clear hsu
        generalize pidv n 6 = p at *
        generalize T 6 = t at *
        have hw : IntKind.u64.wrap (p : Int) = (p : Int) := by
          show (p : Int) % 18446744073709551616 = _
          omega
        have z1 : ¬ 9223372036854775807 < (numI (p : Int)).size + (numI (t : Int)).size := by rw [numI_size, numI_size]; decide
        have z2 : ¬ 9223372036854775807 < S.size + (numI (p : Int) ++ numI (t : Int)).size := by rw [ByteArray.size_append, numI_size, numI_size, hsz]; decide
        go_wp2_with fail
        rw [ix_6]
        go_wp2_with fail
        have hA : (wr.alloc (Obj.cells #[.int .i64 (p : Int), .int .u64 (t : Int)] 35)).cell? ⟨wr.heap.size, 0, none⟩ = some (.int .i64 (p : Int)) := by simp
        have hB : (wr.alloc (Obj.cells #[.int .i64 (p : Int), .int .u64 (t : Int)] 35)).cell? ⟨wr.heap.size, 1, none⟩ = some (.int .u64 (t : Int)) := by simp
        have hX1 := Gr.alloc HXR.out (Obj.cells #[.int .i64 (p : Int), .int .u64 (t : Int)] 35)
        generalize wr.alloc (Obj.cells #[.int .i64 (p : Int), .int .u64 (t : Int)] 35) = W1 at hA hB hX1 ⊢
        have HN := Lib.hid (numI_of num_p W1)
        have g0 : ∀ n os, (grow (W1.drewN n) os).cell? ⟨wr.heap.size, 0, none⟩ = some (.int .i64 (p : Int)) := fun n os => Ext.cell (grow_ext (w := W1) (n := n) (os := os)) hA
        have g1 : ∀ n os, (grow (W1.drewN n) os).cell? ⟨wr.heap.size, 1, none⟩ = some (.int .u64 (t : Int)) := fun n os => Ext.cell (grow_ext (w := W1) (n := n) (os := os)) hB
        have HX1 := Lib.hid hX1
        clear hA hB hX1
        refine wp_region_quiet_grown (by assumption) (by kernel_rfl) ?_
        repeat (first | go_big_quiet_step ((go_at_call 66; refine Calls.grown_of (HN.out _ _ _ (by omega) (by omega)))) | quiet_step ((go_at_call 66; refine Calls.grown_of (HN.out _ _ _ (by omega) (by omega)))))
        refine wpQuiet_nil ?_
        intro _ hw'
        obtain ⟨pp, hw''⟩ := hw'
        subst hw''
        have hx2 : Gr w (grow (W1.drewN pp.n) pp.os) := HX1.out.step grow_gr
        generalize grow (W1.drewN pp.n) pp.os = W2 at hx2 ⊢
        clear g0 g1 HN HX1 z1 z2 hw
        go_wp2_with fail
        go_roundw
        case rel => exact ⟨7, by omega, rfl, by rw [HSU.out], hx2⟩
        case measure => simp [intOf]
      · clear hsu
        generalize pidv n 7 = p at *
        generalize T 7 = t at *
        have hw : IntKind.u64.wrap (p : Int) = (p : Int) := by
          show (p : Int) % 18446744073709551616 = _
          omega
        have z1 : ¬ 9223372036854775807 < (numI (p : Int)).size + (numI (t : Int)).size := by rw [numI_size, numI_size]; decide
        have z2 : ¬ 9223372036854775807 < S.size + (numI (p : Int) ++ numI (t : Int)).size := by rw [ByteArray.size_append, numI_size, numI_size, hsz]; decide
        go_wp2_with fail
        rw [ix_7]
        go_wp2_with fail
        have hA : (wr.alloc (Obj.cells #[.int .i64 (p : Int), .int .u64 (t : Int)] 35)).cell? ⟨wr.heap.size, 0, none⟩ = some (.int .i64 (p : Int)) := by simp
        have hB : (wr.alloc (Obj.cells #[.int .i64 (p : Int), .int .u64 (t : Int)] 35)).cell? ⟨wr.heap.size, 1, none⟩ = some (.int .u64 (t : Int)) := by simp
        have hX1 := Gr.alloc HXR.out (Obj.cells #[.int .i64 (p : Int), .int .u64 (t : Int)] 35)
        generalize wr.alloc (Obj.cells #[.int .i64 (p : Int), .int .u64 (t : Int)] 35) = W1 at hA hB hX1 ⊢
        have HN := Lib.hid (numI_of num_p W1)
        have g0 : ∀ n os, (grow (W1.drewN n) os).cell? ⟨wr.heap.size, 0, none⟩ = some (.int .i64 (p : Int)) := fun n os => Ext.cell (grow_ext (w := W1) (n := n) (os := os)) hA
        have g1 : ∀ n os, (grow (W1.drewN n) os).cell? ⟨wr.heap.size, 1, none⟩ = some (.int .u64 (t : Int)) := fun n os => Ext.cell (grow_ext (w := W1) (n := n) (os := os)) hB
        have HX1 := Lib.hid hX1
        clear hA hB hX1
        refine wp_region_quiet_grown (by assumption) (by kernel_rfl) ?_
        repeat (first | go_big_quiet_step ((go_at_call 66; refine Calls.grown_of (HN.out _ _ _ (by omega) (by omega)))) | quiet_step ((go_at_call 66; refine Calls.grown_of (HN.out _ _ _ (by omega) (by omega)))))
        refine wpQuiet_nil ?_
        intro _ hw'
        obtain ⟨pp, hw''⟩ := hw'
        subst hw''
        have hx2 : Gr w (grow (W1.drewN pp.n) pp.os) := HX1.out.step grow_gr
        generalize grow (W1.drewN pp.n) pp.os = W2 at hx2 ⊢
        clear g0 g1 HN HX1 z1 z2 hw
        go_wp2_with fail
        go_roundw
        case rel => exact ⟨8, by omega, rfl, by rw [HSU.out], hx2⟩
        case measure => simp [intOf]
    · obtain rfl : k = 8 := by omega
      go_wp2_with fail
      go_ret
      exact ⟨rfl, HXR.out⟩
end Go.Proofs.YtgjnadligocdkaaGreatDoor
