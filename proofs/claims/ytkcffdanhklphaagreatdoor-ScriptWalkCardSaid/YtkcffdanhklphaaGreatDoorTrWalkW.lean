/-
  ScriptWalk: a walk meets all keys in order, and ends.
-/
import Derived.Test.YtkcffdanhklphaaGreatDoorTrO
import Derived.Test.YtkcffdanhklphaaGreatDoorTrWalkR0
import Derived.Test.YtkcffdanhklphaaGreatDoorTrWalkR1
import Derived.Test.YtkcffdanhklphaaGreatDoorTrWalkR2
import Derived.Test.YtkcffdanhklphaaGreatDoorTrWalkR3
import Derived.Test.YtkcffdanhklphaaGreatDoorTrWalkR4
import Derived.Test.YtkcffdanhklphaaGreatDoorTrWalkR5
import Derived.Test.YtkcffdanhklphaaGreatDoorTrWalkR6
import Derived.Test.YtkcffdanhklphaaGreatDoorTrWalkR7
import Derived.Test.YtkcffdanhklphaaGreatDoorTrWalkR8
set_option linter.unusedVariables false
set_option linter.unusedSimpArgs false
set_option maxRecDepth 100000
namespace Go.Proofs.YtkcffdanhklphaaGreatDoor
open Go.RowKit
noncomputable section
theorem ok_n0 : Ev.okS ⟨[], L_n0, 556⟩ = true := by decide +kernel
theorem ok_n1 : Ev.okS ⟨[], L_n1, 796⟩ = true := by decide +kernel
theorem ok_n2 : Ev.okS ⟨[], L_n2, 1129⟩ = true := by decide +kernel
theorem ok_n3 : Ev.okS ⟨[], L_n3, 1487⟩ = true := by decide +kernel
theorem ok_n4 : Ev.okS ⟨[], L_n4, 1866⟩ = true := by decide +kernel
theorem ok_n5 : Ev.okS ⟨[], L_n5, 2347⟩ = true := by decide +kernel
theorem ok_n6 : Ev.okS ⟨[], L_n6, 2837⟩ = true := by decide +kernel
theorem ok_n7 : Ev.okS ⟨[], L_n7, 3352⟩ = true := by decide +kernel
theorem ok_n8 : Ev.okS ⟨[], L_n8, 3868⟩ = true := by decide +kernel
theorem ok_n9 : Ev.okS ⟨[], L_n9, 4458⟩ = true := by decide +kernel
theorem ok_n10 : Ev.okS ⟨[], L_n10, 5053⟩ = true := by decide +kernel
theorem ok_n11 : Ev.okS ⟨[], L_n11, 5588⟩ = true := by decide +kernel
theorem ok_n12 : Ev.okS ⟨[], L_n12, 6120⟩ = true := by decide +kernel
theorem ok_n13 : Ev.okS ⟨[], L_n13, 6645⟩ = true := by decide +kernel
theorem ok_n14 : Ev.okS ⟨[], L_n14, 7339⟩ = true := by decide +kernel
theorem ok_n15 : Ev.okS ⟨[], L_n15, 8068⟩ = true := by decide +kernel
theorem ok_n16 : Ev.okS ⟨[], L_n16, 8745⟩ = true := by decide +kernel
theorem ok_n17 : Ev.okS ⟨[], L_n17, 9407⟩ = true := by decide +kernel
theorem ok_n18 : Ev.okS ⟨[], L_n18, 10094⟩ = true := by decide +kernel
theorem ok_n19 : Ev.okS ⟨[], L_n19, 10902⟩ = true := by decide +kernel
theorem ok_e15_15 : Ev.okS ⟨[], L_e15_15, 13752⟩ = true := by decide +kernel
theorem ok_e16_16 : Ev.okS ⟨[], L_e16_16, 14893⟩ = true := by decide +kernel
theorem ok_e17_17 : Ev.okS ⟨[], L_e17_17, 16032⟩ = true := by decide +kernel
theorem ok_e18_18 : Ev.okS ⟨[], L_e18_18, 17213⟩ = true := by decide +kernel
theorem ok_e19_19 : Ev.okS ⟨[], L_e19_19, 18596⟩ = true := by decide +kernel
theorem ok_e9_10 : Ev.okS ⟨[], L_e9_10, 7903⟩ = true := by decide +kernel
theorem ok_e10_11 : Ev.okS ⟨[], L_e10_11, 8980⟩ = true := by decide +kernel
theorem ok_e11_12 : Ev.okS ⟨[], L_e11_12, 9909⟩ = true := by decide +kernel
theorem ok_e12_13 : Ev.okS ⟨[], L_e12_13, 10850⟩ = true := by decide +kernel
theorem ok_e13_14 : Ev.okS ⟨[], L_e13_14, 11797⟩ = true := by decide +kernel
theorem ok_e14_15 : Ev.okS ⟨[], L_e14_15, 13724⟩ = true := by decide +kernel
theorem ok_e15_16 : Ev.okS ⟨[], L_e15_16, 15068⟩ = true := by decide +kernel
theorem ok_e16_17 : Ev.okS ⟨[], L_e16_17, 16243⟩ = true := by decide +kernel
theorem ok_e17_18 : Ev.okS ⟨[], L_e17_18, 17416⟩ = true := by decide +kernel
theorem ok_e18_19 : Ev.okS ⟨[], L_e18_19, 18631⟩ = true := by decide +kernel
theorem ok_e19_20 : Ev.okS ⟨[], L_e19_20, 20184⟩ = true := by decide +kernel
theorem cells_one {P : Program} (W : World) (b : Nat) (v : Value) (h : W.cell? ⟨b, 0, none⟩ = some v) : (loadCells ⟨b, 0, none⟩ 1).run P W = .ok #[v] W :=
  run_loadCells_list W ⟨b, 0, none⟩ [v] (fun j u hj => by
    cases j with
    | zero => simp at hj; subst hj; exact h
    | succ j => simp at hj)
theorem conv_one (W : World) (b : Nat) (n : Nat) (hn : n < 256) (h : W.cell? ⟨b, 0, none⟩ = some (.int .u8 (n : Int))) : (convert 32 9 (.slice (some ⟨b, 0, none⟩) 1 1)).run Tryz.prog W = .ok (.string ⟨#[UInt8.ofNat n]⟩) W := by
  rw [run_convert_bytes_string W 32 9 5 (some ⟨b, 0, none⟩) 1 1 Tryz.underlying32 Tryz.underlying5 Tryz.underlying9, run_bytesToString W ⟨b, 0, none⟩ 1 1 [(n : Int)] (cells_one W b _ h)]
  rfl
theorem cell_new (w : World) (n : Int) (t : TypeId) : (w.alloc (.cells #[.int .u8 n] t)).cell? ⟨w.heap.size, 0, none⟩ = some (.int .u8 n) := by
  have e : (w.alloc (.cells #[.int .u8 n] t)).heap[w.heap.size]? = some (.cells #[.int .u8 n] t) := by
    show (w.heap.push _)[w.heap.size]? = _
    rw [Array.getElem?_push_size]
  unfold World.cell?
  rw [e]; rfl
theorem cell_keep {w w' : World} {B o : Nat} {v : Value} (s : Ev.Stays w w') (h : w.cell? ⟨B, o, none⟩ = some v) : w'.cell? ⟨B, o, none⟩ = some v := by
  rw [Ev.cell_same (s.2.2.2 _ (Ev.cell_lt h))]; exact h
theorem stays_alloc0 (w : World) (o : Go.Obj) : Ev.Stays w (w.alloc o).drew := Ev.stays_alloc w o
theorem cell_drew (w : World) (a : Addr) : w.drew.cell? a = w.cell? a := rfl
def wS : Nat → Ev.Tr
  | 0 => wP 7 0
  | 1 => wP 6 1
  | 2 => wP 5 2
  | 3 => wP 4 3
  | 4 => wP 3 4
  | 5 => wP 2 5
  | 6 => wP 1 6
  | 7 => wP 7 7
  | 8 => wP 6 8
  | 9 => wP 5 9
  | 10 => wP 4 10
  | 11 => wP 3 11
  | 12 => wP 2 12
  | 13 => wP 1 13
  | 14 => wP 5 14
  | 15 => wP 4 15
  | 16 => wP 3 16
  | 17 => wP 2 17
  | 18 => wP 1 18
  | 19 => wN 19
  | _ => .fin
theorem w_put {t j : Nat} {vs : Value} {w0 w : World} (ht : t < 19) (hj : (t * 7 + 3) % 20 = j) (h : At (wS t) vs w0 w) : Calls Tryz.prog 13 #[vs, .string (wL j), .string tx0] w fun e w' => e = .returned (.bool true) ∧ At (wS (t + 1)) vs w0 w' := by
  subst hj
  have hcs : t = 0 ∨ t = 1 ∨ t = 2 ∨ t = 3 ∨ t = 4 ∨ t = 5 ∨ t = 6 ∨ t = 7 ∨ t = 8 ∨ t = 9 ∨ t = 10 ∨ t = 11 ∨ t = 12 ∨ t = 13 ∨ t = 14 ∨ t = 15 ∨ t = 16 ∨ t = 17 ∨ t = 18 := by omega
  rcases hcs with rfl | rfl | rfl | rfl | rfl | rfl | rfl | rfl | rfl | rfl | rfl | rfl | rfl | rfl | rfl | rfl | rfl | rfl | rfl
  · exact (says_t (Ev.AtT.right h)).mono fun e w' h => ⟨h.1, h.2⟩
  · exact (says_t (Ev.AtT.right h)).mono fun e w' h => ⟨h.1, h.2⟩
  · exact (says_t (Ev.AtT.right h)).mono fun e w' h => ⟨h.1, h.2⟩
  · exact (says_t (Ev.AtT.right h)).mono fun e w' h => ⟨h.1, h.2⟩
  · exact (says_t (Ev.AtT.right h)).mono fun e w' h => ⟨h.1, h.2⟩
  · exact (says_t (Ev.AtT.right h)).mono fun e w' h => ⟨h.1, h.2⟩
  · exact (says_t (Ev.AtT.right h)).mono fun e w' h => ⟨h.1, Ev.AtT.next h.2 ok_n7 run_p7⟩
  · exact (says_t (Ev.AtT.right h)).mono fun e w' h => ⟨h.1, h.2⟩
  · exact (says_t (Ev.AtT.right h)).mono fun e w' h => ⟨h.1, h.2⟩
  · exact (says_t (Ev.AtT.right h)).mono fun e w' h => ⟨h.1, h.2⟩
  · exact (says_t (Ev.AtT.right h)).mono fun e w' h => ⟨h.1, h.2⟩
  · exact (says_t (Ev.AtT.right h)).mono fun e w' h => ⟨h.1, h.2⟩
  · exact (says_t (Ev.AtT.right h)).mono fun e w' h => ⟨h.1, h.2⟩
  · exact (says_t (Ev.AtT.right h)).mono fun e w' h => ⟨h.1, Ev.AtT.next h.2 ok_n14 run_p14⟩
  · exact (says_t (Ev.AtT.right h)).mono fun e w' h => ⟨h.1, h.2⟩
  · exact (says_t (Ev.AtT.right h)).mono fun e w' h => ⟨h.1, h.2⟩
  · exact (says_t (Ev.AtT.right h)).mono fun e w' h => ⟨h.1, h.2⟩
  · exact (says_t (Ev.AtT.right h)).mono fun e w' h => ⟨h.1, h.2⟩
  · exact (says_t (Ev.AtT.right h)).mono fun e w' h => ⟨h.1, h.2⟩
theorem w_end {t : Nat} {vs : Value} {w0 w : World} (ht : t < 20) (h : At (wS t) vs w0 w) : At (wE t 20 0 tx5) vs w0 w := by
  have hcs : t = 0 ∨ t = 1 ∨ t = 2 ∨ t = 3 ∨ t = 4 ∨ t = 5 ∨ t = 6 ∨ t = 7 ∨ t = 8 ∨ t = 9 ∨ t = 10 ∨ t = 11 ∨ t = 12 ∨ t = 13 ∨ t = 14 ∨ t = 15 ∨ t = 16 ∨ t = 17 ∨ t = 18 ∨ t = 19 := by omega
  rcases hcs with rfl | rfl | rfl | rfl | rfl | rfl | rfl | rfl | rfl | rfl | rfl | rfl | rfl | rfl | rfl | rfl | rfl | rfl | rfl | rfl
  · exact Ev.AtT.next (Ev.AtT.left h) ok_n0 run_e0
  · exact Ev.AtT.next (Ev.AtT.left h) ok_n1 run_e1
  · exact Ev.AtT.next (Ev.AtT.left h) ok_n2 run_e2
  · exact Ev.AtT.next (Ev.AtT.left h) ok_n3 run_e3
  · exact Ev.AtT.next (Ev.AtT.left h) ok_n4 run_e4
  · exact Ev.AtT.next (Ev.AtT.left h) ok_n5 run_e5
  · exact Ev.AtT.next (Ev.AtT.left h) ok_n6 run_e6
  · exact Ev.AtT.next (Ev.AtT.left h) ok_n7 run_e7
  · exact Ev.AtT.next (Ev.AtT.left h) ok_n8 run_e8
  · exact Ev.AtT.next (Ev.AtT.left h) ok_n9 run_e9
  · exact Ev.AtT.next (Ev.AtT.left h) ok_n10 run_e10
  · exact Ev.AtT.next (Ev.AtT.left h) ok_n11 run_e11
  · exact Ev.AtT.next (Ev.AtT.left h) ok_n12 run_e12
  · exact Ev.AtT.next (Ev.AtT.left h) ok_n13 run_e13
  · exact Ev.AtT.next (Ev.AtT.left h) ok_n14 run_e14
  · exact Ev.AtT.next (Ev.AtT.left h) ok_n15 run_e15
  · exact Ev.AtT.next (Ev.AtT.left h) ok_n16 run_e16
  · exact Ev.AtT.next (Ev.AtT.left h) ok_n17 run_e17
  · exact Ev.AtT.next (Ev.AtT.left h) ok_n18 run_e18
  · exact Ev.AtT.next h ok_n19 run_e19
theorem w_com {t : Nat} {vs : Value} {w0 w : World} (ht : t < 20) (h : At (wB t) vs w0 w) : At (wC t) vs w0 w := by
  have hcs : t = 0 ∨ t = 1 ∨ t = 2 ∨ t = 3 ∨ t = 4 ∨ t = 5 ∨ t = 6 ∨ t = 7 ∨ t = 8 ∨ t = 9 ∨ t = 10 ∨ t = 11 ∨ t = 12 ∨ t = 13 ∨ t = 14 ∨ t = 15 ∨ t = 16 ∨ t = 17 ∨ t = 18 ∨ t = 19 := by omega
  rcases hcs with rfl | rfl | rfl | rfl | rfl | rfl | rfl | rfl | rfl | rfl | rfl | rfl | rfl | rfl | rfl | rfl | rfl | rfl | rfl | rfl
  · exact h
  · exact h
  · exact h
  · exact h
  · exact h
  · exact h
  · exact h
  · exact h
  · exact h
  · exact h
  · exact h
  · exact h
  · exact h
  · exact h
  · exact h
  · exact Ev.AtT.next h ok_e15_15 run_b15
  · exact Ev.AtT.next h ok_e16_16 run_b16
  · exact Ev.AtT.next h ok_e17_17 run_b17
  · exact Ev.AtT.next h ok_e18_18 run_b18
  · exact Ev.AtT.next h ok_e19_19 run_b19
theorem w_good {t : Nat} {vs : Value} {w0 w : World} (ht : t < 20) (h : At (wGk t) vs w0 w) : At wG vs w0 w := by
  have hcs : t = 0 ∨ t = 1 ∨ t = 2 ∨ t = 3 ∨ t = 4 ∨ t = 5 ∨ t = 6 ∨ t = 7 ∨ t = 8 ∨ t = 9 ∨ t = 10 ∨ t = 11 ∨ t = 12 ∨ t = 13 ∨ t = 14 ∨ t = 15 ∨ t = 16 ∨ t = 17 ∨ t = 18 ∨ t = 19 := by omega
  rcases hcs with rfl | rfl | rfl | rfl | rfl | rfl | rfl | rfl | rfl | rfl | rfl | rfl | rfl | rfl | rfl | rfl | rfl | rfl | rfl | rfl
  · exact h
  · exact h
  · exact h
  · exact h
  · exact h
  · exact h
  · exact h
  · exact h
  · exact h
  · exact Ev.AtT.next h ok_e9_10 run_g9
  · exact Ev.AtT.next h ok_e10_11 run_g10
  · exact Ev.AtT.next h ok_e11_12 run_g11
  · exact Ev.AtT.next h ok_e12_13 run_g12
  · exact Ev.AtT.next h ok_e13_14 run_g13
  · exact Ev.AtT.next h ok_e14_15 run_g14
  · exact Ev.AtT.next h ok_e15_16 run_g15
  · exact Ev.AtT.next h ok_e16_17 run_g16
  · exact Ev.AtT.next h ok_e17_18 run_g17
  · exact Ev.AtT.next h ok_e18_19 run_g18
  · exact Ev.AtT.next h ok_e19_20 run_g19
theorem w_yes {k n j : Nat} {l : ByteArray} {vs : Value} {w0 w : World} (hh : wH k j = true) (h : At (wE k (n + 1) j l) vs w0 w) : At (.says l (wO j) (wE k n (j + 1) tx6)) vs w0 w := by
  unfold wE at h; rw [hh] at h; exact h
theorem w_no {k n j : Nat} {l : ByteArray} {vs : Value} {w0 w : World} (hh : wH k j = false) (h : At (wE k (n + 1) j l) vs w0 w) : At (wE k n (j + 1) l) vs w0 w := by
  rw [wE, hh] at h; exact h
theorem wH_step (i j : Nat) : wH (i + 1) j = (wH i j || Nat.beq ((i * 7 + 3) % 20) j) := by
  unfold wH; rw [List.range_succ, List.any_append]; simp

set_option maxHeartbeats 8000000 in
theorem walk_any (x : Int) (k : Nat) (hx : x.tmod 20 = (k : Int)) (hk : k < 20) (h0 : 0 ≤ x) (h1 : x < 256) (w : World) (hG : Ev.Grounded Ev.gG w) :
    Calls Tryz.prog 8 #[.int .u8 x] w fun e w' => e = .returned (.bool true) ∧ Ev.Stays w w' := by
  have HKN : Hid (Calls Tryz.prog 11 #[] w fun e w' => e = .returned (.bool true) ∧ Ev.Stays w w') := (Ev.known11 w (hG _ _ rfl)).mono fun e w' h => ⟨h.1, h.2⟩
  have HG := Lib.hid hG
  clear hG
  go_enter Tryz.func8, Tryz.ntmps8
  go_wp2_with fail
  refine HKN.out.mono ?_
  rintro e w1 ⟨rfl, hx1⟩
  have HX := Lib.hid hx1
  clear hx1 HKN
  go_wp2_with fail
  refine (new_t HG.out HX.out run_0).mono ?_
  rintro e w2 ⟨vs, rfl, h⟩
  have H : Hid (At wT vs w w2) := Lib.hid h
  clear h HX
  go_wp2_with fail
  iterate 3 (refine (says_t H.out).mono ?_; clear H; rintro e w3 ⟨rfl, h⟩; have H := Lib.hid h; clear h; go_wp2_with fail)
  go_loopw [5, 6] (fun q _ wr => ∃ t : Nat, t ≤ k ∧ q = .int .i64 t ∧ At (wS t) vs w wr) (fun q _ _ => k - (intOf q).toNat)
  case atStart => exact ⟨0, by omega, rfl, H.out⟩
  case round =>
    obtain ⟨t, ht, rfl, hat⟩ := hrel
    clear H
    have H := Lib.hid hat
    clear hat
    by_cases hlt : t < k
    · have b2 : (t : Int) < (k : Int) := by omega
      obtain ⟨j, hj⟩ : ∃ j, (t * 7 + 3) % 20 = j := ⟨_, rfl⟩
      have hj2 : j < 20 := by omega
      have hj3 : ((t : Int) * 7 + 3).tmod 20 = (j : Int) := by rw [Int.tmod_eq_emod_of_nonneg (by omega)]; omega
      have hj4 : ((t : Int) * 7 + 3) % 20 = (j : Int) := by omega
      have hw1 : IntKind.i64.wrap (97 + (j : Int)) = 97 + (j : Int) := by simp [IntKind.wrap, IntKind.bits, IntKind.signed, IntKind.min, IntKind.max]; omega
      have hw2 : IntKind.u8.wrap (97 + (j : Int)) = 97 + (j : Int) := by simp [IntKind.wrap, IntKind.bits, IntKind.signed, IntKind.min, IntKind.max]; omega
      have hcv := fun W h => conv_one W wr.heap.size (97 + j) (by omega) h
      have e97 : ((97 + j : Nat) : Int) = 97 + (j : Int) := by omega
      rw [e97] at hcv
      have HCN : Hid ((wr.alloc (.cells #[.int .u8 (97 + (j : Int))] 5)).drew.cell? ⟨wr.heap.size, 0, none⟩ = some (.int .u8 (97 + (j : Int)))) := Lib.hid (by rw [cell_drew]; exact cell_new _ _ _)
      have HCV := Lib.hid hcv
      have hc0 := hcv (wr.alloc (.cells #[.int .u8 (97 + (j : Int))] 5)).drew HCN.out
      clear hcv
      have HS0 := Lib.hid (stays_alloc0 wr (.cells #[.int .u8 (97 + (j : Int))] 5))
      have HNUM : Hid (∀ W', Ev.Stays wr W' → Calls Tryz.prog 14 #[.int .i64 (j : Int)] W' fun e w' => e = .returned (.string (numB j)) ∧ Ev.Stays W' w') := fun W' hs => num_any (n := j) HG.out (H.out.stays hs).kept (by omega)
      have HSAY : Hid (∀ W', Ev.Stays wr W' → Calls Tryz.prog 13 #[vs, .string (wL j), .string tx0] W' fun e w' => e = .returned (.bool true) ∧ At (wS (t + 1)) vs w w') := fun W' hs => w_put (by omega) hj (H.out.stays hs)
      unfold wL at HSAY
      have hz1 : ¬ 9223372036854775807 < 10 + (numB j).size := by have := num_size j; omega
      have hz2 : ¬ 9223372036854775807 < 11 + (numB j).size := by have := num_size j; omega
      have hz3 : ¬ 9223372036854775807 < 11 + (numB j).size + 2 := by have := num_size j; omega
      have hz4 : ¬ 9223372036854775807 < 10 + (numB j).size + 2 := by have := num_size j; omega
      have HSD : Hid (Ev.Stays wr wr.drew) := Lib.hid ⟨Nat.le_refl _, rfl, rfl, fun _ _ => rfl⟩
      have HCW : Hid (∀ (W : World), (convert 32 9 (.slice (some ⟨W.heap.size, 0, none⟩) 1 1)).run Tryz.prog (W.alloc (.cells #[.int .u8 (97 + (j : Int))] 5)) = .ok (.string ⟨#[UInt8.ofNat (97 + j)]⟩) (W.alloc (.cells #[.int .u8 (97 + (j : Int))] 5))) := fun W => conv_one _ _ (97 + j) (by omega) (by rw [e97]; exact cell_new _ _ _)
      clear H
      go_wp2_with fail
      go_region_with (first
        | (go_at_call 14; refine (HNUM.out _ ?_).mono ?_
           · exact HS0.out
           rintro e w4 ⟨rfl, h4⟩
           have HS4 := Lib.hid (HS0.out.trans h4)
           have hc4 := HCV.out w4 (cell_keep h4 HCN.out)
           clear h4)
        | (go_at_call 14; refine (HNUM.out _ ?_).mono ?_
           · exact HSD.out
           rintro e w4 ⟨rfl, h4⟩
           have HS4 := Lib.hid ((HSD.out.trans h4).trans (Ev.stays_alloc w4 (.cells #[.int .u8 (97 + (j : Int))] 5)))
           have hc4 := HCW.out w4
           clear h4)
        | (go_at_call 13; refine (HSAY.out _ ?_).mono ?_
           · exact HS4.out
           rintro e w5 ⟨rfl, h5⟩
           have H := Lib.hid h5
           clear h5))
      all_goals go_wp2_with fail
      all_goals go_roundw
      all_goals first | exact ⟨t + 1, by omega, by go_num, H.out⟩ | (simp [intOf]; omega)
    · obtain rfl : t = k := by omega
      have H := Lib.hid (w_end (by omega) H.out)
      go_wp2_with fail
      go_loopw [7, 8, 9, 10] (fun l q _ _ wr => ∃ (j : Nat) (lb : ByteArray), j ≤ 20 ∧ q = .int .i64 j ∧ l = .string lb ∧ At (wE t (20 - j) j lb) vs w wr) (fun _ q _ _ _ => 20 - (intOf q).toNat)
      case atStart => exact ⟨0, tx5, by omega, rfl, rfl, H.out⟩
      case round =>
        obtain ⟨j, lb, hj, rfl, rfl, hat⟩ := hrel
        clear H
        have HAT := Lib.hid hat
        clear hat
        by_cases hlj : j < 20
        · have b3 : (j : Int) < 20 := by omega
          go_wp2_with fail
          go_loopw [9, 10] (fun h i w' => ∃ a : Nat, a ≤ t ∧ i = .int .i64 a ∧ h = .bool (wH a j) ∧ At (wE t (20 - j) j lb) vs w w') (fun _ i _ => t - (intOf i).toNat)
          case atStart => exact ⟨0, by omega, rfl, rfl, HAT.out⟩
          case round =>
            obtain ⟨a, ha, rfl, rfl, hat⟩ := hrel
            clear HAT
            have HAT := Lib.hid hat
            clear hat
            by_cases hla : a < t
            · have b4 : (a : Int) < (t : Int) := by omega
              obtain ⟨c, hc⟩ : ∃ c, (a * 7 + 3) % 20 = c := ⟨_, rfl⟩
              have hc3 : ((a : Int) * 7 + 3).tmod 20 = (c : Int) := by rw [Int.tmod_eq_emod_of_nonneg (by omega)]; omega
              have hst := wH_step a j
              rw [hc] at hst
              have HST := Lib.hid hst
              clear hst
              cases hw : wH a j with
              | true =>
                go_wp2_with fail
                go_roundw
                case rel => exact ⟨a + 1, by omega, by go_num, by rw [HST.out, hw]; rfl, HAT.out⟩
                case measure => simp [intOf]; omega
              | false =>
                by_cases hcj : c = j
                · have hb : ((c : Int) == (j : Int)) = true := by simp [hcj]
                  have hb2 : Nat.beq c j = true := by rw [hcj]; exact Nat.beq_refl j
                  go_wp2_with fail
                  go_roundw
                  case rel => exact ⟨a + 1, by omega, by go_num, by rw [HST.out, hw, hb2]; rfl, HAT.out⟩
                  case measure => simp [intOf]; omega
                · have hb : ((c : Int) == (j : Int)) = false := by simp; omega
                  have hb2 : Nat.beq c j = false := by
                    cases hq : Nat.beq c j with
                    | false => rfl
                    | true => exact absurd (Nat.eq_of_beq_eq_true hq) hcj
                  go_wp2_with fail
                  go_roundw
                  case rel => exact ⟨a + 1, by omega, by go_num, by rw [HST.out, hw, hb2]; rfl, HAT.out⟩
                  case measure => simp [intOf]; omega
            · obtain rfl : a = t := by omega
              have e20 : 20 - j = (19 - j) + 1 := by omega
              have e19 : 20 - (j + 1) = 19 - j := by omega
              cases hw : wH a j with
              | false =>
                have H := Lib.hid (w_no hw (by have h := HAT.out; rw [e20] at h; exact h))
                clear HAT
                go_wp2_with fail
                go_roundw
                case rel => exact ⟨j + 1, lb, by omega, by go_num, rfl, by rw [e19]; exact H.out⟩
                case measure => simp [intOf]; omega
              | true =>
                have H := Lib.hid (w_yes hw (by have h := HAT.out; rw [e20] at h; exact h))
                clear HAT
                have hj2 : j < 20 := hlj
                have hw1 : IntKind.i64.wrap (97 + (j : Int)) = 97 + (j : Int) := by simp [IntKind.wrap, IntKind.bits, IntKind.signed, IntKind.min, IntKind.max]; omega
                have hw2 : IntKind.u8.wrap (97 + (j : Int)) = 97 + (j : Int) := by simp [IntKind.wrap, IntKind.bits, IntKind.signed, IntKind.min, IntKind.max]; omega
                have hcv := fun W h => conv_one W wr.heap.size (97 + j) (by omega) h
                have e97 : ((97 + j : Nat) : Int) = 97 + (j : Int) := by omega
                rw [e97] at hcv
                have HCN : Hid ((wr.alloc (.cells #[.int .u8 (97 + (j : Int))] 5)).drew.cell? ⟨wr.heap.size, 0, none⟩ = some (.int .u8 (97 + (j : Int)))) := Lib.hid (by rw [cell_drew]; exact cell_new _ _ _)
                have HCV := Lib.hid hcv
                have hc0 := hcv (wr.alloc (.cells #[.int .u8 (97 + (j : Int))] 5)).drew HCN.out
                clear hcv
                have HS0 := Lib.hid (stays_alloc0 wr (.cells #[.int .u8 (97 + (j : Int))] 5))
                have HNUM : Hid (∀ W', Ev.Stays wr W' → Calls Tryz.prog 14 #[.int .i64 (j : Int)] W' fun e w' => e = .returned (.string (numB j)) ∧ Ev.Stays W' w') := fun W' hs => num_any (n := j) HG.out (H.out.stays hs).kept (by omega)
                have HSAY : Hid (∀ W', Ev.Stays wr W' → Calls Tryz.prog 13 #[vs, .string lb, .string (wO j)] W' fun e w' => e = .returned (.bool true) ∧ At (wE a (19 - j) (j + 1) tx6) vs w w') := fun W' hs => says_t (H.out.stays hs)
                unfold wO at HSAY
                have hz1 : ¬ 9223372036854775807 < 6 + (numB j).size := by have := num_size j; omega
                have hz2 : ¬ 9223372036854775807 < 5 + (numB j).size := by have := num_size j; omega
                have HSD : Hid (Ev.Stays wr wr.drew) := Lib.hid ⟨Nat.le_refl _, rfl, rfl, fun _ _ => rfl⟩
                have HCW : Hid (∀ (W : World), (convert 32 9 (.slice (some ⟨W.heap.size, 0, none⟩) 1 1)).run Tryz.prog (W.alloc (.cells #[.int .u8 (97 + (j : Int))] 5)) = .ok (.string ⟨#[UInt8.ofNat (97 + j)]⟩) (W.alloc (.cells #[.int .u8 (97 + (j : Int))] 5))) := fun W => conv_one _ _ (97 + j) (by omega) (by rw [e97]; exact cell_new _ _ _)
                clear H
                go_wp2_with fail
                go_region_with (first
                  | (go_at_call 14; refine (HNUM.out _ ?_).mono ?_
                     · exact HS0.out
                     rintro e w4 ⟨rfl, h4⟩
                     have HS4 := Lib.hid (HS0.out.trans h4)
                     have hc4 := HCV.out w4 (cell_keep h4 HCN.out)
                     clear h4)
                  | (go_at_call 14; refine (HNUM.out _ ?_).mono ?_
                     · exact HSD.out
                     rintro e w4 ⟨rfl, h4⟩
                     have HS4 := Lib.hid ((HSD.out.trans h4).trans (Ev.stays_alloc w4 (.cells #[.int .u8 (97 + (j : Int))] 5)))
                     have hc4 := HCW.out w4
                     clear h4)
                  | (go_at_call 13; refine (HSAY.out _ ?_).mono ?_
                     · exact HS4.out
                     rintro e w5 ⟨rfl, h5⟩
                     have H := Lib.hid h5
                     clear h5))
                all_goals go_wp2_with fail
                all_goals go_roundw
                all_goals first | exact ⟨j + 1, tx6, by omega, by go_num, rfl, by rw [e19]; exact H.out⟩ | (simp [intOf]; omega)
        · obtain rfl : j = 20 := by omega
          have H : Hid (At (.says lb tx7 (wB t)) vs w wr) := Lib.hid HAT.out
          clear HAT
          go_wp2_with fail
          refine (says_t H.out).mono ?_; clear H; rintro e w3 ⟨rfl, h⟩; have H := Lib.hid h; clear h; go_wp2_with fail
          replace H := Lib.hid (w_com (by omega) H.out)
          refine (says_t H.out).mono ?_; clear H; rintro e w3 ⟨rfl, h⟩; have H := Lib.hid h; clear h; go_wp2_with fail
          replace H := Lib.hid (w_good (by omega) H.out)
          refine (says_t H.out).mono ?_; clear H; rintro e w3 ⟨rfl, h⟩; have H := Lib.hid h; clear h; go_wp2_with fail
          go_ret
          exact ⟨rfl, H.out.kept⟩
end
end Go.Proofs.YtkcffdanhklphaaGreatDoor
