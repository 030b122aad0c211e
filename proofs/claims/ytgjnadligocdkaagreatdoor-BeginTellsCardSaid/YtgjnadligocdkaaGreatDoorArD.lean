/-
  (*Store).Dirty: the map's keys, sorted. pack.Num, copyholdref1.Num: a number as eight bytes, the least first. pack.Sum, copyholdref1.Sum: a text's sum. slices.Index at []int: the first place of a number in a row, or -1. page.num: an int as eight bytes. pack.Cut: eight bytes taken as a number.
-/
import Derived.Test.YtgjnadligocdkaaGreatDoorShelfD
import Derived.Shelf.AbstractIn
import Derived.Test.YtgjnadligocdkaaGreatDoorChecked
import Derived.WalkKit
import Derived.WalkSmall
import Derived.WalkSpells
import Derived.WalkLawsBesides
import Derived.Below
import Derived.Deep.LoopGhost
import Derived.Lib.Hide
import Derived.RegionTactic
import Derived.OwnWalk
import Derived.Laws.BytesString
import Derived.Laws.Cells
import Derived.Laws.BitsAllLaws
set_option linter.unusedVariables false
set_option linter.unusedSimpArgs false
namespace Go.Proofs
open Go.RowKit Go.Maps Go.Sort Go.Shelf
theorem Tryz.sortsA (m : Nat) : AnyZI.SortsIn Tryz.prog Tryz.sortedA_ren Fence.wide m :=
  ⟨fun blk off cap ss W hH hblk hsz => callsIn_wide.2 (AnyM.slices_Sort_int Tryz.sortA blk off cap ss W hH hblk hsz),
   fun p cap W => callsIn_wide.2 (AnyM.slices_Sort_int_none Tryz.sortA p cap W)⟩
set_option maxHeartbeats 1000000 in
theorem Tryz.Dirty {H : Type} (B o b nn : Nat) (D0 : DataW H) (R : Value → Option (DataW H × List MemPlace)) (w : World) (hown : w.ownsMap Tryz.prog 3 R b nn D0) (hmax : Maps.size D0 ≤ maxLen) (hbytes : Maps.size D0 * 8 ≤ 140737488355328)
    (hc : w.cell? ⟨B, o + 1, none⟩ = some (.map (some b))) :
    Calls Tryz.prog 180 #[.pointer (some ⟨B, o, none⟩)] w fun e w' => ∃ (v : Value) (ss : List Int), e = .returned v ∧ ss.Perm (intKeys D0) ∧
      w'.ownsRow w.heap.size 3 1 v ss.length ((ss.mergeSort (fun x y => decide (x ≤ y))).map encZ) ∧ (v = .slice none 0 0 ↔ ss = []) ∧ Below w.heap.size w w' := by
  refine (callsIn_wide (n := 6)).1 ?_
  have hbl := hown.lt
  have hseq : SeqGives Fence.wide 2 Tryz.prog 268 #[.pointer (some ⟨w.heap.size, 0, none⟩)] encZ (fun ss => ss.Perm (intKeys D0)) (Maps.size D0) (w.alloc (.cells #[.map (some b)] 153)) :=
    AnyZI.keys_gives (ρ := Tryz.keysA_ren) { Tryz.keysA with } Fence.wide _ trivial rfl (by omega) w.heap.size b nn D0 _ (by simp) (by simp) (by
      obtain ⟨es, clock, hb, Ft, hs, hD⟩ := hown
      exact ⟨es, clock, (Below.heap_alloc _ _ b hbl).trans hb, Ft, hs, hD⟩)
  have cK : ∀ mb W, CallsIn Fence.wide 5 Tryz.prog 231 #[.map mb] W fun e w' => e = .returned (.func (.func 268) #[] #[.pointer (some ⟨W.heap.size, 0, none⟩)]) ∧ w' = W.alloc (.cells #[.map mb] 153) := fun mb W => AnyZI.keys_in Tryz.keysA Fence.wide 5 trivial rfl mb W
  have cS := AnyZI.sorted_in Tryz.sortedA Fence.wide 5 trivial trivial trivial trivial rfl (by omega) (Tryz.sortsA _) (enters_of Tryz.func210 (by kernel_rfl) rfl) 268 #[.pointer (some ⟨w.heap.size, 0, none⟩)] trivial (enters_of Tryz.func268 (by kernel_rfl) rfl) _ _ hmax hbytes _ hseq
  change CallsIn _ _ Tryz.prog 230 _ _ _ at cS
  have hfK : Fence.wide.fn 231 := trivial
  have hfS : Fence.wide.fn 230 := trivial
  refine callsIn_of_wp Tryz.func180 rfl trivial ?_ rfl
  simp only [Tryz.ntmps180, List.size_toArray, List.length_cons, List.length_nil, Nat.reduceAdd, Nat.reduceSub, Array.replicate_succ, Array.replicate_zero, List.push_toArray, List.append_toArray, List.nil_append, List.cons_append]
  gi_wp2_with (first
    | (gi_at_call 231; refine (cK _ _).mono ?_; rintro e w' ⟨rfl, rfl⟩)
    | (gi_at_call 230; refine cS.mono ?_; rintro e w' ⟨v, ss, rfl, hS, hrow, hnil, hb⟩))
  go_ret
  exact ⟨v, ss, rfl, hS, ownsRow_base_a hrow (by simp), hnil, ((Below.refl _ w).alloc (Nat.le_refl _) _).trans (hb.mono (by simp))⟩
end Go.Proofs
set_option linter.unusedVariables false
set_option linter.unusedSimpArgs false
namespace Go.Proofs.YtgjnadligocdkaaGreatDoor
open Go.RowKit
theorem mk8 (w : World) : (Instr.makeSlice 195 (Value.int IntKind.i64 8) (Value.int IntKind.i64 8)).run Tryz.prog w = .ok (.slice (some ⟨w.heap.size, 0, none⟩) 8 8) (w.alloc (.cells #[.int .u8 0, .int .u8 0, .int .u8 0, .int .u8 0, .int .u8 0, .int .u8 0, .int .u8 0, .int .u8 0] 5)) := by kernel_rfl
def txt (ns : List Int) : ByteArray := ns.foldl (fun r n => r.push (UInt8.ofNat n.toNat)) ByteArray.empty
theorem txt_list (ns : List Int) : (txt ns).data.toList = ns.map fun n => UInt8.ofNat n.toNat := by
  have : ∀ (ns : List Int) (r : ByteArray), (ns.foldl (fun r n => r.push (UInt8.ofNat n.toNat)) r).data.toList = r.data.toList ++ ns.map fun n => UInt8.ofNat n.toNat := by
    intro ns
    induction ns with
    | nil => intro r; simp
    | cons n ns ih => intro r; rw [List.foldl_cons, ih]; simp
  have h := this ns ByteArray.empty
  unfold txt; rw [h]; simp
theorem cv8 (w : World) (a b c d e f g h : Int) : (convert 195 9 (.slice (some ⟨w.heap.size, 0, none⟩) 8 8)).run Tryz.prog (w.alloc (.cells #[.int .u8 a, .int .u8 b, .int .u8 c, .int .u8 d, .int .u8 e, .int .u8 f, .int .u8 g, .int .u8 h] 5)) =
    .ok (.string (txt [a, b, c, d, e, f, g, h])) (w.alloc (.cells #[.int .u8 a, .int .u8 b, .int .u8 c, .int .u8 d, .int .u8 e, .int .u8 f, .int .u8 g, .int .u8 h] 5)) := by
  rw [run_convert_bytes_string _ 195 9 5 _ 8 8 Tryz.underlying195 Tryz.underlying5 Tryz.underlying9]
  refine run_bytesToString _ _ 8 8 [a, b, c, d, e, f, g, h] ?_
  refine run_loadCells_list _ _ ([Value.int .u8 a, Value.int .u8 b, Value.int .u8 c, Value.int .u8 d, Value.int .u8 e, Value.int .u8 f, Value.int .u8 g, Value.int .u8 h] : List Value) fun j v hj => ?_
  rcases j with _ | _ | _ | _ | _ | _ | _ | _ | j <;> simp at hj <;> subst hj <;> simp [Addr.add]
set_option maxHeartbeats 4000000 in
set_option maxRecDepth 100000 in
theorem num_a (n : Nat) (hn : n < 18446744073709551616) (w : World) :
    Calls Tryz.prog 66 #[.int .u64 n] w fun e w' => ∃ (a b c d f g h i : Int) (W : Obj), e = .returned (.string (txt [a, b, c, d, f, g, h, i])) ∧ w' = w.alloc W ∧ n = a + 256 * b + 65536 * c + 16777216 * d + 4294967296 * f + 1099511627776 * g + 281474976710656 * h + 72057594037927936 * i ∧ ∀ x ∈ [a, b, c, d, f, g, h, i], 0 ≤ x ∧ x < 256 := by
  have mk := mk8
  have cv := cv8 w
  go_enter Tryz.func66, Tryz.ntmps66
  go_wp2
  refine wp_loop_rounds 9 ?_
  iterate 9 (rw [rounds_succ]; go_wp2)
  go_ret
  refine ⟨_, _, _, _, _, _, _, _, _, rfl, rfl, ?_, ?_⟩
  · omega
  · intro x hx
    simp only [List.mem_cons, List.not_mem_nil, or_false] at hx
    omega
set_option maxHeartbeats 4000000 in
set_option maxRecDepth 100000 in
theorem num_b (n : Nat) (hn : n < 18446744073709551616) (w : World) :
    Calls Tryz.prog 67 #[.int .u64 n] w fun e w' => ∃ (a b c d f g h i : Int) (W : Obj), e = .returned (.string (txt [a, b, c, d, f, g, h, i])) ∧ w' = w.alloc W ∧ n = a + 256 * b + 65536 * c + 16777216 * d + 4294967296 * f + 1099511627776 * g + 281474976710656 * h + 72057594037927936 * i ∧ ∀ x ∈ [a, b, c, d, f, g, h, i], 0 ≤ x ∧ x < 256 := by
  have mk := mk8
  have cv := cv8 w
  go_enter Tryz.func67, Tryz.ntmps67
  go_wp2
  refine wp_loop_rounds 9 ?_
  iterate 9 (rw [rounds_succ]; go_wp2)
  go_ret
  refine ⟨_, _, _, _, _, _, _, _, _, rfl, rfl, ?_, ?_⟩
  · omega
  · intro x hx
    simp only [List.mem_cons, List.not_mem_nil, or_false] at hx
    omega
end Go.Proofs.YtgjnadligocdkaaGreatDoor
set_option linter.unusedVariables false
set_option linter.unusedSimpArgs false
namespace Go.Proofs.YtgjnadligocdkaaGreatDoor
open Go.RowKit
def sumC (l : List UInt8) (h : Nat) : Nat := l.foldl (fun h b => (h * 33 + b.toNat) % 18446744073709551616) h
theorem sum_step (s : ByteArray) (k : Nat) (h : k < s.size) :
    IntKind.u64.wrap (IntKind.u64.wrap ((sumC (s.data.toList.take k) 5381 : Nat) * 33 : Int) + IntKind.u64.wrap (s[k].toNat : Int)) = ((sumC (s.data.toList.take (k + 1)) 5381 : Nat) : Int) := by
  have hl : k < s.data.toList.length := by simpa using h
  have e : s.data.toList.take (k + 1) = s.data.toList.take k ++ [s[k]] := by
    rw [List.take_add_one, List.getElem?_eq_getElem hl]; rfl
  rw [e]
  unfold sumC
  rw [List.foldl_append]
  generalize List.foldl _ 5381 (s.data.toList.take k) = q
  simp only [List.foldl_cons, List.foldl_nil]
  have := s[k].toNat_lt
  generalize s[k].toNat = b at this ⊢
  show (IntKind.u64.wrap (IntKind.u64.wrap ((q : Int) * 33) + IntKind.u64.wrap (b : Int))) = (((q * 33 + b) % 18446744073709551616 : Nat) : Int)
  simp only [IntKind.wrap, IntKind.signed, IntKind.bits]
  simp
set_option maxHeartbeats 4000000 in
set_option maxRecDepth 100000 in
theorem sum_b (s : ByteArray) (hs : s.size ≤ 16777214) (w : World) :
    Calls Tryz.prog 82 #[.string s] w fun e w' => e = .returned (.int .u64 (sumC s.data.toList 5381 : Nat)) ∧ w' = w := by
  go_enter Tryz.func82, Tryz.ntmps82
  go_wp2
  go_loopw [3, 4] (fun h i wr => ∃ k : Nat, k ≤ s.size ∧ i = .int .i64 k ∧ h = .int .u64 (sumC (s.data.toList.take k) 5381 : Nat) ∧ wr = w) (fun h i _ => s.size - (intOf i).toNat)
  case atStart => exact ⟨0, Nat.zero_le _, rfl, by simp [sumC], rfl⟩
  case round =>
    obtain ⟨k, hk, rfl, rfl, rfl⟩ := hrel
    by_cases hlt : k < s.size
    · go_wp2
      refine ⟨⟨k + 1, by omega, rfl, by rw [sum_step s k hlt], trivial⟩, ?_⟩
      show s.size - ((k : Int) + 1).toNat < s.size - (k : Int).toNat
      omega
    · obtain rfl : k = s.size := by omega
      go_wp2
      go_ret
      rw [List.take_of_length_le (by simp)]
      exact ⟨rfl, rfl⟩
set_option maxHeartbeats 4000000 in
set_option maxRecDepth 100000 in
theorem sum_a (s : ByteArray) (hs : s.size ≤ 16777214) (w : World) :
    Calls Tryz.prog 193 #[.string s] w fun e w' => e = .returned (.int .u64 (sumC s.data.toList 5381 : Nat)) ∧ w' = w := by
  go_enter Tryz.func193, Tryz.ntmps193
  go_wp2
  go_step3
  go_wp2
  go_step3
  go_wp2
  refine wp_loop_rounds 1 ?_
  rw [rounds_succ]
  go_wp2
  go_loopg [3, 7] s.size (fun g h i wr => ∃ k : Nat, k ≤ s.size ∧ s.size - k ≤ g ∧ i = .int .i64 k ∧ h = .int .u64 (sumC (s.data.toList.take k) 5381 : Nat) ∧ wr = w)
  case atStart => exact ⟨0, Nat.zero_le _, by omega, rfl, by simp [sumC], rfl⟩
  case round =>
    obtain ⟨k, hk, hg, rfl, rfl, rfl⟩ := hrel
    by_cases hlt : k < s.size
    · go_wp2
      go_roundg (s.size - (k + 1))
      case rel => exact ⟨k + 1, by omega, by omega, rfl, by rw [sum_step s k hlt], rfl⟩
      case measure => omega
    · obtain rfl : k = s.size := by omega
      go_wp2
      rw [Exit.noGoto_ret]
      go_ret
      rw [List.take_of_length_le (by simp)]
      exact ⟨rfl, rfl⟩
end Go.Proofs.YtgjnadligocdkaaGreatDoor
set_option linter.unusedVariables false
set_option linter.unusedSimpArgs false
namespace Go.Proofs.YtgjnadligocdkaaGreatDoor
open Go.RowKit
def idxI (x : Int) : List Int → Nat → Int
  | [], _ => -1
  | y :: l, j => if (x == y) = true then (j : Int) else idxI x l (j + 1)
set_option maxHeartbeats 4000000 in
set_option maxRecDepth 100000 in
theorem idx_any (xs : List Int) (b off c : Nat) (x : Int) (w : World) (hn : xs.length ≤ 16777214) (hc : ∀ j (h : j < xs.length), w.cell? ⟨b, off + j, none⟩ = some (.int .i64 xs[j])) :
    Calls Tryz.prog 111 #[.slice (some ⟨b, off, none⟩) xs.length c, .int .i64 x] w fun e w' => e = .returned (.int .i64 (idxI x xs 0)) ∧ w' = w := by
  have HC := Lib.hid hc
  clear hc
  go_enter Tryz.func111, Tryz.ntmps111
  go_wp2
  go_loopw [8] (fun i wr => ∃ k : Nat, k ≤ xs.length ∧ i = .int .i64 k ∧ wr = w ∧ Hid (idxI x xs 0 = idxI x (xs.drop k) k)) (fun i _ => xs.length - (intOf i).toNat)
  case atStart => exact ⟨0, Nat.zero_le _, rfl, rfl, Lib.hid rfl⟩
  case round =>
    obtain ⟨k, hk, rfl, rfl, hI⟩ := hrel
    by_cases hlt : k < xs.length
    · have hcell := HC.out k hlt
      have hd : xs.drop k = xs[k] :: xs.drop (k + 1) := List.drop_eq_getElem_cons hlt
      cases he : (x == xs[k]) with
      | true =>
        have hR : Hid (idxI x xs 0 = (k : Int)) := Lib.hid (by rw [hI.out, hd, idxI, if_pos he])
        clear hd
        go_wp2
        go_ret
        rw [hR.out]
        exact ⟨rfl, rfl⟩
      | false =>
        have hR : Hid (idxI x xs 0 = idxI x (xs.drop (k + 1)) (k + 1)) := Lib.hid (by rw [hI.out, hd, idxI, if_neg (by simp [he])])
        clear hd
        go_wp2
        refine ⟨⟨k + 1, by omega, rfl, trivial, hR⟩, ?_⟩
        show xs.length - ((k : Int) + 1).toNat < xs.length - (k : Int).toNat
        omega
    · obtain rfl : k = xs.length := by omega
      have hR : Hid (idxI x xs 0 = -1) := Lib.hid (by rw [hI.out, List.drop_length, idxI])
      go_wp2
      go_ret
      rw [hR.out]
      exact ⟨rfl, rfl⟩
set_option maxHeartbeats 4000000 in
theorem idx_none (p : Option Addr) (c : Nat) (x : Int) (w : World) :
    Calls Tryz.prog 111 #[.slice p 0 c, .int .i64 x] w fun e w' => e = .returned (.int .i64 (-1)) ∧ w' = w := by
  go_enter Tryz.func111, Tryz.ntmps111
  go_wp2
  go_loopw [8] (fun i wr => i = .int .i64 0 ∧ wr = w) (fun _ _ => 0)
  case atStart => exact ⟨rfl, rfl⟩
  case round =>
    obtain ⟨rfl, rfl⟩ := hrel
    go_wp2
    go_ret
    exact ⟨rfl, rfl⟩
end Go.Proofs.YtgjnadligocdkaaGreatDoor
set_option linter.unusedVariables false
set_option linter.unusedSimpArgs false
namespace Go.Proofs.YtgjnadligocdkaaGreatDoor
open Go.RowKit
theorem wrap_u64 (n : Int) : IntKind.u64.wrap n = (((n % 18446744073709551616).toNat : Nat) : Int) := by
  simp only [IntKind.wrap, IntKind.signed, IntKind.bits]
  simp
  omega
set_option maxHeartbeats 4000000 in
set_option maxRecDepth 100000 in
theorem pnum_any (n : Int) (h1 : -9223372036854775808 ≤ n) (h2 : n ≤ 9223372036854775807) (w : World) :
    Calls Tryz.prog 191 #[.int .i64 n] w fun e w' => ∃ (a b c d f g h i : Int) (W : Obj), e = .returned (.string (txt [a, b, c, d, f, g, h, i])) ∧ w' = w.alloc W ∧ ((n % 18446744073709551616).toNat : Int) = a + 256 * b + 65536 * c + 16777216 * d + 4294967296 * f + 1099511627776 * g + 281474976710656 * h + 72057594037927936 * i ∧ ∀ x ∈ [a, b, c, d, f, g, h, i], 0 ≤ x ∧ x < 256 := by
  go_enter Tryz.func191, Tryz.ntmps191
  go_wp2_with fail
  rw [wrap_u64]
  refine (num_a (n % 18446744073709551616).toNat (by omega) w).mono ?_
  rintro e w1 ⟨a, b, c, d, f, g, h, i, W, rfl, rfl, hn, hx⟩
  go_wp2
  go_ret
  exact ⟨a, b, c, d, f, g, h, i, W, rfl, rfl, hn, hx⟩
end Go.Proofs.YtgjnadligocdkaaGreatDoor
set_option linter.unusedVariables false
set_option linter.unusedSimpArgs false
namespace Go.Proofs.YtgjnadligocdkaaGreatDoor
open Go.RowKit
set_option maxHeartbeats 4000000 in
set_option maxRecDepth 100000 in
theorem take_ok (B o : Nat) (s : ByteArray) (w : World) (h1 : w.cell? ⟨B, o, none⟩ = some (.string s)) (h2 : w.cell? ⟨B, o + 1, none⟩ = some .nilIface) (hf : w.frozen? ⟨B, o, none⟩ = false) (hn : 8 ≤ s.size) :
    Calls Tryz.prog 194 #[.pointer (some ⟨B, o, none⟩), .int .i64 8] w fun e w' => e = .returned (.string (s.extract 0 8)) ∧ w' = w.setCell ⟨B, o, none⟩ (.string (s.extract 8 s.size)) := by
  go_enter Tryz.func194, Tryz.ntmps194
  go_wp2
  go_ret
  exact ⟨rfl, rfl⟩
set_option maxHeartbeats 4000000 in
set_option maxRecDepth 100000 in
theorem take_short (B o : Nat) (s : ByteArray) (w : World) (h1 : w.cell? ⟨B, o, none⟩ = some (.string s)) (h2 : w.cell? ⟨B, o + 1, none⟩ = some .nilIface) (hf : w.frozen? ⟨B, o + 1, none⟩ = false) (hn : s.size < 8) :
    Calls Tryz.prog 194 #[.pointer (some ⟨B, o, none⟩), .int .i64 8] w fun e w' => e = .returned (.string ⟨#[]⟩) ∧ w' = w.setCell ⟨B, o + 1, none⟩ (.iface 125 (.int .i64 11)) := by
  go_enter Tryz.func194, Tryz.ntmps194
  go_wp2
  go_ret
  exact ⟨rfl, rfl⟩
set_option maxHeartbeats 4000000 in
set_option maxRecDepth 100000 in
theorem take_err (B o : Nat) (s : ByteArray) (t : TypeId) (v : Value) (w : World) (h1 : w.cell? ⟨B, o, none⟩ = some (.string s)) (h2 : w.cell? ⟨B, o + 1, none⟩ = some (.iface t v)) (hf : w.frozen? ⟨B, o + 1, none⟩ = false) :
    Calls Tryz.prog 194 #[.pointer (some ⟨B, o, none⟩), .int .i64 8] w fun e w' => e = .returned (.string ⟨#[]⟩) ∧ w' = w.setCell ⟨B, o + 1, none⟩ (.iface 125 (.int .i64 11)) := by
  go_enter Tryz.func194, Tryz.ntmps194
  go_wp2
  go_ret
  exact ⟨rfl, rfl⟩
def packN : List UInt8 → Nat
  | [] => 0
  | b :: l => b.toNat + 256 * packN l
theorem packN_lt : ∀ l : List UInt8, packN l < 256 ^ l.length
  | [] => by simp [packN]
  | b :: l => by
    have h := packN_lt l
    have hb := b.toNat_lt
    simp only [packN, List.length_cons, Nat.pow_succ]
    omega
theorem or_byte (n b : Nat) (hn : n < 72057594037927936) (hb : b < 256) : bits .or .u64 (IntKind.u64.wrap ((n : Int) * 256)) (IntKind.u64.wrap (b : Int)) = ((b + 256 * n : Nat) : Int) := by
  have e1 : IntKind.u64.wrap ((n : Int) * 256) = ((256 * n : Nat) : Int) := by
    simp only [IntKind.wrap, IntKind.signed, IntKind.bits]
    simp
    omega
  have e2 : IntKind.u64.wrap (b : Int) = (b : Int) := by
    simp only [IntKind.wrap, IntKind.signed, IntKind.bits]
    simp
    omega
  rw [e1, e2, u64_or_nat _ _ (by omega) (by omega)]
  have := Nat.two_pow_add_eq_or_of_lt (i := 8) (b := b) (by omega) n
  rw [show (2 : Nat) ^ 8 = 256 from rfl] at this
  rw [← this]
  congr 1
  omega
theorem drop_num (t : ByteArray) (k : Nat) (h0 : 0 < k) (hk : k ≤ t.size) : packN (t.data.toList.drop (k - 1)) = t[k - 1].toNat + 256 * packN (t.data.toList.drop k) := by
  have hl : k - 1 < t.data.toList.length := by simp; omega
  rw [List.drop_eq_getElem_cons hl, show k - 1 + 1 = k by omega]
  rfl
theorem drop_lt (t : ByteArray) (ht : t.size ≤ 8) (k : Nat) (h0 : 0 < k) : packN (t.data.toList.drop k) < 72057594037927936 := by
  have h := packN_lt (t.data.toList.drop k)
  have hl : (t.data.toList.drop k).length ≤ 7 := by simp; omega
  have h2 : 256 ^ (t.data.toList.drop k).length ≤ 256 ^ 7 := Nat.pow_le_pow_right (by decide) hl
  have h3 : (256 : Nat) ^ 7 = 72057594037927936 := by decide
  omega
set_option maxHeartbeats 4000000 in
set_option maxRecDepth 100000 in
theorem num_of (t : ByteArray) (ht : t.size ≤ 8) (w1 w : World) (B o : Nat) (hc : Calls Tryz.prog 194 #[.pointer (some ⟨B, o, none⟩), .int .i64 8] w fun e w' => e = .returned (.string t) ∧ w' = w1) :
    Calls Tryz.prog 152 #[.pointer (some ⟨B, o, none⟩)] w fun e w' => e = .returned (.int .u64 (packN t.data.toList : Nat)) ∧ w' = w1 := by
  go_enter Tryz.func152, Tryz.ntmps152
  go_wp2_with fail
  refine hc.mono ?_
  rintro e wa ⟨rfl, rfl⟩
  go_wp2
  go_loopw [4, 5] (fun n i wr => ∃ k : Nat, k ≤ t.size ∧ i = .int .i64 ((k : Int) - 1) ∧ n = .int .u64 (packN (t.data.toList.drop k) : Nat) ∧ wr = wa) (fun n i _ => ((intOf i) + 1).toNat)
  case atStart => exact ⟨t.size, Nat.le_refl _, rfl, by rw [List.drop_of_length_le (by simp)]; rfl, rfl⟩
  case round =>
    obtain ⟨k, hk, rfl, rfl, rfl⟩ := hrel
    by_cases hlt : 0 < k
    · go_wp2
      refine ⟨⟨k - 1, by omega, by congr 1; omega, ?_, trivial⟩, ?_⟩
      · rw [or_byte _ _ (drop_lt t ht k hlt) (by have := t[k - 1].toNat_lt; omega), drop_num t k hlt hk]
      · show ((k : Int) - 1 - 1 + 1).toNat < ((k : Int) - 1 + 1).toNat
        omega
    · obtain rfl : k = 0 := by omega
      go_wp2
      go_ret
      exact ⟨rfl, rfl⟩
end Go.Proofs.YtgjnadligocdkaaGreatDoor
