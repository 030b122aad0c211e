/-
  WALKS: ModelSets itself.
-/
import Derived.Test.YtmkhjmldncegcaaGreatDoorMH
import Derived.Test.YtmkhjmldncegcaaGreatDoorZMSetL
set_option linter.unusedVariables false
set_option linter.unusedSimpArgs false
namespace Go.Proofs.YtmkhjmldncegcaaGreatDoor
open Go.RowKit Go.Maps Go.ChangeMaps Go.MapKept Go.Sort

def oName : OpA := ⟨11, [100], [], [], 1, 0⟩
def maskTo (xs : List Nat) : Nat → Nat
  | 0 => 0
  | j + 1 => maskTo xs j ||| (1 <<< (xs.getD j 0 % 10))
def lastTo (xs : List Nat) : Nat → Nat
  | 0 => 10
  | j + 1 => xs.getD j 0 % 10
theorem mask_lt (xs : List Nat) : ∀ j, maskTo xs j < 1024
  | 0 => by show (0 : Nat) < 1024; decide
  | j + 1 => (cnt_step (maskTo xs j) _ (mask_lt xs j) (Nat.mod_lt _ (by decide))).2
def lastS (d : Nat) : S := if d = 10 then [] else vS d
def tArr (mask : Nat) : Array Value := #[.bool (mask.testBit 0), .bool (mask.testBit 1), .bool (mask.testBit 2), .bool (mask.testBit 3), .bool (mask.testBit 4), .bool (mask.testBit 5), .bool (mask.testBit 6), .bool (mask.testBit 7), .bool (mask.testBit 8), .bool (mask.testBit 9)]
theorem tArr_0 : tArr 0 = #[.bool false, .bool false, .bool false, .bool false, .bool false, .bool false, .bool false, .bool false, .bool false, .bool false] := by simp [tArr]
/-- What the loop keeps. -/
structure MsRel (w1 : World) (xs : List Nat) (pb mb tb : Nat) (j : Nat) (wr : World) (σ : Sig) (bases : List (S × Value)) : Prop where
  ext : Ext w1 wr
  old : ∀ k, k < w1.heap.size → σ k = other
  mod : ModIs wr σ 1 pb mb bases (stA (maskTo xs j) (lastTo xs j))
  neat : Neat wr σ
  ground : Ground σ wr
  arr : wr.heap[tb]? = some (.cells (tArr (maskTo xs j)) 46 (0, 0))
  lab : σ tb = other
  fresh : w1.heap.size ≤ tb

def dig8 (x : Nat) : UInt8 := UInt8.ofNat (48 + x % 10)
theorem conv_digit (w : World) (x : Nat) : (convert 45 9 (.slice (some ⟨w.heap.size, 0, none⟩) 1 1)).run Tryz.prog (w.alloc (.cells #[.int .u8 (48 + (x : Int) % 10)] 5)) = .ok (.string ⟨#[dig8 x]⟩) (w.alloc (.cells #[.int .u8 (48 + (x : Int) % 10)] 5)) := by
  refine run_convert_bytes_back (P := Tryz.prog) _ 45 9 5 ⟨w.heap.size, 0, none⟩ 1 [dig8 x] Tryz.underlying45 Tryz.underlying5 Tryz.underlying9 fun j hj => ?_
  obtain rfl : j = 0 := by simpa using hj
  rw [Addr.add_lit, cellAt (heap_new w _)]
  have : ((dig8 x).toNat : Int) = 48 + (x : Int) % 10 := by
    unfold dig8
    simp
    omega
  simpa using this.symm

theorem sound_st (mask last : Nat) (hm : mask < 1024) : Sound (stA mask last) 1 := by
  have hp := place_ok mask 0 hm (by decide)
  unfold placeOk at hp
  simp only [Bool.and_eq_true, Bool.or_eq_true, beq_iff_eq, decide_eq_true_eq] at hp
  obtain ⟨⟨_, h3⟩, h4⟩ := hp
  refine ⟨rfl, by simp [stA], by simp [stA], fun n B h => ?_, fun n B h p hp => ?_⟩
  · simp [stA] at h
    rcases h with ⟨_, h⟩ | ⟨_, h⟩ <;> rw [h] <;> simp only [] <;> split <;> simp
  · simp [stA] at h
    rcases h with ⟨_, h⟩ | ⟨_, h⟩ <;> rw [h] at hp <;> simp only [] at hp <;> split at hp
    · cases hp
    · simp at hp; subst hp; simp
    · cases hp
    · rename_i h0
      simp at hp; subst hp
      exact ⟨fun e => by rcases h4 with h4 | h4; exact h0 h4; simp at h4; exact h4 e, by show (vals mask).length ≤ 12; omega⟩
theorem cnt_le (mask : Nat) : cnt mask ≤ 10 := by
  unfold cnt vals
  rw [List.length_map]
  exact Nat.le_trans (List.length_filter_le _ _) (by simp)
theorem mask_pos (xs : List Nat) (j : Nat) : maskTo xs (j + 1) ≠ 0 ∧ lastTo xs (j + 1) < 10 := by
  refine ⟨fun h => ?_, Nat.mod_lt _ (by decide)⟩
  have := congrArg (fun n => n.testBit (xs.getD j 0 % 10)) h
  unfold maskTo at this
  simp [Nat.testBit_or, Nat.one_shiftLeft, Nat.testBit_two_pow_self] at this
theorem cnt_pos {mask : Nat} (hm : mask < 1024) (h0 : mask ≠ 0) : 0 < cnt mask := by
  have hp := place_ok mask 0 hm (by decide)
  unfold placeOk at hp
  simp only [Bool.and_eq_true, Bool.or_eq_true, beq_iff_eq, decide_eq_true_eq] at hp
  obtain ⟨_, h4⟩ := hp
  rcases h4 with h4 | h4
  · exact absurd h4 h0
  · unfold cnt
    rcases Nat.eq_zero_or_pos (vals mask).length with e | e
    · simp [List.eq_nil_of_length_eq_zero e] at h4
    · exact e
theorem ent_val (j : Nat) : ∀ (l : List S) (j : Nat), j < l.length → (entCells (l.map fun v => (([107] : S), v)))[j * 2 + 1]? = some (encStr (l.getD j []))
  | [], j, h => by simp at h
  | v :: l, 0, h => rfl
  | v :: l, j + 1, h => by
    show ([_, _] ++ entCells _)[(j + 1) * 2 + 1]? = _
    rw [List.getElem?_append_right (by simp; omega)]
    have := ent_val 0 l j (by simpa using h)
    simpa [show (j + 1) * 2 + 1 - 2 = j * 2 + 1 by omega] using this
theorem digit_str (x : Nat) : Value.string (⟨#[118]⟩ ++ ⟨#[dig8 x]⟩) = encStr (vS (x % 10)) := rfl
theorem tArr_at (mask d : Nat) (hd : d < 10) : (tArr mask)[d]? = some (.bool (mask.testBit d)) := by
  have : d = 0 ∨ d = 1 ∨ d = 2 ∨ d = 3 ∨ d = 4 ∨ d = 5 ∨ d = 6 ∨ d = 7 ∨ d = 8 ∨ d = 9 := by omega
  rcases this with rfl | rfl | rfl | rfl | rfl | rfl | rfl | rfl | rfl | rfl <;> rfl
theorem tArr_set (mask d : Nat) (hd : d < 10) : (tArr mask).setIfInBounds d (.bool true) = tArr (mask ||| (1 <<< d)) := by
  have hb : ∀ i, (mask ||| (1 <<< d)).testBit i = (mask.testBit i || decide (d = i)) := fun i => by
    rw [Nat.testBit_or, Nat.one_shiftLeft, Nat.testBit_two_pow]
  generalize mask ||| (1 <<< d) = N at hb ⊢
  have : d = 0 ∨ d = 1 ∨ d = 2 ∨ d = 3 ∨ d = 4 ∨ d = 5 ∨ d = 6 ∨ d = 7 ∨ d = 8 ∨ d = 9 := by omega
  rcases this with rfl | rfl | rfl | rfl | rfl | rfl | rfl | rfl | rfl | rfl <;> simp [tArr, hb]

set_option maxHeartbeats 8000000 in
set_option maxRecDepth 100000 in
theorem msets_any (v : Value) (xs : List Nat) (hb : ∀ x ∈ xs, x < 256) (w : World) (her : ErrType w) (hv : Sl w 1 v xs.length (xs.map fun (x : Nat) => Value.int .u8 (x : Int))) : Calls Tryz.prog 5 #[v] w fun e w' => e = .returned (.bool true) ∧ Ext w w' := by
  have HKN := Lib.hid (known_any w her)
  have HER := Lib.hid her
  obtain ⟨_, p, c, rfl, hc1, hc2, hcells⟩ := hv
  have HC := Lib.hid hcells
  clear hcells her
  by_cases h60 : xs.length > 60
  · have k : decide ((60 : Int) < (xs.length : Int)) = true := decide_eq_true (by omega)
    go_enter Tryz.func5, Tryz.ntmps5
    go_wp2_with fail
    refine HKN.out.mono ?_
    rintro e w1 ⟨rfl, hx1⟩
    have HX1 := Lib.hid hx1
    clear hx1
    go_wp2_with fail
    go_ret
    exact ⟨rfl, HX1.out⟩
  have k : decide ((60 : Int) < (xs.length : Int)) = false := decide_eq_false (by omega)
  go_enter Tryz.func5, Tryz.ntmps5
  go_wp2_with fail
  refine HKN.out.mono ?_
  rintro e w1 ⟨rfl, hx1⟩
  have HX1 := Lib.hid hx1
  have HNW := Lib.hid (new_any (fun _ => other) 1 w1 (fun _ _ => rfl))
  clear hx1 HKN
  go_wp2_with fail
  refine HNW.out.mono ?_
  rintro e w2 ⟨pv, rfl, σ2, ⟨pb, mb, bases2, rfl, hI2⟩, hx2, hs2, hn2⟩
  have hg2 : Ground σ2 w2 := ⟨(Ext.step HX1.out hx2).cell HER.out, by rw [hs2 0 (Nat.lt_of_lt_of_le (lt_of_cell HER.out) HX1.out.size)]; rfl⟩
  have HD2 : Hid (Calls Tryz.prog 10 #[.pointer (some ⟨pb, 0, none⟩), .agg #[.int .i64 11, .string ⟨#[100]⟩, .string ⟨#[]⟩, .string ⟨#[]⟩, .int .i64 1, .int .i64 0]] w2 fun e w' => (∃ v, e = .returned v) ∧ ∃ σ' bases', ModIs w' σ' 1 pb mb bases' (stA 0 10) ∧ Moved σ2 1 w2 σ' w') := by
    have := do_any σ2 1 pb mb bases2 newA oName w2 0 hI2 hn2 sound_new (by omega) (by decide) (by decide) (by omega) hg2
    rw [show doA newA oName = (stA 0 10, ⟨0, [], []⟩) from name_d] at this
    exact this.mono fun e w' h => ⟨⟨_, h.1⟩, h.2⟩
  have HX2 : Hid (Ext w1 w2) := hx2
  have HS2 := Lib.hid hs2
  have HG2 := Lib.hid hg2
  clear hI2 hx2 hs2 hn2 hg2 HNW
  go_wp2_with fail
  refine HD2.out.mono ?_
  rintro e w3 ⟨⟨rv, rfl⟩, σ3, bases3, hI3, hm3⟩
  have hx3 : Ext w1 w3 := HX2.out.moved (fun k hk => by rw [HS2.out k hk]; exact Nat.zero_ne_one) hm3
  have hn3 := hm3.neat
  have hrel0 : MsRel w1 xs pb mb w3.heap.size 0 (w3.alloc (.cells #[.bool false, .bool false, .bool false, .bool false, .bool false, .bool false, .bool false, .bool false, .bool false, .bool false] 46)) σ3 bases3 :=
    ⟨hx3.alloc _, fun k hk => (hm3.ext k (Nat.lt_of_lt_of_le hk HX2.out.size)).trans (HS2.out k hk), hI3.ext ((Ext.rfl' w3).alloc _), hn3.ext ((Ext.rfl' w3).alloc _), (HG2.out.moved hm3 (by omega)).ext ((Ext.rfl' w3).alloc _), by show _ = some (Obj.cells (tArr 0) _ _); rw [tArr_0]; exact heap_new w3 _, hn3 _ (Nat.le_refl _), hx3.size⟩
  have HR0 := Lib.hid hrel0
  clear hI3 hm3 hx3 hn3 hrel0 HX2 HS2 HG2 HD2
  go_wp2_with fail
  go_loopw [5, 6, 7] (fun n l i wr => ∃ j : Nat, j ≤ xs.length ∧ i = .int .i64 j ∧ n = .int .i64 (cnt (maskTo xs j)) ∧ l = encStr (lastS (lastTo xs j)) ∧ ∃ σ bases, MsRel w1 xs pb mb w3.heap.size j wr σ bases) (fun _ _ i _ => xs.length - (intOf i).toNat)
  case atStart => exact ⟨0, by omega, rfl, by show _ = Value.int _ ((cnt 0 : Nat) : Int); rw [show cnt 0 = 0 from by decide]; rfl, rfl, _, _, HR0.out⟩
  case round =>
    obtain ⟨j, hj, rfl, rfl, rfl, σ, bases, hR⟩ := hrel
    obtain ⟨wo, rfl⟩ : ∃ wo : World, wo = wr := ⟨_, rfl⟩
    have HR := Lib.hid hR
    by_cases hlt : j < xs.length
    · obtain ⟨b, off, rfl, hcells⟩ := HC.out (by omega)
      obtain ⟨x, hxj⟩ : ∃ x, xs[j]? = some x := ⟨_, List.getElem?_eq_getElem hlt⟩
      have hx : xs.getD j 0 = x := by simp [List.getD, hxj]
      have hx256 : x < 256 := hb x (List.mem_of_getElem? hxj)
      have HCJ : Hid (w.cell? ⟨b, off + j, none⟩ = some (.int .u8 (x : Int))) := hcells j _ (by rw [List.getElem?_map, hxj]; rfl)
      have d0 : wo.cell? ⟨b, off + j, none⟩ = some (.int .u8 (x : Int)) := (Ext.step HX1.out hR.ext).cell (hcells j _ (by rw [List.getElem?_map, hxj]; rfl))
      have hcv := conv_digit wo x
      obtain ⟨d, hd⟩ : ∃ d, x % 10 = d := ⟨_, rfl⟩
      have hd10 : d < 10 := by omega
      have hml := mask_lt xs j
      have HM1 : Hid (maskTo xs (j + 1) = maskTo xs j ||| (1 <<< d)) := by show _ = _; rw [← hd, ← hx]; rfl
      have HL1 : Hid (lastTo xs (j + 1) = d) := by show _ = _; rw [← hd, ← hx]; rfl
      have HSO : ∀ m, Sound (stA (maskTo xs j) m) 1 := fun m => sound_st _ m hml
      have e1 : ∀ o, Ext wo (wo.alloc o) := fun o => (Ext.rfl' wo).alloc o
      have HDA : Hid (∀ o, Calls Tryz.prog 10 #[.pointer (some ⟨pb, 0, none⟩), .agg #[.int .i64 9, .string ⟨#[100]⟩, .string ⟨#[107]⟩, encStr (vS d), .int .i64 0, .int .i64 0]] (wo.alloc o) fun e w' => (∃ v, e = .returned v) ∧ ∃ σ' bases', ModIs w' σ' 1 pb mb bases' (stA (maskTo xs (j + 1)) (lastTo xs j)) ∧ Moved σ 1 (wo.alloc o) σ' w') := fun o => by
        have := do_any σ 1 pb mb bases _ (putD d) (wo.alloc o) 1 (hR.mod.ext (e1 o)) (hR.neat.ext (e1 o)) (HSO _) (by omega) (by show [(100 : UInt8)].length ≤ maxLen; decide) (by show [(107 : UInt8)].length ≤ maxLen; decide) (by omega) (hR.ground.ext (e1 o))
        rw [do_d _ _ _ hml hd10, ← HM1.out] at this
        exact this.mono fun e w' h => ⟨⟨_, h.1⟩, h.2⟩
      clear hcells hR
      go_wp2_with fail
      rw [digit_str, hd]
      refine (HDA.out _).mono ?_
      rintro e w4 ⟨⟨rv4, rfl⟩, σ4, bases4, hI4, hm4⟩
      have hx4 : Ext w1 w4 := (HR.out.ext.alloc _).moved (fun k hk => by rw [HR.out.old k hk]; exact Nat.zero_ne_one) hm4
      have ho4 : ∀ k, k < w1.heap.size → σ4 k = other := fun k hk => (hm4.ext k (by have := HR.out.ext.size; simp; omega)).trans (HR.out.old k hk)
      have hg4 : Ground σ4 w4 := (HR.out.ground.ext ((Ext.rfl' wo).alloc _)).moved hm4 (by omega)
      have htb : w3.heap.size < wo.heap.size := lt_heap HR.out.arr
      have ha4 : w4.heap[w3.heap.size]? = some (.cells (tArr (maskTo xs j)) 46 (0, 0)) := by
        rw [hm4.turn.block _ (by simp; omega) (by rw [HR.out.lab]; exact Nat.zero_ne_one), ((Ext.rfl' wo).alloc _).block _ htb]; exact HR.out.arr
      have hl4 : σ4 w3.heap.size = other := (hm4.ext _ (by simp; omega)).trans HR.out.lab
      have HDB : Hid (Calls Tryz.prog 10 #[.pointer (some ⟨pb, 0, none⟩), .agg #[.int .i64 9, .string ⟨#[]⟩, .string ⟨#[107]⟩, encStr (vS d), .int .i64 0, .int .i64 0]] w4 fun e w' => (∃ v, e = .returned v) ∧ ∃ σ' bases', ModIs w' σ' 1 pb mb bases' (stA (maskTo xs (j + 1)) (lastTo xs (j + 1))) ∧ Moved σ4 1 w4 σ' w') := by
        have := do_any σ4 1 pb mb bases4 _ (putM d) w4 1 hI4 hm4.neat (sound_st _ _ (mask_lt xs (j + 1))) (by omega) (by show ([] : S).length ≤ maxLen; decide) (by show [(107 : UInt8)].length ≤ maxLen; decide) (by omega) hg4
        rw [do_m _ _ _ hd10, show stA (maskTo xs (j + 1)) d = stA (maskTo xs (j + 1)) (lastTo xs (j + 1)) from by rw [HL1.out]] at this
        exact this.mono fun e w' h => ⟨⟨_, h.1⟩, h.2⟩
      have HX4 := Lib.hid hx4
      have HO4 := Lib.hid ho4
      have HG4 := Lib.hid hg4
      have HA4 := Lib.hid ha4
      have HB4 := Lib.hid hl4
      have HXI := Lib.hid hm4
      clear hI4 hm4 hx4 ho4 hg4 ha4 hl4 HDA e1
      go_wp2_with fail
      refine HDB.out.mono ?_
      rintro e w5 ⟨⟨rv5, rfl⟩, σ5, bases5, hI5, hm5⟩
      have hx5 : Ext w1 w5 := HX4.out.moved (fun k hk => by rw [HO4.out k hk]; exact Nat.zero_ne_one) hm5
      have ho5 : ∀ k, k < w1.heap.size → σ5 k = other := fun k hk => (hm5.ext k (Nat.lt_of_lt_of_le hk HX4.out.size)).trans (HO4.out k hk)
      have hg5 : Ground σ5 w5 := HG4.out.moved hm5 (by omega)
      have ha5 : w5.heap[w3.heap.size]? = some (.cells (tArr (maskTo xs j)) 46 (0, 0)) := by
        rw [hm5.turn.block _ (lt_heap HA4.out) (by rw [HB4.out]; exact Nat.zero_ne_one)]; exact HA4.out
      have hl5 : σ5 w3.heap.size = other := (hm5.ext _ (lt_heap HA4.out)).trans HB4.out
      have hfr := HR.out.fresh
      have hrel : MsRel w1 xs pb mb w3.heap.size (j + 1) (w5.setCell ⟨w3.heap.size, d, none⟩ (.bool true)) σ5 bases5 := by
        have o : Only w3.heap.size w5 (w5.setCell ⟨w3.heap.size, d, none⟩ (.bool true)) := (Only.refl _ _).setCell d _
        refine ⟨Ext.only hx5 o hfr, ho5, hI5.only o (by rw [hl5]; exact Nat.zero_ne_one), fun k hk => hm5.neat k (by rw [← o.size]; exact hk), ⟨?_, hg5.2⟩, by rw [HM1.out, ← tArr_set _ d hd10]; exact heap_setCell_row ha5 d _, hl5, hfr⟩
        have h0 : 0 < w1.heap.size := Nat.lt_of_lt_of_le (lt_of_cell HER.out) HX1.out.size
        exact (Ext.only (Ext.rfl' w1) (Only.refl w3.heap.size w1) hfr).cell (HX1.out.cell HER.out) |> (Ext.only hx5 o hfr).cell
      have d0' : w5.cell? ⟨b, off + j, none⟩ = some (.int .u8 (x : Int)) := hx5.cell (HX1.out.cell (HCJ.out))
      have b0 : w5.cell? ⟨w3.heap.size, d, none⟩ = some (.bool ((maskTo xs j).testBit d)) := by rw [cellAt ha5, tArr_at _ _ hd10]
      have f0 : w5.frozen? ⟨w3.heap.size, d, none⟩ = false := frozenAt ha5 d
      have HREL := Lib.hid hrel
      clear hI5 hm5 hx5 ho5 hg5 ha5 hl5 hrel hfr HDB HX4 HO4 HG4 HA4 HB4 HXI
      have hcs := cnt_step (maskTo xs j) d hml hd10
      rw [← HM1.out] at hcs
      have HCS := Lib.hid hcs.1
      clear hcs
      have hdx : ((x : Int) % 10) = (d : Int) := by omega
      cases ht : (maskTo xs j).testBit d with
      | true =>
        rw [ht] at b0 HCS
        go_wp2_with fail
        refine ⟨⟨j + 1, by omega, by go_num, by rw [HCS.out]; rfl, ?_, σ5, bases5, HREL.out⟩, by simp [intOf]; omega⟩
        rw [HL1.out]; unfold lastS; rw [if_neg (by omega)]
      | false =>
        rw [ht] at b0 HCS
        go_wp2_with fail
        refine ⟨⟨j + 1, by omega, by go_num, ?_, ?_, σ5, bases5, HREL.out⟩, by simp [intOf]; omega⟩
        · have hcl := cnt_le (maskTo xs j)
          rw [HCS.out]; simp only [Bool.false_eq_true, if_false]
          have hw : wrap64 ((cnt (maskTo xs j) : Int) + 1) = (cnt (maskTo xs j) : Int) + 1 := by unfold wrap64; omega
          simp [hw]
        · rw [HL1.out]; unfold lastS; rw [if_neg (by omega)]
    · obtain rfl : j = xs.length := by omega
      have hml := mask_lt xs xs.length
      have HMOD := Lib.hid hR.mod
      have HXO : Hid (Ext w wo) := Ext.step HX1.out hR.ext
      clear hR
      rcases Nat.eq_zero_or_pos xs.length with h0 | hpos
      · have hnil : xs = [] := List.eq_nil_of_length_eq_zero h0
        subst hnil
        have HLD : Hid (∀ W, Ext wo W → Calls Tryz.prog 18 #[.pointer (some ⟨pb, 0, none⟩), .string ⟨#[100]⟩] W fun e w' => ∃ p c, e = .returned (.tuple #[.slice p 0 c, .bool true]) ∧ Ext W w') := fun W hx => by
          have := list_any σ 1 pb mb bases (stA 0 10) [100] W 1 (HMOD.out.ext hx) (sound_st 0 10 (by decide)) (by omega) (by decide)
          rw [list_d] at this
          refine this.mono fun e w' ⟨v, he, ho, hx⟩ => ?_
          obtain ⟨_, p, c, rfl, _⟩ := Sl.ofOwns ho
          exact ⟨p, c, he, hx⟩
        have HLM : Hid (∀ W, Ext wo W → Calls Tryz.prog 18 #[.pointer (some ⟨pb, 0, none⟩), .string ⟨#[]⟩] W fun e w' => ∃ p c, e = .returned (.tuple #[.slice p 0 c, .bool true]) ∧ Ext W w') := fun W hx => by
          have := list_any σ 1 pb mb bases (stA 0 10) [] W 1 (HMOD.out.ext hx) (sound_st 0 10 (by decide)) (by omega) (by decide)
          rw [list_m] at this
          refine this.mono fun e w' ⟨v, he, ho, hx⟩ => ?_
          obtain ⟨_, p, c, rfl, _⟩ := Sl.ofOwns ho
          exact ⟨p, c, he, hx⟩
        have hc0 : cnt (maskTo [] ([] : List Nat).length) = 0 := by decide
        have hl0 : ([] : List Nat).length = 0 := rfl
        go_wp2_with fail
        refine (HLD.out _ (Ext.rfl' wo)).mono ?_
        rintro e w6 ⟨p6, c6, rfl, hx6⟩
        have HX6 := Lib.hid hx6
        clear hx6 HLD
        go_wp2_with fail
        refine (HLM.out _ HX6.out).mono ?_
        rintro e w7 ⟨p7, c7, rfl, hx7⟩
        have HX7 := Lib.hid (Ext.step HX6.out hx7)
        clear hx7 HLM HX6
        go_wp2_with fail
        refine wp_loop_rounds 1 ?_
        rw [rounds_succ]
        go_wp2_with fail
        go_ret
        exact ⟨rfl, Ext.step HXO.out HX7.out⟩
      · obtain ⟨q, hq⟩ : ∃ q, xs.length = q + 1 := ⟨xs.length - 1, by omega⟩
        have hmp := mask_pos xs q
        rw [← hq] at hmp
        have hml := mask_lt xs xs.length
        obtain ⟨mask, hmask⟩ : ∃ m, maskTo xs xs.length = m := ⟨_, rfl⟩
        obtain ⟨last, hlast⟩ : ∃ m, lastTo xs xs.length = m := ⟨_, rfl⟩
        have HMO := HMOD.out
        rw [hmask, hlast] at HMO
        rw [hmask] at hml
        rw [hmask, hlast] at hmp
        have hcp := cnt_pos hml hmp.1
        have hc10 := cnt_le mask
        have HLD : Hid (∀ W, Ext wo W → Calls Tryz.prog 18 #[.pointer (some ⟨pb, 0, none⟩), .string ⟨#[100]⟩] W fun e w' => (∃ b off c, e = .returned (.tuple #[.slice (some ⟨b, off, none⟩) (cnt mask) c, .bool true]) ∧ cnt mask ≤ c ∧ ∀ j, j < cnt mask → w'.cell? ⟨b, off + j * 2 + 1, none⟩ = some (encStr ((vals mask).getD j []))) ∧ Ext W w') := fun W hx => by
          have := list_any σ 1 pb mb bases (stA mask last) [100] W 1 (HMO.ext hx) (sound_st mask last hml) (by omega) (by decide)
          rw [list_d, if_neg hmp.1] at this
          refine this.mono fun e w' ⟨v, he, ho, hx⟩ => ⟨?_, hx⟩
          have hln : ((vals mask).map fun v => (([107] : S), v)).length = cnt mask := by simp [cnt]
          rw [hln] at ho
          obtain ⟨_, p, c, rfl, h1, _, h3⟩ := Sl.ofOwns ho
          obtain ⟨b, off, rfl, h4⟩ := h3 hcp
          exact ⟨b, off, c, he, h1, fun j hj => by rw [Nat.add_assoc]; exact h4 _ _ (ent_val 0 (vals mask) j hj)⟩
        have HLM : Hid (∀ W, Ext wo W → Calls Tryz.prog 18 #[.pointer (some ⟨pb, 0, none⟩), .string ⟨#[]⟩] W fun e w' => (∃ b off c, e = .returned (.tuple #[.slice (some ⟨b, off, none⟩) 1 c, .bool true]) ∧ 1 ≤ c ∧ w'.cell? ⟨b, off + 1, none⟩ = some (encStr (vS last))) ∧ Ext W w') := fun W hx => by
          have := list_any σ 1 pb mb bases (stA mask last) [] W 1 (HMO.ext hx) (sound_st mask last hml) (by omega) (by decide)
          rw [list_m, if_neg (by omega)] at this
          refine this.mono fun e w' ⟨v, he, ho, hx⟩ => ⟨?_, hx⟩
          obtain ⟨_, p, c, rfl, h1, _, h3⟩ := Sl.ofOwns ho
          obtain ⟨b, off, rfl, h4⟩ := h3 (by show 0 < 1; decide)
          exact ⟨b, off, c, he, h1, h4 1 _ rfl⟩
        have HRI : Hid (∀ j, j + 1 < cnt mask → Op.bytesLess ((vals mask).getD j []) ((vals mask).getD (j + 1) []) = true) := rises mask hml
        have hls : lastS last = vS last := by unfold lastS; rw [if_neg (by omega)]
        rw [hmask, hlast, hls]
        clear HMO hmask hlast hls hq hmp HMOD HR
        go_wp2_with fail
        refine (HLD.out _ (Ext.rfl' wo)).mono ?_
        rintro e w6 ⟨⟨ba, oa, ca, rfl, hca, hcell⟩, hx6⟩
        have HX6 := Lib.hid hx6
        have HCA := Lib.hid hcell
        clear hx6 hcell HLD
        go_wp2_with fail
        refine (HLM.out _ HX6.out).mono ?_
        rintro e w7 ⟨⟨bb, ob, cb, rfl, hcb, hcell⟩, hx7⟩
        have HX7 := Lib.hid hx7
        have HXW : Hid (Ext w w7) := Ext.step HXO.out (Ext.step HX6.out hx7)
        have HCB := Lib.hid hcell
        clear hx7 hcell HLM
        go_wp2_with fail
        go_loopw [13] (fun i wr => ∃ q : Nat, q + 1 ≤ cnt mask ∧ i = .int .i64 ((q : Int) + 1) ∧ Ext w7 wr) (fun i _ => cnt mask - (intOf i).toNat)
        case atStart => exact ⟨0, by omega, by simp, Ext.rfl' _⟩
        case round =>
          obtain ⟨q, hq, rfl, hxr⟩ := hrel
          obtain ⟨wq, rfl⟩ : ∃ wo : World, wo = wr := ⟨_, rfl⟩
          have HXR := Lib.hid hxr
          by_cases hlt2 : q + 1 < cnt mask
          · have k1 : decide ((q : Int) + 1 < (cnt mask : Int)) = true := decide_eq_true (by omega)
            have g0 := hxr.cell (HX7.out.cell (HCA.out q (by omega)))
            have g1 := hxr.cell (HX7.out.cell (HCA.out (q + 1) hlt2))
            have hri : Op.bytesLess ((vals mask)[q]?.getD []) ((vals mask)[q + 1]?.getD []) = true := HRI.out q hlt2
            have hri2 : (!Op.bytesLess ((vals mask)[q]?.getD []) ((vals mask)[q + 1]?.getD [])) = false := by rw [hri]; rfl
            clear hxr
            go_wp2_with fail
            go_quiet (fail)
            go_wp2_with fail
            have hq2 : q + 1 + 1 ≤ cnt mask := hlt2
            have hms : cnt mask - (intOf (.int .i64 ((q : Int) + 1 + 1))).toNat < cnt mask - (intOf (.int .i64 ((q : Int) + 1))).toNat := by
              show cnt mask - ((q : Int) + 1 + 1).toNat < cnt mask - ((q : Int) + 1).toNat
              omega
            refine ⟨⟨q + 1, hq2, ?_, Ext.step HXR.out (Ext.drewN _ _)⟩, hms⟩
            first | rfl | go_num
          · have hqe : cnt mask = q + 1 := by omega
            have k1 : decide ((q : Int) + 1 < (cnt mask : Int)) = false := decide_eq_false (by omega)
            have k2 : decide ((0 : Int) < (cnt mask : Int)) = true := decide_eq_true (by omega)
            have k3 : ((cnt mask : Int) == 0) = false := by simp; omega
            have gb := hxr.cell HCB.out
            clear hxr
            go_wp2_with fail
            go_ret
            exact ⟨rfl, Ext.step HXW.out HXR.out⟩
end Go.Proofs.YtmkhjmldncegcaaGreatDoor
