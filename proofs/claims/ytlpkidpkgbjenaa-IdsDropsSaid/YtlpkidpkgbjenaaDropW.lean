/-
  WALKS: a row without some (ids.Drop, ids.Without).
-/
import Derived.Test.YtlpkidpkgbjenaaInsW
import Derived.Test.YtlpkidpkgbjenaaRunW
import Derived.Lib.SliceRun
import Derived.Sort.OwnSortedInts
set_option linter.unusedVariables false
set_option linter.unusedSimpArgs false
namespace Go.Proofs.Ytlpkidpkgbjenaa
open Go.RowKit Go.Lib Go.Sort

def w64u (x : Int) : Int := IntKind.u64.wrap x
def dropB (f n x : Int) : Bool := decide (0 < n) && decide (f ≤ x) && decide (w64u (w64u x - w64u f) < w64u n)

theorem dropB_out {f n x : Int} (hx : -9223372036854775808 ≤ x ∧ x ≤ 9223372036854775807) (hf : -9223372036854775808 ≤ f ∧ f ≤ 9223372036854775807) (hn : -9223372036854775808 ≤ n ∧ n ≤ 9223372036854775807) : dropB f n x = outB f n x := by
  unfold dropB outB w64u
  rw [Bool.eq_iff_iff]
  simp only [Bool.and_eq_true, decide_eq_true_eq, IntKind.wrap_u64]
  omega

set_option maxHeartbeats 400000 in
theorem dropFn (f n x : Int) (bn bf : Nat) (w : World) (hn : w.cell? ⟨bn, 0, none⟩ = some (.int .i64 n)) (hf : w.cell? ⟨bf, 0, none⟩ = some (.int .i64 f)) :
    FnGives Try.prog 31 #[.pointer (some ⟨bn, 0, none⟩), .pointer (some ⟨bf, 0, none⟩)] #[.int .i64 x] (.bool (dropB f n x)) w := by
  show Calls Try.prog 31 #[.int .i64 x, .pointer (some ⟨bn, 0, none⟩), .pointer (some ⟨bf, 0, none⟩)] w _
  by_cases h1 : 0 < n
  · by_cases h2 : f ≤ x
    · have d1 : decide (0 < n) = true := by simp [h1]
      have d2 : decide (f ≤ x) = true := by simp [h2]
      go_enter Try.func31, Try.ntmps31
      go_wp2
      go_ret
      exact ⟨by unfold dropB w64u; rw [d1, d2]; rfl, 0, rfl⟩
    · have d1 : decide (0 < n) = true := by simp [h1]
      have d2 : decide (f ≤ x) = false := by simp [h2]
      go_enter Try.func31, Try.ntmps31
      go_wp2
      go_ret
      exact ⟨by unfold dropB; rw [d1, d2]; rfl, 0, rfl⟩
  · have d1 : decide (0 < n) = false := by simp [h1]
    go_enter Try.func31, Try.ntmps31
    go_wp2
    go_ret
    exact ⟨by unfold dropB; rw [d1]; rfl, 0, rfl⟩

theorem grow_none (w : World) : grow w #[] = w := by simp [grow]

/-- A row of the call's own, written over in place, and cut. -/
theorem owns_putRow {w : World} {base g cap : Nat} {e : TypeId} {cur : Array Value} (d : List Int) (m q : Nat) (hbase : base ≤ g) (hb : w.heap[g]? = some (.cells cur e (0, 0))) (h2 : cap ≤ maxLen) (h3 : cur.size = cap) (hd : d.length ≤ cap) (hm : m ≤ d.length) :
    (putRow (Value.int .i64) (Sort.ahead w q) g 0 d.toArray).ownsRow base e 1 (.slice (some ⟨g, 0, none⟩) m cap) m ((d.take m).map (Value.int .i64)) := by
  have hh := heap_sortedI (n := q) (os := #[]) d.toArray hb
  rw [grow_none] at hh
  have ht := take_putCellsI cur d (by omega)
  refine ⟨by simp; omega, .inr ⟨g, cap, _, rfl, hbase, hh, by omega, h2, by simp [putCells, h3], ?_⟩⟩
  rw [List.map_take, ← ht, List.take_take, Nat.mul_one, Nat.min_eq_left hm]
theorem below_putRow {w : World} {base g q : Nat} (d : Array Int) (hbase : base ≤ g) (hb : base ≤ w.heap.size) : Below base w (putRow (Value.int .i64) (Sort.ahead w q) g 0 d) := by
  have := grownBy_sortedI (w := w) (g := g) (n := q) (os := #[]) d
  rw [grow_none] at this
  exact Below.grown (Below.refl _ _) this hb (by intro k hk; cases hk; exact hbase)

set_option maxHeartbeats 400000 in
theorem deleteFunc_empty (p : Option Addr) (c : Nat) (fv : Value) (w : World) :
    Calls Try.prog 30 #[.slice p 0 c, fv] w fun e w' => e = .returned (.slice p 0 c) ∧ w' = w := by
  go_enter Try.func30, Try.ntmps30
  go_wp2_with (go_at_call 39; refine (Try.slices_IndexFunc_empty (α := Int) p c fv w).mono ?_; rintro e w' ⟨rfl, rfl⟩)
  go_ret
  exact ⟨rfl, rfl⟩

def keepB (f n x : Int) : Bool := !dropB f n x

theorem delete_own (base : Nat) (v : Value) (xs : List Int) (f n : Int) (bn bf : Nat) (w : World) (hown : w.ownsRow base 3 1 v xs.length (xs.map (Value.int .i64))) (hsz : xs.length ≤ 1000000) (hbase : base ≤ w.heap.size)
    (hn : w.cell? ⟨bn, 0, none⟩ = some (.int .i64 n)) (hf : w.cell? ⟨bf, 0, none⟩ = some (.int .i64 f)) (hbn : bn < base) (hbf : bf < base) :
    Calls Try.prog 30 #[v, .func (.func 31) #[] #[.pointer (some ⟨bn, 0, none⟩), .pointer (some ⟨bf, 0, none⟩)]] w fun e w' => ∃ v', e = .returned v' ∧ Ints w' v' (xs.filter (keepB f n)) ∧ Below base w w' := by
  rcases hown.2 with ⟨rfl, h0⟩ | ⟨g, cap, cur, rfl, hbg, hg, hnc, hcm, hcs, htake⟩
  · have hx0 : xs = [] := List.eq_nil_of_length_eq_zero h0
    subst hx0
    exact (deleteFunc_empty none 0 _ w).mono fun e w' ⟨h1, h2⟩ => ⟨_, h1, Ints.nil _ _ _ (Nat.zero_le _), by subst h2; exact Below.refl _ _⟩
  · have eg : ∀ args w, (callFunc 31 args).run Try.prog w = .ok (.enter 31 args) w := enters_of Try.func31 (by kernel_rfl) rfl
    have hgs : g < w.heap.size := (Array.getElem?_eq_some_iff.1 hg).1
    have htk : cur.toList.take xs.length = xs.map (Value.int .i64) := by simpa using htake
    have hH := holds_of_blockI (ss := xs) hg htk
    have hpa : PredAt Try.prog 31 #[.pointer (some ⟨bn, 0, none⟩), .pointer (some ⟨bf, 0, none⟩)] (Value.int .i64) (dropB f n) w := fun W x hb =>
      dropFn f n x bn bf W (by rw [Below.cell hb (by show bn < _; omega)]; exact hn) (by rw [Below.cell hb (by show bf < _; omega)]; exact hf)
    have hpo : PredOver Try.prog 31 #[.pointer (some ⟨bn, 0, none⟩), .pointer (some ⟨bf, 0, none⟩)] (Value.int .i64) (dropB f n) g 0 xs.toArray.size w := fun m os dk x _ => by
      refine dropFn f n x bn bf _ ?_ ?_
      · unfold sortWorld
        rw [cell?_grow _ _ _ (by show bn < (putRow _ _ _ _ _).heap.size; rw [size_putRow]; show bn < w.heap.size; omega), cell?_putRow_other _ _ g 0 _ _ (Or.inl (by show bn ≠ g; omega))]
        exact hn
      · unfold sortWorld
        rw [cell?_grow _ _ _ (by show bf < (putRow _ _ _ _ _).heap.size; rw [size_putRow]; show bf < w.heap.size; omega), cell?_putRow_other _ _ g 0 _ _ (Or.inl (by show bf ≠ g; omega))]
        exact hf
    have hcon := Try.slices_DeleteFunc (Value.int .i64) (fun _ => rfl) (dropB f n) 31 _ eg 0 Try.zeroValue3 g 0 cap xs.toArray w hpa hpo hH (by simp; omega) (by simpa using hnc)
    have e1 : xs.toArray.size = xs.length := by simp
    rw [e1] at hcon
    refine hcon.mono ?_
    rintro e w' ⟨rfl, q, rfl⟩
    have hle := List.length_filter_le (keepB f n) xs
    have := owns_putRow (w := w) (base := base) (cap := cap) (e := 3) (xs.filter (keepB f n) ++ List.replicate (xs.length - (xs.filter (keepB f n)).length) 0) (xs.filter (keepB f n)).length q hbg hg hcm (by omega) (by simp; omega) (by simp)
    rw [List.take_append_of_le_length (Nat.le_refl _), List.take_length] at this
    exact ⟨_, rfl, Ints.ofOwns this, below_putRow _ hbg hbase⟩

set_option maxHeartbeats 1000000 in
theorem drop_any (v : Value) (xs : List Int) (f n : Int) (w : World) (h : Ints w v xs) (hsz : xs.length ≤ 1000000) :
    Calls Try.prog 22 #[v, .int .i64 f, .int .i64 n] w fun e w' => ∃ v', e = .returned v' ∧ Ints w' v' (xs.filter (keepB f n)) ∧ Ext w w' := by
  have HC := Lib.hid fun o1 o2 => clone_any v xs ((w.alloc o1).alloc o2) (h.ext (((Ext.rfl' w).alloc o1).alloc o2)) hsz
  obtain ⟨p, c, rfl, _⟩ := h.form
  clear h
  go_enter Try.func22, Try.ntmps22
  go_wp2_with (first
    | (go_at_call 25; refine (HC.out _ _).mono ?_; rintro e w1 ⟨v1, rfl, hown, hext⟩)
    | fail)
  refine (delete_own _ v1 xs f n (w.heap.size + 1) w.heap.size w1 hown hsz hext.size (hext.cell (by simp)) (hext.cell (by simp)) (by simp) (by simp; omega)).mono ?_
  rintro e w2 ⟨v2, rfl, hin, hb2⟩
  have HI := Lib.hid hin
  have HE : Hid (Ext w w2) := Lib.hid (Ext.step (((Ext.rfl' w).alloc _).alloc _) (Below.trans hext hb2))
  clear hin hb2 hext hown
  go_wp2_with fail
  go_ret
  exact ⟨_, rfl, HI.out, HE.out⟩

theorem keepB_in {f n : Int} {xs : List Int} (hx : Wf xs) (hf : -9223372036854775808 ≤ f ∧ f ≤ 9223372036854775807) (hn : -9223372036854775808 ≤ n ∧ n ≤ 9223372036854775807) : xs.filter (keepB f n) = xs.filter (inB f n) := by
  refine List.filter_congr fun x hm => ?_
  unfold keepB inB
  rw [dropB_out (hx x hm) hf hn]
theorem keepB_ne {n : Int} {xs : List Int} (hx : Wf xs) (hn : -9223372036854775808 ≤ n ∧ n ≤ 9223372036854775807) : xs.filter (keepB n 1) = xs.filter (ne n) := by
  rw [keepB_in hx hn (by omega)]
  refine List.filter_congr fun x hm => ?_
  unfold inB outB ne
  rw [Bool.eq_iff_iff]
  simp
  omega

set_option maxHeartbeats 1000000 in
theorem without_any (v : Value) (xs : List Int) (n : Int) (w : World) (h : Ints w v xs) (hsz : xs.length ≤ 1000000) :
    Calls Try.prog 17 #[v, .int .i64 n] w fun e w' => ∃ v', e = .returned v' ∧ Ints w' v' (xs.filter (keepB n 1)) ∧ Ext w w' := by
  have HC := Lib.hid (drop_any v xs n 1 w h hsz)
  obtain ⟨p, c, rfl, _⟩ := h.form
  clear h
  go_enter Try.func17, Try.ntmps17
  go_wp2_with (go_at_call 22; refine HC.out.mono ?_; rintro e w1 ⟨v1, rfl, hin, hext⟩)
  go_ret
  exact ⟨_, rfl, hin, hext⟩
end Go.Proofs.Ytlpkidpkgbjenaa
