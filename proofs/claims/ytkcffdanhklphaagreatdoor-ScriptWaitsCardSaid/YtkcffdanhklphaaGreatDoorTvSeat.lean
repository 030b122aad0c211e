/-
  The evaluator at this program: its functions, types and laws.
-/
import Derived.Test.YtkcffdanhklphaaGreatDoorTvPD
import Derived.Test.YtkcffdanhklphaaGreatDoorTvT
import Derived.Test.YtkcffdanhklphaaGreatDoorNumD
import Derived.Shelf.Spec.SlicesInsertGrow
import Derived.Test.YtkcffdanhklphaaGreatDoorAsD
import Derived.Test.YtkcffdanhklphaaGreatDoorIsD
import Derived.Test.YtkcffdanhklphaaGreatDoorKeysD
import Derived.Test.YtkcffdanhklphaaGreatDoorSumD
import Derived.Test.YtkcffdanhklphaaGreatDoorIdxD
import Derived.Test.YtkcffdanhklphaaGreatDoorRepD
import Derived.Test.YtkcffdanhklphaaGreatDoorSorD
import Derived.Test.YtkcffdanhklphaaGreatDoorPnuD
import Derived.Test.YtkcffdanhklphaaGreatDoorCutD
import Derived.Test.YtkcffdanhklphaaGreatDoorTxtD
import Derived.Test.YtkcffdanhklphaaGreatDoorCmpD
import Derived.Test.YtkcffdanhklphaaGreatDoorOrD
import Derived.Test.YtkcffdanhklphaaGreatDoorTldD
import Derived.Test.YtkcffdanhklphaaGreatDoorShelfD
set_option maxRecDepth 100000
noncomputable section
namespace Go.Ev
def fnsAll (X : Env) : List Func → Nat → Bool
  | [], _ => true
  | fn :: l, g => (X.orc g != 0 || fnOk X g fn) && !(fn.name == "runtime.NumGoroutine") && fnsAll X l (g + 1)
theorem fnsA : fnsAll XB Proofs.Tryz.prog.funcs.toList 0 = true := by decide +kernel
def tyEq (a b : Ty) : Bool := a.agg == b.agg && Nat.beq a.sz b.sz && Nat.beq a.kind b.kind && Nat.beq a.elem b.elem && a.arr == b.arr && a.zok == b.zok && Nat.beq a.zn b.zn && Nat.beq a.zN b.zN && a.fs == b.fs && Nat.beq a.key b.key
theorem tyEq_eq {a b : Ty} (h : tyEq a b = true) : a = b := by
  cases a; cases b
  simp only [tyEq, Bool.and_eq_true, beq_iff_eq, Nat.beq_eq] at h
  obtain ⟨⟨⟨⟨⟨⟨⟨⟨⟨h1, h2⟩, h3⟩, h4⟩, h5⟩, h6⟩, h7⟩, h8⟩, h9⟩, h10⟩ := h
  subst h1 h2 h3 h4 h5 h6 h7 h8 h9 h10
  rfl
def tyAll : Nat → Bool
  | 0 => true
  | n + 1 => tyEq (tyAt tyTab n) (tyOf Proofs.Tryz.prog n) && tyAll n
theorem tyAll_at : ∀ {n : Nat}, tyAll n = true → ∀ t, t < n → tyAt tyTab t = tyOf Proofs.Tryz.prog t
  | 0, _, t, ht => absurd ht (by omega)
  | n + 1, h, t, ht => by
    unfold tyAll at h
    rw [Bool.and_eq_true] at h
    by_cases e : t = n
    · subst e; exact tyEq_eq h.1
    · exact tyAll_at h.2 t (by omega)
theorem sizeP : Proofs.Tryz.prog.types.size = 607 := by decide +kernel
theorem tysA : tyAll 607 = true := by decide +kernel
end Go.Ev
set_option linter.unusedVariables false
set_option linter.unusedSimpArgs false
set_option maxRecDepth 100000
noncomputable section
namespace Go.Ev
open Go.Proofs Go.Shelf Go.RowKit Go.Lib
/-- copy, elements of s cells: all is read ahead of what is written -/
theorem run_copy_wide {P : Program} (w : World) (dT sT ty elem : TypeId) (b o dLen dCap s : Nat) (a : Addr) (sLen sCap : Nat) (cs : List Value)
    (hu : P.underlying dT = some (.slice elem)) (hs : (P.info? elem).map (·.size) = some s) (hn : cs.length = Nat.min sLen dLen * s)
    (hsrc : ∀ j v, cs[j]? = some v → w.cell? (a.add j) = some v) (hc : ∀ j, j < cs.length → (w.cell? ⟨b, o + j, none⟩).isSome = true) (hf : ∀ j, j < cs.length → w.frozen? ⟨b, o + j, none⟩ = false) (h1 : ∀ v ∈ cs, v.oneCell' = true) :
    (Builtin.copy_ #[dT, sT] ty #[.slice (some ⟨b, o, none⟩) dLen dCap, .slice (some a) sLen sCap]).run P w = .ok (goInt (Nat.min sLen dLen)) (w.setCells b o cs) := by
  have hl := run_loadCells_list (P := P) w a cs hsrc
  have hst := run_storeCells_cells (P := P) b o cs 0 w (by simpa using hc) (by simpa using hf) h1
  cases hq : P.info? elem with
  | none => simp [hq] at hs
  | some i =>
    have hi : i.size = s := by simpa [hq] using hs
    simp [Builtin.copy_, run_underlying hu, Builtin.lenOf, Builtin.firstCells, sizeOf, typeInfo, hq, hi, ← hn, hl, hst]
theorem setCells_same (b : Nat) : ∀ (vs : List Value) (o : Nat) (w : World), (w.setCells b o vs).os = w.os ∧ (w.setCells b o vs).output = w.output
  | [], _, _ => ⟨rfl, rfl⟩
  | v :: r, o, w => by
    rw [World.setCells]
    obtain ⟨a, c⟩ := setCells_same b r (o + 1) (w.setCell ⟨b, o, none⟩ v)
    have h : ∀ (w : World) (a : Addr) (v : Value), (w.setCell a v).os = w.os ∧ (w.setCell a v).output = w.output := fun w a v => by
      unfold World.setCell
      split <;> exact ⟨rfl, rfl⟩
    exact ⟨a.trans (h w _ v).1, c.trans (h w _ v).2⟩
/-- the cells f, as a list -/
theorem list_of {f : Nat → Option Value} {k : Nat} (h : OneC f k) : ∃ l : List Value, l.length = k ∧ (∀ j, j < k → f j = l[j]?) ∧ (∀ j v, l[j]? = some v → f j = some v) ∧ ∀ v ∈ l, v.oneCell' = true := by
  induction k with
  | zero => exact ⟨[], rfl, fun j hj => by omega, fun j v hv => by simp at hv, fun v hv => absurd hv (by simp)⟩
  | succ k ih =>
    obtain ⟨l, h1, h2, h3, h4⟩ := ih fun j hj => h j (by omega)
    obtain ⟨v, hv, h5⟩ := h k (by omega)
    refine ⟨l ++ [v], by simp [h1], fun j hj => ?_, fun j u hu => ?_, fun u hu => ?_⟩
    · by_cases hjk : j < k
      · rw [h2 j hjk, List.getElem?_append_left (by omega)]
      · obtain rfl : j = k := by omega
        rw [hv, ← h1]; simp
    · by_cases hjk : j < k
      · rw [List.getElem?_append_left (by omega)] at hu; exact h3 j u hu
      · have : j = k := by
          have := (List.getElem?_eq_some_iff.1 hu).1
          simp [h1] at this; omega
        subst this
        rw [hv, ← hu, ← h1]; simp
    · rcases List.mem_append.1 hu with hu | hu
      · exact h4 u hu
      · simp at hu; subst hu; exact h5
theorem spliced {s i n m : Nat} {old new : Nat → Option Value} {cs vs : List Value} (hin : i ≤ n) (h1 : cs.length = n * s) (h2 : vs.length = m * s) (c1 : ∀ j, j < n * s → old j = cs[j]?) (v1 : ∀ j, j < m * s → new j = vs[j]?) : ∀ j, j < (n + m) * s → insA s i m old new j = if j < i * s then cs[j]? else if j < (i + m) * s then vs[j - i * s]? else cs[j - m * s]? := fun j hj => by
  have e1 := Nat.add_mul n m s
  have e2 := Nat.add_mul i m s
  have e3 : i * s ≤ n * s := Nat.mul_le_mul_right _ hin
  unfold insA
  by_cases a1 : j < i * s
  · rw [if_pos a1, if_pos a1]; exact c1 j (by omega)
  · rw [if_neg a1, if_neg a1]
    by_cases a2 : j < (i + m) * s
    · rw [if_pos a2, if_pos a2]; exact v1 _ (by omega)
    · rw [if_neg a2, if_neg a2]; exact c1 _ (by omega)
set_option maxHeartbeats 4000000 in
theorem int_shift (b off n c i vb voff m vc : Nat) (cs vs : List Value) (w : World) (hi : i < n) (hm : 0 < m) (hroom : n + m ≤ c) (hc63 : n + m ≤ 16777214) (hvb : vb ≠ b)
    (hcl : cs.length = n * 1) (hvl : vs.length = m * 1)
    (hcs : ∀ j v, cs[j]? = some v → w.cell? ⟨b, off + j, none⟩ = some v) (hsp : ∀ j, j < (n + m) * 1 → (w.cell? ⟨b, off + j, none⟩).isSome = true) (hfz : ∀ j, j < (n + m) * 1 → w.frozen? ⟨b, off + j, none⟩ = false)
    (hvs : ∀ j v, vs[j]? = some v → w.cell? ⟨vb, voff + j, none⟩ = some v) (h1c : ∀ v ∈ cs, v.oneCell' = true) (h1v : ∀ v ∈ vs, v.oneCell' = true)
    (tA tB : TypeId) (kA kB : Nat) (hsa : w.shape? vb = some (tA, kA)) (hsb : w.shape? b = some (tB, kB)) (hkB : kB ≠ 0) (hfa : w.frozen? ⟨vb, voff, none⟩ = false) (hfe : w.frozen? ⟨vb, kA, none⟩ = false) :
    Calls Tryz.prog 171 #[.slice (some ⟨b, off, none⟩) n c, .int .i64 i, .slice (some ⟨vb, voff, none⟩) m vc] w fun e w' =>
      e = .returned (.slice (some ⟨b, off, none⟩) (n + m) c) ∧ w' = (w.drew.setCells b (off + (i + m)) (cs.drop ((i)))).setCells b (off + (i)) vs := by
  have hz1 : ¬ ((m : Int) = 0) := by omega
  have hz2 : ¬ ((i : Int) = (n : Int)) := by omega
  have hsz : (Tryz.prog.info? 3).map (·.size) = some 1 := by kernel_rfl
  have hw1 : IntKind.i64.wrap ((i : Int) + (m : Int)) = (i : Int) + (m : Int) := by rw [IntKind.wrap_i64]; omega
  have hw2 : IntKind.i64.wrap ((n : Int) + (m : Int)) = (n : Int) + (m : Int) := by rw [IntKind.wrap_i64]; omega
  have hb1 : (0 : Int) ≤ (i : Int) + (m : Int) := by omega
  have hin : i ≤ n := by omega
  have htn : ((i : Int) + (m : Int)).toNat = i + m := by omega
  have hb2 : ¬ (c = i + m) := by omega
  have hb3 : (i : Int) ≤ (n : Int) + (m : Int) := by omega
  have hb4 : ¬ (c = i) := by omega
  have htn2 : ((n : Int) + (m : Int)).toNat = n + m := by omega
  have hov : ∀ lb cb o', (callFunc 243 #[.slice (some ⟨vb, voff, none⟩) m vc, .slice (some ⟨b, o', none⟩) lb cb]).run Tryz.prog w = .ok (.value (.bool false)) w := fun lb cb o' => by
    rw [run_callFunc_extern Tryz.func243 (by kernel_rfl) (by kernel_rfl) (by kernel_rfl) (e := Extern.SlicesOverlaps.overlaps #[96, 96] #[4]) (by kernel_rfl),
      Lib.run_overlaps_apart w 96 4 3 Tryz.underlying96 1 (fun w => by rfl) ⟨vb, voff, none⟩ ⟨b, o', none⟩ m vc lb cb hvb tA tB kA kB hsa hsb hkB hfa hfe]
    rfl
  have hdl : (cs.drop ((i))).length = (n - i) * 1 := by rw [List.length_drop, hcl]; omega
  obtain ⟨W1, hW1⟩ : ∃ W1, W1 = w.drew.setCells b (off + (i + m)) (cs.drop ((i))) := ⟨_, rfl⟩
  have hcp1 : ∀ ty dc sc, (Builtin.copy_ #[96, 96] ty #[.slice (some ⟨b, off + (i + m), none⟩) (n + m - (i + m)) dc, .slice (some ⟨b, off + (i), none⟩) (n + m - i) sc]).run Tryz.prog w.drew = .ok (goInt (Nat.min (n + m - i) (n + m - (i + m)))) W1 := fun ty dc sc => by
    rw [hW1]
    exact run_copy_wide w.drew _ _ ty 3 b (off + (i + m)) (n + m - (i + m)) dc 1 ⟨b, off + (i), none⟩ (n + m - i) sc (cs.drop ((i))) Tryz.underlying96 hsz (by rw [hdl]; congr 1; simp only [Nat.min_def]; split <;> omega)
      (fun j v hj => by rw [Addr.add_lit, Nat.add_assoc]; exact hcs ((i) + j) v (by rwa [List.getElem?_drop] at hj))
      (fun j hj => by rw [Nat.add_assoc]; exact hsp _ (by omega)) (fun j hj => by rw [Nat.add_assoc]; exact hfz _ (by omega)) (fun v hv => h1c v (List.mem_of_mem_drop hv))
  have hsp1 : ∀ k, k < (n + m) * 1 → (W1.cell? ⟨b, off + k, none⟩).isSome = true := fun k hk => by
    rw [hW1]
    exact isSome_setCells b _ _ _ (fun j hj => by rw [Nat.add_assoc]; exact hsp _ (by omega)) _ (hsp k hk)
  have hcp2 : ∀ (W : World), (∀ x, W.cell? x = W1.cell? x) → (∀ x, W.frozen? x = W1.frozen? x) → ∀ ty dc, (Builtin.copy_ #[96, 96] ty #[.slice (some ⟨b, off + (i), none⟩) (n + m - i) dc, .slice (some ⟨vb, voff, none⟩) m vc]).run Tryz.prog W = .ok (goInt (Nat.min m (n + m - i))) (W.setCells b (off + (i)) vs) := fun W hWc hWf ty dc =>
    run_copy_wide W _ _ ty 3 b (off + (i)) (n + m - i) dc 1 ⟨vb, voff, none⟩ m vc vs Tryz.underlying96 hsz (by rw [hvl]; congr 1; simp only [Nat.min_def]; split <;> omega)
      (fun j v hj => by
        rw [Addr.add_lit, hWc, hW1, World.cell?_setCells_out b _ _ _ _ (fun h _ => absurd h hvb)]
        exact hvs j v hj)
      (fun j hj => by rw [hWc, Nat.add_assoc]; exact hsp1 _ (by omega)) (fun j hj => by rw [hWf, hW1, World.frozen?_setCells, Nat.add_assoc]; exact hfz _ (by omega)) h1v
  rw [← hW1]
  have mixed : Tryz.prog.follows .mixedOrders = true := by kernel_rfl
  go_enter Tryz.func171, Tryz.ntmps171
  go_wp2_with (simp only [hov])
  go_region_law_o (refine step_copy_runI rfl _ _ 96 96 rfl _ _ (by simp [Act.eval, Act.put]) (by simp [Act.eval, Act.put]) (hcp1 _ _ _) ?_)
  go_wp2_with (at_builtin; refine wpList_copy_runI _ rfl _ _ 96 96 rfl _ _ rfl rfl (hcp2 _ (fun _ => rfl) (fun _ => rfl) _ _) ?_)
  go_ret
  exact ⟨rfl, by rw [hW1]⟩
set_option maxHeartbeats 4000000 in
theorem int_end_room (b off n c vb voff m vc : Nat) (vs : List Value) (w : World) (hm : 0 < m) (hroom : n + m ≤ c) (hc63 : n + m ≤ 16777214)
    (hvl : vs.length = m * 1) (hsp : ∀ j, j < m * 1 → (w.cell? ⟨b, off + n * 1 + j, none⟩).isSome = true) (hfz : ∀ j, j < m * 1 → w.frozen? ⟨b, off + n * 1 + j, none⟩ = false)
    (hvs : ∀ j v, vs[j]? = some v → w.cell? ⟨vb, voff + j, none⟩ = some v) (h1v : ∀ v ∈ vs, v.oneCell' = true) :
    Calls Tryz.prog 171 #[.slice (some ⟨b, off, none⟩) n c, .int .i64 n, .slice (some ⟨vb, voff, none⟩) m vc] w fun e w' =>
      e = .returned (.slice (some ⟨b, off, none⟩) (n + m) c) ∧ w' = w.setCells b (off + (n)) vs := by
  have mixed : Tryz.prog.follows .mixedOrders = true := by kernel_rfl
  have hz1 : ¬ ((m : Int) = 0) := by omega
  obtain ⟨i0, z, hi0, hz0, hzs, hby⟩ : ∃ i0 z, Tryz.prog.info? 3 = some i0 ∧ i0.zero = some z ∧ i0.size = 1 ∧ i0.bytes ≤ 8388608 := ⟨_, _, rfl, rfl, rfl, by decide⟩
  have hA : AppArg Tryz.prog 96 3 i0.size m z (.slice (some ⟨vb, voff, none⟩) m vc) w vs.toArray := .cells _ Tryz.underlying96 (fun _ h => by cases h) (fun w' => rfl) (by rw [hzs]; exact run_firstCells_some w 1 m ⟨vb, voff, none⟩ m vc vs hvl (fun j v hj => by rw [Addr.add_lit]; exact hvs j v hj))
  have hst : (storeCells ((⟨b, off, none⟩ : Addr).add (n * i0.size)) vs.toArray.toList).run Tryz.prog w = .ok () (w.setCells b (off + n * 1) vs) := by
    have h := run_storeCells_cells (P := Tryz.prog) b (off + n * 1) vs 0 w (fun j hj => by rw [Nat.add_zero]; exact hsp j (by omega)) (fun j hj => by rw [Nat.add_zero]; exact hfz j (by omega)) h1v
    rw [Nat.add_zero] at h
    rw [hzs, Addr.add_lit]; exact h
  have hrun : ∀ ty, (Builtin.append_ #[96, 96] ty #[.slice (some ⟨b, off, none⟩) n c, .slice (some ⟨vb, voff, none⟩) m vc]).run Tryz.prog w = .ok (.slice (some ⟨b, off, none⟩) (n + m) c) (w.setCells b (off + n * 1) vs) := fun ty =>
    run_append_in (P := Tryz.prog) (ty := ty) (w := w) (t := 96) (u := 96) rfl rfl rfl rfl Tryz.underlying96 hi0 hz0 hby hA hroom hst
  clear hA hst hi0 hz0
  go_enter Tryz.func171, Tryz.ntmps171
  go_wp2_with (at_builtin; refine Lib.wpList_append_run _ rfl _ _ _ _ rfl _ _ rfl rfl _ _ (hrun _) ?_)
  go_ret
  first | exact ⟨rfl, rfl⟩ | exact ⟨rfl, by rw [Nat.mul_one]⟩
set_option maxHeartbeats 4000000 in
theorem int_end_grow (base : Option Addr) (n c vb voff m vc : Nat) (cs vs : List Value) (w : World) (hm : 0 < m) (hnc : n ≤ c) (hroom : c < n + m) (hbig : n + m ≤ 16777214)
    (hcl : cs.length = n * 1) (hvl : vs.length = m * 1) (hnil : base = none → n = 0 ∧ c = 0)
    (hcs : ∀ a, base = some a → ∀ j v, cs[j]? = some v → w.cell? (a.add j) = some v)
    (hvs : ∀ j v, vs[j]? = some v → w.cell? ⟨vb, voff + j, none⟩ = some v) :
    Calls Tryz.prog 171 #[.slice base n c, .int .i64 n, .slice (some ⟨vb, voff, none⟩) m vc] w fun e w' => ∃ (z : Value) (rest : Array Value), z.cells.size = 1 ∧ rest = Builtin.zeroCells z.cells (grownCap w (n + m) c 3 - (n + m)) ∧
      e = .returned (.slice (some ⟨w.heap.size, 0, none⟩) (n + m) (grownCap w (n + m) c 3)) ∧ w' = w.drew.alloc (.cells (cs.toArray ++ vs.toArray ++ rest) 3) := by
  have mixed : Tryz.prog.follows .mixedOrders = true := by kernel_rfl
  have hz1 : ¬ ((m : Int) = 0) := by omega
  obtain ⟨i0, z, hi0, hz0, hzs, hby, hzc⟩ : ∃ i0 z, Tryz.prog.info? 3 = some i0 ∧ i0.zero = some z ∧ i0.size = 1 ∧ i0.bytes ≤ 8388608 ∧ z.cells.size = 1 := ⟨_, _, rfl, rfl, rfl, by decide, by decide⟩
  have hA : AppArg Tryz.prog 96 3 i0.size m z (.slice (some ⟨vb, voff, none⟩) m vc) w.drew vs.toArray := .cells _ Tryz.underlying96 (fun _ h => by cases h) (fun w' => rfl) (by rw [hzs]; exact run_firstCells_some w.drew 1 m ⟨vb, voff, none⟩ m vc vs hvl (fun j v hj => by rw [Addr.add_lit]; exact hvs j v hj))
  have hold : (Builtin.firstCells i0.size n (.slice base n c)).run Tryz.prog w.drew = .ok cs.toArray w.drew := by
    rw [hzs]
    cases base with
    | none =>
      obtain ⟨rfl, rfl⟩ := hnil rfl
      have hnil' : cs = [] := List.length_eq_zero_iff.1 (by omega)
      subst hnil'
      exact run_firstCells_none w.drew 1 0 0 0
    | some a => exact run_firstCells_some w.drew 1 n a n c cs hcl (fun j v hj => hcs a rfl j v hj)
  have hrun : ∀ ty, (Builtin.append_ #[96, 96] ty #[.slice base n c, .slice (some ⟨vb, voff, none⟩) m vc]).run Tryz.prog w = _ := fun ty =>
    run_append_new (P := Tryz.prog) (ty := ty) (w := w) (t := 96) (u := 96) (base := base) (sLen := n) (sCap := c) rfl rfl rfl rfl Tryz.underlying96 hi0 hz0 hby hA hold hroom hbig
  obtain ⟨ROW, hROW⟩ : ∃ ROW, ROW = cs.toArray ++ vs.toArray ++ Builtin.zeroCells z.cells (grownCap w (n + m) c 3 - (n + m)) := ⟨_, rfl⟩
  obtain ⟨C, hC⟩ : ∃ C, C = grownCap w (n + m) c 3 := ⟨_, rfl⟩
  rw [← hROW, ← hC] at hrun
  have hfin : ∀ (e : Ending) (w' : World), e = .returned (.slice (some ⟨w.heap.size, 0, none⟩) (n + m) C) ∧ w' = w.drew.alloc (.cells ROW 3) → ∃ (z : Value) (rest : Array Value), z.cells.size = 1 ∧ rest = Builtin.zeroCells z.cells (grownCap w (n + m) c 3 - (n + m)) ∧
      e = .returned (.slice (some ⟨w.heap.size, 0, none⟩) (n + m) (grownCap w (n + m) c 3)) ∧ w' = w.drew.alloc (.cells (cs.toArray ++ vs.toArray ++ rest) 3) := fun e w' ⟨h1, h2⟩ => ⟨z, _, hzc, rfl, by rw [h1, hC], by rw [h2, hROW]⟩
  clear hA hold hi0 hz0 hROW hC
  refine Calls.mono ?_ hfin
  clear hfin
  go_enter Tryz.func171, Tryz.ntmps171
  cases base with
  | none =>
    obtain ⟨rfl, rfl⟩ := hnil rfl
    go_wp2_with (at_builtin; refine Lib.wpList_append_run _ rfl _ _ _ _ rfl _ _ rfl rfl _ _ (hrun _) ?_)
    go_ret
    exact ⟨rfl, rfl⟩
  | some a =>
    obtain ⟨ab, ao, asp⟩ := a
    go_wp2_with (at_builtin; refine Lib.wpList_append_run _ rfl _ _ _ _ rfl _ _ rfl rfl _ _ (hrun _) ?_)
    all_goals (go_ret; exact ⟨rfl, rfl⟩)
set_option maxHeartbeats 4000000 in
theorem int_grow (b off n c i vb voff m vc : Nat) (cs vs : List Value) (w : World) (hi : i < n) (hm : 0 < m) (hnc : n ≤ c) (hroom : c < n + m) (hbig : n + m ≤ 16777214)
    (hcl : cs.length = n * 1) (hvl : vs.length = m * 1)
    (hcs : ∀ j v, cs[j]? = some v → w.cell? ⟨b, off + j, none⟩ = some v)
    (hvs : ∀ j v, vs[j]? = some v → w.cell? ⟨vb, voff + j, none⟩ = some v) (h1c : ∀ v ∈ cs, v.oneCell' = true) (h1v : ∀ v ∈ vs, v.oneCell' = true) :
    Calls Tryz.prog 171 #[.slice (some ⟨b, off, none⟩) n c, .int .i64 i, .slice (some ⟨vb, voff, none⟩) m vc] w fun e w' => ∃ ROW : Array Value, ROW.size = grownCap w (n + m) c 3 * 1 ∧ (∀ j, j < (i) → ROW[j]? = cs[j]?) ∧
      e = .returned (.slice (some ⟨w.heap.size, 0, none⟩) (n + m) (grownCap w (n + m) c 3)) ∧
      w' = (((w.alloc (.cells ROW 3)).drew.setCells w.heap.size ((i)) vs).drew).setCells w.heap.size ((i + m)) (cs.drop ((i))) := by
  obtain ⟨i0, z, hi0, hz0, hzs, hzb, hzc⟩ : ∃ i0 z, Tryz.prog.info? 3 = some i0 ∧ i0.zero = some z ∧ i0.size = 1 ∧ i0.bytes ≤ 8388608 ∧ z.cells.size = 1 := ⟨_, _, rfl, rfl, rfl, by decide, by decide⟩
  have mixed : Tryz.prog.follows .mixedOrders = true := by kernel_rfl
  have hz1 : ¬ ((m : Int) = 0) := by omega
  have hz2 : ¬ ((i : Int) = (n : Int)) := by omega
  have hz3 : (c : Int) < (n : Int) + (m : Int) := by omega
  have hsz : (Tryz.prog.info? 3).map (·.size) = some 1 := by rw [hi0]; simp [hzs]
  have hbw : b < w.heap.size := block_lt_of_cell (hcs 0 _ (List.getElem?_eq_getElem (by omega)))
  have hvw : vb < w.heap.size := block_lt_of_cell (hvs 0 _ (List.getElem?_eq_getElem (by omega)))
  have hkk : (n : Int) + (m : Int) - (i : Int) = ((n + m - i : Nat) : Int) := by omega
  have hik : i + (n + m - i) = n + m := by omega
  have hold : (Builtin.firstCells i0.size i (.slice (some ⟨b, off, none⟩) i c)).run Tryz.prog w.drew = .ok (cs.take ((i))).toArray w.drew := by
    rw [hzs]
    exact run_firstCells_some w.drew 1 i ⟨b, off, none⟩ i c (cs.take ((i))) (by rw [List.length_take]; omega) (fun j v hj => by
      rw [Addr.add_lit]
      rw [List.getElem?_take] at hj
      split at hj
      · exact hcs j v hj
      · cases hj)
  have hmul : (n + m) * i0.bytes ≤ 16777214 * 8388608 := Nat.mul_le_mul hbig hzb
  have hmul2 : (n + m - i) * i0.bytes ≤ 16777214 * 8388608 := Nat.mul_le_mul (by omega) hzb
  have hrz : ∀ ty, (Builtin.append_ #[96, 3] ty #[.slice (some ⟨b, off, none⟩) i c, .int .i64 ((n : Int) + (m : Int) - (i : Int))]).run Tryz.prog w =
      .ok (.slice (some ⟨w.heap.size, 0, none⟩) (n + m) (grownCap w (n + m) c 3)) (w.drew.alloc (.cells ((cs.take ((i))).toArray ++ Builtin.zeroCells z.cells (n + m - i) ++ Builtin.zeroCells z.cells (grownCap w (n + m) c 3 - (n + m))) 3)) := fun ty => by
    have h := Lib.run_append_grow_zeros w 96 3 ty 3 i0 z .i64 .i64 Tryz.underlying96 Tryz.underlying3 hi0 hz0 (some ⟨b, off, none⟩) i c (cs.take ((i))) hold (n + m - i) (by omega) (by omega) (by omega) (by omega) (by omega) (by rw [hik]; exact growslice_fits hroom (by omega))
    rw [hik] at h
    rw [hkk]
    exact h
  obtain ⟨G, hG⟩ : ∃ G, G = grownCap w (n + m) c 3 := ⟨_, rfl⟩
  obtain ⟨ROW, hROW⟩ : ∃ ROW : Array Value, ROW = (cs.take ((i))).toArray ++ Builtin.zeroCells z.cells (n + m - i) ++ Builtin.zeroCells z.cells (G - (n + m)) := ⟨_, rfl⟩
  have hGn : n + m ≤ G := by rw [hG]; exact grownCap_ge w _ _ _
  have hRs : ROW.size = G * 1 := by
    rw [hROW]
    simp only [Array.size_append, size_zero, hzc, List.size_toArray, List.length_take, hcl]
    omega
  have hRp : ∀ j, j < (i) → ROW[j]? = cs[j]? := fun j hj => by
    rw [hROW, Array.getElem?_append_left (by simp only [Array.size_append, List.size_toArray, List.length_take]; omega), Array.getElem?_append_left (by simp only [List.size_toArray, List.length_take]; omega)]
    simp only [List.getElem?_toArray, List.getElem?_take, if_pos hj]
  rw [← hG] at hrz ⊢
  rw [← hROW] at hrz
  have hRl : (n + m) * 1 ≤ ROW.size := by rw [hRs]; exact Nat.mul_le_mul_right _ hGn
  refine Calls.mono (R := fun e w' => e = .returned (.slice (some ⟨w.heap.size, 0, none⟩) (n + m) G) ∧ w' = (((w.alloc (.cells ROW 3)).drew.setCells w.heap.size ((i)) vs).drew).setCells w.heap.size ((i + m)) (cs.drop ((i)))) ?_ (fun e w' h => ⟨ROW, hRs, hRp, h.1, h.2⟩)
  clear hRp hROW
  obtain ⟨W1, hW1⟩ : ∃ W1, W1 = w.drew.alloc (.cells ROW 3) := ⟨_, rfl⟩
  rw [← hW1] at hrz
  have hN : ∀ j, j < (n + m) * 1 → (W1.cell? ⟨w.heap.size, j, none⟩).isSome = true := fun j hj => by
    rw [hW1, World.cell?_alloc_at (w := w.drew) ROW _ w.heap.size j rfl, Array.getElem?_eq_getElem (by omega)]; rfl
  have hNf : ∀ j, W1.frozen? ⟨w.heap.size, j, none⟩ = false := fun j => by rw [hW1]; exact World.frozen?_alloc_at (w := w.drew) ROW _ w.heap.size j rfl
  have hOb : ∀ j v, w.cell? ⟨b, j, none⟩ = some v → W1.cell? ⟨b, j, none⟩ = some v := fun j v h => by rw [hW1, World.cell?_alloc_past (w := w.drew) _ b j hbw]; exact h
  have hOv : ∀ j v, w.cell? ⟨vb, j, none⟩ = some v → W1.cell? ⟨vb, j, none⟩ = some v := fun j v h => by rw [hW1, World.cell?_alloc_past (w := w.drew) _ vb j hvw]; exact h
  have hcpA : ∀ (W : World), (∀ x, W.cell? x = W1.cell? x) → (∀ x, W.frozen? x = W1.frozen? x) → ∀ ty dc, (Builtin.copy_ #[96, 96] ty #[.slice (some ⟨w.heap.size, (i), none⟩) (n + m - i) dc, .slice (some ⟨vb, voff, none⟩) m vc]).run Tryz.prog W = .ok (goInt (Nat.min m (n + m - i))) (W.setCells w.heap.size ((i)) vs) := fun W hWc hWf ty dc =>
    run_copy_wide W _ _ ty 3 w.heap.size ((i)) (n + m - i) dc 1 ⟨vb, voff, none⟩ m vc vs Tryz.underlying96 hsz (by rw [hvl]; congr 1; simp only [Nat.min_def]; split <;> omega)
      (fun j v hj => by rw [Addr.add_lit, hWc]; exact hOv _ v (hvs j v hj))
      (fun j hj => by rw [hWc]; exact hN _ (by omega)) (fun j hj => by rw [hWf]; exact hNf _) h1v
  have hG63 : G ≤ 9223372036854775807 := by
    have := grownCap_le_maxLen w (n + m) c 3 (by unfold maxLen; omega)
    rw [← hG] at this
    unfold maxLen at this
    omega
  have hGi : ¬ (G = i) := by omega
  have hGim : ¬ (G = i + m) := by omega
  have hci : ¬ (c = i) := by omega
  have hbN : b ≠ w.heap.size := by omega
  have hdl : (cs.drop ((i))).length = (n - i) * 1 := by rw [List.length_drop, hcl]; omega
  have hcpB : ∀ (W : World), (∀ x, W.cell? x = (W1.setCells w.heap.size ((i)) vs).cell? x) → (∀ x, W.frozen? x = (W1.setCells w.heap.size ((i)) vs).frozen? x) → ∀ ty dc sc, (Builtin.copy_ #[96, 96] ty #[.slice (some ⟨w.heap.size, (i + m), none⟩) (n + m - (i + m)) dc, .slice (some ⟨b, off + (i), none⟩) (n - i) sc]).run Tryz.prog W = .ok (goInt (Nat.min (n - i) (n + m - (i + m)))) (W.setCells w.heap.size ((i + m)) (cs.drop ((i)))) := fun W hWc hWf ty dc sc =>
    run_copy_wide W _ _ ty 3 w.heap.size ((i + m)) (n + m - (i + m)) dc 1 ⟨b, off + (i), none⟩ (n - i) sc (cs.drop ((i))) Tryz.underlying96 hsz (by rw [hdl]; congr 1; simp only [Nat.min_def]; split <;> omega)
      (fun j v hj => by
        rw [Addr.add_lit, hWc, World.cell?_setCells_out _ _ _ _ _ (fun h _ => absurd h hbN), Nat.add_assoc]
        exact hOb _ v (hcs ((i) + j) v (by rwa [List.getElem?_drop] at hj)))
      (fun j hj => by rw [hWc]; exact isSome_setCells _ _ _ _ (fun t ht => hN _ (by omega)) _ (hN _ (by omega)))
      (fun j hj => by rw [hWf, World.frozen?_setCells]; exact hNf _) (fun v hv => h1c v (List.mem_of_mem_drop hv))
  subst hW1
  have hE1 : ∀ x, ((w.alloc (.cells ROW 3)).drew).cell? x = (w.drew.alloc (.cells ROW 3)).cell? x := fun x => rfl
  have hE2 : ∀ x, ((w.alloc (.cells ROW 3)).drew).frozen? x = (w.drew.alloc (.cells ROW 3)).frozen? x := fun x => rfl
  have hF1 : ∀ x, (((w.alloc (.cells ROW 3)).drew.setCells w.heap.size ((i)) vs).drew).cell? x = ((w.drew.alloc (.cells ROW 3)).setCells w.heap.size ((i)) vs).cell? x := fun x => rfl
  have hF2 : ∀ x, (((w.alloc (.cells ROW 3)).drew.setCells w.heap.size ((i)) vs).drew).frozen? x = ((w.drew.alloc (.cells ROW 3)).setCells w.heap.size ((i)) vs).frozen? x := fun x => rfl
  have hw1 : IntKind.i64.wrap ((i : Int) + (m : Int)) = (i : Int) + (m : Int) := by rw [IntKind.wrap_i64]; omega
  have hb1 : (0 : Int) ≤ (i : Int) + (m : Int) := by omega
  have hin : i ≤ n := by omega
  have htn : ((i : Int) + (m : Int)).toNat = i + m := by omega
  have hb3 : (i : Int) ≤ (n : Int) := by omega
  clear hkk hik hold hG hRl hRs hmul hmul2 hi0 hz0 hzb
  go_enter Tryz.func171, Tryz.ntmps171
  go_wp2_with (first
    | (at_builtin; refine Lib.wpList_append_run _ rfl _ _ _ _ rfl _ _ rfl rfl _ _ (hrz _) ?_)
    | (at_builtin; refine wpList_copy_runI _ rfl _ _ 96 96 rfl _ _ rfl rfl (hcpA _ hE1 hE2 _ _) ?_)
    | (at_builtin; refine wpList_copy_runI _ rfl _ _ 96 96 rfl _ _ rfl rfl (hcpB _ (fun _ => rfl) (fun _ => rfl) _ _ _) ?_))
  go_region_law_o (refine step_copy_runI rfl _ _ 96 96 rfl (.slice (some ⟨w.heap.size, (i + m), none⟩) (n + m - (i + m)) (G - (i + m))) (.slice (some ⟨b, off + (i), none⟩) (n - i) (c - i)) (by simp [Act.eval, Act.put]) (by simp [Act.eval, Act.put]) (hcpB _ hF1 hF2 3 (G - (i + m)) (c - i)) ?_)
  go_wp2
  go_ret
  exact ⟨rfl, rfl⟩
theorem insInt : InsLaw Tryz.prog 171 1 where
  room := fun w B β n c i vB vo m vc cells vcells el vel fz vfz hB hV hne hcap hfz hvc hvz hin hm hmc hroom hsm hc hv => by
    obtain ⟨cs, c1, c2, c3, c4⟩ := list_of hc
    obtain ⟨vs, v1, v2, v3, v4⟩ := list_of hv
    have hcs0 : n * 1 ≤ cells.size := by omega
    have hsp : ∀ j, j < c * 1 → (w.cell? ⟨B, β + j, none⟩).isSome = true := fun j hj => by
      rw [cell_of hB, Array.getElem?_eq_getElem (by omega)]; rfl
    have hff : ∀ j, j < c * 1 → w.frozen? ⟨B, β + j, none⟩ = false := fun j hj => by
      rw [frozen_of hB]
      rcases hfz with h | h | h <;> simp <;> omega
    have hvf : ∀ j, w.frozen? ⟨vB, j, none⟩ = false := fun j => by
      rw [frozen_of hV]; simp; omega
    have hA : ∀ j v, cs[j]? = some v → w.cell? ⟨B, β + j, none⟩ = some v := fun j v h => by rw [cell_of hB]; exact c3 j v h
    have hU : ∀ j v, vs[j]? = some v → w.cell? ⟨vB, vo + j, none⟩ = some v := fun j v h => by rw [cell_of hV]; exact v3 j v h
    by_cases hi : i < n
    · refine (int_shift B β n c i vB vo m vc cs vs w hi hm hroom hsm hne c1 v1 hA (fun j hj => hsp j (by omega)) (fun j hj => hff j (by omega)) hU c4 v4 vel el vcells.size cells.size (by unfold World.shape?; rw [hV]) (by unfold World.shape?; rw [hB]) (by omega) (hvf _) (hvf _)).mono ?_
      rintro e w' ⟨rfl, rfl⟩
      refine ⟨rfl, ?_⟩
      obtain ⟨cells1, d1, d2, d3, d4, d5⟩ := setCells_at (B := B) (el := el) (fz := fz) (cs.drop ((i))) (β + (i + m)) w.drew cells hB
      obtain ⟨cells2, e1, e2, e3, e4, e5⟩ := setCells_at (B := B) (el := el) (fz := fz) vs (β + (i)) _ cells1 d1
      have s1 := setCells_same B (cs.drop ((i))) (β + (i + m)) w.drew
      have s2 := setCells_same B vs (β + (i)) (w.drew.setCells B (β + (i + m)) (cs.drop ((i))))
      refine ⟨cells2, e1, by omega, fun j hj => ?_, fun b hb => (e4 b hb).trans (d4 b hb), e5.trans d5, s2.1.trans s1.1, s2.2.trans s1.2⟩
      rw [spliced hin c1 v1 c2 v2 j hj, e3, d3, List.length_drop]
      simp only [Nat.mul_one]
      by_cases a1 : j < (i)
      · rw [if_pos a1, if_neg (by omega), if_neg (by omega)]; exact c2 j (by omega)
      · rw [if_neg a1]
        by_cases a2 : j < (i + m)
        · rw [if_pos a2, if_pos (by omega), show β + j - (β + (i)) = j - (i) by omega]
        · rw [if_neg a2, if_neg (by omega), if_pos (by omega), List.getElem?_drop, show (i) + (β + j - (β + (i + m))) = j - (m) by omega]
    · obtain rfl : i = n := by omega
      refine (int_end_room B β i c vB vo m vc vs w hm hroom hsm v1 (fun j hj => by rw [Nat.add_assoc]; exact hsp _ (by omega)) (fun j hj => by rw [Nat.add_assoc]; exact hff _ (by omega)) hU v4).mono ?_
      rintro e w' ⟨rfl, rfl⟩
      refine ⟨rfl, ?_⟩
      obtain ⟨cells2, e1, e2, e3, e4, e5⟩ := setCells_at (B := B) (el := el) (fz := fz) vs (β + (i)) w cells hB
      have s2 := setCells_same B vs (β + (i)) w
      refine ⟨cells2, e1, e2, fun j hj => ?_, e4, e5, s2.1, s2.2⟩
      rw [spliced hin c1 v1 c2 v2 j hj, e3]
      simp only [Nat.mul_one]
      by_cases a1 : j < (i)
      · rw [if_pos a1, if_neg (by omega)]; exact c2 j (by omega)
      · rw [if_neg a1, if_pos (by omega), if_pos (by omega), show β + j - (β + (i)) = j - (i) by omega]
  grow := fun w base n c i vB vo m vc old vcells vel vfz hnil hbase hV hvc hin hm hmc hnc hroom hsm hc hv => by
    obtain ⟨cs, c1, c2, c3, c4⟩ := list_of hc
    obtain ⟨vs, v1, v2, v3, v4⟩ := list_of hv
    have hU : ∀ j v, vs[j]? = some v → w.cell? ⟨vB, vo + j, none⟩ = some v := fun j v h => by rw [cell_of hV]; exact v3 j v h
    have hge := grownCap_ge w (n + m) c 3
    have hA : ∀ a, base = some a → ∀ j v, cs[j]? = some v → w.cell? ⟨a.block, a.off + j, none⟩ = some v := fun a ha j v h => by
      have hj := (List.getElem?_eq_some_iff.1 h).1
      rw [(hbase a ha).2 j (by omega)]; exact c3 j v h
    by_cases hi : i < n
    · have hb : ∃ a, base = some a := by
        cases base with
        | none => have := hnil rfl; omega
        | some a => exact ⟨a, rfl⟩
      obtain ⟨⟨ab, ao, asp⟩, rfl⟩ := hb
      have hsp : asp = none := (hbase _ rfl).1
      subst hsp
      refine (int_grow ab ao n c i vB vo m vc cs vs w hi hm hnc hroom hsm c1 v1 (hA _ rfl) hU c4 v4).mono ?_
      rintro e w' ⟨ROW, r1, r2, rfl, rfl⟩
      refine ⟨_, hge, rfl, ?_⟩
      have hnew : ((w.alloc (.cells ROW 3)).drew).heap[w.heap.size]? = some (.cells ROW 3 (0, 0)) := by
        show (w.heap.push _)[w.heap.size]? = _
        simp
      obtain ⟨cells1, d1, d2, d3, d4, d5⟩ := setCells_at (B := w.heap.size) (el := 3) (fz := (0, 0)) vs ((i)) _ ROW hnew
      obtain ⟨cells2, e1, e2, e3, e4, e5⟩ := setCells_at (B := w.heap.size) (el := 3) (fz := (0, 0)) (cs.drop ((i))) ((i + m)) (((w.alloc (.cells ROW 3)).drew.setCells w.heap.size ((i)) vs).drew) cells1 d1
      have s1 := setCells_same w.heap.size vs ((i)) ((w.alloc (.cells ROW 3)).drew)
      have s2 := setCells_same w.heap.size (cs.drop ((i))) ((i + m)) (((w.alloc (.cells ROW 3)).drew.setCells w.heap.size ((i)) vs).drew)
      have hle : (n + m) * 1 ≤ grownCap w (n + m) c 3 * 1 := Nat.mul_le_mul_right _ hge
      have hsz : (w.alloc (.cells ROW 3)).heap.size = w.heap.size + 1 := by show (w.heap.push _).size = _; simp
      refine ⟨cells2, _, e1, by omega, fun j hj => ?_, fun b hb => ?_, ?_, s2.1.trans s1.1, s2.2.trans s1.2⟩
      · rw [spliced hin c1 v1 c2 v2 j hj, e3, d3, List.length_drop]
        simp only [Nat.mul_one]
        by_cases a1 : j < (i)
        · rw [if_pos a1, if_neg (by omega), if_neg (by omega)]; exact r2 j (by omega)
        · rw [if_neg a1]
          by_cases a2 : j < (i + m)
          · rw [if_pos a2, if_neg (by omega), if_pos (by omega)]
          · rw [if_neg a2, if_pos (by omega), List.getElem?_drop, show (i) + (j - (i + m)) = j - (m) by omega]
      · have hne : b ≠ w.heap.size := by omega
        refine (e4 b hne).trans ((d4 b hne).trans ?_)
        show (w.heap.push _)[b]? = _
        rw [Array.getElem?_push_lt hb, Array.getElem?_eq_getElem hb]
      · have h5 := e5.trans d5
        have h6 : ((w.alloc (.cells ROW 3)).drew).heap.size = w.heap.size + 1 := hsz
        omega
    · obtain rfl : i = n := by omega
      refine (int_end_grow base i c vB vo m vc cs vs w hm hnc hroom hsm c1 v1 hnil (fun a ha j v h => by
        have := hA a ha j v h
        have hs := (hbase a ha).1
        obtain ⟨ab, ao, asp⟩ := a
        have hs : asp = none := hs
        subst hs
        rw [Addr.add_lit]; exact this) hU).mono ?_
      rintro e w' ⟨z, rest, z1, rfl, rfl, rfl⟩
      refine ⟨_, hge, rfl, cs.toArray ++ vs.toArray ++ Builtin.zeroCells z.cells (grownCap w (i + m) c 3 - (i + m)), 3, by show (w.heap.push _)[w.heap.size]? = _; rw [Array.getElem?_push_size], ?_, fun j hj => ?_, fun b hb => ?_, by show _ < (w.heap.push _).size; simp, rfl, rfl⟩
      · simp only [Array.size_append, size_zero, z1, List.size_toArray, c1, v1]
        omega
      · rw [spliced hin c1 v1 c2 v2 j hj, Array.getElem?_append_left (by simp only [Array.size_append, List.size_toArray]; omega)]
        simp only [Nat.mul_one]
        by_cases a1 : j < (i)
        · rw [if_pos a1, Array.getElem?_append_left (by simp only [List.size_toArray]; omega), List.getElem?_toArray]
        · rw [if_neg a1, if_pos (by omega), Array.getElem?_append_right (by simp only [List.size_toArray]; omega), List.getElem?_toArray, List.size_toArray, c1]
          rw [Nat.mul_one]
      · show (w.heap.push _)[b]? = _
        rw [Array.getElem?_push_lt hb, Array.getElem?_eq_getElem hb]
set_option maxHeartbeats 4000000 in
theorem str_shift (b off n c i vb voff m vc : Nat) (cs vs : List Value) (w : World) (hi : i < n) (hm : 0 < m) (hroom : n + m ≤ c) (hc63 : n + m ≤ 16777214) (hvb : vb ≠ b)
    (hcl : cs.length = n * 1) (hvl : vs.length = m * 1)
    (hcs : ∀ j v, cs[j]? = some v → w.cell? ⟨b, off + j, none⟩ = some v) (hsp : ∀ j, j < (n + m) * 1 → (w.cell? ⟨b, off + j, none⟩).isSome = true) (hfz : ∀ j, j < (n + m) * 1 → w.frozen? ⟨b, off + j, none⟩ = false)
    (hvs : ∀ j v, vs[j]? = some v → w.cell? ⟨vb, voff + j, none⟩ = some v) (h1c : ∀ v ∈ cs, v.oneCell' = true) (h1v : ∀ v ∈ vs, v.oneCell' = true)
    (tA tB : TypeId) (kA kB : Nat) (hsa : w.shape? vb = some (tA, kA)) (hsb : w.shape? b = some (tB, kB)) (hkB : kB ≠ 0) (hfa : w.frozen? ⟨vb, voff, none⟩ = false) (hfe : w.frozen? ⟨vb, kA, none⟩ = false) :
    Calls Tryz.prog 345 #[.slice (some ⟨b, off, none⟩) n c, .int .i64 i, .slice (some ⟨vb, voff, none⟩) m vc] w fun e w' =>
      e = .returned (.slice (some ⟨b, off, none⟩) (n + m) c) ∧ w' = (w.drew.setCells b (off + (i + m)) (cs.drop ((i)))).setCells b (off + (i)) vs := by
  have hz1 : ¬ ((m : Int) = 0) := by omega
  have hz2 : ¬ ((i : Int) = (n : Int)) := by omega
  have hsz : (Tryz.prog.info? 9).map (·.size) = some 1 := by kernel_rfl
  have hw1 : IntKind.i64.wrap ((i : Int) + (m : Int)) = (i : Int) + (m : Int) := by rw [IntKind.wrap_i64]; omega
  have hw2 : IntKind.i64.wrap ((n : Int) + (m : Int)) = (n : Int) + (m : Int) := by rw [IntKind.wrap_i64]; omega
  have hb1 : (0 : Int) ≤ (i : Int) + (m : Int) := by omega
  have hin : i ≤ n := by omega
  have htn : ((i : Int) + (m : Int)).toNat = i + m := by omega
  have hb2 : ¬ (c = i + m) := by omega
  have hb3 : (i : Int) ≤ (n : Int) + (m : Int) := by omega
  have hb4 : ¬ (c = i) := by omega
  have htn2 : ((n : Int) + (m : Int)).toNat = n + m := by omega
  have hov : ∀ lb cb o', (callFunc 402 #[.slice (some ⟨vb, voff, none⟩) m vc, .slice (some ⟨b, o', none⟩) lb cb]).run Tryz.prog w = .ok (.value (.bool false)) w := fun lb cb o' => by
    rw [run_callFunc_extern Tryz.func402 (by kernel_rfl) (by kernel_rfl) (by kernel_rfl) (e := Extern.SlicesOverlaps.overlaps #[35, 35] #[4]) (by kernel_rfl),
      Lib.run_overlaps_apart w 35 4 9 Tryz.underlying35 1 (fun w => by rfl) ⟨vb, voff, none⟩ ⟨b, o', none⟩ m vc lb cb hvb tA tB kA kB hsa hsb hkB hfa hfe]
    rfl
  have hdl : (cs.drop ((i))).length = (n - i) * 1 := by rw [List.length_drop, hcl]; omega
  obtain ⟨W1, hW1⟩ : ∃ W1, W1 = w.drew.setCells b (off + (i + m)) (cs.drop ((i))) := ⟨_, rfl⟩
  have hcp1 : ∀ ty dc sc, (Builtin.copy_ #[35, 35] ty #[.slice (some ⟨b, off + (i + m), none⟩) (n + m - (i + m)) dc, .slice (some ⟨b, off + (i), none⟩) (n + m - i) sc]).run Tryz.prog w.drew = .ok (goInt (Nat.min (n + m - i) (n + m - (i + m)))) W1 := fun ty dc sc => by
    rw [hW1]
    exact run_copy_wide w.drew _ _ ty 9 b (off + (i + m)) (n + m - (i + m)) dc 1 ⟨b, off + (i), none⟩ (n + m - i) sc (cs.drop ((i))) Tryz.underlying35 hsz (by rw [hdl]; congr 1; simp only [Nat.min_def]; split <;> omega)
      (fun j v hj => by rw [Addr.add_lit, Nat.add_assoc]; exact hcs ((i) + j) v (by rwa [List.getElem?_drop] at hj))
      (fun j hj => by rw [Nat.add_assoc]; exact hsp _ (by omega)) (fun j hj => by rw [Nat.add_assoc]; exact hfz _ (by omega)) (fun v hv => h1c v (List.mem_of_mem_drop hv))
  have hsp1 : ∀ k, k < (n + m) * 1 → (W1.cell? ⟨b, off + k, none⟩).isSome = true := fun k hk => by
    rw [hW1]
    exact isSome_setCells b _ _ _ (fun j hj => by rw [Nat.add_assoc]; exact hsp _ (by omega)) _ (hsp k hk)
  have hcp2 : ∀ (W : World), (∀ x, W.cell? x = W1.cell? x) → (∀ x, W.frozen? x = W1.frozen? x) → ∀ ty dc, (Builtin.copy_ #[35, 35] ty #[.slice (some ⟨b, off + (i), none⟩) (n + m - i) dc, .slice (some ⟨vb, voff, none⟩) m vc]).run Tryz.prog W = .ok (goInt (Nat.min m (n + m - i))) (W.setCells b (off + (i)) vs) := fun W hWc hWf ty dc =>
    run_copy_wide W _ _ ty 9 b (off + (i)) (n + m - i) dc 1 ⟨vb, voff, none⟩ m vc vs Tryz.underlying35 hsz (by rw [hvl]; congr 1; simp only [Nat.min_def]; split <;> omega)
      (fun j v hj => by
        rw [Addr.add_lit, hWc, hW1, World.cell?_setCells_out b _ _ _ _ (fun h _ => absurd h hvb)]
        exact hvs j v hj)
      (fun j hj => by rw [hWc, Nat.add_assoc]; exact hsp1 _ (by omega)) (fun j hj => by rw [hWf, hW1, World.frozen?_setCells, Nat.add_assoc]; exact hfz _ (by omega)) h1v
  rw [← hW1]
  have mixed : Tryz.prog.follows .mixedOrders = true := by kernel_rfl
  go_enter Tryz.func345, Tryz.ntmps345
  go_wp2_with (simp only [hov])
  go_region_law_o (refine step_copy_runI rfl _ _ 35 35 rfl _ _ (by simp [Act.eval, Act.put]) (by simp [Act.eval, Act.put]) (hcp1 _ _ _) ?_)
  go_wp2_with (at_builtin; refine wpList_copy_runI _ rfl _ _ 35 35 rfl _ _ rfl rfl (hcp2 _ (fun _ => rfl) (fun _ => rfl) _ _) ?_)
  go_ret
  exact ⟨rfl, by rw [hW1]⟩
set_option maxHeartbeats 4000000 in
theorem str_end_room (b off n c vb voff m vc : Nat) (vs : List Value) (w : World) (hm : 0 < m) (hroom : n + m ≤ c) (hc63 : n + m ≤ 16777214)
    (hvl : vs.length = m * 1) (hsp : ∀ j, j < m * 1 → (w.cell? ⟨b, off + n * 1 + j, none⟩).isSome = true) (hfz : ∀ j, j < m * 1 → w.frozen? ⟨b, off + n * 1 + j, none⟩ = false)
    (hvs : ∀ j v, vs[j]? = some v → w.cell? ⟨vb, voff + j, none⟩ = some v) (h1v : ∀ v ∈ vs, v.oneCell' = true) :
    Calls Tryz.prog 345 #[.slice (some ⟨b, off, none⟩) n c, .int .i64 n, .slice (some ⟨vb, voff, none⟩) m vc] w fun e w' =>
      e = .returned (.slice (some ⟨b, off, none⟩) (n + m) c) ∧ w' = w.setCells b (off + (n)) vs := by
  have mixed : Tryz.prog.follows .mixedOrders = true := by kernel_rfl
  have hz1 : ¬ ((m : Int) = 0) := by omega
  obtain ⟨i0, z, hi0, hz0, hzs, hby⟩ : ∃ i0 z, Tryz.prog.info? 9 = some i0 ∧ i0.zero = some z ∧ i0.size = 1 ∧ i0.bytes ≤ 8388608 := ⟨_, _, rfl, rfl, rfl, by decide⟩
  have hA : AppArg Tryz.prog 35 9 i0.size m z (.slice (some ⟨vb, voff, none⟩) m vc) w vs.toArray := .cells _ Tryz.underlying35 (fun _ h => by cases h) (fun w' => rfl) (by rw [hzs]; exact run_firstCells_some w 1 m ⟨vb, voff, none⟩ m vc vs hvl (fun j v hj => by rw [Addr.add_lit]; exact hvs j v hj))
  have hst : (storeCells ((⟨b, off, none⟩ : Addr).add (n * i0.size)) vs.toArray.toList).run Tryz.prog w = .ok () (w.setCells b (off + n * 1) vs) := by
    have h := run_storeCells_cells (P := Tryz.prog) b (off + n * 1) vs 0 w (fun j hj => by rw [Nat.add_zero]; exact hsp j (by omega)) (fun j hj => by rw [Nat.add_zero]; exact hfz j (by omega)) h1v
    rw [Nat.add_zero] at h
    rw [hzs, Addr.add_lit]; exact h
  have hrun : ∀ ty, (Builtin.append_ #[35, 35] ty #[.slice (some ⟨b, off, none⟩) n c, .slice (some ⟨vb, voff, none⟩) m vc]).run Tryz.prog w = .ok (.slice (some ⟨b, off, none⟩) (n + m) c) (w.setCells b (off + n * 1) vs) := fun ty =>
    run_append_in (P := Tryz.prog) (ty := ty) (w := w) (t := 35) (u := 35) rfl rfl rfl rfl Tryz.underlying35 hi0 hz0 hby hA hroom hst
  clear hA hst hi0 hz0
  go_enter Tryz.func345, Tryz.ntmps345
  go_wp2_with (at_builtin; refine Lib.wpList_append_run _ rfl _ _ _ _ rfl _ _ rfl rfl _ _ (hrun _) ?_)
  go_ret
  first | exact ⟨rfl, rfl⟩ | exact ⟨rfl, by rw [Nat.mul_one]⟩
set_option maxHeartbeats 4000000 in
theorem str_end_grow (base : Option Addr) (n c vb voff m vc : Nat) (cs vs : List Value) (w : World) (hm : 0 < m) (hnc : n ≤ c) (hroom : c < n + m) (hbig : n + m ≤ 16777214)
    (hcl : cs.length = n * 1) (hvl : vs.length = m * 1) (hnil : base = none → n = 0 ∧ c = 0)
    (hcs : ∀ a, base = some a → ∀ j v, cs[j]? = some v → w.cell? (a.add j) = some v)
    (hvs : ∀ j v, vs[j]? = some v → w.cell? ⟨vb, voff + j, none⟩ = some v) :
    Calls Tryz.prog 345 #[.slice base n c, .int .i64 n, .slice (some ⟨vb, voff, none⟩) m vc] w fun e w' => ∃ (z : Value) (rest : Array Value), z.cells.size = 1 ∧ rest = Builtin.zeroCells z.cells (grownCap w (n + m) c 9 - (n + m)) ∧
      e = .returned (.slice (some ⟨w.heap.size, 0, none⟩) (n + m) (grownCap w (n + m) c 9)) ∧ w' = w.drew.alloc (.cells (cs.toArray ++ vs.toArray ++ rest) 9) := by
  have mixed : Tryz.prog.follows .mixedOrders = true := by kernel_rfl
  have hz1 : ¬ ((m : Int) = 0) := by omega
  obtain ⟨i0, z, hi0, hz0, hzs, hby, hzc⟩ : ∃ i0 z, Tryz.prog.info? 9 = some i0 ∧ i0.zero = some z ∧ i0.size = 1 ∧ i0.bytes ≤ 8388608 ∧ z.cells.size = 1 := ⟨_, _, rfl, rfl, rfl, by decide, by decide⟩
  have hA : AppArg Tryz.prog 35 9 i0.size m z (.slice (some ⟨vb, voff, none⟩) m vc) w.drew vs.toArray := .cells _ Tryz.underlying35 (fun _ h => by cases h) (fun w' => rfl) (by rw [hzs]; exact run_firstCells_some w.drew 1 m ⟨vb, voff, none⟩ m vc vs hvl (fun j v hj => by rw [Addr.add_lit]; exact hvs j v hj))
  have hold : (Builtin.firstCells i0.size n (.slice base n c)).run Tryz.prog w.drew = .ok cs.toArray w.drew := by
    rw [hzs]
    cases base with
    | none =>
      obtain ⟨rfl, rfl⟩ := hnil rfl
      have hnil' : cs = [] := List.length_eq_zero_iff.1 (by omega)
      subst hnil'
      exact run_firstCells_none w.drew 1 0 0 0
    | some a => exact run_firstCells_some w.drew 1 n a n c cs hcl (fun j v hj => hcs a rfl j v hj)
  have hrun : ∀ ty, (Builtin.append_ #[35, 35] ty #[.slice base n c, .slice (some ⟨vb, voff, none⟩) m vc]).run Tryz.prog w = _ := fun ty =>
    run_append_new (P := Tryz.prog) (ty := ty) (w := w) (t := 35) (u := 35) (base := base) (sLen := n) (sCap := c) rfl rfl rfl rfl Tryz.underlying35 hi0 hz0 hby hA hold hroom hbig
  obtain ⟨ROW, hROW⟩ : ∃ ROW, ROW = cs.toArray ++ vs.toArray ++ Builtin.zeroCells z.cells (grownCap w (n + m) c 9 - (n + m)) := ⟨_, rfl⟩
  obtain ⟨C, hC⟩ : ∃ C, C = grownCap w (n + m) c 9 := ⟨_, rfl⟩
  rw [← hROW, ← hC] at hrun
  have hfin : ∀ (e : Ending) (w' : World), e = .returned (.slice (some ⟨w.heap.size, 0, none⟩) (n + m) C) ∧ w' = w.drew.alloc (.cells ROW 9) → ∃ (z : Value) (rest : Array Value), z.cells.size = 1 ∧ rest = Builtin.zeroCells z.cells (grownCap w (n + m) c 9 - (n + m)) ∧
      e = .returned (.slice (some ⟨w.heap.size, 0, none⟩) (n + m) (grownCap w (n + m) c 9)) ∧ w' = w.drew.alloc (.cells (cs.toArray ++ vs.toArray ++ rest) 9) := fun e w' ⟨h1, h2⟩ => ⟨z, _, hzc, rfl, by rw [h1, hC], by rw [h2, hROW]⟩
  clear hA hold hi0 hz0 hROW hC
  refine Calls.mono ?_ hfin
  clear hfin
  go_enter Tryz.func345, Tryz.ntmps345
  cases base with
  | none =>
    obtain ⟨rfl, rfl⟩ := hnil rfl
    go_wp2_with (at_builtin; refine Lib.wpList_append_run _ rfl _ _ _ _ rfl _ _ rfl rfl _ _ (hrun _) ?_)
    go_ret
    exact ⟨rfl, rfl⟩
  | some a =>
    obtain ⟨ab, ao, asp⟩ := a
    go_wp2_with (at_builtin; refine Lib.wpList_append_run _ rfl _ _ _ _ rfl _ _ rfl rfl _ _ (hrun _) ?_)
    all_goals (go_ret; exact ⟨rfl, rfl⟩)
set_option maxHeartbeats 4000000 in
theorem str_grow (b off n c i vb voff m vc : Nat) (cs vs : List Value) (w : World) (hi : i < n) (hm : 0 < m) (hnc : n ≤ c) (hroom : c < n + m) (hbig : n + m ≤ 16777214)
    (hcl : cs.length = n * 1) (hvl : vs.length = m * 1)
    (hcs : ∀ j v, cs[j]? = some v → w.cell? ⟨b, off + j, none⟩ = some v)
    (hvs : ∀ j v, vs[j]? = some v → w.cell? ⟨vb, voff + j, none⟩ = some v) (h1c : ∀ v ∈ cs, v.oneCell' = true) (h1v : ∀ v ∈ vs, v.oneCell' = true) :
    Calls Tryz.prog 345 #[.slice (some ⟨b, off, none⟩) n c, .int .i64 i, .slice (some ⟨vb, voff, none⟩) m vc] w fun e w' => ∃ ROW : Array Value, ROW.size = grownCap w (n + m) c 9 * 1 ∧ (∀ j, j < (i) → ROW[j]? = cs[j]?) ∧
      e = .returned (.slice (some ⟨w.heap.size, 0, none⟩) (n + m) (grownCap w (n + m) c 9)) ∧
      w' = (((w.alloc (.cells ROW 9)).drew.setCells w.heap.size ((i)) vs).drew).setCells w.heap.size ((i + m)) (cs.drop ((i))) := by
  obtain ⟨i0, z, hi0, hz0, hzs, hzb, hzc⟩ : ∃ i0 z, Tryz.prog.info? 9 = some i0 ∧ i0.zero = some z ∧ i0.size = 1 ∧ i0.bytes ≤ 8388608 ∧ z.cells.size = 1 := ⟨_, _, rfl, rfl, rfl, by decide, by decide⟩
  have mixed : Tryz.prog.follows .mixedOrders = true := by kernel_rfl
  have hz1 : ¬ ((m : Int) = 0) := by omega
  have hz2 : ¬ ((i : Int) = (n : Int)) := by omega
  have hz3 : (c : Int) < (n : Int) + (m : Int) := by omega
  have hsz : (Tryz.prog.info? 9).map (·.size) = some 1 := by rw [hi0]; simp [hzs]
  have hbw : b < w.heap.size := block_lt_of_cell (hcs 0 _ (List.getElem?_eq_getElem (by omega)))
  have hvw : vb < w.heap.size := block_lt_of_cell (hvs 0 _ (List.getElem?_eq_getElem (by omega)))
  have hkk : (n : Int) + (m : Int) - (i : Int) = ((n + m - i : Nat) : Int) := by omega
  have hik : i + (n + m - i) = n + m := by omega
  have hold : (Builtin.firstCells i0.size i (.slice (some ⟨b, off, none⟩) i c)).run Tryz.prog w.drew = .ok (cs.take ((i))).toArray w.drew := by
    rw [hzs]
    exact run_firstCells_some w.drew 1 i ⟨b, off, none⟩ i c (cs.take ((i))) (by rw [List.length_take]; omega) (fun j v hj => by
      rw [Addr.add_lit]
      rw [List.getElem?_take] at hj
      split at hj
      · exact hcs j v hj
      · cases hj)
  have hmul : (n + m) * i0.bytes ≤ 16777214 * 8388608 := Nat.mul_le_mul hbig hzb
  have hmul2 : (n + m - i) * i0.bytes ≤ 16777214 * 8388608 := Nat.mul_le_mul (by omega) hzb
  have hrz : ∀ ty, (Builtin.append_ #[35, 3] ty #[.slice (some ⟨b, off, none⟩) i c, .int .i64 ((n : Int) + (m : Int) - (i : Int))]).run Tryz.prog w =
      .ok (.slice (some ⟨w.heap.size, 0, none⟩) (n + m) (grownCap w (n + m) c 9)) (w.drew.alloc (.cells ((cs.take ((i))).toArray ++ Builtin.zeroCells z.cells (n + m - i) ++ Builtin.zeroCells z.cells (grownCap w (n + m) c 9 - (n + m))) 9)) := fun ty => by
    have h := Lib.run_append_grow_zeros w 35 3 ty 9 i0 z .i64 .i64 Tryz.underlying35 Tryz.underlying3 hi0 hz0 (some ⟨b, off, none⟩) i c (cs.take ((i))) hold (n + m - i) (by omega) (by omega) (by omega) (by omega) (by omega) (by rw [hik]; exact growslice_fits hroom (by omega))
    rw [hik] at h
    rw [hkk]
    exact h
  obtain ⟨G, hG⟩ : ∃ G, G = grownCap w (n + m) c 9 := ⟨_, rfl⟩
  obtain ⟨ROW, hROW⟩ : ∃ ROW : Array Value, ROW = (cs.take ((i))).toArray ++ Builtin.zeroCells z.cells (n + m - i) ++ Builtin.zeroCells z.cells (G - (n + m)) := ⟨_, rfl⟩
  have hGn : n + m ≤ G := by rw [hG]; exact grownCap_ge w _ _ _
  have hRs : ROW.size = G * 1 := by
    rw [hROW]
    simp only [Array.size_append, size_zero, hzc, List.size_toArray, List.length_take, hcl]
    omega
  have hRp : ∀ j, j < (i) → ROW[j]? = cs[j]? := fun j hj => by
    rw [hROW, Array.getElem?_append_left (by simp only [Array.size_append, List.size_toArray, List.length_take]; omega), Array.getElem?_append_left (by simp only [List.size_toArray, List.length_take]; omega)]
    simp only [List.getElem?_toArray, List.getElem?_take, if_pos hj]
  rw [← hG] at hrz ⊢
  rw [← hROW] at hrz
  have hRl : (n + m) * 1 ≤ ROW.size := by rw [hRs]; exact Nat.mul_le_mul_right _ hGn
  refine Calls.mono (R := fun e w' => e = .returned (.slice (some ⟨w.heap.size, 0, none⟩) (n + m) G) ∧ w' = (((w.alloc (.cells ROW 9)).drew.setCells w.heap.size ((i)) vs).drew).setCells w.heap.size ((i + m)) (cs.drop ((i)))) ?_ (fun e w' h => ⟨ROW, hRs, hRp, h.1, h.2⟩)
  clear hRp hROW
  obtain ⟨W1, hW1⟩ : ∃ W1, W1 = w.drew.alloc (.cells ROW 9) := ⟨_, rfl⟩
  rw [← hW1] at hrz
  have hN : ∀ j, j < (n + m) * 1 → (W1.cell? ⟨w.heap.size, j, none⟩).isSome = true := fun j hj => by
    rw [hW1, World.cell?_alloc_at (w := w.drew) ROW _ w.heap.size j rfl, Array.getElem?_eq_getElem (by omega)]; rfl
  have hNf : ∀ j, W1.frozen? ⟨w.heap.size, j, none⟩ = false := fun j => by rw [hW1]; exact World.frozen?_alloc_at (w := w.drew) ROW _ w.heap.size j rfl
  have hOb : ∀ j v, w.cell? ⟨b, j, none⟩ = some v → W1.cell? ⟨b, j, none⟩ = some v := fun j v h => by rw [hW1, World.cell?_alloc_past (w := w.drew) _ b j hbw]; exact h
  have hOv : ∀ j v, w.cell? ⟨vb, j, none⟩ = some v → W1.cell? ⟨vb, j, none⟩ = some v := fun j v h => by rw [hW1, World.cell?_alloc_past (w := w.drew) _ vb j hvw]; exact h
  have hcpA : ∀ (W : World), (∀ x, W.cell? x = W1.cell? x) → (∀ x, W.frozen? x = W1.frozen? x) → ∀ ty dc, (Builtin.copy_ #[35, 35] ty #[.slice (some ⟨w.heap.size, (i), none⟩) (n + m - i) dc, .slice (some ⟨vb, voff, none⟩) m vc]).run Tryz.prog W = .ok (goInt (Nat.min m (n + m - i))) (W.setCells w.heap.size ((i)) vs) := fun W hWc hWf ty dc =>
    run_copy_wide W _ _ ty 9 w.heap.size ((i)) (n + m - i) dc 1 ⟨vb, voff, none⟩ m vc vs Tryz.underlying35 hsz (by rw [hvl]; congr 1; simp only [Nat.min_def]; split <;> omega)
      (fun j v hj => by rw [Addr.add_lit, hWc]; exact hOv _ v (hvs j v hj))
      (fun j hj => by rw [hWc]; exact hN _ (by omega)) (fun j hj => by rw [hWf]; exact hNf _) h1v
  have hG63 : G ≤ 9223372036854775807 := by
    have := grownCap_le_maxLen w (n + m) c 9 (by unfold maxLen; omega)
    rw [← hG] at this
    unfold maxLen at this
    omega
  have hGi : ¬ (G = i) := by omega
  have hGim : ¬ (G = i + m) := by omega
  have hci : ¬ (c = i) := by omega
  have hbN : b ≠ w.heap.size := by omega
  have hdl : (cs.drop ((i))).length = (n - i) * 1 := by rw [List.length_drop, hcl]; omega
  have hcpB : ∀ (W : World), (∀ x, W.cell? x = (W1.setCells w.heap.size ((i)) vs).cell? x) → (∀ x, W.frozen? x = (W1.setCells w.heap.size ((i)) vs).frozen? x) → ∀ ty dc sc, (Builtin.copy_ #[35, 35] ty #[.slice (some ⟨w.heap.size, (i + m), none⟩) (n + m - (i + m)) dc, .slice (some ⟨b, off + (i), none⟩) (n - i) sc]).run Tryz.prog W = .ok (goInt (Nat.min (n - i) (n + m - (i + m)))) (W.setCells w.heap.size ((i + m)) (cs.drop ((i)))) := fun W hWc hWf ty dc sc =>
    run_copy_wide W _ _ ty 9 w.heap.size ((i + m)) (n + m - (i + m)) dc 1 ⟨b, off + (i), none⟩ (n - i) sc (cs.drop ((i))) Tryz.underlying35 hsz (by rw [hdl]; congr 1; simp only [Nat.min_def]; split <;> omega)
      (fun j v hj => by
        rw [Addr.add_lit, hWc, World.cell?_setCells_out _ _ _ _ _ (fun h _ => absurd h hbN), Nat.add_assoc]
        exact hOb _ v (hcs ((i) + j) v (by rwa [List.getElem?_drop] at hj)))
      (fun j hj => by rw [hWc]; exact isSome_setCells _ _ _ _ (fun t ht => hN _ (by omega)) _ (hN _ (by omega)))
      (fun j hj => by rw [hWf, World.frozen?_setCells]; exact hNf _) (fun v hv => h1c v (List.mem_of_mem_drop hv))
  subst hW1
  have hE1 : ∀ x, ((w.alloc (.cells ROW 9)).drew).cell? x = (w.drew.alloc (.cells ROW 9)).cell? x := fun x => rfl
  have hE2 : ∀ x, ((w.alloc (.cells ROW 9)).drew).frozen? x = (w.drew.alloc (.cells ROW 9)).frozen? x := fun x => rfl
  have hF1 : ∀ x, (((w.alloc (.cells ROW 9)).drew.setCells w.heap.size ((i)) vs).drew).cell? x = ((w.drew.alloc (.cells ROW 9)).setCells w.heap.size ((i)) vs).cell? x := fun x => rfl
  have hF2 : ∀ x, (((w.alloc (.cells ROW 9)).drew.setCells w.heap.size ((i)) vs).drew).frozen? x = ((w.drew.alloc (.cells ROW 9)).setCells w.heap.size ((i)) vs).frozen? x := fun x => rfl
  have hw1 : IntKind.i64.wrap ((i : Int) + (m : Int)) = (i : Int) + (m : Int) := by rw [IntKind.wrap_i64]; omega
  have hb1 : (0 : Int) ≤ (i : Int) + (m : Int) := by omega
  have hin : i ≤ n := by omega
  have htn : ((i : Int) + (m : Int)).toNat = i + m := by omega
  have hb3 : (i : Int) ≤ (n : Int) := by omega
  clear hkk hik hold hG hRl hRs hmul hmul2 hi0 hz0 hzb
  go_enter Tryz.func345, Tryz.ntmps345
  go_wp2_with (first
    | (at_builtin; refine Lib.wpList_append_run _ rfl _ _ _ _ rfl _ _ rfl rfl _ _ (hrz _) ?_)
    | (at_builtin; refine wpList_copy_runI _ rfl _ _ 35 35 rfl _ _ rfl rfl (hcpA _ hE1 hE2 _ _) ?_)
    | (at_builtin; refine wpList_copy_runI _ rfl _ _ 35 35 rfl _ _ rfl rfl (hcpB _ (fun _ => rfl) (fun _ => rfl) _ _ _) ?_))
  go_region_law_o (refine step_copy_runI rfl _ _ 35 35 rfl (.slice (some ⟨w.heap.size, (i + m), none⟩) (n + m - (i + m)) (G - (i + m))) (.slice (some ⟨b, off + (i), none⟩) (n - i) (c - i)) (by simp [Act.eval, Act.put]) (by simp [Act.eval, Act.put]) (hcpB _ hF1 hF2 3 (G - (i + m)) (c - i)) ?_)
  go_wp2
  go_ret
  exact ⟨rfl, rfl⟩
theorem insStr : InsLaw Tryz.prog 345 1 where
  room := fun w B β n c i vB vo m vc cells vcells el vel fz vfz hB hV hne hcap hfz hvc hvz hin hm hmc hroom hsm hc hv => by
    obtain ⟨cs, c1, c2, c3, c4⟩ := list_of hc
    obtain ⟨vs, v1, v2, v3, v4⟩ := list_of hv
    have hcs0 : n * 1 ≤ cells.size := by omega
    have hsp : ∀ j, j < c * 1 → (w.cell? ⟨B, β + j, none⟩).isSome = true := fun j hj => by
      rw [cell_of hB, Array.getElem?_eq_getElem (by omega)]; rfl
    have hff : ∀ j, j < c * 1 → w.frozen? ⟨B, β + j, none⟩ = false := fun j hj => by
      rw [frozen_of hB]
      rcases hfz with h | h | h <;> simp <;> omega
    have hvf : ∀ j, w.frozen? ⟨vB, j, none⟩ = false := fun j => by
      rw [frozen_of hV]; simp; omega
    have hA : ∀ j v, cs[j]? = some v → w.cell? ⟨B, β + j, none⟩ = some v := fun j v h => by rw [cell_of hB]; exact c3 j v h
    have hU : ∀ j v, vs[j]? = some v → w.cell? ⟨vB, vo + j, none⟩ = some v := fun j v h => by rw [cell_of hV]; exact v3 j v h
    by_cases hi : i < n
    · refine (str_shift B β n c i vB vo m vc cs vs w hi hm hroom hsm hne c1 v1 hA (fun j hj => hsp j (by omega)) (fun j hj => hff j (by omega)) hU c4 v4 vel el vcells.size cells.size (by unfold World.shape?; rw [hV]) (by unfold World.shape?; rw [hB]) (by omega) (hvf _) (hvf _)).mono ?_
      rintro e w' ⟨rfl, rfl⟩
      refine ⟨rfl, ?_⟩
      obtain ⟨cells1, d1, d2, d3, d4, d5⟩ := setCells_at (B := B) (el := el) (fz := fz) (cs.drop ((i))) (β + (i + m)) w.drew cells hB
      obtain ⟨cells2, e1, e2, e3, e4, e5⟩ := setCells_at (B := B) (el := el) (fz := fz) vs (β + (i)) _ cells1 d1
      have s1 := setCells_same B (cs.drop ((i))) (β + (i + m)) w.drew
      have s2 := setCells_same B vs (β + (i)) (w.drew.setCells B (β + (i + m)) (cs.drop ((i))))
      refine ⟨cells2, e1, by omega, fun j hj => ?_, fun b hb => (e4 b hb).trans (d4 b hb), e5.trans d5, s2.1.trans s1.1, s2.2.trans s1.2⟩
      rw [spliced hin c1 v1 c2 v2 j hj, e3, d3, List.length_drop]
      simp only [Nat.mul_one]
      by_cases a1 : j < (i)
      · rw [if_pos a1, if_neg (by omega), if_neg (by omega)]; exact c2 j (by omega)
      · rw [if_neg a1]
        by_cases a2 : j < (i + m)
        · rw [if_pos a2, if_pos (by omega), show β + j - (β + (i)) = j - (i) by omega]
        · rw [if_neg a2, if_neg (by omega), if_pos (by omega), List.getElem?_drop, show (i) + (β + j - (β + (i + m))) = j - (m) by omega]
    · obtain rfl : i = n := by omega
      refine (str_end_room B β i c vB vo m vc vs w hm hroom hsm v1 (fun j hj => by rw [Nat.add_assoc]; exact hsp _ (by omega)) (fun j hj => by rw [Nat.add_assoc]; exact hff _ (by omega)) hU v4).mono ?_
      rintro e w' ⟨rfl, rfl⟩
      refine ⟨rfl, ?_⟩
      obtain ⟨cells2, e1, e2, e3, e4, e5⟩ := setCells_at (B := B) (el := el) (fz := fz) vs (β + (i)) w cells hB
      have s2 := setCells_same B vs (β + (i)) w
      refine ⟨cells2, e1, e2, fun j hj => ?_, e4, e5, s2.1, s2.2⟩
      rw [spliced hin c1 v1 c2 v2 j hj, e3]
      simp only [Nat.mul_one]
      by_cases a1 : j < (i)
      · rw [if_pos a1, if_neg (by omega)]; exact c2 j (by omega)
      · rw [if_neg a1, if_pos (by omega), if_pos (by omega), show β + j - (β + (i)) = j - (i) by omega]
  grow := fun w base n c i vB vo m vc old vcells vel vfz hnil hbase hV hvc hin hm hmc hnc hroom hsm hc hv => by
    obtain ⟨cs, c1, c2, c3, c4⟩ := list_of hc
    obtain ⟨vs, v1, v2, v3, v4⟩ := list_of hv
    have hU : ∀ j v, vs[j]? = some v → w.cell? ⟨vB, vo + j, none⟩ = some v := fun j v h => by rw [cell_of hV]; exact v3 j v h
    have hge := grownCap_ge w (n + m) c 9
    have hA : ∀ a, base = some a → ∀ j v, cs[j]? = some v → w.cell? ⟨a.block, a.off + j, none⟩ = some v := fun a ha j v h => by
      have hj := (List.getElem?_eq_some_iff.1 h).1
      rw [(hbase a ha).2 j (by omega)]; exact c3 j v h
    by_cases hi : i < n
    · have hb : ∃ a, base = some a := by
        cases base with
        | none => have := hnil rfl; omega
        | some a => exact ⟨a, rfl⟩
      obtain ⟨⟨ab, ao, asp⟩, rfl⟩ := hb
      have hsp : asp = none := (hbase _ rfl).1
      subst hsp
      refine (str_grow ab ao n c i vB vo m vc cs vs w hi hm hnc hroom hsm c1 v1 (hA _ rfl) hU c4 v4).mono ?_
      rintro e w' ⟨ROW, r1, r2, rfl, rfl⟩
      refine ⟨_, hge, rfl, ?_⟩
      have hnew : ((w.alloc (.cells ROW 9)).drew).heap[w.heap.size]? = some (.cells ROW 9 (0, 0)) := by
        show (w.heap.push _)[w.heap.size]? = _
        simp
      obtain ⟨cells1, d1, d2, d3, d4, d5⟩ := setCells_at (B := w.heap.size) (el := 9) (fz := (0, 0)) vs ((i)) _ ROW hnew
      obtain ⟨cells2, e1, e2, e3, e4, e5⟩ := setCells_at (B := w.heap.size) (el := 9) (fz := (0, 0)) (cs.drop ((i))) ((i + m)) (((w.alloc (.cells ROW 9)).drew.setCells w.heap.size ((i)) vs).drew) cells1 d1
      have s1 := setCells_same w.heap.size vs ((i)) ((w.alloc (.cells ROW 9)).drew)
      have s2 := setCells_same w.heap.size (cs.drop ((i))) ((i + m)) (((w.alloc (.cells ROW 9)).drew.setCells w.heap.size ((i)) vs).drew)
      have hle : (n + m) * 1 ≤ grownCap w (n + m) c 9 * 1 := Nat.mul_le_mul_right _ hge
      have hsz : (w.alloc (.cells ROW 9)).heap.size = w.heap.size + 1 := by show (w.heap.push _).size = _; simp
      refine ⟨cells2, _, e1, by omega, fun j hj => ?_, fun b hb => ?_, ?_, s2.1.trans s1.1, s2.2.trans s1.2⟩
      · rw [spliced hin c1 v1 c2 v2 j hj, e3, d3, List.length_drop]
        simp only [Nat.mul_one]
        by_cases a1 : j < (i)
        · rw [if_pos a1, if_neg (by omega), if_neg (by omega)]; exact r2 j (by omega)
        · rw [if_neg a1]
          by_cases a2 : j < (i + m)
          · rw [if_pos a2, if_neg (by omega), if_pos (by omega)]
          · rw [if_neg a2, if_pos (by omega), List.getElem?_drop, show (i) + (j - (i + m)) = j - (m) by omega]
      · have hne : b ≠ w.heap.size := by omega
        refine (e4 b hne).trans ((d4 b hne).trans ?_)
        show (w.heap.push _)[b]? = _
        rw [Array.getElem?_push_lt hb, Array.getElem?_eq_getElem hb]
      · have h5 := e5.trans d5
        have h6 : ((w.alloc (.cells ROW 9)).drew).heap.size = w.heap.size + 1 := hsz
        omega
    · obtain rfl : i = n := by omega
      refine (str_end_grow base i c vB vo m vc cs vs w hm hnc hroom hsm c1 v1 hnil (fun a ha j v h => by
        have := hA a ha j v h
        have hs := (hbase a ha).1
        obtain ⟨ab, ao, asp⟩ := a
        have hs : asp = none := hs
        subst hs
        rw [Addr.add_lit]; exact this) hU).mono ?_
      rintro e w' ⟨z, rest, z1, rfl, rfl, rfl⟩
      refine ⟨_, hge, rfl, cs.toArray ++ vs.toArray ++ Builtin.zeroCells z.cells (grownCap w (i + m) c 9 - (i + m)), 9, by show (w.heap.push _)[w.heap.size]? = _; rw [Array.getElem?_push_size], ?_, fun j hj => ?_, fun b hb => ?_, by show _ < (w.heap.push _).size; simp, rfl, rfl⟩
      · simp only [Array.size_append, size_zero, z1, List.size_toArray, c1, v1]
        omega
      · rw [spliced hin c1 v1 c2 v2 j hj, Array.getElem?_append_left (by simp only [Array.size_append, List.size_toArray]; omega)]
        simp only [Nat.mul_one]
        by_cases a1 : j < (i)
        · rw [if_pos a1, Array.getElem?_append_left (by simp only [List.size_toArray]; omega), List.getElem?_toArray]
        · rw [if_neg a1, if_pos (by omega), Array.getElem?_append_right (by simp only [List.size_toArray]; omega), List.getElem?_toArray, List.size_toArray, c1]
          rw [Nat.mul_one]
      · show (w.heap.push _)[b]? = _
        rw [Array.getElem?_push_lt hb, Array.getElem?_eq_getElem hb]
set_option maxHeartbeats 4000000 in
theorem itm_shift (b off n c i vb voff m vc : Nat) (cs vs : List Value) (w : World) (hi : i < n) (hm : 0 < m) (hroom : n + m ≤ c) (hc63 : n + m ≤ 16777214) (hvb : vb ≠ b)
    (hcl : cs.length = n * 10) (hvl : vs.length = m * 10)
    (hcs : ∀ j v, cs[j]? = some v → w.cell? ⟨b, off + j, none⟩ = some v) (hsp : ∀ j, j < (n + m) * 10 → (w.cell? ⟨b, off + j, none⟩).isSome = true) (hfz : ∀ j, j < (n + m) * 10 → w.frozen? ⟨b, off + j, none⟩ = false)
    (hvs : ∀ j v, vs[j]? = some v → w.cell? ⟨vb, voff + j, none⟩ = some v) (h1c : ∀ v ∈ cs, v.oneCell' = true) (h1v : ∀ v ∈ vs, v.oneCell' = true)
    (tA tB : TypeId) (kA kB : Nat) (hsa : w.shape? vb = some (tA, kA)) (hsb : w.shape? b = some (tB, kB)) (hkB : kB ≠ 0) (hfa : w.frozen? ⟨vb, voff, none⟩ = false) (hfe : w.frozen? ⟨vb, kA, none⟩ = false) :
    Calls Tryz.prog 495 #[.slice (some ⟨b, off, none⟩) n c, .int .i64 i, .slice (some ⟨vb, voff, none⟩) m vc] w fun e w' =>
      e = .returned (.slice (some ⟨b, off, none⟩) (n + m) c) ∧ w' = (w.drew.setCells b (off + (i + m) * 10) (cs.drop ((i) * 10))).setCells b (off + (i) * 10) vs := by
  have hz1 : ¬ ((m : Int) = 0) := by omega
  have hz2 : ¬ ((i : Int) = (n : Int)) := by omega
  have hsz : (Tryz.prog.info? 257).map (·.size) = some 10 := by kernel_rfl
  have hw1 : IntKind.i64.wrap ((i : Int) + (m : Int)) = (i : Int) + (m : Int) := by rw [IntKind.wrap_i64]; omega
  have hw2 : IntKind.i64.wrap ((n : Int) + (m : Int)) = (n : Int) + (m : Int) := by rw [IntKind.wrap_i64]; omega
  have hb1 : (0 : Int) ≤ (i : Int) + (m : Int) := by omega
  have hin : i ≤ n := by omega
  have htn : ((i : Int) + (m : Int)).toNat = i + m := by omega
  have hb2 : ¬ (c = i + m) := by omega
  have hb3 : (i : Int) ≤ (n : Int) + (m : Int) := by omega
  have hb4 : ¬ (c = i) := by omega
  have htn2 : ((n : Int) + (m : Int)).toNat = n + m := by omega
  have hov : ∀ lb cb o', (callFunc 500 #[.slice (some ⟨vb, voff, none⟩) m vc, .slice (some ⟨b, o', none⟩) lb cb]).run Tryz.prog w = .ok (.value (.bool false)) w := fun lb cb o' => by
    rw [run_callFunc_extern Tryz.func500 (by kernel_rfl) (by kernel_rfl) (by kernel_rfl) (e := Extern.SlicesOverlaps.overlaps #[244, 244] #[4]) (by kernel_rfl),
      Lib.run_overlaps_apart w 244 4 257 Tryz.underlying244 10 (fun w => by rfl) ⟨vb, voff, none⟩ ⟨b, o', none⟩ m vc lb cb hvb tA tB kA kB hsa hsb hkB hfa hfe]
    rfl
  have hdl : (cs.drop ((i) * 10)).length = (n - i) * 10 := by rw [List.length_drop, hcl]; omega
  obtain ⟨W1, hW1⟩ : ∃ W1, W1 = w.drew.setCells b (off + (i + m) * 10) (cs.drop ((i) * 10)) := ⟨_, rfl⟩
  have hcp1 : ∀ ty dc sc, (Builtin.copy_ #[244, 244] ty #[.slice (some ⟨b, off + (i + m) * 10, none⟩) (n + m - (i + m)) dc, .slice (some ⟨b, off + (i) * 10, none⟩) (n + m - i) sc]).run Tryz.prog w.drew = .ok (goInt (Nat.min (n + m - i) (n + m - (i + m)))) W1 := fun ty dc sc => by
    rw [hW1]
    exact run_copy_wide w.drew _ _ ty 257 b (off + (i + m) * 10) (n + m - (i + m)) dc 10 ⟨b, off + (i) * 10, none⟩ (n + m - i) sc (cs.drop ((i) * 10)) Tryz.underlying244 hsz (by rw [hdl]; congr 1; simp only [Nat.min_def]; split <;> omega)
      (fun j v hj => by rw [Addr.add_lit, Nat.add_assoc]; exact hcs ((i) * 10 + j) v (by rwa [List.getElem?_drop] at hj))
      (fun j hj => by rw [Nat.add_assoc]; exact hsp _ (by omega)) (fun j hj => by rw [Nat.add_assoc]; exact hfz _ (by omega)) (fun v hv => h1c v (List.mem_of_mem_drop hv))
  have hsp1 : ∀ k, k < (n + m) * 10 → (W1.cell? ⟨b, off + k, none⟩).isSome = true := fun k hk => by
    rw [hW1]
    exact isSome_setCells b _ _ _ (fun j hj => by rw [Nat.add_assoc]; exact hsp _ (by omega)) _ (hsp k hk)
  have hcp2 : ∀ (W : World), (∀ x, W.cell? x = W1.cell? x) → (∀ x, W.frozen? x = W1.frozen? x) → ∀ ty dc, (Builtin.copy_ #[244, 244] ty #[.slice (some ⟨b, off + (i) * 10, none⟩) (n + m - i) dc, .slice (some ⟨vb, voff, none⟩) m vc]).run Tryz.prog W = .ok (goInt (Nat.min m (n + m - i))) (W.setCells b (off + (i) * 10) vs) := fun W hWc hWf ty dc =>
    run_copy_wide W _ _ ty 257 b (off + (i) * 10) (n + m - i) dc 10 ⟨vb, voff, none⟩ m vc vs Tryz.underlying244 hsz (by rw [hvl]; congr 1; simp only [Nat.min_def]; split <;> omega)
      (fun j v hj => by
        rw [Addr.add_lit, hWc, hW1, World.cell?_setCells_out b _ _ _ _ (fun h _ => absurd h hvb)]
        exact hvs j v hj)
      (fun j hj => by rw [hWc, Nat.add_assoc]; exact hsp1 _ (by omega)) (fun j hj => by rw [hWf, hW1, World.frozen?_setCells, Nat.add_assoc]; exact hfz _ (by omega)) h1v
  rw [← hW1]
  have mixed : Tryz.prog.follows .mixedOrders = true := by kernel_rfl
  go_enter Tryz.func495, Tryz.ntmps495
  go_wp2_with (simp only [hov])
  go_region_law_o (refine step_copy_runI rfl _ _ 244 244 rfl _ _ (by simp [Act.eval, Act.put]) (by simp [Act.eval, Act.put]) (hcp1 _ _ _) ?_)
  go_wp2_with (at_builtin; refine wpList_copy_runI _ rfl _ _ 244 244 rfl _ _ rfl rfl (hcp2 _ (fun _ => rfl) (fun _ => rfl) _ _) ?_)
  go_ret
  exact ⟨rfl, by rw [hW1]⟩
set_option maxHeartbeats 4000000 in
theorem itm_end_room (b off n c vb voff m vc : Nat) (vs : List Value) (w : World) (hm : 0 < m) (hroom : n + m ≤ c) (hc63 : n + m ≤ 16777214)
    (hvl : vs.length = m * 10) (hsp : ∀ j, j < m * 10 → (w.cell? ⟨b, off + n * 10 + j, none⟩).isSome = true) (hfz : ∀ j, j < m * 10 → w.frozen? ⟨b, off + n * 10 + j, none⟩ = false)
    (hvs : ∀ j v, vs[j]? = some v → w.cell? ⟨vb, voff + j, none⟩ = some v) (h1v : ∀ v ∈ vs, v.oneCell' = true) :
    Calls Tryz.prog 495 #[.slice (some ⟨b, off, none⟩) n c, .int .i64 n, .slice (some ⟨vb, voff, none⟩) m vc] w fun e w' =>
      e = .returned (.slice (some ⟨b, off, none⟩) (n + m) c) ∧ w' = w.setCells b (off + (n) * 10) vs := by
  have mixed : Tryz.prog.follows .mixedOrders = true := by kernel_rfl
  have hz1 : ¬ ((m : Int) = 0) := by omega
  obtain ⟨i0, z, hi0, hz0, hzs, hby⟩ : ∃ i0 z, Tryz.prog.info? 257 = some i0 ∧ i0.zero = some z ∧ i0.size = 10 ∧ i0.bytes ≤ 8388608 := ⟨_, _, rfl, rfl, rfl, by decide⟩
  have hA : AppArg Tryz.prog 244 257 i0.size m z (.slice (some ⟨vb, voff, none⟩) m vc) w vs.toArray := .cells _ Tryz.underlying244 (fun _ h => by cases h) (fun w' => rfl) (by rw [hzs]; exact run_firstCells_some w 10 m ⟨vb, voff, none⟩ m vc vs hvl (fun j v hj => by rw [Addr.add_lit]; exact hvs j v hj))
  have hst : (storeCells ((⟨b, off, none⟩ : Addr).add (n * i0.size)) vs.toArray.toList).run Tryz.prog w = .ok () (w.setCells b (off + n * 10) vs) := by
    have h := run_storeCells_cells (P := Tryz.prog) b (off + n * 10) vs 0 w (fun j hj => by rw [Nat.add_zero]; exact hsp j (by omega)) (fun j hj => by rw [Nat.add_zero]; exact hfz j (by omega)) h1v
    rw [Nat.add_zero] at h
    rw [hzs, Addr.add_lit]; exact h
  have hrun : ∀ ty, (Builtin.append_ #[244, 244] ty #[.slice (some ⟨b, off, none⟩) n c, .slice (some ⟨vb, voff, none⟩) m vc]).run Tryz.prog w = .ok (.slice (some ⟨b, off, none⟩) (n + m) c) (w.setCells b (off + n * 10) vs) := fun ty =>
    run_append_in (P := Tryz.prog) (ty := ty) (w := w) (t := 244) (u := 244) rfl rfl rfl rfl Tryz.underlying244 hi0 hz0 hby hA hroom hst
  clear hA hst hi0 hz0
  go_enter Tryz.func495, Tryz.ntmps495
  go_wp2_with (at_builtin; refine Lib.wpList_append_run _ rfl _ _ _ _ rfl _ _ rfl rfl _ _ (hrun _) ?_)
  go_ret
  first | exact ⟨rfl, rfl⟩ | exact ⟨rfl, by rw [Nat.mul_one]⟩
set_option maxHeartbeats 4000000 in
theorem itm_end_grow (base : Option Addr) (n c vb voff m vc : Nat) (cs vs : List Value) (w : World) (hm : 0 < m) (hnc : n ≤ c) (hroom : c < n + m) (hbig : n + m ≤ 16777214)
    (hcl : cs.length = n * 10) (hvl : vs.length = m * 10) (hnil : base = none → n = 0 ∧ c = 0)
    (hcs : ∀ a, base = some a → ∀ j v, cs[j]? = some v → w.cell? (a.add j) = some v)
    (hvs : ∀ j v, vs[j]? = some v → w.cell? ⟨vb, voff + j, none⟩ = some v) :
    Calls Tryz.prog 495 #[.slice base n c, .int .i64 n, .slice (some ⟨vb, voff, none⟩) m vc] w fun e w' => ∃ (z : Value) (rest : Array Value), z.cells.size = 10 ∧ rest = Builtin.zeroCells z.cells (grownCap w (n + m) c 257 - (n + m)) ∧
      e = .returned (.slice (some ⟨w.heap.size, 0, none⟩) (n + m) (grownCap w (n + m) c 257)) ∧ w' = w.drew.alloc (.cells (cs.toArray ++ vs.toArray ++ rest) 257) := by
  have mixed : Tryz.prog.follows .mixedOrders = true := by kernel_rfl
  have hz1 : ¬ ((m : Int) = 0) := by omega
  obtain ⟨i0, z, hi0, hz0, hzs, hby, hzc⟩ : ∃ i0 z, Tryz.prog.info? 257 = some i0 ∧ i0.zero = some z ∧ i0.size = 10 ∧ i0.bytes ≤ 8388608 ∧ z.cells.size = 10 := ⟨_, _, rfl, rfl, rfl, by decide, by decide⟩
  have hA : AppArg Tryz.prog 244 257 i0.size m z (.slice (some ⟨vb, voff, none⟩) m vc) w.drew vs.toArray := .cells _ Tryz.underlying244 (fun _ h => by cases h) (fun w' => rfl) (by rw [hzs]; exact run_firstCells_some w.drew 10 m ⟨vb, voff, none⟩ m vc vs hvl (fun j v hj => by rw [Addr.add_lit]; exact hvs j v hj))
  have hold : (Builtin.firstCells i0.size n (.slice base n c)).run Tryz.prog w.drew = .ok cs.toArray w.drew := by
    rw [hzs]
    cases base with
    | none =>
      obtain ⟨rfl, rfl⟩ := hnil rfl
      have hnil' : cs = [] := List.length_eq_zero_iff.1 (by omega)
      subst hnil'
      exact run_firstCells_none w.drew 10 0 0 0
    | some a => exact run_firstCells_some w.drew 10 n a n c cs hcl (fun j v hj => hcs a rfl j v hj)
  have hrun : ∀ ty, (Builtin.append_ #[244, 244] ty #[.slice base n c, .slice (some ⟨vb, voff, none⟩) m vc]).run Tryz.prog w = _ := fun ty =>
    run_append_new (P := Tryz.prog) (ty := ty) (w := w) (t := 244) (u := 244) (base := base) (sLen := n) (sCap := c) rfl rfl rfl rfl Tryz.underlying244 hi0 hz0 hby hA hold hroom hbig
  obtain ⟨ROW, hROW⟩ : ∃ ROW, ROW = cs.toArray ++ vs.toArray ++ Builtin.zeroCells z.cells (grownCap w (n + m) c 257 - (n + m)) := ⟨_, rfl⟩
  obtain ⟨C, hC⟩ : ∃ C, C = grownCap w (n + m) c 257 := ⟨_, rfl⟩
  rw [← hROW, ← hC] at hrun
  have hfin : ∀ (e : Ending) (w' : World), e = .returned (.slice (some ⟨w.heap.size, 0, none⟩) (n + m) C) ∧ w' = w.drew.alloc (.cells ROW 257) → ∃ (z : Value) (rest : Array Value), z.cells.size = 10 ∧ rest = Builtin.zeroCells z.cells (grownCap w (n + m) c 257 - (n + m)) ∧
      e = .returned (.slice (some ⟨w.heap.size, 0, none⟩) (n + m) (grownCap w (n + m) c 257)) ∧ w' = w.drew.alloc (.cells (cs.toArray ++ vs.toArray ++ rest) 257) := fun e w' ⟨h1, h2⟩ => ⟨z, _, hzc, rfl, by rw [h1, hC], by rw [h2, hROW]⟩
  clear hA hold hi0 hz0 hROW hC
  refine Calls.mono ?_ hfin
  clear hfin
  go_enter Tryz.func495, Tryz.ntmps495
  cases base with
  | none =>
    obtain ⟨rfl, rfl⟩ := hnil rfl
    go_wp2_with (at_builtin; refine Lib.wpList_append_run _ rfl _ _ _ _ rfl _ _ rfl rfl _ _ (hrun _) ?_)
    go_ret
    exact ⟨rfl, rfl⟩
  | some a =>
    obtain ⟨ab, ao, asp⟩ := a
    go_wp2_with (at_builtin; refine Lib.wpList_append_run _ rfl _ _ _ _ rfl _ _ rfl rfl _ _ (hrun _) ?_)
    all_goals (go_ret; exact ⟨rfl, rfl⟩)
set_option maxHeartbeats 4000000 in
theorem itm_grow (b off n c i vb voff m vc : Nat) (cs vs : List Value) (w : World) (hi : i < n) (hm : 0 < m) (hnc : n ≤ c) (hroom : c < n + m) (hbig : n + m ≤ 16777214)
    (hcl : cs.length = n * 10) (hvl : vs.length = m * 10)
    (hcs : ∀ j v, cs[j]? = some v → w.cell? ⟨b, off + j, none⟩ = some v)
    (hvs : ∀ j v, vs[j]? = some v → w.cell? ⟨vb, voff + j, none⟩ = some v) (h1c : ∀ v ∈ cs, v.oneCell' = true) (h1v : ∀ v ∈ vs, v.oneCell' = true) :
    Calls Tryz.prog 495 #[.slice (some ⟨b, off, none⟩) n c, .int .i64 i, .slice (some ⟨vb, voff, none⟩) m vc] w fun e w' => ∃ ROW : Array Value, ROW.size = grownCap w (n + m) c 257 * 10 ∧ (∀ j, j < (i) * 10 → ROW[j]? = cs[j]?) ∧
      e = .returned (.slice (some ⟨w.heap.size, 0, none⟩) (n + m) (grownCap w (n + m) c 257)) ∧
      w' = (((w.alloc (.cells ROW 257)).drew.setCells w.heap.size ((i) * 10) vs).drew).setCells w.heap.size ((i + m) * 10) (cs.drop ((i) * 10)) := by
  obtain ⟨i0, z, hi0, hz0, hzs, hzb, hzc⟩ : ∃ i0 z, Tryz.prog.info? 257 = some i0 ∧ i0.zero = some z ∧ i0.size = 10 ∧ i0.bytes ≤ 8388608 ∧ z.cells.size = 10 := ⟨_, _, rfl, rfl, rfl, by decide, by decide⟩
  have mixed : Tryz.prog.follows .mixedOrders = true := by kernel_rfl
  have hz1 : ¬ ((m : Int) = 0) := by omega
  have hz2 : ¬ ((i : Int) = (n : Int)) := by omega
  have hz3 : (c : Int) < (n : Int) + (m : Int) := by omega
  have hsz : (Tryz.prog.info? 257).map (·.size) = some 10 := by rw [hi0]; simp [hzs]
  have hbw : b < w.heap.size := block_lt_of_cell (hcs 0 _ (List.getElem?_eq_getElem (by omega)))
  have hvw : vb < w.heap.size := block_lt_of_cell (hvs 0 _ (List.getElem?_eq_getElem (by omega)))
  have hkk : (n : Int) + (m : Int) - (i : Int) = ((n + m - i : Nat) : Int) := by omega
  have hik : i + (n + m - i) = n + m := by omega
  have hold : (Builtin.firstCells i0.size i (.slice (some ⟨b, off, none⟩) i c)).run Tryz.prog w.drew = .ok (cs.take ((i) * 10)).toArray w.drew := by
    rw [hzs]
    exact run_firstCells_some w.drew 10 i ⟨b, off, none⟩ i c (cs.take ((i) * 10)) (by rw [List.length_take]; omega) (fun j v hj => by
      rw [Addr.add_lit]
      rw [List.getElem?_take] at hj
      split at hj
      · exact hcs j v hj
      · cases hj)
  have hmul : (n + m) * i0.bytes ≤ 16777214 * 8388608 := Nat.mul_le_mul hbig hzb
  have hmul2 : (n + m - i) * i0.bytes ≤ 16777214 * 8388608 := Nat.mul_le_mul (by omega) hzb
  have hrz : ∀ ty, (Builtin.append_ #[244, 3] ty #[.slice (some ⟨b, off, none⟩) i c, .int .i64 ((n : Int) + (m : Int) - (i : Int))]).run Tryz.prog w =
      .ok (.slice (some ⟨w.heap.size, 0, none⟩) (n + m) (grownCap w (n + m) c 257)) (w.drew.alloc (.cells ((cs.take ((i) * 10)).toArray ++ Builtin.zeroCells z.cells (n + m - i) ++ Builtin.zeroCells z.cells (grownCap w (n + m) c 257 - (n + m))) 257)) := fun ty => by
    have h := Lib.run_append_grow_zeros w 244 3 ty 257 i0 z .i64 .i64 Tryz.underlying244 Tryz.underlying3 hi0 hz0 (some ⟨b, off, none⟩) i c (cs.take ((i) * 10)) hold (n + m - i) (by omega) (by omega) (by omega) (by omega) (by omega) (by rw [hik]; exact growslice_fits hroom (by omega))
    rw [hik] at h
    rw [hkk]
    exact h
  obtain ⟨G, hG⟩ : ∃ G, G = grownCap w (n + m) c 257 := ⟨_, rfl⟩
  obtain ⟨ROW, hROW⟩ : ∃ ROW : Array Value, ROW = (cs.take ((i) * 10)).toArray ++ Builtin.zeroCells z.cells (n + m - i) ++ Builtin.zeroCells z.cells (G - (n + m)) := ⟨_, rfl⟩
  have hGn : n + m ≤ G := by rw [hG]; exact grownCap_ge w _ _ _
  have hRs : ROW.size = G * 10 := by
    rw [hROW]
    simp only [Array.size_append, size_zero, hzc, List.size_toArray, List.length_take, hcl]
    omega
  have hRp : ∀ j, j < (i) * 10 → ROW[j]? = cs[j]? := fun j hj => by
    rw [hROW, Array.getElem?_append_left (by simp only [Array.size_append, List.size_toArray, List.length_take]; omega), Array.getElem?_append_left (by simp only [List.size_toArray, List.length_take]; omega)]
    simp only [List.getElem?_toArray, List.getElem?_take, if_pos hj]
  rw [← hG] at hrz ⊢
  rw [← hROW] at hrz
  have hRl : (n + m) * 10 ≤ ROW.size := by rw [hRs]; exact Nat.mul_le_mul_right _ hGn
  refine Calls.mono (R := fun e w' => e = .returned (.slice (some ⟨w.heap.size, 0, none⟩) (n + m) G) ∧ w' = (((w.alloc (.cells ROW 257)).drew.setCells w.heap.size ((i) * 10) vs).drew).setCells w.heap.size ((i + m) * 10) (cs.drop ((i) * 10))) ?_ (fun e w' h => ⟨ROW, hRs, hRp, h.1, h.2⟩)
  clear hRp hROW
  obtain ⟨W1, hW1⟩ : ∃ W1, W1 = w.drew.alloc (.cells ROW 257) := ⟨_, rfl⟩
  rw [← hW1] at hrz
  have hN : ∀ j, j < (n + m) * 10 → (W1.cell? ⟨w.heap.size, j, none⟩).isSome = true := fun j hj => by
    rw [hW1, World.cell?_alloc_at (w := w.drew) ROW _ w.heap.size j rfl, Array.getElem?_eq_getElem (by omega)]; rfl
  have hNf : ∀ j, W1.frozen? ⟨w.heap.size, j, none⟩ = false := fun j => by rw [hW1]; exact World.frozen?_alloc_at (w := w.drew) ROW _ w.heap.size j rfl
  have hOb : ∀ j v, w.cell? ⟨b, j, none⟩ = some v → W1.cell? ⟨b, j, none⟩ = some v := fun j v h => by rw [hW1, World.cell?_alloc_past (w := w.drew) _ b j hbw]; exact h
  have hOv : ∀ j v, w.cell? ⟨vb, j, none⟩ = some v → W1.cell? ⟨vb, j, none⟩ = some v := fun j v h => by rw [hW1, World.cell?_alloc_past (w := w.drew) _ vb j hvw]; exact h
  have hcpA : ∀ (W : World), (∀ x, W.cell? x = W1.cell? x) → (∀ x, W.frozen? x = W1.frozen? x) → ∀ ty dc, (Builtin.copy_ #[244, 244] ty #[.slice (some ⟨w.heap.size, (i) * 10, none⟩) (n + m - i) dc, .slice (some ⟨vb, voff, none⟩) m vc]).run Tryz.prog W = .ok (goInt (Nat.min m (n + m - i))) (W.setCells w.heap.size ((i) * 10) vs) := fun W hWc hWf ty dc =>
    run_copy_wide W _ _ ty 257 w.heap.size ((i) * 10) (n + m - i) dc 10 ⟨vb, voff, none⟩ m vc vs Tryz.underlying244 hsz (by rw [hvl]; congr 1; simp only [Nat.min_def]; split <;> omega)
      (fun j v hj => by rw [Addr.add_lit, hWc]; exact hOv _ v (hvs j v hj))
      (fun j hj => by rw [hWc]; exact hN _ (by omega)) (fun j hj => by rw [hWf]; exact hNf _) h1v
  have hG63 : G ≤ 9223372036854775807 := by
    have := grownCap_le_maxLen w (n + m) c 257 (by unfold maxLen; omega)
    rw [← hG] at this
    unfold maxLen at this
    omega
  have hGi : ¬ (G = i) := by omega
  have hGim : ¬ (G = i + m) := by omega
  have hci : ¬ (c = i) := by omega
  have hbN : b ≠ w.heap.size := by omega
  have hdl : (cs.drop ((i) * 10)).length = (n - i) * 10 := by rw [List.length_drop, hcl]; omega
  have hcpB : ∀ (W : World), (∀ x, W.cell? x = (W1.setCells w.heap.size ((i) * 10) vs).cell? x) → (∀ x, W.frozen? x = (W1.setCells w.heap.size ((i) * 10) vs).frozen? x) → ∀ ty dc sc, (Builtin.copy_ #[244, 244] ty #[.slice (some ⟨w.heap.size, (i + m) * 10, none⟩) (n + m - (i + m)) dc, .slice (some ⟨b, off + (i) * 10, none⟩) (n - i) sc]).run Tryz.prog W = .ok (goInt (Nat.min (n - i) (n + m - (i + m)))) (W.setCells w.heap.size ((i + m) * 10) (cs.drop ((i) * 10))) := fun W hWc hWf ty dc sc =>
    run_copy_wide W _ _ ty 257 w.heap.size ((i + m) * 10) (n + m - (i + m)) dc 10 ⟨b, off + (i) * 10, none⟩ (n - i) sc (cs.drop ((i) * 10)) Tryz.underlying244 hsz (by rw [hdl]; congr 1; simp only [Nat.min_def]; split <;> omega)
      (fun j v hj => by
        rw [Addr.add_lit, hWc, World.cell?_setCells_out _ _ _ _ _ (fun h _ => absurd h hbN), Nat.add_assoc]
        exact hOb _ v (hcs ((i) * 10 + j) v (by rwa [List.getElem?_drop] at hj)))
      (fun j hj => by rw [hWc]; exact isSome_setCells _ _ _ _ (fun t ht => hN _ (by omega)) _ (hN _ (by omega)))
      (fun j hj => by rw [hWf, World.frozen?_setCells]; exact hNf _) (fun v hv => h1c v (List.mem_of_mem_drop hv))
  subst hW1
  have hE1 : ∀ x, ((w.alloc (.cells ROW 257)).drew).cell? x = (w.drew.alloc (.cells ROW 257)).cell? x := fun x => rfl
  have hE2 : ∀ x, ((w.alloc (.cells ROW 257)).drew).frozen? x = (w.drew.alloc (.cells ROW 257)).frozen? x := fun x => rfl
  have hF1 : ∀ x, (((w.alloc (.cells ROW 257)).drew.setCells w.heap.size ((i) * 10) vs).drew).cell? x = ((w.drew.alloc (.cells ROW 257)).setCells w.heap.size ((i) * 10) vs).cell? x := fun x => rfl
  have hF2 : ∀ x, (((w.alloc (.cells ROW 257)).drew.setCells w.heap.size ((i) * 10) vs).drew).frozen? x = ((w.drew.alloc (.cells ROW 257)).setCells w.heap.size ((i) * 10) vs).frozen? x := fun x => rfl
  have hw1 : IntKind.i64.wrap ((i : Int) + (m : Int)) = (i : Int) + (m : Int) := by rw [IntKind.wrap_i64]; omega
  have hb1 : (0 : Int) ≤ (i : Int) + (m : Int) := by omega
  have hin : i ≤ n := by omega
  have htn : ((i : Int) + (m : Int)).toNat = i + m := by omega
  have hb3 : (i : Int) ≤ (n : Int) := by omega
  clear hkk hik hold hG hRl hRs hmul hmul2 hi0 hz0 hzb
  go_enter Tryz.func495, Tryz.ntmps495
  go_wp2_with (first
    | (at_builtin; refine Lib.wpList_append_run _ rfl _ _ _ _ rfl _ _ rfl rfl _ _ (hrz _) ?_)
    | (at_builtin; refine wpList_copy_runI _ rfl _ _ 244 244 rfl _ _ rfl rfl (hcpA _ hE1 hE2 _ _) ?_)
    | (at_builtin; refine wpList_copy_runI _ rfl _ _ 244 244 rfl _ _ rfl rfl (hcpB _ (fun _ => rfl) (fun _ => rfl) _ _ _) ?_))
  go_region_law_o (refine step_copy_runI rfl _ _ 244 244 rfl (.slice (some ⟨w.heap.size, (i + m) * 10, none⟩) (n + m - (i + m)) (G - (i + m))) (.slice (some ⟨b, off + (i) * 10, none⟩) (n - i) (c - i)) (by simp [Act.eval, Act.put]) (by simp [Act.eval, Act.put]) (hcpB _ hF1 hF2 3 (G - (i + m)) (c - i)) ?_)
  go_wp2
  go_ret
  exact ⟨rfl, rfl⟩
theorem insItm : InsLaw Tryz.prog 495 10 where
  room := fun w B β n c i vB vo m vc cells vcells el vel fz vfz hB hV hne hcap hfz hvc hvz hin hm hmc hroom hsm hc hv => by
    obtain ⟨cs, c1, c2, c3, c4⟩ := list_of hc
    obtain ⟨vs, v1, v2, v3, v4⟩ := list_of hv
    have hcs0 : n * 10 ≤ cells.size := by omega
    have hsp : ∀ j, j < c * 10 → (w.cell? ⟨B, β + j, none⟩).isSome = true := fun j hj => by
      rw [cell_of hB, Array.getElem?_eq_getElem (by omega)]; rfl
    have hff : ∀ j, j < c * 10 → w.frozen? ⟨B, β + j, none⟩ = false := fun j hj => by
      rw [frozen_of hB]
      rcases hfz with h | h | h <;> simp <;> omega
    have hvf : ∀ j, w.frozen? ⟨vB, j, none⟩ = false := fun j => by
      rw [frozen_of hV]; simp; omega
    have hA : ∀ j v, cs[j]? = some v → w.cell? ⟨B, β + j, none⟩ = some v := fun j v h => by rw [cell_of hB]; exact c3 j v h
    have hU : ∀ j v, vs[j]? = some v → w.cell? ⟨vB, vo + j, none⟩ = some v := fun j v h => by rw [cell_of hV]; exact v3 j v h
    by_cases hi : i < n
    · refine (itm_shift B β n c i vB vo m vc cs vs w hi hm hroom hsm hne c1 v1 hA (fun j hj => hsp j (by omega)) (fun j hj => hff j (by omega)) hU c4 v4 vel el vcells.size cells.size (by unfold World.shape?; rw [hV]) (by unfold World.shape?; rw [hB]) (by omega) (hvf _) (hvf _)).mono ?_
      rintro e w' ⟨rfl, rfl⟩
      refine ⟨rfl, ?_⟩
      obtain ⟨cells1, d1, d2, d3, d4, d5⟩ := setCells_at (B := B) (el := el) (fz := fz) (cs.drop ((i) * 10)) (β + (i + m) * 10) w.drew cells hB
      obtain ⟨cells2, e1, e2, e3, e4, e5⟩ := setCells_at (B := B) (el := el) (fz := fz) vs (β + (i) * 10) _ cells1 d1
      have s1 := setCells_same B (cs.drop ((i) * 10)) (β + (i + m) * 10) w.drew
      have s2 := setCells_same B vs (β + (i) * 10) (w.drew.setCells B (β + (i + m) * 10) (cs.drop ((i) * 10)))
      refine ⟨cells2, e1, by omega, fun j hj => ?_, fun b hb => (e4 b hb).trans (d4 b hb), e5.trans d5, s2.1.trans s1.1, s2.2.trans s1.2⟩
      rw [spliced hin c1 v1 c2 v2 j hj, e3, d3, List.length_drop]
      skip
      by_cases a1 : j < (i) * 10
      · rw [if_pos a1, if_neg (by omega), if_neg (by omega)]; exact c2 j (by omega)
      · rw [if_neg a1]
        by_cases a2 : j < (i + m) * 10
        · rw [if_pos a2, if_pos (by omega), show β + j - (β + (i) * 10) = j - (i) * 10 by omega]
        · rw [if_neg a2, if_neg (by omega), if_pos (by omega), List.getElem?_drop, show (i) * 10 + (β + j - (β + (i + m) * 10)) = j - (m) * 10 by omega]
    · obtain rfl : i = n := by omega
      refine (itm_end_room B β i c vB vo m vc vs w hm hroom hsm v1 (fun j hj => by rw [Nat.add_assoc]; exact hsp _ (by omega)) (fun j hj => by rw [Nat.add_assoc]; exact hff _ (by omega)) hU v4).mono ?_
      rintro e w' ⟨rfl, rfl⟩
      refine ⟨rfl, ?_⟩
      obtain ⟨cells2, e1, e2, e3, e4, e5⟩ := setCells_at (B := B) (el := el) (fz := fz) vs (β + (i) * 10) w cells hB
      have s2 := setCells_same B vs (β + (i) * 10) w
      refine ⟨cells2, e1, e2, fun j hj => ?_, e4, e5, s2.1, s2.2⟩
      rw [spliced hin c1 v1 c2 v2 j hj, e3]
      skip
      by_cases a1 : j < (i) * 10
      · rw [if_pos a1, if_neg (by omega)]; exact c2 j (by omega)
      · rw [if_neg a1, if_pos (by omega), if_pos (by omega), show β + j - (β + (i) * 10) = j - (i) * 10 by omega]
  grow := fun w base n c i vB vo m vc old vcells vel vfz hnil hbase hV hvc hin hm hmc hnc hroom hsm hc hv => by
    obtain ⟨cs, c1, c2, c3, c4⟩ := list_of hc
    obtain ⟨vs, v1, v2, v3, v4⟩ := list_of hv
    have hU : ∀ j v, vs[j]? = some v → w.cell? ⟨vB, vo + j, none⟩ = some v := fun j v h => by rw [cell_of hV]; exact v3 j v h
    have hge := grownCap_ge w (n + m) c 257
    have hA : ∀ a, base = some a → ∀ j v, cs[j]? = some v → w.cell? ⟨a.block, a.off + j, none⟩ = some v := fun a ha j v h => by
      have hj := (List.getElem?_eq_some_iff.1 h).1
      rw [(hbase a ha).2 j (by omega)]; exact c3 j v h
    by_cases hi : i < n
    · have hb : ∃ a, base = some a := by
        cases base with
        | none => have := hnil rfl; omega
        | some a => exact ⟨a, rfl⟩
      obtain ⟨⟨ab, ao, asp⟩, rfl⟩ := hb
      have hsp : asp = none := (hbase _ rfl).1
      subst hsp
      refine (itm_grow ab ao n c i vB vo m vc cs vs w hi hm hnc hroom hsm c1 v1 (hA _ rfl) hU c4 v4).mono ?_
      rintro e w' ⟨ROW, r1, r2, rfl, rfl⟩
      refine ⟨_, hge, rfl, ?_⟩
      have hnew : ((w.alloc (.cells ROW 257)).drew).heap[w.heap.size]? = some (.cells ROW 257 (0, 0)) := by
        show (w.heap.push _)[w.heap.size]? = _
        simp
      obtain ⟨cells1, d1, d2, d3, d4, d5⟩ := setCells_at (B := w.heap.size) (el := 257) (fz := (0, 0)) vs ((i) * 10) _ ROW hnew
      obtain ⟨cells2, e1, e2, e3, e4, e5⟩ := setCells_at (B := w.heap.size) (el := 257) (fz := (0, 0)) (cs.drop ((i) * 10)) ((i + m) * 10) (((w.alloc (.cells ROW 257)).drew.setCells w.heap.size ((i) * 10) vs).drew) cells1 d1
      have s1 := setCells_same w.heap.size vs ((i) * 10) ((w.alloc (.cells ROW 257)).drew)
      have s2 := setCells_same w.heap.size (cs.drop ((i) * 10)) ((i + m) * 10) (((w.alloc (.cells ROW 257)).drew.setCells w.heap.size ((i) * 10) vs).drew)
      have hle : (n + m) * 10 ≤ grownCap w (n + m) c 257 * 10 := Nat.mul_le_mul_right _ hge
      have hsz : (w.alloc (.cells ROW 257)).heap.size = w.heap.size + 1 := by show (w.heap.push _).size = _; simp
      refine ⟨cells2, _, e1, by omega, fun j hj => ?_, fun b hb => ?_, ?_, s2.1.trans s1.1, s2.2.trans s1.2⟩
      · rw [spliced hin c1 v1 c2 v2 j hj, e3, d3, List.length_drop]
        skip
        by_cases a1 : j < (i) * 10
        · rw [if_pos a1, if_neg (by omega), if_neg (by omega)]; exact r2 j (by omega)
        · rw [if_neg a1]
          by_cases a2 : j < (i + m) * 10
          · rw [if_pos a2, if_neg (by omega), if_pos (by omega)]
          · rw [if_neg a2, if_pos (by omega), List.getElem?_drop, show (i) * 10 + (j - (i + m) * 10) = j - (m) * 10 by omega]
      · have hne : b ≠ w.heap.size := by omega
        refine (e4 b hne).trans ((d4 b hne).trans ?_)
        show (w.heap.push _)[b]? = _
        rw [Array.getElem?_push_lt hb, Array.getElem?_eq_getElem hb]
      · have h5 := e5.trans d5
        have h6 : ((w.alloc (.cells ROW 257)).drew).heap.size = w.heap.size + 1 := hsz
        omega
    · obtain rfl : i = n := by omega
      refine (itm_end_grow base i c vB vo m vc cs vs w hm hnc hroom hsm c1 v1 hnil (fun a ha j v h => by
        have := hA a ha j v h
        have hs := (hbase a ha).1
        obtain ⟨ab, ao, asp⟩ := a
        have hs : asp = none := hs
        subst hs
        rw [Addr.add_lit]; exact this) hU).mono ?_
      rintro e w' ⟨z, rest, z1, rfl, rfl, rfl⟩
      refine ⟨_, hge, rfl, cs.toArray ++ vs.toArray ++ Builtin.zeroCells z.cells (grownCap w (i + m) c 257 - (i + m)), 257, by show (w.heap.push _)[w.heap.size]? = _; rw [Array.getElem?_push_size], ?_, fun j hj => ?_, fun b hb => ?_, by show _ < (w.heap.push _).size; simp, rfl, rfl⟩
      · simp only [Array.size_append, size_zero, z1, List.size_toArray, c1, v1]
        omega
      · rw [spliced hin c1 v1 c2 v2 j hj, Array.getElem?_append_left (by simp only [Array.size_append, List.size_toArray]; omega)]
        skip
        by_cases a1 : j < (i) * 10
        · rw [if_pos a1, Array.getElem?_append_left (by simp only [List.size_toArray]; omega), List.getElem?_toArray]
        · rw [if_neg a1, if_pos (by omega), Array.getElem?_append_right (by simp only [List.size_toArray]; omega), List.getElem?_toArray, List.size_toArray, c1]
          skip
      · show (w.heap.push _)[b]? = _
        rw [Array.getElem?_push_lt hb, Array.getElem?_eq_getElem hb]
end Go.Ev
set_option maxRecDepth 100000
set_option linter.unusedVariables false
set_option linter.unusedSimpArgs false
noncomputable section
namespace Go.Ev
open Go.Proofs Go.Maps Go.MapKept
/-- the program with whatever functions taken by laws -/
abbrev EO (o : List (Nat × Nat)) : Env := envOf Tryz.prog tyTab drTab o
theorem envE (o : List (Nat × Nat)) : EnvOk (EO o) := ⟨fun t => by
  show @Bool.rec (fun _ => Ty) (tyOf Tryz.prog t) (tyAt tyTab t) (Nat.blt t Tryz.prog.types.size) = _
  cases h : Nat.blt t Tryz.prog.types.size with
  | false => rfl
  | true =>
    rw [blt_iff, sizeP] at h
    exact tyAll_at tysA t h⟩
theorem fnsAll_at {X : Env} : ∀ {l : List Func} {k : Nat}, fnsAll X l k = true → ∀ (i : Nat) (fn : Func), l[i]? = some fn → (X.orc (k + i) = 0 → fnOk X (k + i) fn = true) ∧ (fn.name == "runtime.NumGoroutine") = false
  | [], _, _, i, fn, hi => absurd hi (by simp)
  | f0 :: l, k, h, i, fn, hi => by
    unfold fnsAll at h
    simp only [Bool.and_eq_true, Bool.or_eq_true, bne_iff_ne, Bool.not_eq_true'] at h
    obtain ⟨⟨h1, h2⟩, h3⟩ := h
    cases i with
    | zero =>
      simp only [List.getElem?_cons_zero, Option.some.injEq] at hi
      subst hi
      exact ⟨fun ho => h1.resolve_left fun hne => hne ho, h2⟩
    | succ i =>
      have := fnsAll_at h3 i fn (by simpa using hi)
      rw [show k + (i + 1) = k + 1 + i by omega]; exact this
theorem drawOk_eq (o o' : List (Nat × Nat)) (ops : List Oper) : drawOk (EO o) ops = drawOk (EO o') ops := rfl
theorem drawReads_eq (o o' : List (Nat × Nat)) (ops : List Oper) : drawReads (EO o) ops = drawReads (EO o') ops := rfl
theorem drawsOk_eq (o o' : List (Nat × Nat)) (g : Nat) : ∀ c : Code, drawsOk (EO o) g c = drawsOk (EO o') g c
  | .region r ops true => by
    unfold drawsOk
    rw [drawOk_eq o o', drawReads_eq o o']
    rfl
  | .region r ops false => rfl
  | .seq a b => by unfold drawsOk; rw [drawsOk_eq o o' g a, drawsOk_eq o o' g b]
  | .cond c a b => by unfold drawsOk; rw [drawsOk_eq o o' g a, drawsOk_eq o o' g b]
  | .block _ b => by unfold drawsOk; exact drawsOk_eq o o' g b
  | .loop b => by unfold drawsOk; exact drawsOk_eq o o' g b
  | .scope b => by unfold drawsOk; exact drawsOk_eq o o' g b
  | .skip => rfl
  | .rangeFunc .. => rfl
  | .exit _ => rfl
  | .label _ => rfl
  | .goto _ => rfl
  | .ret => rfl
  | .refuse _ => rfl
theorem fnOk_eq (o o' : List (Nat × Nat)) (g : Nat) (fn : Func) : fnOk (EO o) g fn = fnOk (EO o') g fn := by
  unfold fnOk
  cases fn.body with
  | none => rfl
  | some c => show (funcOk fn && drawsOk (EO o) g c) = (funcOk fn && drawsOk (EO o') g c); rw [drawsOk_eq o o' g c]
theorem fnsOkE {o : List (Nat × Nat)} (h : ∀ g, orcAt o g = 0 → orcAt orcB g = 0) : FnsOk (EO o) where
  ok := fun g fn hg ho => by
    have := (fnsAll_at fnsA g fn (by have h : Tryz.prog.funcs[g]? = some fn := hg; simpa using h)).1
    rw [Nat.zero_add] at this
    rw [fnOk_eq o orcB]; exact this (h g ho)
  name := fun g fn hg => (fnsAll_at fnsA g fn (by have h : Tryz.prog.funcs[g]? = some fn := hg; simpa using h)).2
theorem mixedE : Tryz.prog.follows .mixedOrders = true := by kernel_rfl
theorem stays_alloc (w : World) (o : Go.Obj) : Stays w (w.alloc o) := ⟨by simp, rfl, rfl, fun k hk => (Go.RowKit.Below.alloc (Go.RowKit.Below.refl w.heap.size w) (Nat.le_refl _) o).block k hk⟩
theorem Stays.trans {a b c : World} (h : Stays a b) (k : Stays b c) : Stays a c := ⟨Nat.le_trans h.1 k.1, k.2.1.trans h.2.1, k.2.2.1.trans h.2.2.1, fun i hi => (k.2.2.2 i (Nat.lt_of_lt_of_le hi h.1)).trans (h.2.2.2 i hi)⟩
theorem keysLaw : KeysLaw Tryz.prog 441 1 3 := by
  intro B a b es clock ns w hc hb hst hk hn hsz
  have hkeys : ∀ x ∈ es.toList, ∃ n : Int, x.key = .int .i64 n ∧ 0 ≤ n ∧ n < 9223372036854775808 := fun x hx => by
    have h1 : x.key ∈ es.toList.map (·.key) := List.mem_map_of_mem hx
    rw [hk] at h1
    obtain ⟨n, h2, h3⟩ := List.mem_map.1 h1
    exact ⟨n, h3.symm, hn n h2⟩
  let R : Value → Option (DataW Value × List MemPlace) := fun _ => some (.nil, [])
  have hrd : ∀ x ∈ es.toList, ∃ n : Int, x.key = .int .i64 n ∧ Go.WideElems.rd Tryz.prog 3 R x = some (.int .i64 n, .nil) := fun x hx => by
    obtain ⟨n, h1, h2, h3⟩ := hkeys x hx
    refine ⟨n, h1, ?_⟩
    have hw : (Lit.int .i64 n).wf = true := by
      simp [Lit.wf, IntKind.min, IntKind.max, IntKind.signed, IntKind.bits]; omega
    have : keyOf Tryz.prog 3 x.key = some (.int .i64 n) := by
      rw [h1]; simp [keyOf, Tryz.underlying3, mapKey, hw]
    simp [Go.WideElems.rd, this, R]
  have hml : maxLen ≥ 16777214 := by decide
  have hfit : Go.WideElems.Fit Tryz.prog 3 R es clock := ⟨by omega, hst, fun x hx => let ⟨n, _, h⟩ := hrd x hx; ⟨_, h⟩⟩
  have hown : w.ownsMap Tryz.prog 3 R b es.size (.map ((es.toList.map (Go.WideElems.rg Tryz.prog 3 R)).foldr DataW.insert [])) := ⟨es, clock, hb, hfit, Nat.le_refl _, rfl⟩
  have hints : intKeys (DataW.map ((es.toList.map (Go.WideElems.rg Tryz.prog 3 R)).foldr DataW.insert [])) = ((es.toList.map (Go.WideElems.rg Tryz.prog 3 R)).foldr DataW.insert []).map fun p => intOf p.1 := rfl
  have hperm : (intKeys (DataW.map ((es.toList.map (Go.WideElems.rg Tryz.prog 3 R)).foldr DataW.insert []))).Perm ns := by
    rw [hints]
    refine ((Go.WideShapes.sorted_perm _).map _).trans ?_
    rw [List.map_map]
    have e : es.toList.map ((fun p => intOf p.1) ∘ Go.WideElems.rg Tryz.prog 3 R) = ns := by
      have h1 : es.toList.map ((fun p => intOf p.1) ∘ Go.WideElems.rg Tryz.prog 3 R) = (es.toList.map (·.key)).map (fun v => match v with | .int _ n => n | _ => 0) := by
        rw [List.map_map]
        refine List.map_congr_left fun x hx => ?_
        obtain ⟨n, h1, h2⟩ := hrd x hx
        simp [Go.WideElems.rg, h2, h1, intOf]
      rw [h1, hk, List.map_map]
      exact List.map_id _
    rw [e]
  have hsize : Maps.size (DataW.map ((es.toList.map (Go.WideElems.rg Tryz.prog 3 R)).foldr DataW.insert [])) = es.size := by
    show ((es.toList.map (Go.WideElems.rg Tryz.prog 3 R)).foldr DataW.insert []).length = _
    rw [DataW.length_sorted]; simp
  refine (Tryz.Dirty B a b es.size _ R w hown (by rw [hsize]; omega) (by rw [hsize]; omega) hc).mono ?_
  rintro e w' ⟨v, ss, rfl, h1, h2, h3, h4⟩
  exact ⟨v, ss, rfl, h1.trans hperm, h2, h3, h4.size, h4.os, h4.output, h4.block⟩
theorem byte_cast {x : Int} (h : 0 ≤ x ∧ x < 256) : ((UInt8.ofNat x.toNat).toNat : Int) = x := by
  rw [UInt8.toNat_ofNat']
  omega
theorem packB_txt (a b c d f g h i : Int) (hx : ∀ x ∈ [a, b, c, d, f, g, h, i], 0 ≤ x ∧ x < 256) : (packB ([a, b, c, d, f, g, h, i].map fun n => UInt8.ofNat n.toNat) : Int) = a + 256 * b + 65536 * c + 16777216 * d + 4294967296 * f + 1099511627776 * g + 281474976710656 * h + 72057594037927936 * i := by
  have h1 := byte_cast (hx a (by simp))
  have h2 := byte_cast (hx b (by simp))
  have h3 := byte_cast (hx c (by simp))
  have h4 := byte_cast (hx d (by simp))
  have h5 := byte_cast (hx f (by simp))
  have h6 := byte_cast (hx g (by simp))
  have h7 := byte_cast (hx h (by simp))
  have h8 := byte_cast (hx i (by simp))
  simp only [List.map_cons, List.map_nil, packB]
  clear hx
  generalize (UInt8.ofNat a.toNat).toNat = a' at h1 ⊢
  generalize (UInt8.ofNat b.toNat).toNat = b' at h2 ⊢
  generalize (UInt8.ofNat c.toNat).toNat = c' at h3 ⊢
  generalize (UInt8.ofNat d.toNat).toNat = d' at h4 ⊢
  generalize (UInt8.ofNat f.toNat).toNat = f' at h5 ⊢
  generalize (UInt8.ofNat g.toNat).toNat = g' at h6 ⊢
  generalize (UInt8.ofNat h.toNat).toNat = h' at h7 ⊢
  generalize (UInt8.ofNat i.toNat).toNat = i' at h8 ⊢
  subst h1 h2 h3 h4 h5 h6 h7 h8
  omega
theorem numLaw_of {g : FuncId} (h : ∀ (n : Nat) (_ : n < 18446744073709551616) (w : World), Calls Tryz.prog g #[.int .u64 n] w fun e w' => ∃ (a b c d f g h i : Int) (W : Go.Obj), e = .returned (.string (YtkcffdanhklphaaGreatDoor.txt [a, b, c, d, f, g, h, i])) ∧ w' = w.alloc W ∧ n = a + 256 * b + 65536 * c + 16777216 * d + 4294967296 * f + 1099511627776 * g + 281474976710656 * h + 72057594037927936 * i ∧ ∀ x ∈ [a, b, c, d, f, g, h, i], 0 ≤ x ∧ x < 256) : NumLaw Tryz.prog g := by
  intro n w hn
  refine (h n hn w).mono ?_
  rintro e w' ⟨a, b, c, d, f, g, h, i, W, rfl, rfl, h1, h2⟩
  refine ⟨_, rfl, by rw [YtkcffdanhklphaaGreatDoor.txt_list]; rfl, ?_, stays_alloc _ _⟩
  rw [YtkcffdanhklphaaGreatDoor.txt_list]
  have := packB_txt a b c d f g h i h2
  omega
theorem sumC_eq : ∀ (l : List UInt8) (h : Nat), YtkcffdanhklphaaGreatDoor.sumC l h = sumB l h
  | [], h => rfl
  | b :: l, h => sumC_eq l _
theorem sumLaw_of {g : FuncId} (h : ∀ (s : ByteArray) (_ : s.size ≤ 16777214) (w : World), Calls Tryz.prog g #[.string s] w fun e w' => e = .returned (.int .u64 (YtkcffdanhklphaaGreatDoor.sumC s.data.toList 5381 : Nat)) ∧ w' = w) : SumLaw Tryz.prog g := by
  intro s w hs
  refine (h s (by simpa using hs) w).mono ?_
  rintro e w' ⟨rfl, rfl⟩
  exact ⟨by rw [sumC_eq], Nat.le_refl _, rfl, rfl, fun _ _ => rfl⟩
theorem asLaw : AsLaw Tryz.prog 40 41 104 76 38654967845 where
  none := fun t w => YtkcffdanhklphaaGreatDoor.as_nil t w
  some := fun n a old w hg hc hfz => (YtkcffdanhklphaaGreatDoor.as_hit0 n a old w hg.1 hc hfz).mono fun e w' ⟨h1, h2⟩ => ⟨h1, _, (((stays_alloc _ _).trans (stays_alloc _ _)).trans (stays_alloc _ _)).trans (stays_alloc _ _), h2⟩
theorem idxI_eq (x : Int) : ∀ (l : List Int) (j : Nat), YtkcffdanhklphaaGreatDoor.idxI x l j = idxZ x l j
  | [], _ => rfl
  | y :: l, j => by
    show (if (x == y) = true then (j : Int) else YtkcffdanhklphaaGreatDoor.idxI x l (j + 1)) = if (x == y) = true then (j : Int) else idxZ x l (j + 1)
    rw [idxI_eq x l (j + 1)]
theorem idxLaw : IdxLaw Tryz.prog 160 where
  nil := fun p c x w => YtkcffdanhklphaaGreatDoor.idx_none p c x w
  row := fun xs b off c x w hn hc => (YtkcffdanhklphaaGreatDoor.idx_any xs b off c x w hn hc).mono fun e w' h => by rw [idxI_eq] at h; exact h
theorem countLaw : CountLaw Tryz.prog 61 := fun s c w => Any.strings_Count_one Tryz.lays138 s c w
theorem posZ_eq (c : UInt8) : ∀ (l : List UInt8) (i : Nat), posZ c l i = if Lib.indexByte l c == -1 then -1 else Lib.indexByte l c + i
  | [], i => rfl
  | b :: l, i => by
    have hge := Lib.indexByte_ge l c
    unfold posZ Lib.indexByte
    rw [posZ_eq c l (i + 1)]
    by_cases h : b = c
    · simp [h]
    · have hb : (b == c) = false := by simpa using h
      rw [if_neg h, hb]
      by_cases h1 : Lib.indexByte l c = -1
      · simp [h1]
      · have h2 : (Lib.indexByte l c == -1) = false := by simpa using h1
        have h3 : (Lib.indexByte l c + 1 == -1) = false := by simp; omega
        simp only [h2, Bool.false_eq_true, if_false, h3]
        omega
theorem indexLaw : IndexLaw Tryz.prog 62 := fun s c w _ => (Any.strings_Index_one Tryz.lays143 s c w).mono fun e w' ⟨h1, h2⟩ => by
  refine ⟨?_, h2⟩
  rw [h1, posZ_eq]
  by_cases h : Lib.indexByte s.data.toList c = -1
  · simp [h]
  · have h2 : (Lib.indexByte s.data.toList c == -1) = false := by simpa using h
    rw [h2]; simp
theorem digN_eq (u : Nat) (h1 : 1 ≤ u) (h2 : u ≤ 9999) : Lib.nDigits u = digN u := by
  unfold digN
  by_cases a : u ≤ 9
  · rw [ble_iff.2 a, Lib.nDigits_unique 0 u (by omega) (by omega)]; rfl
  · rw [ble_false (a := u) (b := 9) |>.2 (by omega)]
    by_cases b : u ≤ 99
    · rw [ble_iff.2 b, Lib.nDigits_unique 1 u (by omega) (by omega)]; rfl
    · rw [ble_false (a := u) (b := 99) |>.2 (by omega)]
      by_cases c : u ≤ 999
      · rw [ble_iff.2 c, Lib.nDigits_unique 2 u (by omega) (by omega)]; rfl
      · rw [ble_false (a := u) (b := 999) |>.2 (by omega), Lib.nDigits_unique 3 u (by omega) (by omega)]; rfl
theorem gPow : Tryz.prog.globalNamed "internal/strconv.uint64pow10" = some 4 := by kernel_rfl
theorem digLaw : DigLaw Tryz.prog 165 4 := fun u w h1 h2 ⟨t, fz, hh⟩ => by
  have htab : Lib.TabIs Tryz.prog w "internal/strconv.uint64pow10" .u64 Lib.pow10Tab := by
    unfold Lib.TabIs World.var?
    rw [gPow]
    show (match w.heap[4]? with | some (.cells cs _ _) => some cs | _ => none) = _
    rw [hh]
    show some pow10A = _
    unfold pow10A Lib.pow10Tab
    rw [List.map_map]; rfl
  refine (Any.internal_strconv_numDigits Tryz.laysM284 u h1 (by omega) w htab).mono fun e w' ⟨q1, q2⟩ => ⟨?_, q2⟩
  rw [q1, digN_eq u h1 h2]
theorem repLaw : RepLaw Tryz.prog 65 := fun c m w hm => (Tryz.strings_Repeat ⟨#[c]⟩ m w (by omega) (by show 1 * m ≤ _; omega)).mono fun e w' h => ⟨_, h.1, by
  show Lib.repeatL [c] m = List.replicate m c
  have := Lib.repeatL_replicate c 1 m
  simpa using this, ⟨h.2.size, h.2.os, h.2.output, h.2.block⟩⟩
theorem numLawI : NumLawI Tryz.prog 306 := fun n w hn => by
  refine (YtkcffdanhklphaaGreatDoor.pnum_any n hn.1 hn.2 w).mono ?_
  rintro e w' ⟨a, b, c, d, f, g, h, i, W, rfl, rfl, h1, h2⟩
  refine ⟨_, rfl, by rw [YtkcffdanhklphaaGreatDoor.txt_list]; rfl, ?_, stays_alloc _ _⟩
  rw [YtkcffdanhklphaaGreatDoor.txt_list]
  have := packB_txt a b c d f g h i h2
  omega
theorem packN_eq : ∀ l : List UInt8, YtkcffdanhklphaaGreatDoor.packN l = packB l
  | [] => rfl
  | b :: l => by show b.toNat + 256 * YtkcffdanhklphaaGreatDoor.packN l = _; rw [packN_eq l]; rfl
theorem stays_refl (w : World) : Stays w w := ⟨Nat.le_refl _, rfl, rfl, fun _ _ => rfl⟩
theorem cutLaw : CutLaw Tryz.prog 232 (.iface 41 (.int .i64 11)) where
  ok := fun B o s w h1 h2 hf hn => by
    have hs : 8 ≤ s.size := by simpa using hn
    have ht : (s.extract 0 8).size ≤ 8 := by simp; omega
    refine (YtkcffdanhklphaaGreatDoor.num_of (s.extract 0 8) ht _ w B o (YtkcffdanhklphaaGreatDoor.take_ok B o s w h1 h2 hf hs)).mono ?_
    rintro e w' ⟨rfl, rfl⟩
    refine ⟨s.extract 8 s.size, ?_, ?_, w, stays_refl w, rfl⟩
    · rw [packN_eq]
      have : (s.extract 0 8).data.toList = s.data.toList.take 8 := by rw [ByteArray.data_extract, Array.toList_extract]; simp [List.extract_eq_take_drop]
      rw [this]
    · rw [ByteArray.data_extract, Array.toList_extract]; simp [List.extract_eq_take_drop]; rw [List.take_of_length_le (by simp)]
  short := fun B o s er w h1 h2 hf hc => by
    have ht : (ByteArray.mk #[]).size ≤ 8 := by decide
    rcases hc with ⟨rfl, hn⟩ | ⟨t, v, rfl⟩
    · refine (YtkcffdanhklphaaGreatDoor.num_of ⟨#[]⟩ ht _ w B o (YtkcffdanhklphaaGreatDoor.take_short B o s w h1 h2 hf (by simpa using hn))).mono ?_
      rintro e w' ⟨rfl, rfl⟩
      exact ⟨rfl, w, stays_refl w, rfl⟩
    · refine (YtkcffdanhklphaaGreatDoor.num_of ⟨#[]⟩ ht _ w B o (YtkcffdanhklphaaGreatDoor.take_err B o s t v w h1 h2 hf)).mono ?_
      rintro e w' ⟨rfl, rfl⟩
      exact ⟨rfl, w, stays_refl w, rfl⟩
def errCell : Nat := errC (41 + 65536 * 11)
theorem errCell_vr (σ : Sig) (I : Imm) : CRs σ I errCell (.iface 41 (.int .i64 11)) := by
  refine .inl (.inl ⟨by decide +kernel, by decide +kernel, 41, .int .i64 11, by decide +kernel, rfl, by decide +kernel, ?_⟩)
  have e : errCell % tI = 554597137599850363154807652363 := by decide +kernel
  rw [e]
  unfold CRp
  rw [show hi 554597137599850363154807652363 = 7 from by decide +kernel]
  exact ⟨11, rfl, by decide, by decide, by decide +kernel⟩
theorem orI_eq : ∀ l : List Int, YtkcffdanhklphaaGreatDoor.orI l = orZ l
  | [] => rfl
  | y :: l => by unfold YtkcffdanhklphaaGreatDoor.orI orZ; rw [orI_eq l]
theorem orLaw : OrLaw Tryz.prog 188 := fun xs b off c w hn hc => (YtkcffdanhklphaaGreatDoor.or_any xs b off c w hn hc).mono fun e w' h => by rw [orI_eq] at h; exact h
theorem tlV_eq : ∀ (frm : Int) (l : List TlX) (a : Nat), YtkcffdanhklphaaGreatDoor.tyV frm (l.map fun x => ⟨x.kind, x.till, x.code, x.txn⟩) a = tlV frm l a
  | frm, [], a => rfl
  | frm, x :: l, a => tlV_eq frm l (tlStep frm a x)
theorem tldLaw : TldLaw Tryz.prog 194 := fun xs V b off c frm w h1 h2 h3 h5 h4 => by
  have h := YtkcffdanhklphaaGreatDoor.told_plain (xs.map fun x => ⟨x.kind, x.till, x.code, x.txn⟩) V b off c frm w (by rw [List.length_map]; exact h1) (by rw [List.length_map]; exact h2) (fun j hj => by
    have := h3 j (by rw [List.length_map] at hj; exact hj)
    simp only [List.getElem_map]
    exact this) (fun j k hj hk => h5 j k (by rw [List.length_map] at hj; exact hj) hk) (fun j k hj hk => h4 j k (by rw [List.length_map] at hj; exact hj) hk)
  rw [List.length_map, tlV_eq] at h
  exact h.mono fun e w' h => ⟨h.1, ⟨h.2.size, h.2.os, h.2.output, h.2.block⟩⟩
theorem cmpLaw : CmpLaw Tryz.prog 190 := fun x y w => (YtkcffdanhklphaaGreatDoor.cmp_any x y w).mono fun e w' h => by
  obtain ⟨h1, rfl⟩ := h
  unfold YtkcffdanhklphaaGreatDoor.cmpZ at h1
  exact ⟨h1, Nat.le_refl _, rfl, rfl, fun _ _ => rfl⟩
theorem txtLaw : TxtLaw Tryz.prog 300 where
  ok := fun B o s w h1 h2 hf hn => by
    rw [← packN_eq] at hn ⊢
    refine (YtkcffdanhklphaaGreatDoor.text_ok B o s w h1 h2 hf hn).mono fun e w' h => ?_
    obtain ⟨t, r, h3, h4, h5, nq, h6⟩ := h
    exact ⟨t, r, h3, h4, h5, w.drewN nq, ⟨Nat.le_refl _, rfl, rfl, fun _ _ => rfl⟩, h6⟩
theorem enc_kS (s : List UInt8) : encStr s = kS s := rfl
theorem sortedLaw_of {K : FuncId} (h : ∀ {H : Type} (B b nn : Nat) (D0 : DataW H) (R : Value → Option (DataW H × List MemPlace)) (w : World) (hown : w.ownsMap Tryz.prog 9 R b nn D0) (hmax : Maps.size D0 ≤ maxLen) (hbytes : Maps.size D0 * 16 ≤ 140737488355328) (hB : B < w.heap.size) (hc : w.cell? ⟨B, 0, none⟩ = some (.map (some b))),
    Calls Tryz.prog 259 #[.func (.func K) #[] #[.pointer (some ⟨B, 0, none⟩)]] w fun e w' => ∃ (v : Value) (ss : List (List UInt8)), e = .returned v ∧ ss.Perm (strKeys D0) ∧
      w'.ownsRow w.heap.size 9 1 v ss.length ((ss.mergeSort (fun x y => decide (x ≤ y))).map encStr) ∧ (v = .slice none 0 0 ↔ ss = []) ∧ Go.RowKit.Below w.heap.size w w') : SortedLaw Tryz.prog 259 K 9 := by
  intro B b es clock ks w hc hb hst hk h11 hsz
  have hkeys : ∀ x ∈ es.toList, ∃ s : List UInt8, x.key = kS s ∧ s.length ≤ 11 := fun x hx => by
    have h1 : x.key ∈ es.toList.map (·.key) := List.mem_map_of_mem hx
    rw [hk] at h1
    obtain ⟨s, h2, h3⟩ := List.mem_map.1 h1
    exact ⟨s, h3.symm, h11 s h2⟩
  let R : Value → Option (DataW Value × List MemPlace) := fun _ => some (.nil, [])
  have hrd : ∀ x ∈ es.toList, ∃ s : List UInt8, x.key = kS s ∧ Go.WideElems.rd Tryz.prog 9 R x = some (.string s, .nil) := fun x hx => by
    obtain ⟨s, h1, h2⟩ := hkeys x hx
    refine ⟨s, h1, ?_⟩
    have hml : s.length ≤ maxLen := Nat.le_trans h2 (by decide)
    have hml' : (ByteArray.mk s.toArray).size ≤ maxLen := by show s.toArray.size ≤ maxLen; simpa using hml
    have : keyOf Tryz.prog 9 x.key = some (.string s) := by
      rw [h1]; simp [kS, keyOf, Tryz.underlying9, mapKey, hml']
    simp [Go.WideElems.rd, this, R]
  have hml : maxLen ≥ 16777214 := by decide
  have hfit : Go.WideElems.Fit Tryz.prog 9 R es clock := ⟨by omega, hst, fun x hx => let ⟨s, _, h⟩ := hrd x hx; ⟨_, h⟩⟩
  have hown : w.ownsMap Tryz.prog 9 R b es.size (.map ((es.toList.map (Go.WideElems.rg Tryz.prog 9 R)).foldr DataW.insert [])) := ⟨es, clock, hb, hfit, Nat.le_refl _, rfl⟩
  have hstrs : strKeys (DataW.map ((es.toList.map (Go.WideElems.rg Tryz.prog 9 R)).foldr DataW.insert [])) = ((es.toList.map (Go.WideElems.rg Tryz.prog 9 R)).foldr DataW.insert []).map fun p => strOf p.1 := rfl
  have hperm : (strKeys (DataW.map ((es.toList.map (Go.WideElems.rg Tryz.prog 9 R)).foldr DataW.insert []))).Perm ks := by
    rw [hstrs]
    refine ((Go.WideShapes.sorted_perm _).map _).trans ?_
    rw [List.map_map]
    have e : es.toList.map ((fun p => strOf p.1) ∘ Go.WideElems.rg Tryz.prog 9 R) = ks := by
      have h1 : es.toList.map ((fun p => strOf p.1) ∘ Go.WideElems.rg Tryz.prog 9 R) = (es.toList.map (·.key)).map (fun v => match v with | .string s => s.data.toList | _ => []) := by
        rw [List.map_map]
        refine List.map_congr_left fun x hx => ?_
        obtain ⟨s, h1, h2⟩ := hrd x hx
        simp [Go.WideElems.rg, h2, h1, strOf, kS]
      rw [h1, hk, List.map_map]
      have : ((fun v => match v with | .string s => s.data.toList | _ => []) ∘ kS) = (id : List UInt8 → List UInt8) := by
        funext s; simp [kS]
      rw [this]; exact List.map_id _
    rw [e]
  have hsize : Maps.size (DataW.map ((es.toList.map (Go.WideElems.rg Tryz.prog 9 R)).foldr DataW.insert [])) = es.size := by
    show ((es.toList.map (Go.WideElems.rg Tryz.prog 9 R)).foldr DataW.insert []).length = _
    rw [DataW.length_sorted]; simp
  refine (h B b es.size _ R w hown (by rw [hsize]; omega) (by rw [hsize]; omega) (cell_lt hc) hc).mono ?_
  rintro e w' ⟨v, ss, rfl, h1, h2, h3, h4⟩
  exact ⟨v, ss, rfl, h1.trans hperm, h2, h3, h4.size, h4.os, h4.output, h4.block⟩
theorem sortedLaw1 : SortedLaw Tryz.prog 259 398 9 := sortedLaw_of fun B b nn D0 R w a b' c d e => Tryz.sortedV B b nn D0 R w a b' c d e
theorem sortedLaw2 : SortedLaw Tryz.prog 259 337 9 := sortedLaw_of fun B b nn D0 R w a b' c d e => Tryz.sortedB B b nn D0 R w a b' c d e
theorem orcAt_mem {l : List (Nat × Nat)} {g : Nat} (h : orcAt l g ≠ 0) : (g, orcAt l g) ∈ l := by
  induction l with
  | nil => exact absurd rfl h
  | cons x l ih =>
    have e : orcAt (x :: l) g = @Option.rec Nat (fun _ => Nat) 0 (fun x => x) (@Bool.rec (fun _ => Option Nat) (find2 g l) (some x.2) (Nat.beq x.1 g)) := rfl
    rw [e] at h ⊢
    cases hb : Nat.beq x.1 g with
    | true =>
      have : x.1 = g := beq_iff.1 hb
      subst this
      exact List.mem_cons_self ..
    | false =>
      rw [hb] at h
      exact List.mem_cons_of_mem _ (ih h)
theorem mainB {o : List (Nat × Nat)} {g c : Nat} {fn : Func} {F : Nat} {H : HT} {nx : Nat} (hg : Tryz.prog.funcs[g]? = some fn) (hf : Free H nx) (hc : (g, c) ∈ orcB) : Tells (orc c fn (EO o) F H nx) (CalR (EO o) g F H nx) := by
  simp only [orcB, List.mem_cons, Prod.mk.injEq, List.not_mem_nil, or_false] at hc
  rcases hc with ⟨rfl, rfl⟩ | ⟨rfl, rfl⟩ | ⟨rfl, rfl⟩ | ⟨rfl, rfl⟩ | ⟨rfl, rfl⟩ | ⟨rfl, rfl⟩ | ⟨rfl, rfl⟩ | ⟨rfl, rfl⟩ | ⟨rfl, rfl⟩ | ⟨rfl, rfl⟩ | ⟨rfl, rfl⟩ | ⟨rfl, rfl⟩ | ⟨rfl, rfl⟩ | ⟨rfl, rfl⟩ | ⟨rfl, rfl⟩ | ⟨rfl, rfl⟩ | ⟨rfl, rfl⟩ | ⟨rfl, rfl⟩ | ⟨rfl, rfl⟩ | ⟨rfl, rfl⟩ | ⟨rfl, rfl⟩
  · exact oIs_ok (T := 41) ⟨fun m w => YtkcffdanhklphaaGreatDoor.is_nil1 m w, fun n m w => YtkcffdanhklphaaGreatDoor.is_one n m w⟩ (enters_of Tryz.func17 (by kernel_rfl) rfl) hf
  · have h := oAs_ok (X := EO o) (H := H) (nx := nx) (F := F) (T := 41) (TP := 104) (R := 76) (E := 38654967845) asLaw (enters_of Tryz.func40 (by kernel_rfl) rfl) hf
    exact h
  · exact oCount_ok countLaw (enters_of Tryz.func61 (by kernel_rfl) rfl) hf
  · exact oIndex_ok indexLaw (enters_of Tryz.func62 (by kernel_rfl) rfl) hf
  · exact oRepeat_ok repLaw (enters_of Tryz.func65 (by kernel_rfl) rfl) hf
  · exact oIdx_ok idxLaw (enters_of Tryz.func160 (by kernel_rfl) rfl) hf
  · exact oDig_ok (Z := 4) (by decide) digLaw (enters_of Tryz.func165 (by kernel_rfl) rfl) hf
  · have : fn = Tryz.f171 := Option.some.inj (hg.symm.trans Tryz.func171)
    subst this
    exact oInsert_ok (X := EO o) (s0 := 1) (show szT (EO o) (elemT (EO o) (argT Tryz.f171.params 0)) = _ from (show szT XB (elemT XB (argT Tryz.f171.params 0)) = _ from by decide +kernel)) insInt (enters_of Tryz.func171 (by kernel_rfl) rfl) hf
  · exact oOr_ok orLaw (enters_of Tryz.func188 (by kernel_rfl) rfl) hf
  · exact oCmp_ok cmpLaw (enters_of Tryz.func190 (by kernel_rfl) rfl) hf
  · exact oTold_ok tldLaw (enters_of Tryz.func194 (by kernel_rfl) rfl) hf
  · exact Tells.frc (F := fun C k => oCutNum C F H nx k) (oCutNum_ok (C := errC (41 + 65536 * 11)) (fun σ I => (errCell_vr σ I).toV) (errCell_vr _ _) cutLaw (enters_of Tryz.func232 (by kernel_rfl) rfl) hf)
  · exact oSorted_ok (K := 1447430062089) (t := 9) (fun K' h => by
      rcases h with h | h
      · have : K' = 398 := h.trans (by decide +kernel)
        subst this; exact sortedLaw1
      · have : K' = 337 := h.trans (by decide +kernel)
        subst this; exact sortedLaw2) (enters_of Tryz.func259 (by kernel_rfl) rfl) hf
  · exact oCutText_ok txtLaw (enters_of Tryz.func300 (by kernel_rfl) rfl) hf
  · exact oNumI_ok numLawI (enters_of Tryz.func306 (by kernel_rfl) rfl) hf
  · exact oNum_ok (numLaw_of fun n hn w => YtkcffdanhklphaaGreatDoor.num_a n hn w) (enters_of Tryz.func308 (by kernel_rfl) rfl) hf
  · exact oSum_ok (sumLaw_of fun s hs w => YtkcffdanhklphaaGreatDoor.sum_a s hs w) (enters_of Tryz.func309 (by kernel_rfl) rfl) hf
  · have : fn = Tryz.f345 := Option.some.inj (hg.symm.trans Tryz.func345)
    subst this
    exact oInsert_ok (X := EO o) (s0 := 1) (show szT (EO o) (elemT (EO o) (argT Tryz.f345.params 0)) = _ from (show szT XB (elemT XB (argT Tryz.f345.params 0)) = _ from by decide +kernel)) insStr (enters_of Tryz.func345 (by kernel_rfl) rfl) hf
  · have : fn = Tryz.f409 := Option.some.inj (hg.symm.trans Tryz.func409)
    subst this
    exact oClone_ok ⟨Tryz.func409, by kernel_rfl, by kernel_rfl, by kernel_rfl, by kernel_rfl⟩ hf
  · exact oKeys_ok keysLaw (enters_of Tryz.func441 (by kernel_rfl) rfl) hf
  · have : fn = Tryz.f495 := Option.some.inj (hg.symm.trans Tryz.func495)
    subst this
    exact oInsert_ok (X := EO o) (s0 := 10) (show szT (EO o) (elemT (EO o) (argT Tryz.f495.params 0)) = _ from (show szT XB (elemT XB (argT Tryz.f495.params 0)) = _ from by decide +kernel)) insItm (enters_of Tryz.func495 (by kernel_rfl) rfl) hf
theorem orcB_ok : OrcOk (EO orcB) := fun g fn F H nx hg ho hf => mainB hg hf (orcAt_mem ho)
theorem sizeE : 3 ≤ Tryz.prog.types.size := by rw [sizeP]; omega
theorem runOkE {o : List (Nat × Nat)} (hN : FnsOk (EO o)) (hO : OrcOk (EO o)) (n : Nat) : RunOk (EO o) (Ev.runN n (EO o)) := run_ok (envE o) ⟨trivial⟩ sizeE hN hO (fun call hc => draw_ok (envE o) ⟨trivial⟩ sizeE mixedE hc) n
theorem fnsOkB : FnsOk (EO orcB) := fnsOkE fun g h => h
theorem topB {G : Obj} {n g F : Nat} {fn : Func} (hg : Tryz.prog.funcs[g]? = some fn) (ho : orcAt orcB g = 0) (hi : isImm G) (hrun : isTr (runTop XB G n g fn F) = true) {args : Array Value} (hA : ∀ σ I, ArgsR σ I F args) (w : World) (hG : Grounded G w) :
    Calls Tryz.prog g args w fun e w' => e = .returned (.bool true) ∧ Kept w w' :=
  top (envE orcB) sizeE fnsOkB orcB_ok mixedE hg ho hi hrun hA w hG
theorem orcAt_none {l : List (Nat × Nat)} {g : Nat} (h : ∀ x ∈ l, x.1 ≠ g) : orcAt l g = 0 := by
  have : find2 g l = none := by
    induction l with
    | nil => rfl
    | cons x l ih =>
      show @Bool.rec (fun _ => Option Nat) (find2 g l) (some x.2) (Nat.beq x.1 g) = none
      rw [beq_false.2 (h x (by simp))]
      exact ih fun y hy => h y (by simp [hy])
  unfold orcAt; rw [this]
theorem args0 : ∀ σ I, ArgsR σ I 0 #[] := fun σ I => ⟨by decide, .inl (by decide +kernel), fun i h => absurd h (by simp)⟩
/-- the ground of all runs -/
def gG : Obj := .tup 76 38654967845
theorem trueLaw_of {n g : Nat} {fn : Func} (hg : Tryz.prog.funcs[g]? = some fn) (ho : orcAt orcB g = 0) (hrun : isTr (runTop XB gG n g fn 0) = true) : TrueLaw Tryz.prog g 76 38654967845 := fun w hw => by
  refine (topB hg ho (G := gG) trivial hrun args0 w fun R E h => ?_).mono fun e w' ⟨h1, h2⟩ => ⟨h1, h2⟩
  injection h with h1 h2
  subst h1 h2
  exact hw
end Go.Ev
