/-
  PLAIN: what was told, in Lean: the history's rows, how it is ordered, what each version has, whether it is serial; no program in sight. (Where no transaction lies within another one.)
-/
import Derived.Test.YtmkhjmldncegcaaGreatDoorMA
import Derived.Shelf.SlSortCmp.InsertionK
import Derived.Test.YtmkhjmldncegcaaGreatDoorMD
import Derived.Test.YtmkhjmldncegcaaGreatDoorShelfC
set_option linter.unusedVariables false
namespace Go.Proofs.YtmkhjmldncegcaaGreatDoor
open Go

instance : Inhabited OpA := ⟨⟨0, [], [], [], 0, 0⟩⟩
instance : Inhabited RepA := ⟨⟨0, [], []⟩⟩

structure ToldA where
  pid : Int
  number : Int
  op : OpA
  frm : Int
  till : Int
  rep : RepA
  txn : Nat
deriving DecidableEq, Inhabited

/-- The first that is not nought. -/
def orI (a b : Int) : Int := if a ≠ 0 then a else b
def cmpTold (x y : ToldA) : Int := orI (Lib.compareInt x.pid y.pid) (Lib.compareInt x.number y.number)
def orderA (l : List ToldA) : List ToldA := (Sort.insertionSort (ltOf cmpTold) l.toArray 0 l.length).toList

/-- A version that was made: its number, when it was asked for, by which ops. -/
structure ComA where
  txn : Nat
  frm : Int
  ops : List OpA
deriving DecidableEq, Inhabited
def cmpCom (x y : ComA) : Int := orI (Lib.compareInt x.txn y.txn) (Lib.compareInt x.frm y.frm)
def orderC (l : List ComA) : List ComA := (Sort.insertionSort (ltOf cmpCom) l.toArray 0 l.length).toList

/-! ### what a process is in -/
structure StA where
  reads : Bool
  base : Nat
  ops : List (List OpA)
deriving DecidableEq

/-- The steps that are spoken of: an untold one; a commit, a put within a writing transaction; a get within a reading one; a begin out of nothing. -/
inductive Way where
  | no | com | put | get | rd | wr
deriving DecidableEq
def wayOf (s : StA) (t : ToldA) : Option Way :=
  if t.till = 0 then some .no
  else if 0 < t.till then
    if s.reads = false ∧ s.ops.length = 1 then (if t.op.kind = 6 then some .com else if t.op.kind = 9 ∧ t.rep.code = 0 then some .put else none)
    else if s.reads = true ∧ s.ops = [] then (if t.op.kind = 8 then some .get else none)
    else if s.reads = false ∧ s.ops = [] then (if t.op.kind = 3 ∧ t.rep.code = 0 then some .rd else if t.op.kind = 4 ∧ t.rep.code = 0 then some .wr else none)
    else none
  else none
def stepS (s : StA) (t : ToldA) : StA :=
  match wayOf s t with
  | some .com => ⟨false, 0, []⟩
  | some .put => ⟨s.reads, s.base, [s.ops.headD [] ++ [t.op]]⟩
  | some .rd => ⟨true, t.txn, []⟩
  | some .wr => ⟨false, t.txn, [[]]⟩
  | _ => s
def outerB (s : StA) (t : ToldA) : Bool := decide (t.op.kind = 6) && decide (s.ops.length = 1)
def mupd {κ α : Type} [Ky κ] (k : κ) (v : α) (l : List (κ × α)) : List (κ × α) := if (mget k l).isSome then mset k v l else mput k v l
/-- Behind a row of what was told: the processes, the commits. -/
def comStep (a : List (Int × StA) × List ComA) (t : ToldA) : List (Int × StA) × List ComA :=
  let s := (mget t.pid a.1).getD ⟨false, 0, []⟩
  (mupd t.pid (stepS s t) a.1, if outerB s t && decide (s.base < t.txn) then a.2 ++ [⟨t.txn, t.frm, s.ops.headD []⟩] else a.2)
def comFold (l : List ToldA) : List (Int × StA) × List ComA := l.foldl comStep ([], [])
def commitsA (l : List ToldA) : List ComA := orderC (comFold (orderA l)).2
/-- Is each step one of those that are spoken of? -/
def comOk (a : List (Int × StA)) (t : ToldA) : Bool := (wayOf ((mget t.pid a).getD ⟨false, 0, []⟩) t).isSome
def comOks : List (Int × StA) × List ComA → List ToldA → Bool
  | _, [] => true
  | a, t :: r => comOk a.1 t && comOks (comStep a t) r
theorem comOks_at : ∀ (l : List ToldA) (a : List (Int × StA) × List ComA) (j : Nat) (t : ToldA), comOks a l = true → l[j]? = some t → comOk ((l.take j).foldl comStep a).1 t = true
  | [], a, j, t, h, hj => by simp at hj
  | x :: r, a, 0, t, h, hj => by
    simp at hj; subst hj
    unfold comOks at h
    simp at h
    simpa using h.1
  | x :: r, a, j + 1, t, h, hj => by
    unfold comOks at h
    simp at h
    simpa using comOks_at r (comStep a x) j t h.2 (by simpa using hj)
end Go.Proofs.YtmkhjmldncegcaaGreatDoor

/-
  WALKS: the stable sort at twenty or fewer; past.ordered.
-/
set_option linter.unusedVariables false
set_option linter.unusedSimpArgs false
namespace Go.Proofs.YtmkhjmldncegcaaGreatDoor
open Go.RowKit Go.Maps Go.ChangeMaps Go.MapKept Go.Sort

def toldCells (t : ToldA) : List Value :=
  [.int .i64 t.pid, .int .i64 t.number, .int .i64 t.op.kind, encStr t.op.db, encStr t.op.key, encStr t.op.val, .int .i64 t.op.flags, .int .i64 t.op.n, .int .i64 t.frm, .int .i64 t.till, .int .i64 t.rep.code, encStr t.rep.key, encStr t.rep.val, .int .u64 t.txn]
theorem toldCells_len (t : ToldA) : (toldCells t).length = 14 := rfl
theorem toldCells_one (t : ToldA) : ∀ v ∈ toldCells t, v.oneCell' = true := by
  intro v hv
  simp only [toldCells, List.mem_cons, List.not_mem_nil, or_false] at hv
  rcases hv with h | h | h | h | h | h | h | h | h | h | h | h | h | h <;> subst h <;> rfl

set_option maxHeartbeats 1000000 in
theorem or_any (a b : Int) (g : Nat) (w : World) (h0 : w.cell? ⟨g, 0, none⟩ = some (.int .i64 a)) (h1 : w.cell? ⟨g, 1, none⟩ = some (.int .i64 b)) :
    Calls Tryz.prog 63 #[.slice (some ⟨g, 0, none⟩) 2 2] w fun e w' => e = .returned (.int .i64 (orI a b)) ∧ w' = w := by
  by_cases ha : a = 0
  · subst ha
    by_cases hb : b = 0
    · subst hb
      go_enter Tryz.func63, Tryz.ntmps63
      go_wp2
      refine wp_loop_rounds 3 ?_
      rw [rounds_succ]
      go_wp2
      rw [rounds_succ]
      go_wp2
      rw [rounds_succ]
      go_wp2
      go_ret
      exact ⟨rfl, rfl⟩
    · have hb' : (b != 0) = true := by simpa using hb
      have HB := Lib.hid hb
      clear hb
      go_enter Tryz.func63, Tryz.ntmps63
      go_wp2
      refine wp_loop_rounds 3 ?_
      rw [rounds_succ]
      go_wp2
      rw [rounds_succ]
      go_wp2
      go_ret
      exact ⟨rfl, rfl⟩
  · have ha' : (a != 0) = true := by simpa using ha
    have ha2 : (a == 0) = false := by simpa using ha
    have HA := Lib.hid ha
    clear ha
    go_enter Tryz.func63, Tryz.ntmps63
    go_wp2
    refine wp_loop_rounds 3 ?_
    rw [rounds_succ]
    go_wp2
    go_ret
    exact ⟨by unfold orI; rw [if_pos HA.out]; rfl, rfl⟩

/-- Some draws, some blocks laid behind. -/
def Grew (w w' : World) : Prop := ∃ q os', w' = grow (w.drewN q) os'
theorem Grew.rfl' (w : World) : Grew w w := ⟨0, #[], by rw [grow_empty]; rfl⟩
theorem Grew.alloc {w w' : World} (h : Grew w w') (o : Obj) : Grew w (w'.alloc o) := by
  obtain ⟨q, os, rfl⟩ := h
  exact ⟨q, os ++ #[o], by rw [alloc_eq_grow, grow_grow]⟩
theorem Grew.drew {w w' : World} (h : Grew w w') : Grew w w'.drew := by
  obtain ⟨q, os, rfl⟩ := h
  exact ⟨q + 1, os, by rw [drew_grow]; rfl⟩

set_option maxHeartbeats 4000000 in
set_option maxRecDepth 100000 in
theorem cmpTold_any (x y : ToldA) (W : World) :
    Calls Tryz.prog 68 #[.agg (toldCells x).toArray, .agg (toldCells y).toArray] W fun e w' => e = .returned (.int .i64 (cmpTold x y)) ∧ Grew W w' := by
  have HC := Lib.hid fun a b W => Tryz.cmp_Compare_int a b W
  have HR : Hid (cmpTold x y = orI (Lib.compareInt x.pid y.pid) (Lib.compareInt x.number y.number)) := rfl
  rw [HR.out]
  clear HR
  unfold toldCells
  go_enter Tryz.func68, Tryz.ntmps68
  go_wp2_with fail
  generalize hW : (W.alloc (Obj.cells _ 38)).alloc (Obj.cells _ 38) = W2
  have hg : Grew W W2 := by rw [← hW]; exact ((Grew.rfl' W).alloc _).alloc _
  have hx : W2.heap[W.heap.size]? = some (.cells (toldCells x).toArray 38 (0, 0)) := by
    rw [← hW]; exact (((Ext.rfl' (W.alloc (.cells (toldCells x).toArray 38))).alloc _).block W.heap.size (by simp)).trans (heap_new W _)
  have hy : W2.heap[W.heap.size + 1]? = some (.cells (toldCells y).toArray 38 (0, 0)) := by rw [← hW]; exact two_boxes W _ _
  have x0 := cellAt hx 0
  have x1 := cellAt hx 1
  have y0 := cellAt hy 0
  have y1 := cellAt hy 1
  have hs2 : W.heap.size + 1 < W2.heap.size := lt_heap hy
  simp [toldCells] at x0 x1 y0 y1
  have HG := Lib.hid hg
  have HO1 : Hid (Calls Tryz.prog 63 #[.slice (some ⟨W2.heap.size, 0, none⟩) 2 2] (W2.alloc (.cells #[.int .i64 (Lib.compareInt x.pid y.pid), .int .i64 (Lib.compareInt x.number y.number)] 3)) fun e w' => e = .returned (.int .i64 (orI (Lib.compareInt x.pid y.pid) (Lib.compareInt x.number y.number))) ∧ w' = W2.alloc (.cells #[.int .i64 (Lib.compareInt x.pid y.pid), .int .i64 (Lib.compareInt x.number y.number)] 3)) :=
    or_any _ _ _ _ (cellAt (heap_new W2 _) 0) (cellAt (heap_new W2 _) 1)
  have HO2 : Hid (Calls Tryz.prog 63 #[.slice (some ⟨W2.heap.size, 0, none⟩) 2 2] (W2.alloc (.cells #[.int .i64 (Lib.compareInt x.pid y.pid), .int .i64 (Lib.compareInt x.number y.number)] 3)).drew fun e w' => e = .returned (.int .i64 (orI (Lib.compareInt x.pid y.pid) (Lib.compareInt x.number y.number))) ∧ w' = (W2.alloc (.cells #[.int .i64 (Lib.compareInt x.pid y.pid), .int .i64 (Lib.compareInt x.number y.number)] 3)).drew) :=
    or_any _ _ _ _ (cellAt (heap_new W2 _) 0) (cellAt (heap_new W2 _) 1)
  clear hW hx hy hg
  go_region_held3 (fun w' => w'.cell? ⟨W.heap.size, 0, none⟩ = some (.int .i64 x.pid) ∧ w'.cell? ⟨W.heap.size, 1, none⟩ = some (.int .i64 x.number) ∧ w'.cell? ⟨W.heap.size + 1, 0, none⟩ = some (.int .i64 y.pid) ∧ w'.cell? ⟨W.heap.size + 1, 1, none⟩ = some (.int .i64 y.number))
    (first | exact ⟨x0, x1, y0, y1⟩ | exact ⟨((Ext.rfl' W2).alloc _).cell x0, ((Ext.rfl' W2).alloc _).cell x1, ((Ext.rfl' W2).alloc _).cell y0, ((Ext.rfl' W2).alloc _).cell y1⟩)
    (first
      | (go_at_call 65; refine (HC.out _ _ _).mono ?_; rintro e w' ⟨rfl, rfl⟩)
      | (go_at_call 63; first | (with_reducible refine HO1.out.mono ?_) | (with_reducible refine HO2.out.mono ?_); rintro e w' ⟨rfl, rfl⟩))
  go_wp2
  go_ret
  exact ⟨rfl, by first | exact HG.out.alloc _ | exact (HG.out.alloc _).drew | exact HG.out.drew.alloc _⟩

/-- But for block b nothing that was has turned. -/
structure RowChg (b : Nat) (w w' : World) : Prop where
  os : w'.os = w.os
  tape : w'.tape = w.tape
  output : w'.output = w.output
  size : w.heap.size ≤ w'.heap.size
  block : ∀ k, k < w.heap.size → k ≠ b → w'.heap[k]? = w.heap[k]?
theorem RowChg.trans {b : Nat} {w w' w'' : World} (h : RowChg b w w') (k : RowChg b w' w'') : RowChg b w w'' :=
  ⟨k.os.trans h.os, k.tape.trans h.tape, k.output.trans h.output, Nat.le_trans h.size k.size, fun j hj hn => (k.block j (Nat.lt_of_lt_of_le hj h.size) hn).trans (h.block j hj hn)⟩
theorem RowChg.fresh {b : Nat} {w w' w'' : World} (h : Ext w w') (k : RowChg b w' w'') (hb : w.heap.size ≤ b) : Ext w w'' :=
  ⟨k.os.trans h.os, k.tape.trans h.tape, k.output.trans h.output, Nat.le_trans h.size k.size, fun j hj => (k.block j (Nat.lt_of_lt_of_le hj h.size) (by omega)).trans (h.block j hj)⟩

section
variable {α : Type} [Inhabited α] (enc : α → List Value) (k : Nat)
theorem sortWorldK_chg (w : World) (blk off n : Nat) (d : Array α) (os : Array Obj) : RowChg blk w (sortWorldK enc k w blk off n d os) := by
  refine ⟨rfl, rfl, rfl, size_sortWorldK_c enc k w blk off n d os, fun j hj hne => ?_⟩
  unfold sortWorldK putRowK putRow mapBlock grow
  show (Array.modify w.heap blk _ ++ os)[j]? = w.heap[j]?
  rw [Array.getElem?_append_left (by simpa using hj), Array.getElem?_modify, if_neg (Ne.symm hne)]

theorem flat_get (hk : ∀ x, (enc x).length = k) (h0 : 0 < k) : ∀ (l : List α) (t : Nat), t < l.length * k → (l.flatMap enc)[t]? = some ((enc l.toArray[t / k]!)[t % k]!)
  | [], t, h => by simp at h
  | a :: r, t, h => by
    rw [List.flatMap_cons]
    by_cases ht : t < k
    · rw [List.getElem?_append_left (by rw [hk]; exact ht), Nat.div_eq_of_lt ht, Nat.mod_eq_of_lt ht]
      have : t < (enc a).length := by rw [hk]; exact ht
      simp [this]
    · have e1 : t / k = (t - k) / k + 1 := by rw [Nat.div_eq_sub_div h0 (by omega)]
      have e2 : t % k = (t - k) % k := Nat.mod_eq_sub_mod (by omega)
      have hlt : t - k < r.length * k := by rw [List.length_cons, Nat.add_mul] at h; omega
      rw [List.getElem?_append_right (by rw [hk]; omega), hk, flat_get hk h0 r (t - k) hlt, e1, e2]
      simp

theorem holdsK_of (hk : ∀ x, (enc x).length = k) (h0 : 0 < k) {w : World} {e : TypeId} {base g cap : Nat} {l : List α} (h : w.ownsRow base e k (.slice (some ⟨g, 0, none⟩) l.length cap) l.length (l.flatMap enc)) : HoldsK enc k w g 0 l.toArray := by
  intro j hj
  rw [size_flatK] at hj
  have hj' : j < l.length * k := by simpa using hj
  have hg : (flatK enc k l.toArray)[j]! = (enc l.toArray[j / k]!)[j % k]! := get_flatK enc k _ j hj
  have hf := flat_get enc k hk h0 l j hj'
  have hc := h.cells (g := g) rfl j _ hf
  rw [Addr.add_lit] at hc
  refine ⟨by rw [hg]; simpa using hc, ?_⟩
  rcases h.2 with ⟨hn, _⟩ | ⟨g', c', cur, hv, _, hb, _⟩
  · cases hn
  · injection hv with hv _ _
    injection hv with hv
    injection hv with hv _ _
    subst hv
    exact frozenAt hb _

theorem sl_of (hk : ∀ x, (enc x).length = k) (h0 : 0 < k) {w : World} {g cap n : Nat} {l : List α} (hn : l.length = n) (h : HoldsK enc k w g 0 l.toArray) (h1 : n ≤ cap) (h2 : cap ≤ maxLen) : Sl w k (.slice (some ⟨g, 0, none⟩) n cap) n (l.flatMap enc) := by
  have hl : (l.flatMap enc).length = n * k := by
    rw [← hn]
    clear h hn
    induction l with
    | nil => simp
    | cons a r ih => rw [List.flatMap_cons, List.length_append, ih, hk, List.length_cons, Nat.add_mul]; omega
  refine ⟨hl, _, cap, rfl, h1, h2, fun _ => ⟨g, 0, rfl, fun j u hu => ?_⟩⟩
  have hj : j < n * k := by rw [← hl]; exact (List.getElem?_eq_some_iff.1 hu).1
  have hf := flat_get enc k hk h0 l j (by rw [hn]; exact hj)
  rw [hu] at hf
  injection hf with hf
  rw [hf]
  have := (h j (by rw [size_flatK]; simpa [hn] using hj)).1
  rw [get_flatK enc k _ j (by simpa [hn] using hj)] at this
  exact this
end

theorem isort_self {α : Type} [Inhabited α] (lt : α → α → Bool) (d : Array α) (n : Nat) : Sort.insertionSort lt d n n = d := by
  unfold Sort.insertionSort Sort.insOuter
  rw [if_neg (by omega)]
theorem isort_size {α : Type} [Inhabited α] (lt : α → α → Bool) (d : Array α) (a b : Nat) : (Sort.insertionSort lt d a b).size = d.size := by
  have h1 : ∀ a j (d : Array α), (Sort.insInner lt a j d).size = d.size := by
    intro a j
    induction j with
    | zero => intro d; rfl
    | succ j ih =>
      intro d
      unfold Sort.insInner
      split
      · rw [ih, size_swp]
      · rfl
  have h2 : ∀ n i (d : Array α), b - i ≤ n → (Sort.insOuter lt a b i d).size = d.size := by
    intro n
    induction n with
    | zero => intro i d h; unfold Sort.insOuter; rw [if_neg (by omega)]
    | succ n ih =>
      intro i d h
      unfold Sort.insOuter
      split
      · rw [ih _ _ (by omega), h1]
      · rfl
  exact h2 _ _ _ (Nat.le_refl _)

theorem told_eg : ∀ args w, (callFunc 68 args).run Tryz.prog w = .ok (.enter 68 args) w := enters_of Tryz.func68 (by kernel_rfl) rfl

theorem told_ins (blk cap a b : Nat) (d : Array ToldA) (w : World) (hH : HoldsK toldCells 14 w blk 0 d) (hblk : blk < w.heap.size) (hab : a ≤ b) (hb : b ≤ d.size) (hsz : d.size ≤ 20) :
    Calls Tryz.prog 103 #[.slice (some ⟨blk, 0, none⟩) d.size cap, .int .i64 a, .int .i64 b, .func (.func 68) #[] #[]] w fun e w' =>
      e = .returned (.tuple #[]) ∧ ∃ n os, w' = sortWorldK toldCells 14 w blk 0 n (Sort.insertionSort (ltOf cmpTold) d a b) os :=
  AnyQ.insertionSortCmpFunc Tryz.insTold 14 Tryz.isAgg38 Tryz.sizeOf38 toldCells toldCells_len toldCells_one cmpTold _ #[] blk 0 cap a b d w told_eg
    (fun m os dk hs x y => (cmpTold_any x y _).mono fun e w' ⟨h1, h2⟩ => ⟨h1, h2⟩) hH hblk hab hb (by omega)

set_option maxHeartbeats 4000000 in
set_option maxRecDepth 100000 in
theorem told_stable (blk cap : Nat) (d : Array ToldA) (w : World) (hH : HoldsK toldCells 14 w blk 0 d) (hblk : blk < w.heap.size) (hsz : d.size ≤ 20) :
    Calls Tryz.prog 89 #[.slice (some ⟨blk, 0, none⟩) d.size cap, .int .i64 d.size, .func (.func 68) #[] #[]] w fun e w' =>
      e = .returned (.tuple #[]) ∧ HoldsK toldCells 14 w' blk 0 (Sort.insertionSort (ltOf cmpTold) d 0 d.size) ∧ RowChg blk w w' := by
  by_cases h20 : d.size < 20
  · have HC := Lib.hid (told_ins blk cap 0 d.size d w hH hblk (Nat.zero_le _) (Nat.le_refl _) hsz)
    have HE : Hid (∀ n os, HoldsK toldCells 14 (sortWorldK toldCells 14 w blk 0 n (Sort.insertionSort (ltOf cmpTold) d 0 d.size) os) blk 0 (Sort.insertionSort (ltOf cmpTold) d 0 d.size)) := fun n os =>
      holdsK_sortWorldK_c toldCells 14 w blk 0 d _ n os hH hblk (isort_size _ _ _ _)
    generalize Sort.insertionSort (ltOf cmpTold) d 0 d.size = d' at HC HE ⊢
    have h1 : decide ((20 : Int) ≤ (d.size : Int)) = false := by simp; omega
    have h2 : decide ((20 : Int) < (d.size : Int)) = false := by simp; omega
    have HH := Lib.hid hH
    clear hH
    go_enter Tryz.func89, Tryz.ntmps89
    go_wp2_with fail
    refine wp_loop_rounds 1 ?_
    rw [rounds_succ]
    go_wp2_with fail
    refine HC.out.mono ?_
    rintro e w1 ⟨rfl, n, os, rfl⟩
    have HE1 := Lib.hid (HE.out n os)
    have HR1 := Lib.hid (sortWorldK_chg toldCells 14 w blk 0 n d' os)
    generalize sortWorldK toldCells 14 w blk 0 n d' os = w1 at HE1 HR1 ⊢
    go_wp2_with fail
    refine wp_loop_rounds 1 ?_
    rw [rounds_succ]
    go_wp2_with fail
    go_end0
    exact ⟨rfl, HE1.out, HR1.out⟩
  · have hs : d.size = 20 := by omega
    have HC := Lib.hid (told_ins blk cap 0 20 d w hH hblk (by omega) (by omega) hsz)
    obtain ⟨d', hd'⟩ : ∃ d', Sort.insertionSort (ltOf cmpTold) d 0 20 = d' := ⟨_, rfl⟩
    have hsz' : d'.size = 20 := by rw [← hd', isort_size]; exact hs
    have HE : Hid (∀ n os, HoldsK toldCells 14 (sortWorldK toldCells 14 w blk 0 n d' os) blk 0 d') := fun n os =>
      holdsK_sortWorldK_c toldCells 14 w blk 0 d _ n os hH hblk (by omega)
    have HC2 : Hid (∀ n os, Calls Tryz.prog 103 #[.slice (some ⟨blk, 0, none⟩) 20 cap, .int .i64 20, .int .i64 20, .func (.func 68) #[] #[]] (sortWorldK toldCells 14 w blk 0 n d' os) fun e w' =>
        e = .returned (.tuple #[]) ∧ ∃ n' os', w' = sortWorldK toldCells 14 (sortWorldK toldCells 14 w blk 0 n d' os) blk 0 n' d' os') := fun n os => by
      have h := told_ins blk cap 20 20 d' (sortWorldK toldCells 14 w blk 0 n d' os) (HE.out n os) (Nat.lt_of_lt_of_le hblk (size_sortWorldK_c toldCells 14 w blk 0 n d' os)) (Nat.le_refl _) (by omega) (by omega)
      rw [isort_self, hsz'] at h
      exact h
    have HE2 : Hid (∀ n os n' os', HoldsK toldCells 14 (sortWorldK toldCells 14 (sortWorldK toldCells 14 w blk 0 n d' os) blk 0 n' d' os') blk 0 d') := fun n os n' os' =>
      holdsK_sortWorldK_c toldCells 14 _ blk 0 d' _ n' os' (HE.out n os) (Nat.lt_of_lt_of_le hblk (size_sortWorldK_c toldCells 14 w blk 0 n d' os)) rfl
    rw [hs] at HC ⊢
    rw [hd'] at HC ⊢
    clear hH h20 hs hd' hsz'
    go_enter Tryz.func89, Tryz.ntmps89
    go_wp2_with fail
    refine wp_loop_rounds 2 ?_
    rw [rounds_succ]
    go_wp2_with fail
    refine HC.out.mono ?_
    rintro e w1 ⟨rfl, n, os, rfl⟩
    have HC3 := Lib.hid (HC2.out n os)
    have HR1 := Lib.hid (sortWorldK_chg toldCells 14 w blk 0 n d' os)
    have HE3 := Lib.hid (HE2.out n os)
    generalize sortWorldK toldCells 14 w blk 0 n d' os = w1 at HC3 HE3 HR1 ⊢
    go_wp2_with fail
    rw [rounds_succ]
    go_wp2_with fail
    refine HC3.out.mono ?_
    rintro e w2 ⟨rfl, n', os', rfl⟩
    have HE1 := Lib.hid (HE3.out n' os')
    have HR2 := Lib.hid (sortWorldK_chg toldCells 14 w1 blk 0 n' d' os')
    generalize sortWorldK toldCells 14 w1 blk 0 n' d' os' = w2 at HE1 HR2 ⊢
    go_wp2_with fail
    refine wp_loop_rounds 1 ?_
    rw [rounds_succ]
    go_wp2_with fail
    go_end0
    exact ⟨rfl, HE1.out, HR1.out.trans HR2.out⟩

set_option maxHeartbeats 1000000 in
theorem told_sort (blk cap : Nat) (d : Array ToldA) (w : World) (hH : HoldsK toldCells 14 w blk 0 d) (hblk : blk < w.heap.size) (hsz : d.size ≤ 20) :
    Calls Tryz.prog 67 #[.slice (some ⟨blk, 0, none⟩) d.size cap, .func (.func 68) #[] #[]] w fun e w' =>
      e = .returned (.tuple #[]) ∧ HoldsK toldCells 14 w' blk 0 (Sort.insertionSort (ltOf cmpTold) d 0 d.size) ∧ RowChg blk w w' := by
  have HC := Lib.hid (told_stable blk cap d w hH hblk hsz)
  generalize Sort.insertionSort (ltOf cmpTold) d 0 d.size = d' at HC ⊢
  clear hH
  go_enter Tryz.func67, Tryz.ntmps67
  go_wp2_with fail
  refine HC.out.mono ?_
  rintro e w1 ⟨rfl, h1, h2⟩
  have H1 := Lib.hid h1
  have H2 := Lib.hid h2
  clear h1 h2
  go_wp2_with fail
  go_end0
  exact ⟨rfl, H1.out, H2.out⟩

/-- A slice value that reads as these rows of what was told. -/
def Tolds (w : World) (v : Value) (l : List ToldA) : Prop := Sl w 14 v l.length (l.flatMap toldCells)
theorem Tolds.ext {w w' : World} {v : Value} {l : List ToldA} (h : Tolds w v l) (e : Ext w w') : Tolds w' v l := Sl.ext h e

theorem told_info : (Tryz.prog.info? 38).map (fun i => (i.zero, i.size, i.bytes)) = some (some (.agg #[.int .i64 0, .int .i64 0, .int .i64 0, .string ⟨#[]⟩, .string ⟨#[]⟩, .string ⟨#[]⟩, .int .i64 0, .int .i64 0, .int .i64 0, .int .i64 0, .int .i64 0, .string ⟨#[]⟩, .string ⟨#[]⟩, .int .u64 0]), 14, 152) := by kernel_rfl
theorem toldEl : ElemOf Tryz.prog 40 38 14 152 := by
  obtain ⟨i0, hi, hz0, hz1, hz2⟩ := info_parts told_info
  exact ⟨Tryz.underlying40, ⟨i0, _, hi, hz0, hz1, hz2, rfl⟩, by omega⟩
theorem tolds_one (l : List ToldA) : ∀ v ∈ l.flatMap toldCells, v.oneCell' = true := by
  intro v hv
  obtain ⟨t, _, ht⟩ := List.mem_flatMap.1 hv
  exact toldCells_one t v ht

theorem owns_empty (w : World) (e : TypeId) (size : Nat) : (w.alloc (.cells #[] e)).ownsRow w.heap.size e size (.slice (some ⟨w.heap.size, 0, none⟩) 0 0) 0 [] :=
  ⟨by simp, .inr ⟨w.heap.size, 0, #[], rfl, Nat.le_refl _, heap_new w _, Nat.le_refl _, by simp, by simp, by simp⟩⟩

set_option maxHeartbeats 1000000 in
set_option maxRecDepth 100000 in
theorem told_clone (v : Value) (l : List ToldA) (w : World) (h : Tolds w v l) (h0 : l ≠ []) (hl : l.length ≤ 1000) :
    Calls Tryz.prog 66 #[v] w fun e w' => ∃ g cap, e = .returned (.slice (some ⟨g, 0, none⟩) l.length cap) ∧ w'.ownsRow w.heap.size 38 14 (.slice (some ⟨g, 0, none⟩) l.length cap) l.length (l.flatMap toldCells) ∧ Ext w w' := by
  have hpos : 0 < l.length := List.length_pos_iff.2 h0
  obtain ⟨hfl, p, c, rfl, hc1, hc2, hc⟩ := h
  obtain ⟨b, off, rfl, hcells⟩ := hc hpos
  have HS : Hid (∀ W, Ext w W → Sl W 14 (.slice (some ⟨b, off, none⟩) l.length c) l.length (l.flatMap toldCells)) := fun W e => Sl.ext ⟨hfl, _, _, rfl, hc1, hc2, fun _ => ⟨b, off, rfl, hcells⟩⟩ e
  clear hcells hfl hc
  have heq := fun W a n c => Lib.run_eql_slice_nil (P := Tryz.prog) W 40 38 a n c 0 0 Tryz.underlying40
  go_enter Tryz.func66, Tryz.ntmps66
  go_wp2_with (at_builtin; refine wpList_append_sl _ rfl _ _ 40 (by rfl) w.heap.size toldEl _ _ _ (by rfl) (owns_empty w _ _) _ _ _ (by rfl) (HS.out _ ((Ext.rfl' w).alloc _)) (tolds_one _) (by unfold maxLen; omega) (by omega) (by simp) ?_; intro v1 w2 hown hgrow hat; have HO := Lib.hid hown; have HG := Lib.hid hgrow; clear hown hgrow hat)
  go_ret
  have ho := HO.out
  simp only [Nat.zero_add, List.nil_append] at ho
  have e2 : Ext w w2 := below_append ((Ext.rfl' w).alloc _) (by simp) (owns_empty w _ 14) HG.out
  rcases ho.2 with ⟨hn, hz⟩ | ⟨g, cap, cur, hv, _⟩
  · omega
  · rw [hv] at ho ⊢
    exact ⟨g, cap, rfl, ho, e2⟩

theorem orderA_len (l : List ToldA) : (orderA l).length = l.length := by
  unfold orderA
  rw [Array.length_toList, isort_size]; simp

set_option maxHeartbeats 1000000 in
theorem ordered_any (v : Value) (l : List ToldA) (w : World) (h : Tolds w v l) (h0 : l ≠ []) (hl : l.length ≤ 20) :
    Calls Tryz.prog 37 #[v] w fun e w' => ∃ v', e = .returned v' ∧ Tolds w' v' (orderA l) ∧ Ext w w' := by
  have HC := Lib.hid (told_clone v l w h h0 (by omega))
  have HS : Hid (∀ g cap W, HoldsK toldCells 14 W g 0 l.toArray → g < W.heap.size → Calls Tryz.prog 67 #[.slice (some ⟨g, 0, none⟩) l.length cap, .func (.func 68) #[] #[]] W fun e w' =>
      e = .returned (.tuple #[]) ∧ HoldsK toldCells 14 w' g 0 (orderA l).toArray ∧ RowChg g W w') := fun g cap W hh hg => by
    have := told_sort g cap l.toArray W hh hg (by simpa using hl)
    rw [List.size_toArray] at this
    have e1 : (orderA l).toArray = Sort.insertionSort (ltOf cmpTold) l.toArray 0 l.length := by unfold orderA; simp
    rw [e1]
    exact this
  have HL := Lib.hid (orderA_len l)
  clear h h0
  go_enter Tryz.func37, Tryz.ntmps37
  go_wp2_with fail
  refine HC.out.mono ?_
  rintro e w1 ⟨g, cap, rfl, hown, hext⟩
  have hcap : l.length ≤ cap ∧ cap ≤ maxLen := by
    obtain ⟨_, p, c, hv, h1, h2, _⟩ := Sl.ofOwns hown
    injection hv with _ _ hc
    subst hc
    exact ⟨h1, h2⟩
  have HK := Lib.hid (holdsK_of toldCells 14 toldCells_len (by omega) hown)
  have hlt := hown.lt g rfl
  have HLT := Lib.hid hlt
  have HX := Lib.hid hext
  have HCAP := Lib.hid hcap
  clear hown hext hcap
  go_wp2_with fail
  refine (HS.out g cap w1 HK.out HLT.out.2).mono ?_
  rintro e w2 ⟨rfl, h1, h2⟩
  have H1 := Lib.hid h1
  have H2 := Lib.hid h2
  clear h1 h2
  go_wp2_with fail
  go_ret
  refine ⟨_, rfl, ?_, RowChg.fresh HX.out H2.out HLT.out.1⟩
  unfold Tolds
  rw [HL.out]
  exact sl_of toldCells 14 toldCells_len (by omega) HL.out H1.out HCAP.out.1 HCAP.out.2

set_option maxHeartbeats 1000000 in
set_option maxRecDepth 100000 in
theorem told_ins_nil (w : World) :
    Calls Tryz.prog 103 #[.slice none 0 0, .int .i64 0, .int .i64 0, .func (.func 68) #[] #[]] w fun e w' => e = .returned (.tuple #[]) ∧ w' = w := by
  go_enter Tryz.func103, Tryz.ntmps103
  go_wp2_with fail
  refine wp_loop_rounds 1 ?_
  rw [rounds_succ]
  go_wp2_with fail
  go_end0
  exact ⟨rfl, rfl⟩
set_option maxHeartbeats 1000000 in
set_option maxRecDepth 100000 in
theorem told_stable_nil (w : World) :
    Calls Tryz.prog 89 #[.slice none 0 0, .int .i64 0, .func (.func 68) #[] #[]] w fun e w' => e = .returned (.tuple #[]) ∧ w' = w := by
  go_enter Tryz.func89, Tryz.ntmps89
  go_wp2_with fail
  refine wp_loop_rounds 1 ?_
  rw [rounds_succ]
  go_wp2_with fail
  refine (told_ins_nil _).mono ?_
  rintro e w1 ⟨rfl, rfl⟩
  go_wp2_with fail
  refine wp_loop_rounds 1 ?_
  rw [rounds_succ]
  go_wp2_with fail
  go_end0
  exact ⟨rfl, rfl⟩
set_option maxHeartbeats 1000000 in
set_option maxRecDepth 100000 in
theorem told_sort_nil (w : World) :
    Calls Tryz.prog 67 #[.slice none 0 0, .func (.func 68) #[] #[]] w fun e w' => e = .returned (.tuple #[]) ∧ w' = w := by
  go_enter Tryz.func67, Tryz.ntmps67
  go_wp2_with fail
  refine (told_stable_nil _).mono ?_
  rintro e w1 ⟨rfl, rfl⟩
  go_wp2_with fail
  go_end0
  exact ⟨rfl, rfl⟩
set_option maxHeartbeats 1000000 in
set_option maxRecDepth 100000 in
theorem told_clone_nil (w : World) :
    Calls Tryz.prog 66 #[.slice none 0 0] w fun e w' => e = .returned (.slice none 0 0) ∧ w' = w := by
  have heq := fun W a n c => Lib.run_eql_slice_nil (P := Tryz.prog) W 40 38 a n c 0 0 Tryz.underlying40
  go_enter Tryz.func66, Tryz.ntmps66
  go_wp2_with fail
  go_ret
  exact ⟨rfl, rfl⟩
set_option maxHeartbeats 1000000 in
set_option maxRecDepth 100000 in
theorem ordered_nil (w : World) :
    Calls Tryz.prog 37 #[.slice none 0 0] w fun e w' => e = .returned (.slice none 0 0) ∧ w' = w := by
  go_enter Tryz.func37, Tryz.ntmps37
  go_wp2_with fail
  refine (told_clone_nil _).mono ?_
  rintro e w1 ⟨rfl, rfl⟩
  go_wp2_with fail
  refine (told_sort_nil _).mono ?_
  rintro e w1 ⟨rfl, rfl⟩
  go_wp2_with fail
  go_ret
  exact ⟨rfl, rfl⟩
end Go.Proofs.YtmkhjmldncegcaaGreatDoor

/-
  PLAIN: the insertion sort, of what its elements come from; counted down (so that it reckons).
-/
set_option linter.unusedVariables false
set_option linter.unusedSimpArgs false
namespace Go.Proofs.YtmkhjmldncegcaaGreatDoor
open Go Go.Sort

section
variable {α β : Type} [Inhabited α] [Inhabited β]
theorem swp_map (f : α → β) (d : Array α) (i j : Nat) (hi : i < d.size) (hj : j < d.size) : (swp d i j).map f = swp (d.map f) i j := by
  have h1 : f d[i]! = (d.map f)[i]! := by simp [hi]
  have h2 : f d[j]! = (d.map f)[j]! := by simp [hj]
  unfold swp
  rw [← h1, ← h2]
  simp
theorem insInner_map (f : α → β) (lt' : α → α → Bool) (lt : β → β → Bool) (hlt : ∀ x y, lt' x y = lt (f x) (f y)) (a : Nat) : ∀ (j : Nat) (d : Array α), j < d.size → (insInner lt' a j d).map f = insInner lt a j (d.map f)
  | 0, d, h => rfl
  | j + 1, d, h => by
    unfold insInner
    have h1 : f d[j + 1]! = (d.map f)[j + 1]! := by simp [h]
    have h2 : f d[j]! = (d.map f)[j]! := by simp [show j < d.size by omega]
    rw [← h1, ← h2, ← hlt]
    split
    · rw [insInner_map f lt' lt hlt a j _ (by rw [size_swp]; omega), swp_map f d _ _ h (by omega)]
    · rfl
theorem insInner_size (lt : α → α → Bool) (a : Nat) : ∀ (j : Nat) (d : Array α), (insInner lt a j d).size = d.size
  | 0, d => rfl
  | j + 1, d => by
    unfold insInner
    split
    · rw [insInner_size lt a j, size_swp]
    · rfl
theorem insOuter_map (f : α → β) (lt' : α → α → Bool) (lt : β → β → Bool) (hlt : ∀ x y, lt' x y = lt (f x) (f y)) (a b : Nat) : ∀ (n i : Nat) (d : Array α), b - i ≤ n → b ≤ d.size → (insOuter lt' a b i d).map f = insOuter lt a b i (d.map f)
  | 0, i, d, h, hb => by unfold insOuter; rw [if_neg (by omega), if_neg (by omega)]
  | n + 1, i, d, h, hb => by
    unfold insOuter
    by_cases hi : i < b
    · rw [if_pos hi, if_pos hi, insOuter_map f lt' lt hlt a b n (i + 1) _ (by omega) (by rw [insInner_size]; exact hb), insInner_map f lt' lt hlt a i d (by omega)]
    · rw [if_neg hi, if_neg hi]
theorem isort_map (f : α → β) (lt' : α → α → Bool) (lt : β → β → Bool) (hlt : ∀ x y, lt' x y = lt (f x) (f y)) (d : Array α) (a b : Nat) (hb : b ≤ d.size) : (Sort.insertionSort lt' d a b).map f = Sort.insertionSort lt (d.map f) a b :=
  insOuter_map f lt' lt hlt a b _ _ d (Nat.le_refl _) hb

theorem swp_all (P : α → Prop) (d : Array α) (i j : Nat) (hi : i < d.size) (hj : j < d.size) (h : ∀ x ∈ d, P x) : ∀ x ∈ swp d i j, P x := by
  intro x hx
  unfold swp at hx
  have m1 : d[i]! ∈ d := by rw [getElem!_pos d i hi]; exact Array.getElem_mem hi
  have m2 : d[j]! ∈ d := by rw [getElem!_pos d j hj]; exact Array.getElem_mem hj
  rcases Array.mem_or_eq_of_mem_setIfInBounds hx with h1 | h1
  · rcases Array.mem_or_eq_of_mem_setIfInBounds h1 with h2 | h2
    · exact h x h2
    · rw [h2]; exact h _ m2
  · rw [h1]; exact h _ m1
theorem insInner_all (P : α → Prop) (lt : α → α → Bool) (a : Nat) : ∀ (j : Nat) (d : Array α), j < d.size → (∀ x ∈ d, P x) → ∀ x ∈ insInner lt a j d, P x
  | 0, d, _, h => h
  | j + 1, d, hj, h => by
    unfold insInner
    split
    · exact insInner_all P lt a j _ (by rw [size_swp]; omega) (swp_all P d _ _ hj (by omega) h)
    · exact h
theorem insOuter_all (P : α → Prop) (lt : α → α → Bool) (a b : Nat) : ∀ (n i : Nat) (d : Array α), b - i ≤ n → b ≤ d.size → (∀ x ∈ d, P x) → ∀ x ∈ insOuter lt a b i d, P x
  | 0, i, d, h, hb, hp => by unfold insOuter; rw [if_neg (by omega)]; exact hp
  | n + 1, i, d, h, hb, hp => by
    unfold insOuter
    by_cases hi : i < b
    · rw [if_pos hi]
      exact insOuter_all P lt a b n (i + 1) _ (by omega) (by rw [insInner_size]; exact hb) (insInner_all P lt a i d (by omega) hp)
    · rw [if_neg hi]; exact hp
theorem isort_all (P : α → Prop) (lt : α → α → Bool) (d : Array α) (a b : Nat) (hb : b ≤ d.size) (h : ∀ x ∈ d, P x) : ∀ x ∈ Sort.insertionSort lt d a b, P x :=
  insOuter_all P lt a b _ _ d (Nat.le_refl _) hb h

/-- The outer loop, counted down. -/
def insDown (lt : α → α → Bool) (a : Nat) : Nat → Nat → Array α → Array α
  | 0, _, d => d
  | n + 1, i, d => insDown lt a n (i + 1) (insInner lt a i d)
theorem insDown_eq (lt : α → α → Bool) (a b : Nat) : ∀ (n i : Nat) (d : Array α), b - i = n → insOuter lt a b i d = insDown lt a n i d
  | 0, i, d, h => by unfold insOuter; rw [if_neg (by omega)]; rfl
  | n + 1, i, d, h => by
    unfold insOuter
    rw [if_pos (by omega), insDown_eq lt a b n (i + 1) _ (by omega)]
    rfl
theorem isort_down (lt : α → α → Bool) (d : Array α) (b : Nat) : Sort.insertionSort lt d 0 b = insDown lt 0 (b - 1) 1 d := insDown_eq lt 0 b _ _ d rfl
end
end Go.Proofs.YtmkhjmldncegcaaGreatDoor

/-
  WALKS: past.state: isOuter, takes, within, ends (where no transaction lies within another one).
-/
set_option linter.unusedVariables false
set_option linter.unusedSimpArgs false
namespace Go.Proofs.YtmkhjmldncegcaaGreatDoor
open Go.RowKit Go.Maps Go.ChangeMaps Go.MapKept

def opsCells (l : List OpA) : List Value := l.flatMap fun o => (opCells o).toList
theorem opsCells_append (l m : List OpA) : opsCells (l ++ m) = opsCells l ++ opsCells m := List.flatMap_append
theorem opCells_len (o : OpA) : (opCells o).toList.length = 6 := rfl
theorem opCells_one (o : OpA) : ∀ v ∈ (opCells o).toList, v.oneCell' = true := by
  intro v hv
  simp only [opCells, List.mem_cons, List.not_mem_nil, or_false] at hv
  rcases hv with h | h | h | h | h | h <;> subst h <;> rfl
theorem opsCells_one (l : List OpA) : ∀ v ∈ opsCells l, v.oneCell' = true := by
  intro v hv
  obtain ⟨t, _, ht⟩ := List.mem_flatMap.1 hv
  exact opCells_one t v ht

/-- A row of ops that its owner may grow. -/
def OpsAt (w : World) (σ : Sig) (l : Lab) (v : Value) (xs : List OpA) : Prop := w.ownsRow 0 30 6 v xs.length (opsCells xs) ∧ ∀ g, v.ownBlock = some g → σ g = l
/-- A state's own blocks: owner i. -/
def StOps (w : World) (σ : Sig) (i : Nat) (v : Value) (ops : List (List OpA)) : Prop :=
  (ops = [] ∧ v = .slice none 0 0) ∨ ∃ row g rv, ops = [row] ∧ v = .slice (some ⟨g, 0, none⟩) 1 1 ∧ σ g = (i, .names) ∧ w.heap[g]? = some (.cells #[rv] 22 (0, 0)) ∧ OpsAt w σ (i, .vals []) rv row
def StIs (w : World) (σ : Sig) (i sb : Nat) (s : StA) : Prop :=
  σ sb = (i, .top) ∧ ∃ ov, w.heap[sb]? = some (.cells #[.bool s.reads, .int .u64 s.base, ov] 125 (0, 0)) ∧ StOps w σ i ov s.ops
def StAt (w : World) (σ : Sig) (i : Nat) (v : Value) (s : StA) : Prop := ∃ sb, v = .pointer (some ⟨sb, 0, none⟩) ∧ StIs w σ i sb s

theorem OpsAt.keep {p : Lab → Prop} {w w' : World} {σ σ' : Sig} {l : Lab} {v : Value} {xs : List OpA} (h : OpsAt w σ l v xs) (k : Keep p σ w σ' w') (hp : p l) : OpsAt w' σ' l v xs := by
  obtain ⟨ho, hl⟩ := h
  have hg : ∀ g, v.ownBlock = some g → w'.heap[g]? = w.heap[g]? ∧ σ' g = σ g := fun g e => k g (ho.lt g e).2 (by rw [hl g e]; exact hp)
  refine ⟨⟨ho.1, ?_⟩, fun g e => by rw [(hg g e).2]; exact hl g e⟩
  rcases ho.2 with h | ⟨g, cap, cur, rfl, h1, h2, r⟩
  · exact .inl h
  · exact .inr ⟨g, cap, cur, rfl, h1, by rw [(hg g rfl).1]; exact h2, r⟩
theorem StOps.keep {p : Lab → Prop} {w w' : World} {σ σ' : Sig} {i : Nat} {v : Value} {ops : List (List OpA)} (h : StOps w σ i v ops) (k : Keep p σ w σ' w') (h1 : p (i, .names)) (h2 : p (i, .vals [])) : StOps w' σ' i v ops := by
  rcases h with h | ⟨row, g, rv, a1, a2, a3, a4, a5⟩
  · exact .inl h
  · have kg := k g (lt_heap a4) (by rw [a3]; exact h1)
    exact .inr ⟨row, g, rv, a1, a2, by rw [kg.2, a3], by rw [kg.1, a4], a5.keep k h2⟩
theorem StIs.keep {p : Lab → Prop} {w w' : World} {σ σ' : Sig} {i sb : Nat} {s : StA} (h : StIs w σ i sb s) (k : Keep p σ w σ' w') (h0 : p (i, .top)) (h1 : p (i, .names)) (h2 : p (i, .vals [])) : StIs w' σ' i sb s := by
  obtain ⟨a1, ov, a2, a3⟩ := h
  have kg := k sb (lt_heap a2) (by rw [a1]; exact h0)
  exact ⟨by rw [kg.2, a1], ov, by rw [kg.1, a2], a3.keep k h1 h2⟩
theorem StAt.keep {w w' : World} {σ σ' : Sig} {i : Nat} {v : Value} {s : StA} (h : StAt w σ i v s) (k : Keep (fun l => l.1 = i) σ w σ' w') : StAt w' σ' i v s := by
  obtain ⟨sb, rfl, h⟩ := h
  exact ⟨sb, rfl, h.keep k rfl rfl rfl⟩
theorem StIs.ext {w w' : World} {σ : Sig} {i sb : Nat} {s : StA} (h : StIs w σ i sb s) (e : Ext w w') : StIs w' σ i sb s := h.keep (Keep.ofExt e (fun _ => True) σ) trivial trivial trivial

theorem StOps.len {w : World} {σ : Sig} {i : Nat} {v : Value} {ops : List (List OpA)} (h : StOps w σ i v ops) : ∃ p c, v = .slice p ops.length c ∧ ops.length ≤ 1 := by
  rcases h with ⟨rfl, rfl⟩ | ⟨row, g, rv, rfl, rfl, _⟩
  · exact ⟨none, 0, rfl, by simp⟩
  · exact ⟨_, _, rfl, by simp⟩

def toldV (t : ToldA) : Value := .agg (toldCells t).toArray

theorem int_beq1 (n : Nat) : ((n : Int) == 1) = decide (n = 1) := by rw [Bool.eq_iff_iff]; simp; omega

set_option maxHeartbeats 4000000 in
set_option maxRecDepth 100000 in
theorem outer_any (σ : Sig) (i sb : Nat) (s : StA) (t : ToldA) (w : World) (h : StIs w σ i sb s) :
    Calls Tryz.prog 58 #[.pointer (some ⟨sb, 0, none⟩), toldV t] w fun e w' => e = .returned (.bool (outerB s t)) ∧ w' = w.alloc (.cells (toldCells t).toArray 38) := by
  obtain ⟨a1, ov, a2, a3⟩ := h
  obtain ⟨p, c, rfl, hl⟩ := a3.len
  have c2 := cellAt ((Ext.alloc (Ext.rfl' w) (.cells (toldCells t).toArray 38)).block sb (lt_heap a2) |>.trans a2) 2
  simp [toldCells] at c2
  by_cases h6 : t.op.kind = 6
  · have h6' : (t.op.kind == 6) = true := by simpa using h6
    have HR : Hid (outerB s t = ((s.ops.length : Int) == 1)) := by
      show _ = _
      unfold outerB
      rw [int_beq1, h6]; rfl
    rw [HR.out]
    clear a1 a2 a3 h6
    unfold toldV toldCells
    go_enter Tryz.func58, Tryz.ntmps58
    go_wp2_with fail
    go_ret
    exact ⟨rfl, rfl⟩
  · have h6' : (t.op.kind == 6) = false := by simpa using h6
    have HR : Hid (outerB s t = false) := by
      show _ = _
      unfold outerB
      rw [decide_eq_false h6]; rfl
    rw [HR.out]
    clear a1 a2 a3 h6
    unfold toldV toldCells
    go_enter Tryz.func58, Tryz.ntmps58
    go_wp2_with fail
    go_ret
    exact ⟨rfl, rfl⟩

/-- What ends, at a commit of an outermost transaction: nothing is under way. -/
theorem st_reset {σ : Sig} {i sb : Nat} {s : StA} {w w1 w' : World} (hn : Neat w σ) (h : StIs w σ i sb s) (e1 : Ext w w1) (o : Only sb w1 w') (s' : StA) (hs : s'.ops = []) (hh : w'.heap[sb]? = some (.cells #[.bool s'.reads, .int .u64 s'.base, .slice none 0 0] 125 (0, 0))) :
    StIs w' σ i sb s' ∧ Moved σ i w σ w' :=
  ⟨⟨h.1, _, hh, .inl ⟨hs, rfl⟩⟩, (Moved.ofExt hn e1 i).trans (Moved.ofOnly (hn.ext e1) o (by rw [h.1]))⟩

set_option maxHeartbeats 4000000 in
set_option maxRecDepth 100000 in
theorem ends_any (σ : Sig) (i sb : Nat) (s : StA) (t : ToldA) (w : World) (hn : Neat w σ) (h : StIs w σ i sb s) (h6 : t.op.kind = 6) :
    Calls Tryz.prog 100 #[.pointer (some ⟨sb, 0, none⟩), toldV t] w fun e w' => e = .returned (.tuple #[]) ∧ StIs w' σ i sb ⟨false, 0, []⟩ ∧ Moved σ i w σ w' := by
  have HS := Lib.hid h
  obtain ⟨a1, ov, a2, a3⟩ := h
  obtain ⟨p, c, rfl, hl⟩ := a3.len
  have hb := (Ext.alloc (Ext.rfl' w) (.cells (toldCells t).toArray 38)).block sb (lt_heap a2) |>.trans a2
  have c0 := cellAt hb 0
  have c1 := cellAt hb 1
  have c2 := cellAt hb 2
  have f0 := frozenAt hb 0
  have f1 := frozenAt hb 1
  have f2 := frozenAt hb 2
  have hne : ¬ sb = w.heap.size := by have := lt_heap a2; omega
  have hne2 : ¬ w.heap.size = sb := by have := lt_heap a2; omega
  simp [toldCells] at c0 c1 c2 f0 f1 f2
  have HB := Lib.hid hb
  have h6' : (t.op.kind == 6) = true := by simpa using h6
  have h6'' : (t.op.kind == 2) = false := by simp [h6]
  have g1 : decide ((1 : Int) < (s.ops.length : Int)) = false := by simp; omega
  have g2 : decide ((s.ops.length : Int) ≤ 1) = true := by simp; omega
  clear a1 a2 a3 h6 hb
  unfold toldV toldCells
  go_enter Tryz.func100, Tryz.ntmps100
  go_wp2_with fail
  go_end0
  have o := (((Only.refl sb (w.alloc (.cells (toldCells t).toArray 38))).setCell 0 (.bool false)).setCell 1 (.int .u64 0)).setCell 2 (.slice none 0 0)
  exact ⟨rfl, st_reset hn HS.out (Ext.alloc (Ext.rfl' w) _) o ⟨false, 0, []⟩ rfl (heap_setCell_row (heap_setCell_row (heap_setCell_row HB.out 0 _) 1 _) 2 _)⟩

theorem op_info : (Tryz.prog.info? 30).map (fun i => (i.zero, i.size, i.bytes)) = some (some (.agg #[.int .i64 0, .string ⟨#[]⟩, .string ⟨#[]⟩, .string ⟨#[]⟩, .int .i64 0, .int .i64 0]), 6, 72) := by kernel_rfl
theorem opEl : ElemOf Tryz.prog 22 30 6 72 := by
  obtain ⟨i0, hi, hz0, hz1, hz2⟩ := info_parts op_info
  exact ⟨Tryz.underlying22, ⟨i0, _, hi, hz0, hz1, hz2, rfl⟩, by omega⟩

/-- Behind an append of one op to the row, and the store of the row. -/
theorem st_put {σ : Sig} {i sb g : Nat} {s : StA} {w w1 w3 : World} {row : List OpA} {op : OpA} {rv v3 : Value} (hn : Neat w σ) (h : StIs w σ i sb s) (hops : s.ops = [row]) (e1 : Ext w w1)
    (hov : w.cell? ⟨sb, 2, none⟩ = some (.slice (some ⟨g, 0, none⟩) 1 1)) (hrv : w.cell? ⟨g, 0, none⟩ = some rv)
    (hown : w3.ownsRow 0 30 6 v3 (row.length + 1) (opsCells row ++ opsCells [op])) (hg : w1.grownBy w3 rv.ownBlock) (hat : v3.ownBlock = rv.ownBlock ∨ v3.ownBlock = some w1.heap.size) :
    StIs (w3.setCell ⟨g, 0, none⟩ v3) (layV σ v3 (i, .vals [])) i sb ⟨s.reads, s.base, [row ++ [op]]⟩ ∧ Moved σ i w (layV σ v3 (i, .vals [])) (w3.setCell ⟨g, 0, none⟩ v3) := by
  obtain ⟨a1, ov, a2, a3⟩ := h
  have hov' := cellAt a2 2
  rw [hov] at hov'
  have hovv : ov = .slice (some ⟨g, 0, none⟩) 1 1 := by simpa using hov'.symm
  subst hovv
  rcases a3 with ⟨_, h0⟩ | ⟨row', g', rv', b1, b2, b3, b4, b5⟩
  · cases h0
  · rw [hops] at b1
    have e1' : row' = row := by injection b1 with h _; exact h.symm
    injection b2 with b2
    injection b2 with b2
    injection b2 with b2
    subst b2 e1'
    have hr' := cellAt b4 0
    rw [hrv] at hr'
    have : rv = rv' := by simpa using hr'
    subst this
    have hgl := lt_heap b4
    have hsl := lt_heap a2
    have hrb : ∀ k, rv.ownBlock = some k → k < w.heap.size ∧ σ k = (i, .vals []) := fun k hk => ⟨(b5.1.lt k hk).2, b5.2 k hk⟩
    have hvb : ∀ k, v3.ownBlock = some k → (k < w.heap.size ∧ σ k = (i, .vals [])) ∨ (w.heap.size ≤ k ∧ k < w3.heap.size) := fun k hk => by
      have hk3 := (hown.lt k hk).2
      rcases hat with h | h
      · rw [h] at hk; exact .inl (hrb k hk)
      · rw [h] at hk; injection hk with hk; subst hk; exact .inr ⟨e1.size, hk3⟩
    have hold : ∀ k, k < w.heap.size → layV σ v3 (i, .vals []) k = σ k := fun k hk => by
      unfold layV
      cases hb : v3.ownBlock with
      | none => rfl
      | some q =>
        show lay σ q (i, .vals []) k = σ k
        by_cases hq : k = q
        · subst hq
          rcases hvb _ hb with h | h
          · rw [lay_same, h.2]
          · omega
        · exact lay_other hq
    have hs13 : w1.heap.size ≤ w3.heap.size := hg.size
    have hsz : (w3.setCell ⟨g, 0, none⟩ v3).heap.size = w3.heap.size := by simp [World.setCell]
    have hblk : ∀ k, k < w.heap.size → k ≠ g → rv.ownBlock ≠ some k → (w3.setCell ⟨g, 0, none⟩ v3).heap[k]? = w.heap[k]? := fun k hk h1 h2 => by
      rw [Below.heap_setCell _ _ _ _ h1, hg.block k (by have := e1.size; omega) (fun e => h2 e.symm), e1.block k hk]
    have hsbne : sb ≠ g := fun e => by rw [e, b3] at a1; cases a1
    have hsbrv : rv.ownBlock ≠ some sb := fun e => by have := (hrb _ e).2; rw [a1] at this; cases this
    have hgrv : rv.ownBlock ≠ some g := fun e => by have := (hrb _ e).2; rw [b3] at this; cases this
    refine ⟨⟨by rw [hold _ hsl]; exact a1, .slice (some ⟨g, 0, none⟩) 1 1, by rw [hblk _ hsl hsbne hsbrv]; exact a2, .inr ⟨row' ++ [op], g, v3, rfl, rfl, by rw [hold _ hgl]; exact b3, ?_, ⟨?_, ?_⟩⟩⟩, ?_⟩
    · have hb : w3.heap[g]? = some (.cells #[rv] 22 (0, 0)) := by
        rw [hg.block g (by have := e1.size; omega) (fun e => hgrv e.symm), e1.block g hgl]; exact b4
      exact heap_setCell_row hb 0 v3
    · have ho := hown
      rw [← opsCells_append] at ho
      have hne : ∀ k, v3.ownBlock = some k → k ≠ g := fun k hk e => by
        subst e
        rcases hvb _ hk with h | h
        · rw [b3] at h; exact absurd h.2 (by simp)
        · omega
      refine ⟨by have := ho.1; simpa [opsCells] using this, ?_⟩
      rcases ho.2 with h | ⟨q, cap, cur, rfl, c1, c2, rest⟩
      · exact .inl (by simp at h)
      · refine .inr ⟨q, cap, cur, by simp, c1, ?_, by simpa using rest⟩
        rw [Below.heap_setCell _ _ _ _ (hne q rfl)]; exact c2
    · intro k hk
      unfold layV
      rw [hk]
      exact lay_same _ _ _
    · refine ⟨hold, fun k hk => ?_, ⟨by have := hg.os; have := e1.os; simp [World.setCell, *], by have := hg.tape; have := e1.tape; simp [World.setCell, *], by have := hg.output; have := e1.output; simp [World.setCell, *], by have := e1.size; omega, fun k hk hp => ?_⟩⟩
      · refine layV_neat (w := w) hn (by have := e1.size; omega) (fun q hq => ?_) k hk
        rcases hvb q hq with h | h
        · have := e1.size; omega
        · omega
      · exact hblk k hk (fun e => by rw [e, b3] at hp; exact hp rfl) (fun e => by have := (hrb _ e).2; rw [this] at hp; exact hp rfl)

set_option maxHeartbeats 4000000 in
set_option maxRecDepth 100000 in
theorem within_com (σ : Sig) (i sb : Nat) (s : StA) (t : ToldA) (w : World) (ok : Bool) (hn : Neat w σ) (h : StIs w σ i sb s) (h6 : t.op.kind = 6) :
    Calls Tryz.prog 85 #[.pointer (some ⟨sb, 0, none⟩), toldV t, .bool ok] w fun e w' => e = .returned (.tuple #[]) ∧ StIs w' σ i sb ⟨false, 0, []⟩ ∧ Moved σ i w σ w' := by
  obtain ⟨pid, number, ⟨kind, db, key, val, flags, n⟩, frm, till, ⟨code, rk, rv⟩, txn⟩ := t
  obtain rfl : kind = 6 := h6
  obtain ⟨t, ht⟩ : ∃ t : ToldA, t = ⟨pid, number, ⟨6, db, key, val, flags, n⟩, frm, till, ⟨code, rk, rv⟩, txn⟩ := ⟨_, rfl⟩
  have HE : Hid (∀ o, Calls Tryz.prog 100 #[.pointer (some ⟨sb, 0, none⟩), toldV ⟨pid, number, ⟨6, db, key, val, flags, n⟩, frm, till, ⟨code, rk, rv⟩, txn⟩] (w.alloc o) fun e w' => e = .returned (.tuple #[]) ∧ StIs w' σ i sb ⟨false, 0, []⟩ ∧ Moved σ i (w.alloc o) σ w') := fun o =>
    ends_any σ i sb s _ (w.alloc o) (hn.ext ((Ext.rfl' w).alloc o)) (h.ext ((Ext.rfl' w).alloc o)) rfl
  obtain ⟨a1, ov, a2, a3⟩ := h
  obtain ⟨p, c, rfl, hl⟩ := a3.len
  have c2 := fun o => ((Ext.rfl' w).alloc o).cell (show w.cell? ⟨sb, 2, none⟩ = some (.slice p s.ops.length c) by rw [cellAt a2 2]; rfl)
  clear a1 a2 a3
  unfold toldV toldCells at HE ⊢
  go_enter Tryz.func85, Tryz.ntmps85
  go_wp2_with fail
  refine (HE.out _).mono ?_
  rintro e w1 ⟨rfl, h1, h2⟩
  have H1 := Lib.hid h1
  have H2 := Lib.hid h2
  clear h1 h2
  go_wp2_with fail
  go_end0
  exact ⟨rfl, H1.out, (Moved.ofExt hn ((Ext.rfl' w).alloc _) i).trans H2.out⟩

set_option maxHeartbeats 4000000 in
set_option maxRecDepth 100000 in
theorem within_get (σ : Sig) (i sb : Nat) (s : StA) (t : ToldA) (w : World) (ok : Bool) (h : StIs w σ i sb s) (h8 : t.op.kind = 8) :
    Calls Tryz.prog 85 #[.pointer (some ⟨sb, 0, none⟩), toldV t, .bool ok] w fun e w' => e = .returned (.tuple #[]) ∧ Ext w w' := by
  obtain ⟨pid, number, ⟨kind, db, key, val, flags, n⟩, frm, till, ⟨code, rk, rv⟩, txn⟩ := t
  obtain rfl : kind = 8 := h8
  obtain ⟨a1, ov, a2, a3⟩ := h
  obtain ⟨p, c, rfl, hl⟩ := a3.len
  have c2 := fun o => ((Ext.rfl' w).alloc o).cell (show w.cell? ⟨sb, 2, none⟩ = some (.slice p s.ops.length c) by rw [cellAt a2 2]; rfl)
  clear a1 a2 a3
  unfold toldV toldCells
  go_enter Tryz.func85, Tryz.ntmps85
  go_wp2
  go_end0
  exact ⟨rfl, (Ext.rfl' w).alloc _⟩

theorem change9 (w : World) : Calls Tryz.prog 91 #[.int .i64 9] w fun e w' => e = .returned (.bool true) ∧ w' = w := by
  go_enter Tryz.func91, Tryz.ntmps91
  go_wp2
  go_ret
  exact ⟨rfl, rfl⟩
end Go.Proofs.YtmkhjmldncegcaaGreatDoor

/-
  WALKS: past.state.within at a put.
-/
set_option linter.unusedVariables false
set_option linter.unusedSimpArgs false
namespace Go.Proofs.YtmkhjmldncegcaaGreatDoor
open Go.RowKit Go.Maps Go.ChangeMaps Go.MapKept

set_option maxHeartbeats 4000000 in
set_option maxRecDepth 100000 in
theorem within_put (σ : Sig) (i sb : Nat) (s : StA) (t : ToldA) (w : World) (row : List OpA) (hn : Neat w σ) (h : StIs w σ i sb s) (hops : s.ops = [row]) (hlen : row.length ≤ 1000) (h9 : t.op.kind = 9) :
    Calls Tryz.prog 85 #[.pointer (some ⟨sb, 0, none⟩), toldV t, .bool true] w fun e w' => e = .returned (.tuple #[]) ∧ ∃ σ', StIs w' σ' i sb ⟨s.reads, s.base, [row ++ [t.op]]⟩ ∧ Moved σ i w σ' w' := by
  obtain ⟨pid, number, ⟨kind, db, key, val, flags, n⟩, frm, till, ⟨code, rk, rv⟩, txn⟩ := t
  obtain rfl : kind = 9 := h9
  have HI := Lib.hid h
  obtain ⟨a1, ov, a2, a3⟩ := h
  rcases a3 with ⟨h0, _⟩ | ⟨row', g, rowv, b1, rfl, b3, b4, b5⟩
  · rw [h0] at hops; cases hops
  · obtain rfl : row' = row := by rw [hops] at b1; injection b1 with h _; exact h.symm
    have k2 : w.cell? ⟨sb, 2, none⟩ = some (.slice (some ⟨g, 0, none⟩) 1 1) := by rw [cellAt a2 2]; rfl
    have k0 : w.cell? ⟨g, 0, none⟩ = some rowv := by rw [cellAt b4 0]; rfl
    have c2a := fun o => ((Ext.rfl' w).alloc o).cell k2
    have hrb : ∀ k, rowv.ownBlock = some k → k ≠ g ∧ k ≠ sb ∧ k < w.heap.size := fun k hk => ⟨(fun e => by have := b5.2 k hk; rw [e, b3] at this; cases this), (fun e => by have := b5.2 k hk; rw [e, a1] at this; cases this), (b5.1.lt k hk).2⟩
    have HRB := Lib.hid hrb
    have HNE : Hid (sb ≠ g) := fun e => by rw [e, b3] at a1; cases a1
    have HO := Lib.hid b5.1
    have HB4 := Lib.hid b4
    have K2 := Lib.hid k2
    have K0 := Lib.hid k0
    have hgl := lt_heap b4
    have hsl := lt_heap a2
    have HOPS := Lib.hid hops
    clear a1 a2 b1 b3 b4 b5 hrb hops
    unfold toldV toldCells
    go_enter Tryz.func85, Tryz.ntmps85
    go_wp2_with fail
    refine (change9 _).mono ?_
    rintro e w' ⟨rfl, rfl⟩
    go_wp2_with fail
    generalize hW : w.alloc (Obj.cells _ 38) = W
    have eW : Ext w W := by rw [← hW]; exact (Ext.rfl' w).alloc _
    have c2 : W.cell? ⟨sb, 2, none⟩ = some (.slice (some ⟨g, 0, none⟩) 1 1) := eW.cell K2.out
    have c0 : W.cell? ⟨g, 0, none⟩ = some rowv := eW.cell K0.out
    have f0 : W.frozen? ⟨g, 0, none⟩ = false := frozenAt ((eW.block g (lt_heap HB4.out)).trans HB4.out) 0
    have hbox : W.heap[w.heap.size]? = some (.cells (toldCells ⟨pid, number, ⟨9, db, key, val, flags, n⟩, frm, till, ⟨code, rk, rv⟩, txn⟩).toArray 38 (0, 0)) := by rw [← hW]; exact heap_new w _
    have q2 := cellAt hbox 2
    have q3 := cellAt hbox 3
    have q4 := cellAt hbox 4
    have q5 := cellAt hbox 5
    have q6 := cellAt hbox 6
    have q7 := cellAt hbox 7
    simp [toldCells] at q2 q3 q4 q5 q6 q7
    have hown : W.ownsRow 0 30 6 rowv row'.length (opsCells row') := owns_ext HO.out eW
    have HOW := Lib.hid hown
    have EW := Lib.hid eW
    clear hW eW hown c2a
    have hWl : w.heap.size < W.heap.size := lt_heap hbox
    have gW : g < W.heap.size := by omega
    have sW : sb < W.heap.size := by omega
    have m1 : ¬ g = W.heap.size := by omega
    have m2 : ¬ W.heap.size = g := by omega
    have m3 : ¬ sb = W.heap.size := by omega
    have m4 : ¬ W.heap.size = sb := by omega
    have m5 : ¬ w.heap.size = W.heap.size := by omega
    have m6 : ¬ W.heap.size = w.heap.size := by omega
    have i1 : IntKind.i64.wrap ((1 : Int) - 1) = 0 := by decide
    have i2 : IntKind.i64.wrap (0 : Int) = 0 := by decide
    clear hbox
    go_region_law
      (first
        | (refine step_append_sl _ (by rfl) _ _ _ (by rfl) 0 opEl rowv _ _ (by rfl) (by first | exact HOW.out.alloc _ | exact (HOW.out.alloc _).drew) _ 1 (opsCells [⟨9, db, key, val, flags, n⟩]) (by rfl) (by first | exact Sl.newN W _ _ _ rfl (by omega) | exact (Sl.newN W _ _ _ rfl (by omega)).ext (Ext.drewN _ 1)) (opsCells_one _) (by unfold maxLen; omega) (by omega) (by omega) ?_; intro v3 w3 hown3 hgrow3 hat3
           obtain ⟨_, p3, cc3, rfl, _, _, _⟩ := Sl.ofOwns hown3
           have hb3 : ∀ b, b < W.heap.size → rowv.ownBlock ≠ some b → w3.heap[b]? = W.heap[b]? := fun b hb hne => by
             rw [hgrow3.block b (by first | exact Nat.lt_of_lt_of_le hb (Ext.alloc (Ext.rfl' W) _).size | (simp; omega)) (fun e => hne e.symm)]
             first | exact (Ext.alloc (Ext.rfl' W) _).block b hb | exact ((Ext.alloc (Ext.rfl' W) _).drew).block b hb
           have hc3 : ∀ b o u, rowv.ownBlock ≠ some b → W.cell? ⟨b, o, none⟩ = some u → w3.cell? ⟨b, o, none⟩ = some u := fun b o u hne hc => by
             rw [World.cell?_of_block (w := W) (w' := w3) (a := ⟨b, o, none⟩) (hb3 b (lt_of_cell hc) hne)]; exact hc
           have n1 : rowv.ownBlock ≠ some g := fun e => (HRB.out g e).1 rfl
           have n2 : rowv.ownBlock ≠ some sb := fun e => (HRB.out sb e).2.1 rfl
           have n3 : rowv.ownBlock ≠ some w.heap.size := fun e => by have := (HRB.out _ e).2.2; omega
           have c3 := hc3 _ _ _ n1 c0
           have s3 := hc3 _ _ _ n2 c2
           have f3 : w3.frozen? ⟨g, 0, none⟩ = false := frozenAt ((hb3 g (by have := EW.out.size; omega) n1).trans ((EW.out.block g hgl).trans HB4.out)) 0
           have HO3 := Lib.hid hown3
           have HG3 := Lib.hid hgrow3
           have HA3 := Lib.hid hat3
           clear hown3 hgrow3 hat3 hb3 hc3 n1 n2 n3))
    all_goals
      go_wp2
      go_end0
      refine ⟨rfl, _, st_put hn HI.out HOPS.out ?_ K2.out K0.out HO3.out HG3.out HA3.out⟩
      first | exact Ext.alloc EW.out _ | exact (Ext.alloc EW.out _).drew
end Go.Proofs.YtmkhjmldncegcaaGreatDoor

/-
  WALKS: past.state.takes.
-/
set_option linter.unusedVariables false
set_option linter.unusedSimpArgs false
namespace Go.Proofs.YtmkhjmldncegcaaGreatDoor
open Go.RowKit Go.Maps Go.ChangeMaps Go.MapKept

/-- What a call of takes leaves. -/
def TakesPost (σ : Sig) (i sb : Nat) (s' : StA) (w : World) (e : Ending) (w' : World) : Prop := e = .returned (.tuple #[]) ∧ ∃ σ', StIs w' σ' i sb s' ∧ Moved σ i w σ' w'

theorem st_cells {σ : Sig} {i sb : Nat} {s : StA} {w : World} (h : StIs w σ i sb s) : ∃ p c, w.heap[sb]? = some (.cells #[.bool s.reads, .int .u64 s.base, .slice p s.ops.length c] 125 (0, 0)) ∧ s.ops.length ≤ 1 := by
  obtain ⟨a1, ov, a2, a3⟩ := h
  obtain ⟨p, c, rfl, hl⟩ := a3.len
  exact ⟨p, c, a2, hl⟩

set_option maxHeartbeats 4000000 in
set_option maxRecDepth 100000 in
theorem takes_no (σ : Sig) (i sb : Nat) (s : StA) (t : ToldA) (w : World) (hn : Neat w σ) (h : StIs w σ i sb s) (h0 : t.till = 0) :
    Calls Tryz.prog 60 #[.pointer (some ⟨sb, 0, none⟩), toldV t] w (TakesPost σ i sb s w) := by
  obtain ⟨pid, number, op, frm, till, rep, txn⟩ := t
  obtain rfl : till = 0 := h0
  obtain ⟨p, c, hb, hl⟩ := st_cells h
  have c2 := fun o => ((Ext.rfl' w).alloc o).cell (show w.cell? ⟨sb, 2, none⟩ = some (.slice p s.ops.length c) by rw [cellAt hb 2]; rfl)
  have HS := Lib.hid h
  clear h hb
  unfold toldV toldCells
  go_enter Tryz.func60, Tryz.ntmps60
  go_wp2_with fail
  go_end0
  exact ⟨rfl, σ, HS.out.ext ((Ext.rfl' w).alloc _), Moved.ofExt hn ((Ext.rfl' w).alloc _) i⟩

set_option maxHeartbeats 4000000 in
set_option maxRecDepth 100000 in
theorem takes_com (σ : Sig) (i sb : Nat) (s : StA) (t : ToldA) (w : World) (hn : Neat w σ) (h : StIs w σ i sb s) (h0 : 0 < t.till) (hr : s.reads = false) (hl : s.ops.length = 1) (h6 : t.op.kind = 6) :
    Calls Tryz.prog 60 #[.pointer (some ⟨sb, 0, none⟩), toldV t] w (TakesPost σ i sb ⟨false, 0, []⟩ w) := by
  obtain ⟨pid, number, ⟨kind, db, key, val, flags, n⟩, frm, till, ⟨code, rk, rv⟩, txn⟩ := t
  obtain rfl : kind = 6 := h6
  have h0' : 0 < till := h0
  obtain ⟨p, c, hb, _⟩ := st_cells h
  rw [hl] at hb
  have c2 := fun o => ((Ext.rfl' w).alloc o).cell (show w.cell? ⟨sb, 2, none⟩ = some (.slice p 1 c) by rw [cellAt hb 2]; rfl)
  have c0 := fun o => ((Ext.rfl' w).alloc o).cell (show w.cell? ⟨sb, 0, none⟩ = some (.bool false) by rw [cellAt hb 0, ← hr]; rfl)
  have HW : Hid (∀ o ok, Calls Tryz.prog 85 #[.pointer (some ⟨sb, 0, none⟩), toldV ⟨pid, number, ⟨6, db, key, val, flags, n⟩, frm, till, ⟨code, rk, rv⟩, txn⟩, .bool ok] (w.alloc o) fun e w' => e = .returned (.tuple #[]) ∧ StIs w' σ i sb ⟨false, 0, []⟩ ∧ Moved σ i (w.alloc o) σ w') := fun o ok =>
    within_com σ i sb s _ (w.alloc o) ok (hn.ext ((Ext.rfl' w).alloc o)) (h.ext ((Ext.rfl' w).alloc o)) rfl
  have z1 : (till == 0) = false := by simp; omega
  have z2 : decide (0 < till) = true := by simpa using h0'
  clear h hb hr hl h0
  unfold toldV toldCells at HW ⊢
  by_cases hc : code = 0
  · subst hc
    go_enter Tryz.func60, Tryz.ntmps60
    go_wp2_with fail
    refine (HW.out _ _).mono ?_
    rintro e w1 ⟨rfl, h1, h2⟩
    have H1 := Lib.hid h1
    have H2 := Lib.hid h2
    clear h1 h2
    go_wp2_with fail
    go_end0
    exact ⟨rfl, σ, H1.out, (Moved.ofExt hn ((Ext.rfl' w).alloc _) i).trans H2.out⟩
  · have hc' : (code == 0) = false := by simpa using hc
    clear hc
    go_enter Tryz.func60, Tryz.ntmps60
    go_wp2_with fail
    refine (HW.out _ _).mono ?_
    rintro e w1 ⟨rfl, h1, h2⟩
    have H1 := Lib.hid h1
    have H2 := Lib.hid h2
    clear h1 h2
    go_wp2_with fail
    go_end0
    exact ⟨rfl, σ, H1.out, (Moved.ofExt hn ((Ext.rfl' w).alloc _) i).trans H2.out⟩

set_option maxHeartbeats 4000000 in
set_option maxRecDepth 100000 in
theorem takes_get (σ : Sig) (i sb : Nat) (s : StA) (t : ToldA) (w : World) (hn : Neat w σ) (h : StIs w σ i sb s) (h0 : 0 < t.till) (hr : s.reads = true) (h8 : t.op.kind = 8) :
    Calls Tryz.prog 60 #[.pointer (some ⟨sb, 0, none⟩), toldV t] w (TakesPost σ i sb s w) := by
  obtain ⟨pid, number, ⟨kind, db, key, val, flags, n⟩, frm, till, ⟨code, rk, rv⟩, txn⟩ := t
  obtain rfl : kind = 8 := h8
  have h0' : 0 < till := h0
  obtain ⟨p, c, hb, _⟩ := st_cells h
  have c2 := fun o => ((Ext.rfl' w).alloc o).cell (show w.cell? ⟨sb, 2, none⟩ = some (.slice p s.ops.length c) by rw [cellAt hb 2]; rfl)
  have c0 := fun o => ((Ext.rfl' w).alloc o).cell (show w.cell? ⟨sb, 0, none⟩ = some (.bool true) by rw [cellAt hb 0, ← hr]; rfl)
  have HW : Hid (∀ o ok, Calls Tryz.prog 85 #[.pointer (some ⟨sb, 0, none⟩), toldV ⟨pid, number, ⟨8, db, key, val, flags, n⟩, frm, till, ⟨code, rk, rv⟩, txn⟩, .bool ok] (w.alloc o) fun e w' => e = .returned (.tuple #[]) ∧ Ext (w.alloc o) w') := fun o ok =>
    within_get σ i sb s _ (w.alloc o) ok (h.ext ((Ext.rfl' w).alloc o)) rfl
  have z1 : (till == 0) = false := by simp; omega
  have z2 : decide (0 < till) = true := by simpa using h0'
  have HS := Lib.hid h
  clear h hb hr h0
  unfold toldV toldCells at HW ⊢
  by_cases hc : code = 0
  · subst hc
    go_enter Tryz.func60, Tryz.ntmps60
    go_wp2_with fail
    refine (HW.out _ _).mono ?_
    rintro e w1 ⟨rfl, h2⟩
    have H2 := Lib.hid h2
    clear h2
    go_wp2_with fail
    go_end0
    have e2 := Ext.step ((Ext.rfl' w).alloc _) H2.out
    exact ⟨rfl, σ, HS.out.ext e2, Moved.ofExt hn e2 i⟩
  · have hc' : (code == 0) = false := by simpa using hc
    clear hc
    go_enter Tryz.func60, Tryz.ntmps60
    go_wp2_with fail
    refine (HW.out _ _).mono ?_
    rintro e w1 ⟨rfl, h2⟩
    have H2 := Lib.hid h2
    clear h2
    go_wp2_with fail
    go_end0
    have e2 := Ext.step ((Ext.rfl' w).alloc _) H2.out
    exact ⟨rfl, σ, HS.out.ext e2, Moved.ofExt hn e2 i⟩

set_option maxHeartbeats 4000000 in
set_option maxRecDepth 100000 in
theorem takes_put (σ : Sig) (i sb : Nat) (s : StA) (t : ToldA) (w : World) (row : List OpA) (hn : Neat w σ) (h : StIs w σ i sb s) (h0 : 0 < t.till) (hr : s.reads = false) (hl : s.ops = [row]) (hlen : row.length ≤ 1000) (h9 : t.op.kind = 9) (hc : t.rep.code = 0) :
    Calls Tryz.prog 60 #[.pointer (some ⟨sb, 0, none⟩), toldV t] w (TakesPost σ i sb ⟨s.reads, s.base, [row ++ [t.op]]⟩ w) := by
  obtain ⟨pid, number, ⟨kind, db, key, val, flags, n⟩, frm, till, ⟨code, rk, rv⟩, txn⟩ := t
  obtain rfl : kind = 9 := h9
  obtain rfl : code = 0 := hc
  have h0' : 0 < till := h0
  obtain ⟨p, c, hb, _⟩ := st_cells h
  rw [hl] at hb
  have c2 := fun o => ((Ext.rfl' w).alloc o).cell (show w.cell? ⟨sb, 2, none⟩ = some (.slice p 1 c) by rw [cellAt hb 2]; rfl)
  have c0 := fun o => ((Ext.rfl' w).alloc o).cell (show w.cell? ⟨sb, 0, none⟩ = some (.bool false) by rw [cellAt hb 0, ← hr]; rfl)
  have HW : Hid (∀ o, Calls Tryz.prog 85 #[.pointer (some ⟨sb, 0, none⟩), toldV ⟨pid, number, ⟨9, db, key, val, flags, n⟩, frm, till, ⟨0, rk, rv⟩, txn⟩, .bool true] (w.alloc o) fun e w' => e = .returned (.tuple #[]) ∧ ∃ σ', StIs w' σ' i sb ⟨s.reads, s.base, [row ++ [⟨9, db, key, val, flags, n⟩]]⟩ ∧ Moved σ i (w.alloc o) σ' w') := fun o =>
    within_put σ i sb s _ (w.alloc o) row (hn.ext ((Ext.rfl' w).alloc o)) (h.ext ((Ext.rfl' w).alloc o)) hl hlen rfl
  have z1 : (till == 0) = false := by simp; omega
  have z2 : decide (0 < till) = true := by simpa using h0'
  clear h hb hr hl h0 hlen
  unfold toldV toldCells at HW ⊢
  go_enter Tryz.func60, Tryz.ntmps60
  go_wp2_with fail
  refine (HW.out _).mono ?_
  rintro e w1 ⟨rfl, σ', h1, h2⟩
  have H1 := Lib.hid h1
  have H2 := Lib.hid h2
  clear h1 h2
  go_wp2_with fail
  go_end0
  exact ⟨rfl, σ', H1.out, (Moved.ofExt hn ((Ext.rfl' w).alloc _) i).trans H2.out⟩

set_option maxHeartbeats 4000000 in
set_option maxRecDepth 100000 in
theorem takes_rd (σ : Sig) (i sb : Nat) (s : StA) (t : ToldA) (w : World) (hn : Neat w σ) (h : StIs w σ i sb s) (h0 : 0 < t.till) (hr : s.reads = false) (hl : s.ops = []) (h3 : t.op.kind = 3) (hc : t.rep.code = 0) :
    Calls Tryz.prog 60 #[.pointer (some ⟨sb, 0, none⟩), toldV t] w (TakesPost σ i sb ⟨true, t.txn, []⟩ w) := by
  obtain ⟨pid, number, ⟨kind, db, key, val, flags, n⟩, frm, till, ⟨code, rk, rv⟩, txn⟩ := t
  obtain rfl : kind = 3 := h3
  obtain rfl : code = 0 := hc
  have h0' : 0 < till := h0
  obtain ⟨p, c, hb, _⟩ := st_cells h
  rw [hl] at hb
  have hlt := lt_heap hb
  have c2 := cellAt hb 2
  have c1 := cellAt hb 1
  have c0 := cellAt hb 0
  have f2 := frozenAt hb 2
  have f1 := frozenAt hb 1
  have f0 := frozenAt hb 0
  simp [hr] at c0 c1 c2
  have z1 : (till == 0) = false := by simp; omega
  have z2 : decide (0 < till) = true := by simpa using h0'
  have n1 : ¬ sb = w.heap.size := by omega
  have n2 : ¬ w.heap.size = sb := by omega
  have HS := Lib.hid h
  have HB := Lib.hid hb
  clear h hb hr hl h0
  unfold toldV toldCells
  go_enter Tryz.func60, Tryz.ntmps60
  go_wp2_with fail
  go_end0
  have o := (((Only.refl sb w).setCell 0 (.bool true)).setCell 1 (.int .u64 txn)).setCell 2 (.slice none 0 0)
  have r := st_reset hn HS.out (Ext.rfl' w) o ⟨true, txn, []⟩ rfl (heap_setCell_row (heap_setCell_row (heap_setCell_row HB.out 0 _) 1 _) 2 _)
  exact ⟨rfl, σ, r.1.ext ((Ext.rfl' _).alloc _), r.2.thenExt ((Ext.rfl' _).alloc _)⟩

/-- Behind the begin of a writing transaction. -/
theorem st_begin {σ : Sig} {i sb : Nat} {s : StA} {w ws : World} {txn : Nat} {box : Obj} (hn : Neat w σ) (h : StIs w σ i sb s) (o : Only sb w ws)
    (hh : ws.heap[sb]? = some (.cells #[.bool false, .int .u64 txn, .slice (some ⟨w.heap.size + 1, 0, none⟩) 1 1] 125 (0, 0))) :
    StIs ((ws.alloc box).alloc (.cells #[.slice none 0 0] 22)) (lay σ (w.heap.size + 1) (i, .names)) i sb ⟨false, txn, [[]]⟩ ∧ Moved σ i w (lay σ (w.heap.size + 1) (i, .names)) ((ws.alloc box).alloc (.cells #[.slice none 0 0] 22)) := by
  have hsl : sb < w.heap.size := by obtain ⟨_, _, h2, _⟩ := h; exact lt_heap h2
  have hs1 : ws.heap.size = w.heap.size := o.size
  have hs2 : (ws.alloc box).heap.size = w.heap.size + 1 := by simp [hs1]
  have hnew := heap_new (ws.alloc box) (.cells #[.slice none 0 0] 22)
  rw [hs2] at hnew
  refine ⟨⟨by rw [lay_other (by omega)]; exact h.1, .slice (some ⟨w.heap.size + 1, 0, none⟩) 1 1, ?_, .inr ⟨[], w.heap.size + 1, .slice none 0 0, rfl, rfl, lay_same _ _ _, hnew, owns_nil _ _ _ _, fun g hg => by cases hg⟩⟩, ?_⟩
  · rw [((Ext.rfl' (ws.alloc box)).alloc _).block sb (by omega), ((Ext.rfl' ws).alloc _).block sb (by omega)]; exact hh
  · have m0 := Moved.ofOnly (i := i) hn o (by rw [h.1])
    have m1 := m0.thenExt ((Ext.rfl' ws).alloc box)
    have m2 := m1.trans (Moved.new (i := i) m1.neat (.cells #[.slice none 0 0] 22) (i, .names))
    rw [hs2] at m2
    exact m2

set_option maxHeartbeats 4000000 in
set_option maxRecDepth 100000 in
theorem takes_wr (σ : Sig) (i sb : Nat) (s : StA) (t : ToldA) (w : World) (hn : Neat w σ) (h : StIs w σ i sb s) (h0 : 0 < t.till) (hr : s.reads = false) (hl : s.ops = []) (h4 : t.op.kind = 4) (hc : t.rep.code = 0) :
    Calls Tryz.prog 60 #[.pointer (some ⟨sb, 0, none⟩), toldV t] w (TakesPost σ i sb ⟨false, t.txn, [[]]⟩ w) := by
  obtain ⟨pid, number, ⟨kind, db, key, val, flags, n⟩, frm, till, ⟨code, rk, rv⟩, txn⟩ := t
  obtain rfl : kind = 4 := h4
  obtain rfl : code = 0 := hc
  have h0' : 0 < till := h0
  obtain ⟨p, c, hb, _⟩ := st_cells h
  rw [hl] at hb
  have hlt := lt_heap hb
  have c2 := cellAt hb 2
  have c1 := cellAt hb 1
  have c0 := cellAt hb 0
  have f2 := frozenAt hb 2
  have f1 := frozenAt hb 1
  have f0 := frozenAt hb 0
  simp [hr] at c0 c1 c2
  have z1 : (till == 0) = false := by simp; omega
  have z2 : decide (0 < till) = true := by simpa using h0'
  have n1 : ¬ sb = w.heap.size := by omega
  have n2 : ¬ w.heap.size = sb := by omega
  have n3 : ¬ sb = w.heap.size + 1 := by omega
  have n4 : ¬ w.heap.size + 1 = sb := by omega
  have HS := Lib.hid h
  have HB := Lib.hid hb
  clear h hb hr hl h0
  unfold toldV toldCells
  go_enter Tryz.func60, Tryz.ntmps60
  go_wp2_with fail
  go_end0
  have o := (((Only.refl sb w).setCell 0 (.bool false)).setCell 1 (.int .u64 txn)).setCell 2 (.slice (some ⟨w.heap.size + 1, 0, none⟩) 1 1)
  exact ⟨rfl, _, st_begin hn HS.out o (heap_setCell_row (heap_setCell_row (heap_setCell_row HB.out 0 _) 1 _) 2 _)⟩

theorem takes_any (σ : Sig) (i sb : Nat) (s : StA) (t : ToldA) (w : World) (hn : Neat w σ) (h : StIs w σ i sb s) (hw : (wayOf s t).isSome = true) (hlen : (s.ops.headD []).length ≤ 1000) :
    Calls Tryz.prog 60 #[.pointer (some ⟨sb, 0, none⟩), toldV t] w (TakesPost σ i sb (stepS s t) w) := by
  unfold stepS
  cases hq : wayOf s t with
  | none => rw [hq] at hw; cases hw
  | some q =>
    unfold wayOf at hq
    split at hq
    · rename_i h0
      injection hq with hq
      subst hq
      exact takes_no σ i sb s t w hn h h0
    · split at hq
      · rename_i h0
        split at hq
        · rename_i hs
          obtain ⟨row, hrow⟩ : ∃ row, s.ops = [row] := List.length_eq_one_iff.1 hs.2
          split at hq
          · rename_i h6
            injection hq with hq
            subst hq
            exact takes_com σ i sb s t w hn h h0 hs.1 hs.2 h6
          · split at hq
            · rename_i h9
              injection hq with hq
              subst hq
              have := takes_put σ i sb s t w row hn h h0 hs.1 hrow (by rw [hrow] at hlen; exact hlen) h9.1 h9.2
              rw [show s.ops.headD [] = row by rw [hrow]; rfl]
              exact this
            · cases hq
        · split at hq
          · rename_i hs
            split at hq
            · rename_i h8
              injection hq with hq
              subst hq
              exact takes_get σ i sb s t w hn h h0 hs.1 h8
            · cases hq
          · split at hq
            · rename_i hs
              split at hq
              · rename_i h3
                injection hq with hq
                subst hq
                exact takes_rd σ i sb s t w hn h h0 hs.1 hs.2 h3.1 h3.2
              · split at hq
                · rename_i h4
                  injection hq with hq
                  subst hq
                  exact takes_wr σ i sb s t w hn h h0 hs.1 hs.2 h4.1 h4.2
                · cases hq
            · cases hq
      · cases hq
end Go.Proofs.YtmkhjmldncegcaaGreatDoor

/-
  NO WALK: what the loop over what was told keeps: each process's state, the row of commits.
-/
set_option linter.unusedVariables false
set_option linter.unusedSimpArgs false
set_option linter.unusedSectionVars false
namespace Go.Proofs.YtmkhjmldncegcaaGreatDoor
open Go.RowKit Go.Maps Go.ChangeMaps Go.MapKept

section
variable {κ α : Type} [Ky κ]
theorem mset_mset (k : κ) (v v' : α) (l : List (κ × α)) : mset k v' (mset k v l) = mset k v' l := by
  unfold mset
  rw [List.map_map]
  congr 1
  funext p
  show (if sameK (if sameK p.1 k then (p.1, v) else p).1 k then ((if sameK p.1 k then (p.1, v) else p).1, v') else (if sameK p.1 k then (p.1, v) else p)) = if sameK p.1 k then (p.1, v') else p
  cases h : sameK p.1 k <;> simp [h]
theorem mset_none {k : κ} (v : α) : ∀ {l : List (κ × α)}, mget k l = none → mset k v l = l
  | [], _ => rfl
  | y :: r, h => by
    rw [mget_cons] at h
    unfold mset
    rw [List.map_cons]
    cases e : sameK y.1 k
    · rw [e] at h
      have := mset_none v (l := r) (by simpa using h)
      unfold mset at this
      rw [this]; simp
    · rw [e] at h; simp at h
theorem mset_mins {k : κ} (v v' : α) : ∀ {l : List (κ × α)}, mget k l = none → mset k v' (mins (k, v) l) = mins (k, v') l
  | [], _ => by simp [mins, mset, sameK_self]
  | y :: r, h => by
    have hy : sameK y.1 k = false := by
      rw [mget_cons] at h
      cases e : sameK y.1 k
      · rfl
      · rw [e] at h; simp at h
    have hr : mget k r = none := by rw [mget_cons, hy] at h; simpa using h
    unfold mins
    show mset k v' (if befK k y.1 then _ else _) = if befK k y.1 then _ else _
    cases e : befK k y.1
    · simp only [Bool.false_eq_true, if_false]
      show mset k v' (y :: mins (k, v) r) = _
      have ih := mset_mins v v' hr
      unfold mset at ih ⊢
      rw [List.map_cons, ih, hy]; simp
    · simp only [if_true]
      have := mset_none v' (l := y :: r) h
      unfold mset at this ⊢
      rw [List.map_cons, this, sameK_self]; simp
theorem mset_mput (k : κ) (v v' : α) (l : List (κ × α)) : mset k v' (mput k v l) = mput k v' l := mset_mins v v' (mget_del_same k l)
theorem mset_mupd (k : κ) (v v' : α) (l : List (κ × α)) : mset k v' (mupd k v l) = mupd k v' l := by
  unfold mupd
  split
  · exact mset_mset k v v' l
  · exact mset_mput k v v' l
theorem mget_mupd (k : κ) (v : α) (l : List (κ × α)) : mget k (mupd k v l) = some v := by
  unfold mupd
  split
  · rename_i h; exact mget_set_same h
  · exact mget_put_same k v l
theorem mget_mupd_other {k k' : κ} (h : k' ≠ k) (v : α) (l : List (κ × α)) : mget k' (mupd k v l) = mget k' l := by
  unfold mupd
  split
  · exact mget_set_other h v l
  · exact mget_put_other h v l
theorem length_mupd (k : κ) (v : α) (l : List (κ × α)) : (mupd k v l).length ≤ l.length + 1 := by
  unfold mupd
  split
  · rw [length_mset]; omega
  · exact length_mput k v l
theorem mset_self {k : κ} {v : α} : ∀ {l : List (κ × α)}, l.Pairwise (fun p q => p.1 ≠ q.1) → mget k l = some v → mset k v l = l
  | [], _, h => by simp [mget_nil] at h
  | y :: r, hp, h => by
    obtain ⟨h1, h2⟩ := List.pairwise_cons.1 hp
    rw [mget_cons] at h
    unfold mset
    rw [List.map_cons]
    cases e : sameK y.1 k
    · rw [e] at h
      have := mset_self h2 (by simpa using h)
      unfold mset at this
      rw [this]; simp
    · rw [e] at h
      have hk : y.1 = k := (sameK_iff _ _).1 e
      have hv : y.2 = v := by simpa using h
      have hn : mget k r = none := by
        unfold mget
        rw [Option.map_eq_none_iff, List.find?_eq_none]
        intro p hp'
        rw [sameK_ne (by rw [← hk]; exact (h1 p hp').symm)]; simp
      have := mset_none v hn
      unfold mset at this
      rw [this]
      simp [← hv]
end

/-- A process's number as an owner's. -/
def encI : Int → Nat
  | .ofNat n => 2 * n
  | .negSucc n => 2 * n + 1
theorem encI_inj {a b : Int} (h : encI a = encI b) : a = b := by
  cases a with
  | ofNat n => cases b with
    | ofNat m => have : 2 * n = 2 * m := h; have e : n = m := (by omega); rw [e]
    | negSucc m => have : 2 * n = 2 * m + 1 := h; omega
  | negSucc n => cases b with
    | ofNat m => have : 2 * n + 1 = 2 * m := h; omega
    | negSucc m => have : 2 * n + 1 = 2 * m + 1 := h; have e : n = m := (by omega); rw [e]
def oSt (p : Int) : Nat := 8 * encI p + 1
def oPl (p : Int) : Nat := 8 * encI p + 2
def oMo (p : Int) : Nat := 8 * encI p + 3
def oVe (n : Nat) : Nat := 8 * n + 4
theorem oSt_ne {p q : Int} (h : p ≠ q) : oSt p ≠ oSt q := fun e => h (encI_inj (by unfold oSt at e; omega))
theorem oPl_ne {p q : Int} (h : p ≠ q) : oPl p ≠ oPl q := fun e => h (encI_inj (by unfold oPl at e; omega))
theorem oMo_ne {p q : Int} (h : p ≠ q) : oMo p ≠ oMo q := fun e => h (encI_inj (by unfold oMo at e; omega))

theorem keyedI : Keyed Tryz.prog 3 := int_keyed Tryz.underlying3
theorem keyI {n : Int} (h1 : -9223372036854775808 ≤ n) (h2 : n ≤ 9223372036854775807) : keyOf Tryz.prog 3 (.int .i64 n) = some (Ky.lit n) :=
  keyOf_int_mk Tryz.underlying3 (WalkArith.wf_i64 (by omega))

/-- The label of the map of processes. -/
def mapLab : Lab := (0, .names)
/-- Each process's state, by the map. -/
def SsAt (w : World) (σ : Sig) (mb : Nat) (rows : List (Int × Value)) (sts : List (Int × StA)) : Prop :=
  MapOf w 3 mb rows ∧ σ mb = mapLab ∧ Beside (fun p v s => StAt w σ (oSt p) v s) rows sts

theorem StAt.keepAll {w w' : World} {σ σ' : Sig} {i : Nat} {v : Value} {s : StA} (h : StAt w σ i v s) {p : Lab → Prop} (k : Keep p σ w σ' w') (hp : ∀ l : Lab, l.1 = i → p l) : StAt w' σ' i v s := h.keep (k.weak hp)

theorem SsAt.ext {w w' : World} {σ : Sig} {mb : Nat} {rows : List (Int × Value)} {sts : List (Int × StA)} (h : SsAt w σ mb rows sts) (e : Ext w w') : SsAt w' σ mb rows sts :=
  ⟨h.1.ext e, h.2.1, h.2.2.imp fun _ _ _ hs => hs.keep (Keep.ofExt e _ σ)⟩

/-- A step of one process that is there. -/
theorem SsAt.step {w w' : World} {σ σ' : Sig} {mb sb : Nat} {rows : List (Int × Value)} {sts : List (Int × StA)} {p : Int} {s' : StA} (h : SsAt w σ mb rows sts) (hr : mget p rows = some (.pointer (some ⟨sb, 0, none⟩)))
    (hs : StIs w' σ' (oSt p) sb s') (m : Moved σ (oSt p) w σ' w') : SsAt w' σ' mb rows (mset p s' sts) := by
  obtain ⟨h1, h2, h3⟩ := h
  have hl := h1.lt
  refine ⟨h1.same (m.turn.block mb hl (by rw [h2]; unfold oSt mapLab; simp)), by rw [m.ext mb hl]; exact h2, Beside.set h3 (fun q a b hne hb => hb.keep (Keep.ofMoved m (oSt_ne hne))) fun a ha => ?_⟩
  have : a = .pointer (some ⟨sb, 0, none⟩) := by
    have := mget_of_mem (h1.nodup keyedI) ha
    rw [hr] at this
    injection this with this
    exact this.symm
  exact ⟨sb, this, hs⟩

/-- A new process. -/
theorem SsAt.new {w w1 w' : World} {σ : Sig} {mb : Nat} {rows : List (Int × Value)} {sts : List (Int × StA)} {p : Int} (hn : Neat w σ) (h : SsAt w σ mb rows sts) (e1 : Ext w w1) 
    (hM : MapOf w' 3 mb (mput p (.pointer (some ⟨w1.heap.size, 0, none⟩)) rows)) (ht : (w1.alloc (.cells #[.bool false, .int .u64 0, .slice none 0 0] 125)).mapTurned w' mb) :
    SsAt w' (lay σ w1.heap.size (oSt p, .top)) mb (mput p (.pointer (some ⟨w1.heap.size, 0, none⟩)) rows) (mput p ⟨false, 0, []⟩ sts) ∧ Neat w' (lay σ w1.heap.size (oSt p, .top)) ∧
      StIs w' (lay σ w1.heap.size (oSt p, .top)) (oSt p) w1.heap.size ⟨false, 0, []⟩ := by
  obtain ⟨h1, h2, h3⟩ := h
  have hl := h1.lt
  have hs1 := e1.size
  have o := Only.ofMap ht
  have hs : w'.heap.size = w1.heap.size + 1 := by rw [o.size]; simp
  have hb : w'.heap[w1.heap.size]? = some (.cells #[.bool false, .int .u64 0, .slice none 0 0] 125 (0, 0)) := by
    rw [o.block _ (by omega)]; exact heap_new _ _
  have hst : StIs w' (lay σ w1.heap.size (oSt p, .top)) (oSt p) w1.heap.size ⟨false, 0, []⟩ := ⟨lay_same _ _ _, _, hb, .inl ⟨rfl, rfl⟩⟩
  have kk : ∀ q : Int, Keep (fun l => l.1 = oSt q) σ w (lay σ w1.heap.size (oSt p, .top)) w' := fun q k hk e => by
    refine ⟨?_, lay_other (by omega)⟩
    have hne : k ≠ mb := fun h => by rw [h, h2] at e; unfold oSt mapLab at e; simp at e
    rw [o.block k hne, ((Ext.rfl' w1).alloc _).block k (by omega), e1.block k hk]
  refine ⟨⟨hM, by rw [lay_other (by omega)]; exact h2, Beside.put' (fun q a b _ hb => hb.keep (kk q)) ⟨_, rfl, hst⟩ h3⟩, fun k hk => ?_, hst⟩
  rw [lay_other (by omega)]; exact hn k (by omega)

theorem SsAt.newKeep {w w1 w' : World} {σ : Sig} {mb : Nat} {rows : List (Int × Value)} {sts : List (Int × StA)} {l : Lab} (h : SsAt w σ mb rows sts) (e1 : Ext w w1) {o : Obj} (ht : (w1.alloc o).mapTurned w' mb) :
    Keep (fun l => l = other) σ w (lay σ w1.heap.size l) w' := fun k hk e => by
  have hne : k ≠ mb := fun q => by rw [q, h.2.1] at e; cases e
  have hs1 := e1.size
  exact ⟨by rw [(Only.ofMap ht).block k hne, ((Ext.rfl' w1).alloc _).block k (by omega), e1.block k hk], lay_other (by omega)⟩

/-! ### the row of commits -/
def comCells (p : ComA × Value) : List Value := [.int .u64 p.1.txn, .int .i64 p.1.frm, p.2]
theorem comCells_len (p : ComA × Value) : (comCells p).length = 3 := rfl
def SliceV (v : Value) : Prop := ∃ p n c, v = .slice p n c
theorem comCells_one {p : ComA × Value} (h : SliceV p.2) : ∀ v ∈ comCells p, v.oneCell' = true := by
  obtain ⟨a, n, c, h⟩ := h
  intro v hv
  simp only [comCells, List.mem_cons, List.not_mem_nil, or_false] at hv
  rcases hv with e | e | e
  · subst e; rfl
  · subst e; rfl
  · rw [e, h]; rfl
/-- The commits so far. -/
structure ComsAt (w : World) (σ : Sig) (base : Nat) (v : Value) (L : List (ComA × Value)) : Prop where
  row : w.ownsRow base 87 3 v L.length (L.flatMap comCells)
  own : ∀ g, v.ownBlock = some g → σ g = other
  ops : ∀ p ∈ L, OpsAt w σ other p.2 p.1.ops
  apart : ∀ p ∈ L, ∀ g, p.2.ownBlock = some g → v.ownBlock ≠ some g
theorem ComsAt.keep {w w' : World} {σ σ' : Sig} {base : Nat} {v : Value} {L : List (ComA × Value)} (h : ComsAt w σ base v L) (k : Keep (fun l => l = other) σ w σ' w') : ComsAt w' σ' base v L := by
  have hg : ∀ g, v.ownBlock = some g → w'.heap[g]? = w.heap[g]? ∧ σ' g = σ g := fun g e => k g (h.row.lt g e).2 (h.own g e)
  refine ⟨⟨h.row.1, ?_⟩, fun g e => by rw [(hg g e).2]; exact h.own g e, fun p hp => (h.ops p hp).keep k rfl, h.apart⟩
  rcases h.row.2 with h | ⟨g, cap, cur, rfl, h1, h2, r⟩
  · exact .inl h
  · exact .inr ⟨g, cap, cur, rfl, h1, by rw [(hg g rfl).1]; exact h2, r⟩
theorem ComsAt.ext {w w' : World} {σ : Sig} {base : Nat} {v : Value} {L : List (ComA × Value)} (h : ComsAt w σ base v L) (e : Ext w w') : ComsAt w' σ base v L := h.keep (Keep.ofExt e _ σ)
theorem owns_same {w w' : World} {base : Nat} {e : TypeId} {size n : Nat} {v : Value} {xs : List Value} (h : w.ownsRow base e size v n xs) (hb : ∀ g, v.ownBlock = some g → w'.heap[g]? = w.heap[g]?) : w'.ownsRow base e size v n xs := by
  refine ⟨h.1, ?_⟩
  rcases h.2 with hn | ⟨g, cap, cur, rfl, h1, h2, r⟩
  · exact .inl hn
  · exact .inr ⟨g, cap, cur, rfl, h1, by rw [hb g rfl]; exact h2, r⟩
/-- One commit more. -/
theorem coms_more {W W2 w3 w4 : World} {o : Obj} {σ : Sig} {base b2 : Nat} {u3 v3 v2 : Value} {L : List (ComA × Value)} {c : ComA} (hn : Neat W σ) (hco : ComsAt W σ base u3 L) (e2 : Ext W W2) (e3 : Ext W2 w3)
    (own2 : w3.ownsRow b2 30 6 v2 c.ops.length (opsCells c.ops)) (hb2 : W2.heap.size ≤ b2)
    (ho4 : w4.ownsRow base 87 3 v3 (L.length + 1) (L.flatMap comCells ++ comCells (c, v2))) (hg4 : (w3.alloc o).grownBy w4 u3.ownBlock) (hat : v3.ownBlock = u3.ownBlock ∨ v3.ownBlock = some (w3.alloc o).heap.size) :
    ComsAt w4 σ base v3 (L ++ [(c, v2)]) := by
  have s2 := e2.size
  have s3 := e3.size
  have sa : (w3.alloc o).heap.size = w3.heap.size + 1 := by simp
  have hu : ∀ g, u3.ownBlock = some g → g < W.heap.size := fun g hg => (hco.row.lt g hg).2
  have hv2 : ∀ g, v2.ownBlock = some g → W2.heap.size ≤ g ∧ g < w3.heap.size := fun g hg => ⟨Nat.le_trans hb2 (own2.lt g hg).1, (own2.lt g hg).2⟩
  have hp : ∀ p ∈ L, ∀ g, p.2.ownBlock = some g → g < W.heap.size := fun p hp g hg => ((hco.ops p hp).1.lt g hg).2
  have hold : ∀ k, k < W.heap.size → u3.ownBlock ≠ some k → w4.heap[k]? = W.heap[k]? := fun k hk hne => by
    rw [hg4.block k (by omega) (fun q => hne q.symm), ((Ext.rfl' w3).alloc _).block k (by omega), e3.block k (by omega), e2.block k hk]
  refine ⟨by rw [List.flatMap_append]; simpa using ho4, fun g hg => ?_, fun p hpm => ?_, fun p hpm g hg => ?_⟩
  · rcases hat with h | h
    · rw [h] at hg; exact hco.own g hg
    · rw [h] at hg; injection hg with hg; exact hn g (by omega)
  · rcases List.mem_append.1 hpm with h | h
    · have h1 := hco.ops p h
      exact ⟨owns_same h1.1 fun g hg => hold g (hp p h g hg) (hco.apart p h g hg), h1.2⟩
    · simp at h
      subst h
      refine ⟨owns_same (own2.base (Nat.zero_le _)) fun g hg => ?_, fun g hg => ?_⟩
      · have := hv2 g hg
        rw [hg4.block g (by omega) (fun q => by have := hu g q.symm; omega), ((Ext.rfl' w3).alloc _).block g (by omega)]
      · have := hv2 g hg; exact hn g (by omega)
  · rcases List.mem_append.1 hpm with h | h
    · rcases hat with q | q
      · rw [q]; exact hco.apart p h g hg
      · rw [q]; intro e; injection e with e; have := hp p h g hg; omega
    · simp at h
      subst h
      have := hv2 g hg
      rcases hat with q | q
      · rw [q]; intro e; have := hu g e; omega
      · rw [q]; intro e; injection e with e; omega
theorem commit_info : (Tryz.prog.info? 87).map (fun i => (i.zero, i.size, i.bytes)) = some (some (.agg #[.int .u64 0, .int .i64 0, .slice none 0 0]), 3, 40) := by kernel_rfl
theorem commitEl : ElemOf Tryz.prog 84 87 3 40 := by
  obtain ⟨i0, hi, hz0, hz1, hz2⟩ := info_parts commit_info
  exact ⟨Tryz.underlying84, ⟨i0, _, hi, hz0, hz1, hz2, rfl⟩, by omega⟩
end Go.Proofs.YtmkhjmldncegcaaGreatDoor

/-
  WALKS: the stable sort of the commits, at twenty or fewer.
-/
set_option linter.unusedVariables false
set_option linter.unusedSimpArgs false
namespace Go.Proofs.YtmkhjmldncegcaaGreatDoor
open Go.RowKit Go.Maps Go.ChangeMaps Go.MapKept Go.Sort

/-- A commit, and where its ops lie. -/
abbrev ComE := ComA × Option Addr × Nat × Nat
def comEC (e : ComE) : List Value := [.int .u64 e.1.txn, .int .i64 e.1.frm, .slice e.2.1 e.2.2.1 e.2.2.2]
theorem comEC_len (e : ComE) : (comEC e).length = 3 := rfl
theorem comEC_one (e : ComE) : ∀ v ∈ comEC e, v.oneCell' = true := by
  intro v hv
  simp only [comEC, List.mem_cons, List.not_mem_nil, or_false] at hv
  rcases hv with h | h | h <;> subst h <;> rfl
def cmpE (x y : ComE) : Int := cmpCom x.1 y.1

set_option maxHeartbeats 1000000 in
theorem cmpU_any (a b : Nat) (w : World) : Calls Tryz.prog 64 #[.int .u64 a, .int .u64 b] w fun e w' => e = .returned (.int .i64 (Lib.compareInt a b)) ∧ w' = w := by
  unfold Lib.compareInt
  by_cases h1 : a < b
  · have d1 : decide (a < b) = true := decide_eq_true h1
    have HE : Hid ((if (a : Int) < b then (-1 : Int) else if (a : Int) > b then 1 else 0) = -1) := if_pos (by omega)
    rw [HE.out]
    clear h1 HE
    go_enter Tryz.func64, Tryz.ntmps64
    go_wp2
    go_ret
    exact ⟨rfl, rfl⟩
  · have d1 : decide (a < b) = false := decide_eq_false h1
    by_cases h2 : b < a
    · have d2 : decide (b < a) = true := decide_eq_true h2
      have HE : Hid ((if (a : Int) < b then (-1 : Int) else if (a : Int) > b then 1 else 0) = 1) := by show _ = _; rw [if_neg (by omega), if_pos (by omega)]
      rw [HE.out]
      clear h1 h2 HE
      go_enter Tryz.func64, Tryz.ntmps64
      go_wp2
      go_ret
      exact ⟨rfl, rfl⟩
    · have d2 : decide (b < a) = false := decide_eq_false h2
      have HE : Hid ((if (a : Int) < b then (-1 : Int) else if (a : Int) > b then 1 else 0) = 0) := by show _ = _; rw [if_neg (by omega), if_neg (by omega)]
      rw [HE.out]
      clear h1 h2 HE
      go_enter Tryz.func64, Tryz.ntmps64
      go_wp2
      go_ret
      exact ⟨rfl, rfl⟩

set_option maxHeartbeats 4000000 in
set_option maxRecDepth 100000 in
theorem cmpE_any (x y : ComE) (W : World) :
    Calls Tryz.prog 62 #[.agg (comEC x).toArray, .agg (comEC y).toArray] W fun e w' => e = .returned (.int .i64 (cmpE x y)) ∧ Grew W w' := by
  have HC := Lib.hid fun a b W => Tryz.cmp_Compare_int a b W
  have HU := Lib.hid fun (a b : Nat) W => cmpU_any a b W
  have HR : Hid (cmpE x y = orI (Lib.compareInt x.1.txn y.1.txn) (Lib.compareInt x.1.frm y.1.frm)) := rfl
  rw [HR.out]
  clear HR
  unfold comEC
  go_enter Tryz.func62, Tryz.ntmps62
  go_wp2_with fail
  generalize hW : (W.alloc (Obj.cells _ 87)).alloc (Obj.cells _ 87) = W2
  have hg : Grew W W2 := by rw [← hW]; exact ((Grew.rfl' W).alloc _).alloc _
  have hx : W2.heap[W.heap.size]? = some (.cells (comEC x).toArray 87 (0, 0)) := by
    rw [← hW]; exact (((Ext.rfl' (W.alloc (.cells (comEC x).toArray 87))).alloc _).block W.heap.size (by simp)).trans (heap_new W _)
  have hy : W2.heap[W.heap.size + 1]? = some (.cells (comEC y).toArray 87 (0, 0)) := by rw [← hW]; exact two_boxes W _ _
  have x0 := cellAt hx 0
  have x1 := cellAt hx 1
  have y0 := cellAt hy 0
  have y1 := cellAt hy 1
  have hs2 : W.heap.size + 1 < W2.heap.size := lt_heap hy
  simp [comEC] at x0 x1 y0 y1
  have HG := Lib.hid hg
  have HO1 : Hid (Calls Tryz.prog 63 #[.slice (some ⟨W2.heap.size, 0, none⟩) 2 2] (W2.alloc (.cells #[.int .i64 (Lib.compareInt x.1.txn y.1.txn), .int .i64 (Lib.compareInt x.1.frm y.1.frm)] 3)) fun e w' => e = .returned (.int .i64 (orI (Lib.compareInt x.1.txn y.1.txn) (Lib.compareInt x.1.frm y.1.frm))) ∧ w' = W2.alloc (.cells #[.int .i64 (Lib.compareInt x.1.txn y.1.txn), .int .i64 (Lib.compareInt x.1.frm y.1.frm)] 3)) :=
    or_any _ _ _ _ (cellAt (heap_new W2 _) 0) (cellAt (heap_new W2 _) 1)
  have HO2 : Hid (Calls Tryz.prog 63 #[.slice (some ⟨W2.heap.size, 0, none⟩) 2 2] (W2.alloc (.cells #[.int .i64 (Lib.compareInt x.1.txn y.1.txn), .int .i64 (Lib.compareInt x.1.frm y.1.frm)] 3)).drew fun e w' => e = .returned (.int .i64 (orI (Lib.compareInt x.1.txn y.1.txn) (Lib.compareInt x.1.frm y.1.frm))) ∧ w' = (W2.alloc (.cells #[.int .i64 (Lib.compareInt x.1.txn y.1.txn), .int .i64 (Lib.compareInt x.1.frm y.1.frm)] 3)).drew) :=
    or_any _ _ _ _ (cellAt (heap_new W2 _) 0) (cellAt (heap_new W2 _) 1)
  clear hW hx hy hg
  go_region_held3 (fun w' => w'.cell? ⟨W.heap.size, 0, none⟩ = some (.int .u64 x.1.txn) ∧ w'.cell? ⟨W.heap.size, 1, none⟩ = some (.int .i64 x.1.frm) ∧ w'.cell? ⟨W.heap.size + 1, 0, none⟩ = some (.int .u64 y.1.txn) ∧ w'.cell? ⟨W.heap.size + 1, 1, none⟩ = some (.int .i64 y.1.frm))
    (first | exact ⟨x0, x1, y0, y1⟩ | exact ⟨((Ext.rfl' W2).alloc _).cell x0, ((Ext.rfl' W2).alloc _).cell x1, ((Ext.rfl' W2).alloc _).cell y0, ((Ext.rfl' W2).alloc _).cell y1⟩)
    (first
      | (go_at_call 64; refine (HU.out _ _ _).mono ?_; rintro e w' ⟨rfl, rfl⟩)
      | (go_at_call 65; refine (HC.out _ _ _).mono ?_; rintro e w' ⟨rfl, rfl⟩)
      | (go_at_call 63; first | (with_reducible refine HO1.out.mono ?_) | (with_reducible refine HO2.out.mono ?_); rintro e w' ⟨rfl, rfl⟩))
  go_wp2
  go_ret
  exact ⟨rfl, by first | exact HG.out.alloc _ | exact (HG.out.alloc _).drew | exact HG.out.drew.alloc _⟩

theorem com_eg : ∀ args w, (callFunc 62 args).run Tryz.prog w = .ok (.enter 62 args) w := enters_of Tryz.func62 (by kernel_rfl) rfl

theorem com_ins (blk cap a b : Nat) (d : Array ComE) (w : World) (hH : HoldsK comEC 3 w blk 0 d) (hblk : blk < w.heap.size) (hab : a ≤ b) (hb : b ≤ d.size) (hsz : d.size ≤ 20) :
    Calls Tryz.prog 101 #[.slice (some ⟨blk, 0, none⟩) d.size cap, .int .i64 a, .int .i64 b, .func (.func 62) #[] #[]] w fun e w' =>
      e = .returned (.tuple #[]) ∧ ∃ n os, w' = sortWorldK comEC 3 w blk 0 n (Sort.insertionSort (ltOf cmpE) d a b) os :=
  AnyQ.insertionSortCmpFunc Tryz.insCommit 3 Tryz.isAgg87 Tryz.sizeOf87 comEC comEC_len comEC_one cmpE _ #[] blk 0 cap a b d w com_eg
    (fun m os dk hs x y => (cmpE_any x y _).mono fun e w' ⟨h1, h2⟩ => ⟨h1, h2⟩) hH hblk hab hb (by omega)

set_option maxHeartbeats 4000000 in
set_option maxRecDepth 100000 in
theorem com_stable (blk cap : Nat) (d : Array ComE) (w : World) (hH : HoldsK comEC 3 w blk 0 d) (hblk : blk < w.heap.size) (hsz : d.size ≤ 20) :
    Calls Tryz.prog 86 #[.slice (some ⟨blk, 0, none⟩) d.size cap, .int .i64 d.size, .func (.func 62) #[] #[]] w fun e w' =>
      e = .returned (.tuple #[]) ∧ HoldsK comEC 3 w' blk 0 (Sort.insertionSort (ltOf cmpE) d 0 d.size) ∧ RowChg blk w w' := by
  by_cases h20 : d.size < 20
  · have HC := Lib.hid (com_ins blk cap 0 d.size d w hH hblk (Nat.zero_le _) (Nat.le_refl _) hsz)
    have HE : Hid (∀ n os, HoldsK comEC 3 (sortWorldK comEC 3 w blk 0 n (Sort.insertionSort (ltOf cmpE) d 0 d.size) os) blk 0 (Sort.insertionSort (ltOf cmpE) d 0 d.size)) := fun n os =>
      holdsK_sortWorldK_c comEC 3 w blk 0 d _ n os hH hblk (isort_size _ _ _ _)
    generalize Sort.insertionSort (ltOf cmpE) d 0 d.size = d' at HC HE ⊢
    have h1 : decide ((20 : Int) ≤ (d.size : Int)) = false := by simp; omega
    have h2 : decide ((20 : Int) < (d.size : Int)) = false := by simp; omega
    have HH := Lib.hid hH
    clear hH
    go_enter Tryz.func86, Tryz.ntmps86
    go_wp2_with fail
    refine wp_loop_rounds 1 ?_
    rw [rounds_succ]
    go_wp2_with fail
    refine HC.out.mono ?_
    rintro e w1 ⟨rfl, n, os, rfl⟩
    have HE1 := Lib.hid (HE.out n os)
    have HR1 := Lib.hid (sortWorldK_chg comEC 3 w blk 0 n d' os)
    generalize sortWorldK comEC 3 w blk 0 n d' os = w1 at HE1 HR1 ⊢
    go_wp2_with fail
    refine wp_loop_rounds 1 ?_
    rw [rounds_succ]
    go_wp2_with fail
    go_end0
    exact ⟨rfl, HE1.out, HR1.out⟩
  · have hs : d.size = 20 := by omega
    have HC := Lib.hid (com_ins blk cap 0 20 d w hH hblk (by omega) (by omega) hsz)
    obtain ⟨d', hd'⟩ : ∃ d', Sort.insertionSort (ltOf cmpE) d 0 20 = d' := ⟨_, rfl⟩
    have hsz' : d'.size = 20 := by rw [← hd', isort_size]; exact hs
    have HE : Hid (∀ n os, HoldsK comEC 3 (sortWorldK comEC 3 w blk 0 n d' os) blk 0 d') := fun n os =>
      holdsK_sortWorldK_c comEC 3 w blk 0 d _ n os hH hblk (by omega)
    have HC2 : Hid (∀ n os, Calls Tryz.prog 101 #[.slice (some ⟨blk, 0, none⟩) 20 cap, .int .i64 20, .int .i64 20, .func (.func 62) #[] #[]] (sortWorldK comEC 3 w blk 0 n d' os) fun e w' =>
        e = .returned (.tuple #[]) ∧ ∃ n' os', w' = sortWorldK comEC 3 (sortWorldK comEC 3 w blk 0 n d' os) blk 0 n' d' os') := fun n os => by
      have h := com_ins blk cap 20 20 d' (sortWorldK comEC 3 w blk 0 n d' os) (HE.out n os) (Nat.lt_of_lt_of_le hblk (size_sortWorldK_c comEC 3 w blk 0 n d' os)) (Nat.le_refl _) (by omega) (by omega)
      rw [isort_self, hsz'] at h
      exact h
    have HE2 : Hid (∀ n os n' os', HoldsK comEC 3 (sortWorldK comEC 3 (sortWorldK comEC 3 w blk 0 n d' os) blk 0 n' d' os') blk 0 d') := fun n os n' os' =>
      holdsK_sortWorldK_c comEC 3 _ blk 0 d' _ n' os' (HE.out n os) (Nat.lt_of_lt_of_le hblk (size_sortWorldK_c comEC 3 w blk 0 n d' os)) rfl
    rw [hs] at HC ⊢
    rw [hd'] at HC ⊢
    clear hH h20 hs hd' hsz'
    go_enter Tryz.func86, Tryz.ntmps86
    go_wp2_with fail
    refine wp_loop_rounds 2 ?_
    rw [rounds_succ]
    go_wp2_with fail
    refine HC.out.mono ?_
    rintro e w1 ⟨rfl, n, os, rfl⟩
    have HC3 := Lib.hid (HC2.out n os)
    have HR1 := Lib.hid (sortWorldK_chg comEC 3 w blk 0 n d' os)
    have HE3 := Lib.hid (HE2.out n os)
    generalize sortWorldK comEC 3 w blk 0 n d' os = w1 at HC3 HE3 HR1 ⊢
    go_wp2_with fail
    rw [rounds_succ]
    go_wp2_with fail
    refine HC3.out.mono ?_
    rintro e w2 ⟨rfl, n', os', rfl⟩
    have HE1 := Lib.hid (HE3.out n' os')
    have HR2 := Lib.hid (sortWorldK_chg comEC 3 w1 blk 0 n' d' os')
    generalize sortWorldK comEC 3 w1 blk 0 n' d' os' = w2 at HE1 HR2 ⊢
    go_wp2_with fail
    refine wp_loop_rounds 1 ?_
    rw [rounds_succ]
    go_wp2_with fail
    go_end0
    exact ⟨rfl, HE1.out, HR1.out.trans HR2.out⟩

set_option maxHeartbeats 1000000 in
theorem com_sort (blk cap : Nat) (d : Array ComE) (w : World) (hH : HoldsK comEC 3 w blk 0 d) (hblk : blk < w.heap.size) (hsz : d.size ≤ 20) :
    Calls Tryz.prog 61 #[.slice (some ⟨blk, 0, none⟩) d.size cap, .func (.func 62) #[] #[]] w fun e w' =>
      e = .returned (.tuple #[]) ∧ HoldsK comEC 3 w' blk 0 (Sort.insertionSort (ltOf cmpE) d 0 d.size) ∧ RowChg blk w w' := by
  have HC := Lib.hid (com_stable blk cap d w hH hblk hsz)
  generalize Sort.insertionSort (ltOf cmpE) d 0 d.size = d' at HC ⊢
  clear hH
  go_enter Tryz.func61, Tryz.ntmps61
  go_wp2_with fail
  refine HC.out.mono ?_
  rintro e w1 ⟨rfl, h1, h2⟩
  have H1 := Lib.hid h1
  have H2 := Lib.hid h2
  clear h1 h2
  go_wp2_with fail
  go_end0
  exact ⟨rfl, H1.out, H2.out⟩

set_option maxHeartbeats 1000000 in
set_option maxRecDepth 100000 in
theorem com_ins_nil (w : World) :
    Calls Tryz.prog 101 #[.slice none 0 0, .int .i64 0, .int .i64 0, .func (.func 62) #[] #[]] w fun e w' => e = .returned (.tuple #[]) ∧ w' = w := by
  go_enter Tryz.func101, Tryz.ntmps101
  go_wp2_with fail
  refine wp_loop_rounds 1 ?_
  rw [rounds_succ]
  go_wp2_with fail
  go_end0
  exact ⟨rfl, rfl⟩
set_option maxHeartbeats 1000000 in
set_option maxRecDepth 100000 in
theorem com_stable_nil (w : World) :
    Calls Tryz.prog 86 #[.slice none 0 0, .int .i64 0, .func (.func 62) #[] #[]] w fun e w' => e = .returned (.tuple #[]) ∧ w' = w := by
  go_enter Tryz.func86, Tryz.ntmps86
  go_wp2_with fail
  refine wp_loop_rounds 1 ?_
  rw [rounds_succ]
  go_wp2_with fail
  refine (com_ins_nil _).mono ?_
  rintro e w1 ⟨rfl, rfl⟩
  go_wp2_with fail
  refine wp_loop_rounds 1 ?_
  rw [rounds_succ]
  go_wp2_with fail
  go_end0
  exact ⟨rfl, rfl⟩
set_option maxHeartbeats 1000000 in
set_option maxRecDepth 100000 in
theorem com_sort_nil (w : World) :
    Calls Tryz.prog 61 #[.slice none 0 0, .func (.func 62) #[] #[]] w fun e w' => e = .returned (.tuple #[]) ∧ w' = w := by
  go_enter Tryz.func61, Tryz.ntmps61
  go_wp2_with fail
  refine (com_stable_nil _).mono ?_
  rintro e w1 ⟨rfl, rfl⟩
  go_wp2_with fail
  go_end0
  exact ⟨rfl, rfl⟩
end Go.Proofs.YtmkhjmldncegcaaGreatDoor

