/-
  PLAIN: the document's model (copyholdref26.Model) in Lean, and that it answers as the program's model does; no program in sight.
-/
import Derived.Test.YtmkhjmldncegcaaGreatDoorMA
set_option linter.unusedVariables false
set_option linter.unusedSectionVars false
namespace Go.Proofs.YtmkhjmldncegcaaGreatDoor
open Go

/-! ### texts in order -/
theorem bl_iff : ∀ l m : S, Op.bytesLess l m = true ↔ l < m
  | l, [] => by simp [Op.bytesLess]
  | [], b :: m => by simp [Op.bytesLess]
  | a :: l, b :: m => by
    rw [List.cons_lt_cons_iff, ← bl_iff l m]
    simp [Op.bytesLess]
theorem bl_irr (a : S) : Op.bytesLess a a = false := by
  rw [← Bool.not_eq_true, bl_iff]; exact List.lt_irrefl a
theorem bl_trans {a b c : S} (h : Op.bytesLess a b = true) (k : Op.bytesLess b c = true) : Op.bytesLess a c = true := by
  rw [bl_iff] at *; exact List.lt_trans h k
theorem bl_asymm {a b : S} (h : Op.bytesLess a b = true) : Op.bytesLess b a = false := by
  rw [← Bool.not_eq_true]; intro k; have := bl_trans h k; rw [bl_irr] at this; cases this
theorem bl_tri (a b : S) : Op.bytesLess a b = true ∨ a = b ∨ Op.bytesLess b a = true := by
  rw [bl_iff, bl_iff]
  rcases Std.lt_trichotomy a b with h | h | h
  · exact .inl h
  · exact .inr (.inl h)
  · exact .inr (.inr h)
theorem bl_ne {a b : S} (h : Op.bytesLess a b = true) : a ≠ b := fun e => by rw [e, bl_irr] at h; cases h
theorem gt_iff {a b : S} : gtS a b = Op.bytesLess b a := by
  unfold gtS
  rcases bl_tri a b with h | h | h
  · rw [h, bl_asymm h]; rfl
  · subst h; simp [bl_irr]
  · rw [bl_asymm h, h]; simp [(bl_ne h).symm]
theorem bef_iff (a b : S) : befK a b = Op.bytesLess a b := by
  show bytesBefore a b = _
  induction a generalizing b with
  | nil => cases b <;> rfl
  | cons x l ih => cases b with
    | nil => rfl
    | cons y m => simp only [bytesBefore, Op.bytesLess, ih]

/-! ### rows in order -/
def Up {α : Type} (m : List (S × α)) : Prop := m.Pairwise fun p q => Op.bytesLess p.1 q.1 = true
theorem up_get {α : Type} {k : S} {p : S × α} {r : List (S × α)} (h : Up (p :: r)) (hk : Op.bytesLess k p.1 = true) : mget k (p :: r) = none := by
  induction r generalizing p with
  | nil => rw [mget_cons, if_neg (by rw [sameK_ne (bl_ne hk).symm]; simp)]; rfl
  | cons q r ih =>
    rw [mget_cons, if_neg (by rw [sameK_ne (bl_ne hk).symm]; simp)]
    have h2 := List.pairwise_cons.1 h
    exact ih h2.2 (bl_trans hk (h2.1 q (by simp)))
theorem up_tail {α : Type} {p : S × α} {r : List (S × α)} (h : Up (p :: r)) : mget p.1 r = none := by
  have h2 := List.pairwise_cons.1 h
  cases r with
  | nil => rfl
  | cons q r => exact up_get h2.2 (h2.1 q (by simp))
theorem mdel_gone {α : Type} {k : S} : ∀ {l : List (S × α)}, mget k l = none → mdel k l = l
  | [], _ => rfl
  | y :: r, h => by
    rw [mget_cons] at h
    by_cases e : sameK y.1 k = true
    · rw [if_pos e] at h; cases h
    · rw [if_neg e] at h
      unfold mdel
      rw [List.filter_cons, if_pos (by simp [e])]
      congr 1
      exact mdel_gone h
theorem mdel_cons {α : Type} (k : S) (y : S × α) (l : List (S × α)) : mdel k (y :: l) = if sameK y.1 k then mdel k l else y :: mdel k l := by
  unfold mdel
  rw [List.filter_cons]
  cases sameK y.1 k <;> rfl
/-- A value put into a row in order. -/
def ordPut {α : Type} (k : S) (v : α) : List (S × α) → List (S × α)
  | [] => [(k, v)]
  | y :: r => if Op.bytesLess k y.1 then (k, v) :: y :: r else if y.1 = k then (k, v) :: r else y :: ordPut k v r
theorem mins_below {α : Type} {k : S} {v : α} {m : List (S × α)} (h : ∀ p ∈ m, Op.bytesLess k p.1 = true) : mins (k, v) m = (k, v) :: m := by
  cases m with
  | nil => rfl
  | cons q r => unfold mins; rw [if_pos (by rw [bef_iff]; exact h q (by simp))]
theorem mput_ord {α : Type} (k : S) (v : α) : ∀ {m : List (S × α)}, Up m → mput k v m = ordPut k v m
  | [], _ => rfl
  | y :: r, h => by
    have h2 := List.pairwise_cons.1 h
    unfold mput ordPut
    rcases bl_tri k y.1 with e | e | e
    · rw [if_pos e, mdel_gone (up_get h e)]
      unfold mins; rw [if_pos (by rw [bef_iff]; exact e)]
    · subst e
      rw [if_neg (by rw [bl_irr]; simp), if_pos rfl, mdel_cons, if_pos (sameK_self _), mdel_gone (up_tail h)]
      exact mins_below h2.1
    · rw [if_neg (by rw [bl_asymm e]; simp), if_neg (bl_ne e), mdel_cons, if_neg (by rw [sameK_ne (bl_ne e)]; simp)]
      unfold mins
      rw [if_neg (by rw [bef_iff, bl_asymm e]; simp)]
      congr 1
      exact mput_ord k v h2.2
theorem ordPut_mem {α : Type} {k : S} {v : α} : ∀ {m : List (S × α)} {p : S × α}, p ∈ ordPut k v m → p = (k, v) ∨ p ∈ m
  | [], p, h => by simpa [ordPut] using h
  | y :: r, p, h => by
    unfold ordPut at h
    split at h
    · simpa using h
    · split at h
      · rcases List.mem_cons.1 h with h | h
        · exact .inl h
        · exact .inr (by simp [h])
      · rcases List.mem_cons.1 h with h | h
        · exact .inr (by simp [h])
        · rcases ordPut_mem h with h | h
          · exact .inl h
          · exact .inr (by simp [h])
theorem up_ordPut {α : Type} (k : S) (v : α) : ∀ {m : List (S × α)}, Up m → Up (ordPut k v m)
  | [], _ => List.pairwise_singleton _ _
  | y :: r, h => by
    have h2 := List.pairwise_cons.1 h
    unfold ordPut
    split
    · rename_i e
      refine List.pairwise_cons.2 ⟨fun p hp => ?_, h⟩
      rcases List.mem_cons.1 hp with rfl | hp
      · exact e
      · exact bl_trans e (h2.1 p hp)
    · split
      · rename_i e; subst e
        exact List.pairwise_cons.2 ⟨h2.1, h2.2⟩
      · rename_i e1 e2
        refine List.pairwise_cons.2 ⟨fun p hp => ?_, up_ordPut k v h2.2⟩
        rcases ordPut_mem hp with rfl | hp
        · rcases bl_tri y.1 k with e | e | e
          · exact e
          · exact absurd e e2
          · exact absurd e e1
        · exact h2.1 p hp
theorem up_mput {α : Type} (k : S) (v : α) {m : List (S × α)} (h : Up m) : Up (mput k v m) := by rw [mput_ord k v h]; exact up_ordPut k v h
theorem up_mdel {α : Type} (k : S) {m : List (S × α)} (h : Up m) : Up (mdel k m) := List.Pairwise.sublist List.filter_sublist h
theorem up_mset {α : Type} (k : S) (v : α) {m : List (S × α)} (h : Up m) : Up (mset k v m) := by
  have e := keys_mset k v m
  unfold Up at *
  have h1 : (m.map (·.1)).Pairwise (fun a b => Op.bytesLess a b = true) := List.pairwise_map.2 h
  rw [← e] at h1
  exact List.pairwise_map.1 h1

/-! ### a key's values -/
abbrev SUp (l : List S) : Prop := l.Pairwise fun a b => Op.bytesLess a b = true
/-- how many are below -/
def cntB (l : List S) (v : S) : Nat := (l.takeWhile fun x => Op.bytesLess x v).length
theorem cntB_cons (x : S) (l : List S) (v : S) : cntB (x :: l) v = if Op.bytesLess x v then cntB l v + 1 else 0 := by
  unfold cntB
  rw [List.takeWhile_cons]
  split <;> rfl
theorem cntB_le (l : List S) (v : S) : cntB l v ≤ l.length := by
  unfold cntB; exact (List.takeWhile_sublist _).length_le
theorem cntB_below {l : List S} {v : S} : ∀ t, t < cntB l v → Op.bytesLess (l.getD t []) v = true := by
  induction l with
  | nil => intro t ht; simp [cntB] at ht
  | cons x l ih =>
    intro t ht
    rw [cntB_cons] at ht
    split at ht
    · rename_i h
      cases t with
      | zero => simpa using h
      | succ t => simpa using ih t (by omega)
    · omega
theorem cntB_above {l : List S} (hu : SUp l) {v : S} : ∀ t, cntB l v ≤ t → t < l.length → Op.bytesLess (l.getD t []) v = false := by
  induction l with
  | nil => intro t _ ht; simp at ht
  | cons x l ih =>
    intro t h1 ht
    rw [cntB_cons] at h1
    have h2 := List.pairwise_cons.1 hu
    split at h1
    · cases t with
      | zero => omega
      | succ t => simpa using ih h2.2 t (by omega) (by simpa using ht)
    · rename_i hx
      cases t with
      | zero => simpa using hx
      | succ t =>
        have hm : l.getD t [] ∈ l := by simp at ht; simp [List.getD, List.getElem?_eq_getElem ht]
        have := h2.1 _ hm
        rw [List.getD_cons_succ, ← Bool.not_eq_true]
        intro hc
        exact hx (bl_trans this hc)
theorem bs_spec (less : Nat → Bool) (k n : Nat) (h1 : ∀ t, t < k → less t = true) (h2 : ∀ t, k ≤ t → t < n → less t = false) : ∀ (f lo hi : Nat), hi - lo ≤ f → lo ≤ k → k ≤ hi → hi ≤ n → Lib.bsGo less f lo hi = k
  | 0, lo, hi, hf, a, b, c => by simp [Lib.bsGo]; omega
  | f + 1, lo, hi, hf, a, b, c => by
    unfold Lib.bsGo
    by_cases h : lo < hi
    · rw [if_pos h]
      by_cases hm : (lo + hi) / 2 < k
      · rw [h1 _ hm, if_pos rfl]; exact bs_spec less k n h1 h2 f _ _ (by omega) (by omega) b c
      · rw [h2 _ (by omega) (by omega)]; exact bs_spec less k n h1 h2 f _ _ (by omega) a (by omega) (by omega)
    · rw [if_neg h]; omega
theorem placeA_eq {l : List S} (hu : SUp l) (v : S) : placeA l v = cntB l v :=
  bs_spec _ _ l.length cntB_below (fun t h1 h2 => cntB_above hu t h1 h2) _ _ _ (by omega) (by omega) (cntB_le l v) (Nat.le_refl _)
theorem cntB_mem {l : List S} (hu : SUp l) {v : S} (hv : v ∈ l) : cntB l v < l.length ∧ l.getD (cntB l v) [] = v := by
  induction l with
  | nil => simp at hv
  | cons x l ih =>
    have h2 := List.pairwise_cons.1 hu
    rw [cntB_cons]
    rcases List.mem_cons.1 hv with e | hv
    · subst e; rw [bl_irr]; simp
    · rw [if_pos (h2.1 v hv)]
      have := ih h2.2 hv
      exact ⟨by simpa using this.1, by simpa using this.2⟩
theorem thereA_iff {l : List S} (hu : SUp l) (v : S) : thereA l v = true ↔ v ∈ l := by
  unfold thereA
  rw [decide_eq_true_eq, placeA_eq hu]
  constructor
  · rintro ⟨h1, h2⟩
    rw [← h2]
    simp [List.getD, List.getElem?_eq_getElem h1]
  · exact cntB_mem hu
def sIns (v : S) : List S → List S
  | [] => [v]
  | x :: r => if Op.bytesLess x v then x :: sIns v r else v :: x :: r
theorem sIns_eq (l : List S) (v : S) : l.take (cntB l v) ++ v :: l.drop (cntB l v) = sIns v l := by
  induction l with
  | nil => rfl
  | cons x l ih =>
    rw [cntB_cons]
    unfold sIns
    split
    · simp only [List.take_succ_cons, List.drop_succ_cons, List.cons_append, ih]
    · rfl
theorem sIns_mem {v a : S} {l : List S} : a ∈ sIns v l ↔ a = v ∨ a ∈ l := by
  induction l with
  | nil => simp [sIns]
  | cons x r ih =>
    unfold sIns
    split
    · simp [ih]
      constructor
      · rintro (h | h | h) <;> simp [h]
      · rintro (h | h | h) <;> simp [h]
    · simp
theorem sIns_up {v : S} {l : List S} (hu : SUp l) (hv : v ∉ l) : SUp (sIns v l) := by
  induction l with
  | nil => exact List.pairwise_singleton _ _
  | cons x r ih =>
    have h2 := List.pairwise_cons.1 hu
    unfold sIns
    split
    · rename_i e
      refine List.pairwise_cons.2 ⟨fun a ha => ?_, ih h2.2 (fun h => hv (by simp [h]))⟩
      rcases sIns_mem.1 ha with rfl | ha
      · exact e
      · exact h2.1 a ha
    · rename_i e
      have hx : Op.bytesLess v x = true := by
        rcases bl_tri v x with h | h | h
        · exact h
        · exact absurd (by simp [h]) hv
        · exact absurd h e
      refine List.pairwise_cons.2 ⟨fun a ha => ?_, hu⟩
      rcases List.mem_cons.1 ha with rfl | ha
      · exact hx
      · exact bl_trans hx (h2.1 a ha)
theorem erase_eq {l : List S} (hu : SUp l) {v : S} (hv : v ∈ l) : l.eraseIdx (cntB l v) = l.filter fun x => !(x == v) := by
  induction l with
  | nil => simp at hv
  | cons x l ih =>
    have h2 := List.pairwise_cons.1 hu
    rw [cntB_cons]
    rcases List.mem_cons.1 hv with e | hv
    · subst e
      rw [bl_irr, if_neg (by simp), List.filter_cons, if_neg (by simp)]
      show l = _
      symm
      rw [List.filter_eq_self]
      intro a ha
      have := bl_ne (h2.1 a ha)
      simp [this.symm]
    · have hx := h2.1 v hv
      rw [if_pos hx, List.filter_cons, if_pos (by simp [bl_ne hx])]
      show x :: l.eraseIdx (cntB l v) = _
      rw [ih h2.2 hv]
theorem filter_up {l : List S} (hu : SUp l) (f : S → Bool) : SUp (l.filter f) := List.Pairwise.sublist List.filter_sublist hu

/-! ### the document's model -/
structure DBA where
  name : S
  flags : Int
  e : List (S × S)
structure RefA where
  l : List DBA
  on : Bool
  name : S
  ek : S
  ev : S
def newR : RefA := ⟨[⟨[], 0, []⟩], false, [], [], []⟩
def placeR (l : List DBA) (n : S) : Option Nat := l.findIdx? fun d => d.name == n
def keyR (e : List (S × S)) (k : S) : Option Nat := e.findIdx? fun x => x.1 == k
def shortR (s : S) : Bool := decide (1 ≤ s.length) && decide (s.length ≤ 8)
theorem short_eq (s : S) : shortR s = shortB s := by
  unfold shortR shortB
  cases s <;> simp
def atR (R : RefA) (k : Nat) : DBA := R.l.getD k ⟨[], 0, []⟩
/-- A database's place, an error. -/
def findR (R : RefA) (n : S) : Option Nat × Int :=
  match placeR R.l n with
  | some k => (some k, 0)
  | none => if shortR n = false then (none, 22) else if (keyR (atR R 0).e n).isSome then (none, 23) else (none, 21)
def setR (R : RefA) (k : Nat) (e : List (S × S)) : RefA := { R with l := R.l.set k ⟨(atR R k).name, (atR R k).flags, e⟩ }
def namedR (R : RefA) (k : Nat) (key : S) : Bool := decide (k = 0) && (!(key == []) && (match placeR R.l key with | some j => decide (0 < j) | none => false))
def getR (R : RefA) (k : Nat) (key : S) : RepA :=
  if shortR key = false then ⟨22, [], []⟩ else if namedR R k key = true then ⟨23, [], []⟩
  else match keyR (atR R k).e key with
    | none => ⟨21, [], []⟩
    | some i => ⟨0, [], ((atR R k).e.getD i ([], [])).2⟩
/-- Ahead of which entry the new one goes. -/
def cP (d : Bool) (x y : S × S) : Bool := gtS y.1 x.1 || (y.1 == x.1 && (!d || gtS y.2 x.2))
def putF (d : Bool) (x : S × S) (a : List (S × S) × Bool) (y : S × S) : List (S × S) × Bool :=
  (a.1 ++ ((if !a.2 && cP d x y then [x] else []) ++ (if !d && y.1 == x.1 then [] else [y])), a.2 || cP d x y)
def putE (d : Bool) (x : S × S) (e : List (S × S)) : List (S × S) :=
  let a := e.foldl (putF d x) ([], false)
  if a.2 then a.1 else a.1 ++ [x]
def cntR (e : List (S × S)) (k : S) : Nat := (e.filter fun x => x.1 == k).length
def putR (R : RefA) (k : Nat) (op : OpA) : RefA × Int :=
  let D := atR R k
  let d := decide (D.flags = 1)
  if shortR op.key = false ∨ (d = false ∧ op.val.length > 1000) then (R, 22)
  else if namedR R k op.key = true then (R, 23)
  else if (keyR D.e op.key).isSome ∧ andB op.flags 1 = true then (R, 20)
  else if d = true ∧ (op.val.length < 1 ∨ op.val.length > 12) then (R, 22)
  else if d = true ∧ (op.key, op.val) ∈ D.e then (R, if andB op.flags 2 = true then 20 else 0)
  else if d = true ∧ cntR D.e op.key ≥ 12 then (R, 28)
  else (setR R k (putE d (op.key, op.val) D.e), 0)
def delE (d : Bool) (key val : S) (e : List (S × S)) : List (S × S) := e.filter fun y => !(y.1 == key) || (d && (!(val == []) && !(y.2 == val)))
def delR (R : RefA) (k : Nat) (op : OpA) : RefA × Int :=
  let D := atR R k
  let d := decide (D.flags = 1)
  if shortR op.key = false then (R, 22)
  else if namedR R k op.key = true then (R, 23)
  else match keyR D.e op.key with
    | none => (R, 21)
    | some i => if d = false ∧ op.val ≠ [] ∧ op.val ≠ (D.e.getD i ([], [])).2 then (R, 21)
      else if (delE d op.key op.val D.e).length = D.e.length then (R, 21)
      else (setR R k (delE d op.key op.val D.e), 0)
def nameR (R : RefA) (op : OpA) : RefA × Int :=
  if op.db = [] then (R, 22)
  else
    let r := findR R op.db
    if r.2 = 0 then (R, if (atR R (r.1.getD 0)).flags = op.flags then 0 else 23)
    else if r.2 = 21 ∧ op.flags ≠ 0 ∧ op.flags ≠ 1 then (R, 23)
    else if r.2 ≠ 21 then (R, r.2)
    else if R.l.length > 4 then (R, 16)
    else ({ R with l := R.l ++ [⟨op.db, op.flags, []⟩] }, 0)
def dropR (R : RefA) (n : S) : RefA × Int :=
  if n = [] then (R, 23)
  else
    let r := findR R n
    if r.2 ≠ 0 then (R, r.2)
    else ({ R with l := R.l.eraseIdx (r.1.getD 0), on := R.on && !(R.name == n) }, 0)
def seekR (R : RefA) (k : Nat) (key : S) : RefA × RepA :=
  match (atR R k).e.find? fun x => geS x.1 key with
  | some x => ({ R with on := true, name := (atR R k).name, ek := x.1, ev := x.2 }, ⟨0, x.1, x.2⟩)
  | none => ({ R with on := false }, ⟨21, [], []⟩)
def nextR (R : RefA) : RefA × RepA :=
  if R.on = false then (R, ⟨24, [], []⟩)
  else
    let r := findR R R.name
    if r.2 ≠ 0 then (R, ⟨r.2, [], []⟩)
    else
      let D := atR R (r.1.getD 0)
      match D.e.find? fun x => gtS x.1 R.ek || (decide (D.flags = 1) && (x.1 == R.ek && gtS x.2 R.ev)) with
      | some x => ({ R with ek := x.1, ev := x.2 }, ⟨0, x.1, x.2⟩)
      | none => (R, ⟨21, [], []⟩)
def doR (R : RefA) (op : OpA) : RefA × RepA :=
  if op.kind = 14 then nextR R
  else if op.kind = 11 then ((nameR R op).1, ⟨(nameR R op).2, [], []⟩)
  else if op.kind = 12 then ((dropR R op.db).1, ⟨(dropR R op.db).2, [], []⟩)
  else if op.kind = 8 ∨ op.kind = 9 ∨ op.kind = 10 ∨ op.kind = 13 ∨ op.kind = 15 then
    let r := findR R op.db
    if r.2 ≠ 0 then (R, ⟨r.2, [], []⟩)
    else
      let k := r.1.getD 0
      if op.kind = 8 then (R, getR R k op.key)
      else if op.kind = 9 then ((putR R k op).1, ⟨(putR R k op).2, [], []⟩)
      else if op.kind = 10 then ((delR R k op).1, ⟨(delR R k op).2, [], []⟩)
      else if op.kind = 13 then seekR R k []
      else seekR R k op.key
  else (R, ⟨24, [], []⟩)
def listR (R : RefA) (db : S) : List (S × S) × Bool := match placeR R.l db with | none => ([], false) | some k => ((atR R k).e, true)
def namesR (R : RefA) : List S := (R.l.drop 1).foldl (fun l d => (l.takeWhile fun x => Op.bytesLess x d.name) ++ d.name :: (l.dropWhile fun x => Op.bytesLess x d.name)) []
end Go.Proofs.YtmkhjmldncegcaaGreatDoor

/-
  PLAIN: the document's model answers as the program's model does: the parts.
-/
set_option linter.unusedVariables false
set_option linter.unusedSectionVars false
set_option linter.unusedSimpArgs false
namespace Go.Proofs.YtmkhjmldncegcaaGreatDoor
open Go

def flat (m : List (S × List S)) : List (S × S) := m.flatMap fun p => p.2.map fun v => (p.1, v)
theorem flat_cons (p : S × List S) (r : List (S × List S)) : flat (p :: r) = p.2.map (fun v => (p.1, v)) ++ flat r := List.flatMap_cons
theorem flat_key {m : List (S × List S)} {y : S × S} (h : y ∈ flat m) : ∃ p ∈ m, p.1 = y.1 ∧ y.2 ∈ p.2 := by
  obtain ⟨p, hp, hy⟩ := List.mem_flatMap.1 h
  obtain ⟨v, hv, rfl⟩ := List.mem_map.1 hy
  exact ⟨p, hp, rfl, hv⟩
theorem key_flat {k : S} : ∀ {m : List (S × List S)}, (∀ p ∈ m, p.2 ≠ []) → (mget k m = none ∧ keyR (flat m) k = none) ∨ ∃ l i, mget k m = some l ∧ keyR (flat m) k = some i ∧ (flat m).getD i ([], []) = (k, l.headD [])
  | [], _ => .inl ⟨rfl, rfl⟩
  | p :: r, h => by
    rw [flat_cons, mget_cons]
    unfold keyR
    rw [List.findIdx?_append]
    by_cases e : p.1 = k
    · rw [if_pos ((sameK_iff _ _).2 e)]
      obtain ⟨k', l⟩ := p
      have e : k' = k := e
      subst e
      cases l with
      | nil => exact absurd rfl (h (k', []) (by simp))
      | cons v vs => exact .inr ⟨v :: vs, 0, rfl, by simp [List.findIdx?_cons], by simp⟩
    · rw [if_neg (by rw [sameK_ne e]; simp)]
      have hn : (p.2.map fun v => (p.1, v)).findIdx? (fun x => x.1 == k) = none := by
        rw [List.findIdx?_eq_none_iff]
        intro x hx
        obtain ⟨v, _, rfl⟩ := List.mem_map.1 hx
        simpa using e
      rw [hn]
      rcases key_flat (k := k) (m := r) (fun q hq => h q (by simp [hq])) with ⟨h1, h2⟩ | ⟨l, i, h1, h2, h3⟩
      · exact .inl ⟨h1, by unfold keyR at h2; rw [h2]; rfl⟩
      · refine .inr ⟨l, i + (p.2.map fun v => (p.1, v)).length, h1, by unfold keyR at h2; rw [h2]; rfl, ?_⟩
        rw [← h3]
        simp [List.getD, List.getElem?_append_right]
theorem key_some {k : S} {m : List (S × List S)} (h : ∀ p ∈ m, p.2 ≠ []) : (keyR (flat m) k).isSome = (mget k m).isSome := by
  rcases key_flat (k := k) h with ⟨h1, h2⟩ | ⟨l, i, h1, h2, _⟩ <;> rw [h1, h2] <;> rfl

/-! ### put -/
def putL (d : Bool) (x : S × S) : Bool → List (S × S) → List (S × S)
  | dn, [] => if dn then [] else [x]
  | dn, y :: r => ((if !dn && cP d x y then [x] else []) ++ (if !d && y.1 == x.1 then [] else [y])) ++ putL d x (dn || cP d x y) r
theorem putL_cons (d : Bool) (x : S × S) (dn : Bool) (y : S × S) (r : List (S × S)) : putL d x dn (y :: r) = ((if !dn && cP d x y then [x] else []) ++ (if !d && y.1 == x.1 then [] else [y])) ++ putL d x (dn || cP d x y) r := rfl
theorem ord_lt {α : Type} {k : S} {v : α} {y : S × α} {r : List (S × α)} (h : Op.bytesLess k y.1 = true) : ordPut k v (y :: r) = (k, v) :: y :: r := by
  show (if _ then _ else _) = _; rw [if_pos h]
theorem ord_eq {α : Type} {k : S} {v : α} {y : S × α} {r : List (S × α)} (h : y.1 = k) : ordPut k v (y :: r) = (k, v) :: r := by
  show (if _ then _ else _) = _; rw [if_neg (by rw [h, bl_irr]; simp), if_pos h]
theorem ord_eq' {α : Type} {k : S} {v a : α} {r : List (S × α)} : ordPut k v ((k, a) :: r) = (k, v) :: r := ord_eq rfl
theorem ord_gt {α : Type} {k : S} {v : α} {y : S × α} {r : List (S × α)} (h : Op.bytesLess y.1 k = true) : ordPut k v (y :: r) = y :: ordPut k v r := by
  show (if _ then _ else _) = _; rw [if_neg (by rw [bl_asymm h]; simp), if_neg (bl_ne h)]
theorem putF_fold (d : Bool) (x : S × S) : ∀ (e o : List (S × S)) (dn : Bool), (if (e.foldl (putF d x) (o, dn)).2 then (e.foldl (putF d x) (o, dn)).1 else (e.foldl (putF d x) (o, dn)).1 ++ [x]) = o ++ putL d x dn e
  | [], o, dn => by cases dn <;> simp [putL]
  | y :: r, o, dn => by
    rw [List.foldl_cons]
    show (if (r.foldl (putF d x) (putF d x (o, dn) y)).2 then _ else _) = _
    rw [putL_cons, ← List.append_assoc]
    exact putF_fold d x r _ _
theorem putE_eq (d : Bool) (x : S × S) (e : List (S × S)) : putE d x e = putL d x false e := by
  have := putF_fold d x e [] false
  rw [List.nil_append] at this
  exact this
theorem putL_true (x : S × S) : ∀ e : List (S × S), putL true x true e = e
  | [] => rfl
  | y :: r => by rw [putL_cons]; simp [putL_true x r]
theorem putL_same (x : S × S) : ∀ {e : List (S × S)}, (∀ y ∈ e, y.1 ≠ x.1) → putL false x true e = e
  | [], _ => rfl
  | y :: r, h => by rw [putL_cons]; simp [putL_same x (e := r) fun z hz => h z (by simp [hz]), h y (by simp)]
theorem flat_above {k : S} {m : List (S × List S)} (h : ∀ p ∈ m, Op.bytesLess k p.1 = true) : ∀ y ∈ flat m, Op.bytesLess k y.1 = true := fun y hy => by
  obtain ⟨p, hp, e, _⟩ := flat_key hy
  rw [← e]; exact h p hp
theorem put_one (k v : S) : ∀ {m : List (S × List S)}, Up m → (∀ p ∈ m, p.2.length = 1) → putL false (k, v) false (flat m) = flat (ordPut k [v] m)
  | [], _, _ => rfl
  | p :: r, h, h1 => by
    have h2 := List.pairwise_cons.1 h
    obtain ⟨k', l⟩ := p
    obtain ⟨u, rfl⟩ : ∃ u, l = [u] := List.length_eq_one_iff.1 (h1 (k', l) (by simp))
    have ih := put_one k v h2.2 fun q hq => h1 q (by simp [hq])
    rw [flat_cons]
    show putL false (k, v) false ((k', u) :: flat r) = _
    rw [putL_cons]
    rcases bl_tri k k' with e | e | e
    · have hc : cP false (k, v) (k', u) = true := by simp [cP, gt_iff, e]
      have hr : putL false (k, v) true (flat r) = flat r := putL_same _ fun y hy => (bl_ne (bl_trans e (flat_above h2.1 y hy))).symm
      rw [hc, ord_lt e]
      simp [hr, flat_cons, (bl_ne e).symm]
    · subst e
      have hc : cP false (k, v) (k, u) = true := by simp [cP]
      have hr : putL false (k, v) true (flat r) = flat r := putL_same _ fun y hy => (bl_ne (flat_above h2.1 y hy)).symm
      rw [hc, ord_eq']
      simp [hr, flat_cons]
    · have hc : cP false (k, v) (k', u) = false := by simp [cP, gt_iff, bl_asymm e, bl_ne e]
      rw [hc, ord_gt e]
      simp [flat_cons, bl_ne e, ih]
theorem putL_first (k v : S) : ∀ {e : List (S × S)}, (∀ y ∈ e, Op.bytesLess k y.1 = true) → putL true (k, v) false e = (k, v) :: e
  | [], _ => rfl
  | y :: r, h => by
    have hc : cP true (k, v) y = true := by simp [cP, gt_iff, h y (by simp)]
    rw [putL_cons, hc]
    simp [putL_true]
theorem putL_pass {k v : S} : ∀ {e r : List (S × S)}, (∀ y ∈ e, Op.bytesLess y.1 k = true) → putL true (k, v) false (e ++ r) = e ++ putL true (k, v) false r
  | [], r, _ => rfl
  | y :: e, r, h => by
    have hy := h y (by simp)
    have hc : cP true (k, v) y = false := by simp [cP, gt_iff, bl_asymm hy, bl_ne hy]
    rw [List.cons_append]
    rw [putL_cons, hc]
    simp [putL_pass (e := e) fun z hz => h z (by simp [hz])]
theorem putL_in {k v : S} : ∀ {l : List S} {r : List (S × S)}, SUp l → v ∉ l → (∀ y ∈ r, Op.bytesLess k y.1 = true) → putL true (k, v) false (l.map (fun u => (k, u)) ++ r) = (sIns v l).map (fun u => (k, u)) ++ r
  | [], r, _, _, h => putL_first k v h
  | u :: l, r, hu, hv, h => by
    have h2 := List.pairwise_cons.1 hu
    have ih := fun hh => putL_in (k := k) (v := v) (l := l) (r := r) h2.2 hh h
    rw [List.map_cons, List.cons_append, putL_cons]
    rcases bl_tri u v with e | e | e
    · have hc : cP true (k, v) (k, u) = false := by simp [cP, gt_iff, bl_irr, bl_asymm e]
      have hs : sIns v (u :: l) = u :: sIns v l := by show (if _ then _ else _) = _; rw [if_pos e]
      rw [hc, hs, List.map_cons, List.cons_append, ← ih (fun hh => hv (List.mem_cons_of_mem _ hh))]
      simp
    · exact absurd (by simp [e]) hv
    · have hc : cP true (k, v) (k, u) = true := by simp [cP, gt_iff, e]
      have hs : sIns v (u :: l) = v :: u :: l := by show (if _ then _ else _) = _; rw [if_neg (by rw [bl_asymm e]; simp)]
      rw [hc, hs]
      simp [putL_true]
theorem put_many (k v : S) : ∀ {m : List (S × List S)}, Up m → (∀ p ∈ m, p.2 ≠ [] ∧ SUp p.2) → (∀ l, mget k m = some l → v ∉ l) →
    putL true (k, v) false (flat m) = flat (ordPut k (match mget k m with | none => [v] | some l => sIns v l) m)
  | [], _, _, _ => rfl
  | p :: r, h, h1, hv => by
    have h2 := List.pairwise_cons.1 h
    obtain ⟨k', l⟩ := p
    rw [flat_cons, mget_cons]
    rcases bl_tri k k' with e | e | e
    · have hg : mget k ((k', l) :: r) = none := up_get h e
      rw [mget_cons] at hg
      rw [hg, ord_lt e]
      have hc : ∀ y ∈ (l.map fun u => (k', u)) ++ flat r, Op.bytesLess k y.1 = true := fun y hy => by
        rcases List.mem_append.1 hy with hy | hy
        · obtain ⟨u, _, rfl⟩ := List.mem_map.1 hy; exact e
        · exact bl_trans e (flat_above h2.1 y hy)
      rw [putL_first k v hc]
      simp [flat_cons]
    · subst e
      rw [if_pos (sameK_self _), ord_eq']
      have hvl := hv l (by rw [mget_cons, if_pos (sameK_self _)])
      rw [putL_in (h1 (k, l) (by simp)).2 hvl (flat_above h2.1)]
      rw [flat_cons]
    · rw [if_neg (by rw [sameK_ne (bl_ne e)]; simp), ord_gt e]
      rw [putL_pass (fun y hy => by obtain ⟨u, _, rfl⟩ := List.mem_map.1 hy; exact e)]
      rw [put_many k v h2.2 (fun q hq => h1 q (by simp [hq])) (fun l' hl' => hv l' (by rw [mget_cons, if_neg (by rw [sameK_ne (bl_ne e)]; simp)]; exact hl'))]
      rw [flat_cons]

/-! ### del -/
theorem delf_all (k : S) : ∀ (m : List (S × List S)), (flat m).filter (fun y => !(y.1 == k)) = flat (mdel k m)
  | [] => rfl
  | p :: r => by
    rw [flat_cons, List.filter_append, delf_all k r, mdel_cons]
    by_cases e : p.1 = k
    · rw [if_pos ((sameK_iff _ _).2 e)]
      have : (p.2.map fun v => (p.1, v)).filter (fun y => !(y.1 == k)) = [] := by
        rw [List.filter_eq_nil_iff]
        intro y hy
        obtain ⟨u, _, rfl⟩ := List.mem_map.1 hy
        simpa using e
      rw [this, List.nil_append]
    · rw [if_neg (by rw [sameK_ne e]; simp), flat_cons]
      have : (p.2.map fun v => (p.1, v)).filter (fun y => !(y.1 == k)) = p.2.map fun v => (p.1, v) := by
        rw [List.filter_eq_self]
        intro y hy
        obtain ⟨u, _, rfl⟩ := List.mem_map.1 hy
        simpa using e
      rw [this]
theorem filter_map_pair (k v : S) (l : List S) : (l.map fun u => (k, u)).filter (fun y => !(y.1 == k) || !(y.2 == v)) = (l.filter fun u => !(u == v)).map fun u => (k, u) := by
  rw [List.filter_map]
  congr 1
  apply List.filter_congr
  intro u _
  simp
theorem delf_one (k v : S) : ∀ {m : List (S × List S)}, Up m → ∀ {l : List S}, mget k m = some l → (flat m).filter (fun y => !(y.1 == k) || !(y.2 == v)) = if (l.filter fun u => !(u == v)) = [] then flat (mdel k m) else flat (ordPut k (l.filter fun u => !(u == v)) m)
  | [], _, _, h => by simp [mget_nil] at h
  | p :: r, hu, l, h => by
    have h2 := List.pairwise_cons.1 hu
    rw [flat_cons, List.filter_append]
    rw [mget_cons] at h
    by_cases e : p.1 = k
    · rw [if_pos ((sameK_iff _ _).2 e)] at h
      rw [mdel_cons, if_pos ((sameK_iff _ _).2 e)]
      injection h with h
      obtain ⟨k', l'⟩ := p
      have e : k' = k := e
      have h : l' = l := h
      subst e h
      have hr : (flat r).filter (fun y => !(y.1 == k') || !(y.2 == v)) = flat r := by
        rw [List.filter_eq_self]
        intro y hy
        have := bl_ne (flat_above h2.1 y hy)
        simp [this.symm]
      have hm : mdel k' r = r := mdel_gone (up_tail hu)
      rw [filter_map_pair, hr, hm, show ordPut k' (l'.filter fun u => !(u == v)) ((k', l') :: r) = (k', l'.filter fun u => !(u == v)) :: r from ord_eq', flat_cons]
      split
      · rename_i hh; rw [hh]; rfl
      · rfl
    · rw [if_neg (by rw [sameK_ne e]; simp)] at h
      rw [mdel_cons, if_neg (show ¬ sameK p.1 k = true by rw [sameK_ne e]; simp)]
      have hlt : Op.bytesLess p.1 k = true := h2.1 _ (mget_mem h)
      rw [delf_one k v h2.2 h, ord_gt hlt]
      have : (p.2.map fun v => (p.1, v)).filter (fun y => !(y.1 == k) || !(y.2 == v)) = p.2.map fun v => (p.1, v) := by
        rw [List.filter_eq_self]
        intro y hy
        obtain ⟨u, _, rfl⟩ := List.mem_map.1 hy
        simp [e]
      rw [this]
      split
      · rw [flat_cons]
      · rw [flat_cons]
end Go.Proofs.YtmkhjmldncegcaaGreatDoor

/-
  PLAIN: the document's model and the program's answer alike, whatever they are asked.
-/
set_option linter.unusedVariables false
set_option linter.unusedSectionVars false
set_option linter.unusedSimpArgs false
namespace Go.Proofs.YtmkhjmldncegcaaGreatDoor
open Go

structure EqB (B : BaseA) (d : DBA) : Prop where
  flags : B.flags = d.flags
  fl : B.flags = 0 ∨ B.flags = 1
  ents : d.e = flat B.m
  up : Up B.m
  vals : ∀ p ∈ B.m, p.2 ≠ [] ∧ SUp p.2 ∧ (B.flags = 0 → p.2.length = 1)
structure Eqv (A : ModA) (R : RefA) : Prop where
  up : Up A.l
  look : ∀ n, (mget n A.l = none ∧ placeR R.l n = none) ∨ ∃ B k, mget n A.l = some B ∧ placeR R.l n = some k ∧ k < R.l.length ∧ EqB B (atR R k)
  head : placeR R.l [] = some 0
  nd : (R.l.map (·.name)).Pairwise (· ≠ ·)
  len : A.l.length = R.l.length
  disj : ∀ n, n ≠ [] → (mget n A.l).isSome = true → mget n (mainA A).m = none
  short : ∀ n, n ≠ [] → (mget n A.l).isSome = true → shortB n = true
  cur : A.on = R.on
  at_ : R.on = true → A.db = R.name ∧ A.ek = R.ek ∧ A.ev = R.ev

theorem place_at {l : List DBA} {n : S} {k : Nat} (h : placeR l n = some k) : ∃ d, l[k]? = some d ∧ d.name = n := by
  unfold placeR at h
  rw [List.findIdx?_eq_some_iff_getElem] at h
  obtain ⟨hk, h1, _⟩ := h
  exact ⟨l[k], List.getElem?_eq_getElem hk, by simpa using h1⟩
theorem at_some {R : RefA} {k : Nat} {d : DBA} (h : R.l[k]? = some d) : atR R k = d := by unfold atR; simp [List.getD, h]
theorem place_name {R : RefA} {n : S} {k : Nat} (h : placeR R.l n = some k) : (atR R k).name = n := by
  obtain ⟨d, hd, e⟩ := place_at h
  rw [at_some hd]; exact e
theorem place_names {l l' : List DBA} (h : l.map (·.name) = l'.map (·.name)) (n : S) : placeR l n = placeR l' n := by
  have e : ∀ l : List DBA, placeR l n = (l.map (·.name)).findIdx? (fun x => x == n) := fun l => by
    unfold placeR; rw [List.findIdx?_map]; rfl
  rw [e, e, h]
theorem up_ne {α : Type} {m : List (S × α)} (h : Up m) : m.Pairwise fun p q => p.1 ≠ q.1 := h.imp fun e => bl_ne e
theorem mget_del_none {α : Type} {k n : S} {m : List (S × α)} (h : mget n m = none) : mget n (mdel k m) = none := by
  by_cases e : n = k
  · subst e; exact mget_del_same _ _
  · rw [mget_del_other e]; exact h
theorem mem_flat {m : List (S × List S)} (hu : Up m) {k v : S} : (k, v) ∈ flat m ↔ ∃ l, mget k m = some l ∧ v ∈ l := by
  constructor
  · intro h
    obtain ⟨p, hp, e, hv⟩ := flat_key h
    obtain ⟨k', l⟩ := p
    have e : k' = k := e
    subst e
    exact ⟨l, mget_of_mem (up_ne hu) hp, hv⟩
  · rintro ⟨l, hg, hv⟩
    exact List.mem_flatMap.2 ⟨(k, l), mget_mem hg, List.mem_map.2 ⟨v, hv, rfl⟩⟩
theorem cnt_flat {k : S} : ∀ {m : List (S × List S)}, Up m → cntR (flat m) k = ((mget k m).getD []).length
  | [], _ => rfl
  | p :: r, h => by
    have h2 := List.pairwise_cons.1 h
    have ih := cnt_flat (k := k) h2.2
    unfold cntR at ih ⊢
    rw [flat_cons, List.filter_append, List.length_append, ih, mget_cons]
    by_cases e : p.1 = k
    · rw [if_pos ((sameK_iff _ _).2 e)]
      have hr : mget k r = none := by rw [← e]; exact up_tail h
      have : (p.2.map fun v => (p.1, v)).filter (fun x => x.1 == k) = p.2.map fun v => (p.1, v) := by
        rw [List.filter_eq_self]
        intro y hy
        obtain ⟨u, _, rfl⟩ := List.mem_map.1 hy
        simpa using e
      rw [this, hr]; simp
    · rw [if_neg (by rw [sameK_ne e]; simp)]
      have : (p.2.map fun v => (p.1, v)).filter (fun x => x.1 == k) = [] := by
        rw [List.filter_eq_nil_iff]
        intro y hy
        obtain ⟨u, _, rfl⟩ := List.mem_map.1 hy
        simpa using e
      rw [this]; simp
theorem main_some {A : ModA} {R : RefA} (h : Eqv A R) : ∃ B, mget ([] : S) A.l = some B ∧ mainA A = B ∧ EqB B (atR R 0) := by
  rcases h.look [] with ⟨_, h2⟩ | ⟨B, k, h1, h2, _, h3⟩
  · rw [h.head] at h2; cases h2
  · rw [h.head] at h2
    injection h2 with h2; subst h2
    exact ⟨B, h1, by unfold mainA; rw [h1]; rfl, h3⟩
/-- Finding a database. -/
theorem find_eq {A : ModA} {R : RefA} (h : Eqv A R) (n : S) :
    ((findA A n).2 ≠ 0 ∧ (findR R n).2 = (findA A n).2) ∨ ∃ B k, findA A n = (some B, 0) ∧ findR R n = (some k, 0) ∧ mget n A.l = some B ∧ placeR R.l n = some k ∧ k < R.l.length ∧ EqB B (atR R k) := by
  obtain ⟨M, m1, m2, m3⟩ := main_some h
  have hks := fun k => key_some (k := k) (m := M.m) fun p hp => (m3.vals p hp).1
  rcases h.look n with ⟨h1, h2⟩ | ⟨B, k, h1, h2, h3, h4⟩
  · left
    have hn : n ≠ [] := fun e => by rw [e, m1] at h1; cases h1
    unfold findA findR
    rw [h2, if_neg hn, short_eq, m2, m3.ents, hks n, h1]
    simp only []
    by_cases hs : shortB n = false
    · rw [if_pos hs, if_pos hs]; exact ⟨by decide, rfl⟩
    · rw [if_neg hs, if_neg hs]
      split <;> exact ⟨by decide, rfl⟩
  · right
    refine ⟨B, k, ?_, ?_, h1, h2, h3, h4⟩
    · unfold findA
      by_cases hn : n = []
      · rw [if_pos hn, h1]
      · have hi : (mget n A.l).isSome = true := by rw [h1]; rfl
        rw [if_neg hn, if_neg (by rw [h.short n hn hi]; simp), if_neg (by rw [h.disj n hn hi]; simp), if_neg (by rw [h1]; simp), h1]
    · unfold findR; rw [h2]
theorem place_0 {A : ModA} {R : RefA} (h : Eqv A R) {n : S} {k : Nat} (hp : placeR R.l n = some k) : k = 0 ↔ n = [] := by
  constructor
  · intro e; subst e
    rw [← place_name hp, place_name h.head]
  · intro e; subst e
    rw [h.head] at hp; injection hp with hp; exact hp.symm
theorem named_eq {A : ModA} {R : RefA} (h : Eqv A R) {n : S} {k : Nat} (hp : placeR R.l n = some k) {key : S} (hs : shortB key = true) : namedR R k key = ((mget key A.l).isSome && decide (n = [])) := by
  have hk : key ≠ [] := fun e => by rw [e] at hs; simp [shortB] at hs
  unfold namedR
  have hd : decide (k = 0) = decide (n = []) := by rw [Bool.eq_iff_iff]; simp [place_0 h hp]
  rw [hd]
  rcases h.look key with ⟨h1, h2⟩ | ⟨B, j, h1, h2, _, _⟩
  · rw [h1, h2]; simp
  · rw [h1, h2]
    have hj : 0 < j := by
      rcases Nat.eq_zero_or_pos j with e | e
      · exact absurd ((place_0 h h2).1 e) hk
      · exact e
    simp [hk, hj]
theorem values_eq {A : ModA} {op : OpA} {B : BaseA} (hf : findA A op.db = (some B, 0)) : valuesA A op =
    if shortB op.key = false then (none, [], (22 : Int)) else if ((mget op.key A.l).isSome && decide (op.db = [])) = true then (none, [], 23) else match mget op.key B.m with | none => (some B, [], 21) | some l => (some B, l, 0) := by
  unfold valuesA
  rw [hf]
  rfl
/-- Another row of entries. -/
theorem eqv_set {A : ModA} {R : RefA} (h : Eqv A R) {db : S} {B : BaseA} {k : Nat} (h1 : mget db A.l = some B) (h2 : placeR R.l db = some k) (h3 : k < R.l.length) (h4 : EqB B (atR R k)) {m' : List (S × List S)} {e' : List (S × S)}
    (he : e' = flat m') (hu : Up m') (hv : ∀ p ∈ m', p.2 ≠ [] ∧ SUp p.2 ∧ (B.flags = 0 → p.2.length = 1)) (hd : db = [] → ∀ n, n ≠ [] → (mget n A.l).isSome = true → mget n m' = none) : Eqv (setBase A db ⟨B.flags, m'⟩) (setR R k e') := by
  have hnm : (R.l.set k ⟨(atR R k).name, (atR R k).flags, e'⟩).map (·.name) = R.l.map (·.name) := by
    rw [List.map_set]
    have : (atR R k).name = (R.l.map (·.name))[k]'(by simpa using h3) := by simp [atR, List.getD, List.getElem?_eq_getElem h3]
    show (R.l.map (·.name)).set k (atR R k).name = _
    rw [this, List.set_getElem_self]
  have hpl := fun n => place_names hnm n
  have hsome : ∀ n, (mget n (mset db ⟨B.flags, m'⟩ A.l)).isSome = (mget n A.l).isSome := fun n => by
    by_cases e : n = db
    · subst e; rw [mget_set_same (by rw [h1]; rfl), h1]; rfl
    · rw [mget_set_other e]
  refine ⟨up_mset _ _ h.up, fun n => ?_, by show placeR (R.l.set _ _) _ = _; rw [hpl]; exact h.head, by show ((R.l.set _ _).map _).Pairwise _; rw [hnm]; exact h.nd, by show (mset _ _ _).length = (R.l.set _ _).length; rw [length_mset, List.length_set]; exact h.len, fun n hn hi => ?_, fun n hn hi => h.short n hn (by rw [← hsome n]; exact hi), h.cur, h.at_⟩
  · by_cases e : n = db
    · subst e
      refine .inr ⟨⟨B.flags, m'⟩, k, mget_set_same (by rw [h1]; rfl), by show placeR (R.l.set _ _) _ = _; rw [hpl]; exact h2, by show k < (R.l.set _ _).length; rw [List.length_set]; exact h3, ?_⟩
      have ha : atR (setR R k e') k = ⟨(atR R k).name, (atR R k).flags, e'⟩ := at_some (by show (R.l.set k _)[k]? = _; rw [List.getElem?_set_self h3])
      rw [ha]
      exact ⟨h4.flags, h4.fl, he, hu, hv⟩
    · rcases h.look n with ⟨q1, q2⟩ | ⟨B', j, q1, q2, q3, q4⟩
      · exact .inl ⟨by show mget n (mset _ _ _) = none; rw [mget_set_other e]; exact q1, by show placeR (R.l.set _ _) _ = _; rw [hpl]; exact q2⟩
      · have hjk : j ≠ k := fun he => e (by rw [← place_name q2, he, place_name h2])
        refine .inr ⟨B', j, by show mget n (mset _ _ _) = _; rw [mget_set_other e]; exact q1, by show placeR (R.l.set _ _) _ = _; rw [hpl]; exact q2, by show j < (R.l.set _ _).length; rw [List.length_set]; exact q3, ?_⟩
        have ha : atR (setR R k e') j = atR R j := by
          unfold atR setR
          simp [List.getD, List.getElem?_set_ne (Ne.symm hjk)]
        rw [ha]; exact q4
  · have hi' : (mget n A.l).isSome = true := by rw [← hsome n]; exact hi
    by_cases e : db = []
    · have : mainA (setBase A db ⟨B.flags, m'⟩) = ⟨B.flags, m'⟩ := by
        unfold mainA setBase
        simp only []
        rw [← e, mget_set_same (by rw [h1]; rfl)]; rfl
      rw [this]
      exact hd e n hn hi'
    · have : mainA (setBase A db ⟨B.flags, m'⟩) = mainA A := by
        unfold mainA setBase
        simp only []
        rw [mget_set_other (Ne.symm e)]
      rw [this]
      exact h.disj n hn hi'
theorem eqv_new : Eqv newA newR := by
  refine ⟨List.pairwise_singleton _ _, fun n => ?_, rfl, List.pairwise_singleton _ _, rfl, fun n hn hi => rfl, fun n hn hi => ?_, rfl, fun h => by cases h⟩
  · by_cases e : n = []
    · subst e
      exact .inr ⟨⟨0, []⟩, 0, rfl, rfl, by decide, rfl, .inl rfl, rfl, List.Pairwise.nil, fun p hp => by simp at hp⟩
    · refine .inl ⟨?_, ?_⟩
      · show mget n [(([] : S), (⟨0, []⟩ : BaseA))] = none
        rw [mget_cons, if_neg (by rw [sameK_ne (Ne.symm e)]; simp)]; rfl
      · show placeR [⟨[], 0, []⟩] n = none
        unfold placeR
        simp [List.findIdx?_cons]
        exact e
  · have : mget n newA.l = none := by
      show mget n [(([] : S), (⟨0, []⟩ : BaseA))] = none
      rw [mget_cons, if_neg (by rw [sameK_ne (Ne.symm hn)]; simp)]; rfl
    rw [this] at hi; cases hi
end Go.Proofs.YtmkhjmldncegcaaGreatDoor

/-
  PLAIN: each op on both models: the same answer, models alike.
-/
set_option linter.unusedVariables false
set_option linter.unusedSectionVars false
set_option linter.unusedSimpArgs false
namespace Go.Proofs.YtmkhjmldncegcaaGreatDoor
open Go

theorem vals_mput {f : Int} {m : List (S × List S)} {k : S} {l : List S} (hv : ∀ p ∈ m, p.2 ≠ [] ∧ SUp p.2 ∧ (f = 0 → p.2.length = 1)) (h1 : l ≠ []) (h2 : SUp l) (h3 : f = 0 → l.length = 1) : ∀ p ∈ mput k l m, p.2 ≠ [] ∧ SUp p.2 ∧ (f = 0 → p.2.length = 1) := fun p hp => by
  rcases mem_mput hp with e | hp
  · rw [e]; exact ⟨h1, h2, h3⟩
  · exact hv p hp
theorem eqv_put {A : ModA} {R : RefA} (h : Eqv A R) (op : OpA) {B : BaseA} {k : Nat} (hf : findA A op.db = (some B, 0)) (h1 : mget op.db A.l = some B) (h2 : placeR R.l op.db = some k) (h3 : k < R.l.length) (h4 : EqB B (atR R k)) :
    Eqv (putA A op).1 (putR R k op).1 ∧ (putA A op).2 = (putR R k op).2 := by
  have hval := values_eq hf
  have hks : (keyR (atR R k).e op.key).isSome = (mget op.key B.m).isSome := by rw [h4.ents]; exact key_some fun p hp => (h4.vals p hp).1
  have hd : decide ((atR R k).flags = 1) = decide (B.flags = 1) := by rw [h4.flags]
  have hd0 : (decide (B.flags = 1) = false) ↔ B.flags = 0 := by
    rcases h4.fl with e | e <;> rw [e] <;> simp
  unfold putA putR
  simp only [hf, hval, hks, hd, short_eq, ne_eq, not_true_eq_false, if_false, Option.getD_some]
  by_cases hs : shortB op.key = false
  · have c1 : shortB op.key = false ∨ decide (B.flags = 1) = false ∧ op.val.length > 1000 := .inl hs
    rw [if_pos c1]
    by_cases hb : B.flags = 0 ∧ op.val.length > 1000
    · rw [if_pos hb]; exact ⟨h, rfl⟩
    · rw [if_neg hb]
      simp only [if_pos hs]
      rw [if_pos (by decide)]
      exact ⟨h, rfl⟩
  have hst : shortB op.key = true := by simpa using hs
  by_cases hb : B.flags = 0 ∧ op.val.length > 1000
  · have c1 : shortB op.key = false ∨ decide (B.flags = 1) = false ∧ op.val.length > 1000 := .inr ⟨hd0.2 hb.1, hb.2⟩
    rw [if_pos hb, if_pos c1]; exact ⟨h, rfl⟩
  have c1 : ¬ (shortB op.key = false ∨ decide (B.flags = 1) = false ∧ op.val.length > 1000) := by rintro (e | ⟨e, e'⟩); exact hs e; exact hb ⟨hd0.1 e, e'⟩
  rw [if_neg hb, if_neg c1]
  rw [named_eq h h2 hst]
  by_cases hn : ((mget op.key A.l).isSome && decide (op.db = [])) = true
  · simp only [if_neg hs, if_pos hn]
    rw [if_pos (by decide)]
    exact ⟨h, rfl⟩
  simp only [if_neg hs, if_neg hn]
  have hdj : ∀ m' : List S, op.db = [] → ∀ n, n ≠ [] → (mget n A.l).isSome = true → mget n (mput op.key m' B.m) = none := fun m' e n hn0 hi => by
    have hne : n ≠ op.key := fun e' => hn (by rw [← e', hi, e]; rfl)
    rw [mget_put_other hne]
    have := h.disj n hn0 hi
    have hm : mainA A = B := by unfold mainA; rw [← e, h1]; rfl
    rw [hm] at this; exact this
  cases hg : mget op.key B.m with
  | none =>
    simp only [Option.isSome_none, Bool.false_eq_true, false_and, if_false]
    rw [if_neg (by decide), if_neg (by simp)]
    have hmem : ¬ (op.key, op.val) ∈ (atR R k).e := fun hh => by
      rw [h4.ents] at hh
      obtain ⟨l, hl, _⟩ := (mem_flat h4.up).1 hh
      rw [hg] at hl; cases hl
    have hcnt : cntR (atR R k).e op.key = 0 := by rw [h4.ents, cnt_flat h4.up, hg]; rfl
    rcases h4.fl with e | e
    · have e1 : decide (B.flags = 1) = false := hd0.2 e
      rw [if_pos e, e1]
      simp only [Bool.false_eq_true, false_and, if_false]
      refine ⟨eqv_set h h1 h2 h3 h4 ?_ (up_mput _ _ h4.up) (vals_mput h4.vals (by simp) (List.pairwise_singleton _ _) fun _ => rfl) (hdj _), trivial⟩
      rw [putE_eq, h4.ents, put_one _ _ h4.up (fun p hp => (h4.vals p hp).2.2 e), mput_ord _ _ h4.up]
    · have e1 : decide (B.flags = 1) = true := by rw [e]; rfl
      rw [if_neg (by rw [e]; decide), e1]
      simp only [true_and]
      by_cases hl : op.val = [] ∨ op.val.length > 12
      · rw [if_pos hl, if_pos (show op.val.length < 1 ∨ op.val.length > 12 by rcases hl with e | e; left; rw [e]; simp; right; exact e)]; exact ⟨h, rfl⟩
      · rw [if_neg hl, if_neg (show ¬ (op.val.length < 1 ∨ op.val.length > 12) by rintro (e | e); exact hl (.inl (List.eq_nil_of_length_eq_zero (by omega))); exact hl (.inr e))]
        have ht : thereA [] op.val = false := by simp [thereA]
        rw [ht, if_neg (by simp), if_neg (by simp), if_neg (by simp), if_neg hmem, if_neg (by rw [hcnt]; omega)]
        refine ⟨eqv_set h h1 h2 h3 h4 ?_ (up_mput _ _ h4.up) (vals_mput h4.vals (by simp) (List.pairwise_singleton _ _) fun _ => rfl) (hdj _), rfl⟩
        rw [putE_eq, h4.ents, put_many _ _ h4.up (fun p hp => ⟨(h4.vals p hp).1, (h4.vals p hp).2.1⟩) (fun l hl => by rw [hg] at hl; cases hl), hg, mput_ord _ _ h4.up]
        rfl
  | some l =>
    obtain ⟨hl0, hlu, hl1⟩ := h4.vals _ (mget_mem hg)
    simp only [Option.isSome_some, true_and]
    rw [if_neg (by decide)]
    by_cases ha : andB op.flags 1 = true
    · rw [if_pos ha, if_pos ha]; exact ⟨h, rfl⟩
    rw [if_neg ha, if_neg ha]
    have hmem : (op.key, op.val) ∈ (atR R k).e ↔ op.val ∈ l := by
      rw [h4.ents, mem_flat h4.up, hg]
      constructor
      · rintro ⟨l', hl', hv⟩; injection hl' with hl'; subst hl'; exact hv
      · exact fun hv => ⟨l, rfl, hv⟩
    have hcnt : cntR (atR R k).e op.key = l.length := by rw [h4.ents, cnt_flat h4.up, hg]; rfl
    rcases h4.fl with e | e
    · have e1 : decide (B.flags = 1) = false := hd0.2 e
      rw [if_pos e, e1]
      simp only [Bool.false_eq_true, false_and, if_false]
      refine ⟨eqv_set h h1 h2 h3 h4 ?_ (up_mput _ _ h4.up) (vals_mput h4.vals (by simp) (List.pairwise_singleton _ _) fun _ => rfl) (hdj _), trivial⟩
      rw [putE_eq, h4.ents, put_one _ _ h4.up (fun p hp => (h4.vals p hp).2.2 e), mput_ord _ _ h4.up]
    · have e1 : decide (B.flags = 1) = true := by rw [e]; rfl
      rw [if_neg (by rw [e]; decide), e1]
      simp only [true_and]
      by_cases hl : op.val = [] ∨ op.val.length > 12
      · rw [if_pos hl, if_pos (show op.val.length < 1 ∨ op.val.length > 12 by rcases hl with e | e; left; rw [e]; simp; right; exact e)]; exact ⟨h, rfl⟩
      · rw [if_neg hl, if_neg (show ¬ (op.val.length < 1 ∨ op.val.length > 12) by rintro (e | e); exact hl (.inl (List.eq_nil_of_length_eq_zero (by omega))); exact hl (.inr e))]
        by_cases hin : op.val ∈ l
        · rw [(thereA_iff hlu _).2 hin]
          simp only [true_and, if_true]
          rw [if_pos (hmem.2 hin)]
          by_cases ha2 : andB op.flags 2 = true
          · rw [if_pos ha2, if_pos ha2]; exact ⟨h, rfl⟩
          · rw [if_neg ha2, if_neg ha2]; exact ⟨h, rfl⟩
        · have ht : thereA l op.val = false := by rw [← Bool.not_eq_true, thereA_iff hlu]; exact hin
          rw [ht, if_neg (by simp), if_neg (by simp), if_neg (fun hh => hin (hmem.1 hh)), hcnt]
          by_cases h12 : l.length ≥ 12
          · rw [if_pos h12, if_pos h12]; exact ⟨h, rfl⟩
          · rw [if_neg h12, if_neg h12, placeA_eq hlu, sIns_eq]
            refine ⟨eqv_set h h1 h2 h3 h4 ?_ (up_mput _ _ h4.up) (vals_mput h4.vals (fun hh => by have := (sIns_mem (v := op.val) (a := op.val) (l := l)).2 (.inl rfl); rw [hh] at this; simp at this) (sIns_up hlu hin) fun e0 => by rw [e] at e0; exact absurd e0 (by decide)) (hdj _), rfl⟩
            rw [putE_eq, h4.ents, put_many _ _ h4.up (fun p hp => ⟨(h4.vals p hp).1, (h4.vals p hp).2.1⟩) (fun l' hl' => by rw [hg] at hl'; injection hl' with hl'; subst hl'; exact hin), hg, mput_ord _ _ h4.up]

theorem delE_all {d : Bool} {key val : S} {e : List (S × S)} (h : d = false ∨ val = []) : delE d key val e = e.filter fun y => !(y.1 == key) := by
  unfold delE
  rcases h with h | h <;> rw [h] <;> simp
theorem delE_one {key val : S} {e : List (S × S)} (h : val ≠ []) : delE true key val e = e.filter fun y => !(y.1 == key) || !(y.2 == val) := by
  unfold delE
  have : (val == []) = false := by simpa using h
  rw [this]; simp
theorem vals_mdel {f : Int} {m : List (S × List S)} {k : S} (hv : ∀ p ∈ m, p.2 ≠ [] ∧ SUp p.2 ∧ (f = 0 → p.2.length = 1)) : ∀ p ∈ mdel k m, p.2 ≠ [] ∧ SUp p.2 ∧ (f = 0 → p.2.length = 1) := fun p hp => hv p (mem_mdel hp)
theorem eqv_del {A : ModA} {R : RefA} (h : Eqv A R) (op : OpA) {B : BaseA} {k : Nat} (hf : findA A op.db = (some B, 0)) (h1 : mget op.db A.l = some B) (h2 : placeR R.l op.db = some k) (h3 : k < R.l.length) (h4 : EqB B (atR R k)) :
    Eqv (delA A op).1 (delR R k op).1 ∧ (delA A op).2 = (delR R k op).2 := by
  have hval := values_eq hf
  have hd : decide ((atR R k).flags = 1) = decide (B.flags = 1) := by rw [h4.flags]
  unfold delA delR
  simp only [hval, hd, short_eq]
  by_cases hs : shortB op.key = false
  · simp only [if_pos hs]
    rw [if_pos (by decide)]
    exact ⟨h, rfl⟩
  have hst : shortB op.key = true := by simpa using hs
  simp only [if_neg hs, named_eq h h2 hst]
  by_cases hn : ((mget op.key A.l).isSome && decide (op.db = [])) = true
  · simp only [if_pos hn]
    rw [if_pos (by decide)]
    exact ⟨h, rfl⟩
  simp only [if_neg hn]
  have hmain : op.db = [] → ∀ n, n ≠ [] → (mget n A.l).isSome = true → mget n B.m = none := fun e n hn0 hi => by
    have := h.disj n hn0 hi
    have hm : mainA A = B := by unfold mainA; rw [← e, h1]; rfl
    rw [hm] at this; exact this
  have hdj : ∀ m' : List S, op.db = [] → ∀ n, n ≠ [] → (mget n A.l).isSome = true → mget n (mput op.key m' B.m) = none := fun m' e n hn0 hi => by
    have hne : n ≠ op.key := fun e' => hn (by rw [← e', hi, e]; rfl)
    rw [mget_put_other hne]
    exact hmain e n hn0 hi
  have hdd : op.db = [] → ∀ n, n ≠ [] → (mget n A.l).isSome = true → mget n (mdel op.key B.m) = none := fun e n hn0 hi => mget_del_none (hmain e n hn0 hi)
  rcases key_flat (k := op.key) (m := B.m) (fun p hp => (h4.vals p hp).1) with ⟨g1, g2⟩ | ⟨l, i, g1, g2, g3⟩
  · rw [← h4.ents] at g2
    rw [g1, g2]
    simp only []
    rw [if_pos (by decide)]
    exact ⟨h, rfl⟩
  · rw [← h4.ents] at g2 g3
    obtain ⟨hl0, hlu, hl1⟩ := h4.vals _ (mget_mem g1)
    rw [g1, g2]
    simp only [Option.getD_some]
    rw [if_neg (by decide), g3]
    have hlen : ∀ f : S × S → Bool, (∃ y ∈ (atR R k).e, f y = false) → ¬ ((atR R k).e.filter f).length = (atR R k).e.length := fun f ⟨y, hy, hfy⟩ hh => by
      rw [List.length_filter_eq_length_iff] at hh
      rw [hh y hy] at hfy; cases hfy
    obtain ⟨v0, vs, hl⟩ : ∃ v0 vs, l = v0 :: vs := by cases l with | nil => exact absurd rfl hl0 | cons a b => exact ⟨a, b, rfl⟩
    have hmem0 : (op.key, v0) ∈ (atR R k).e := by rw [h4.ents]; exact (mem_flat h4.up).2 ⟨l, g1, by rw [hl]; simp⟩
    by_cases hv : op.val = []
    · rw [if_pos hv, if_neg (by rintro ⟨_, e, _⟩; exact e hv), delE_all (.inr hv), if_neg (hlen _ ⟨_, hmem0, by simp⟩)]
      refine ⟨eqv_set h h1 h2 h3 h4 ?_ (up_mdel _ h4.up) (vals_mdel h4.vals) hdd, rfl⟩
      rw [h4.ents, delf_all]
    · rw [if_neg hv]
      rcases h4.fl with e | e
      · have e1 : decide (B.flags = 1) = false := by rw [e]; rfl
        obtain rfl : vs = [] := by have := hl1 e; rw [hl] at this; simpa using this
        rw [e1]
        have hhd : l.headD [] = v0 := by rw [hl]; rfl
        by_cases hvv : op.val = v0
        · have ht : thereA l op.val = true := (thereA_iff hlu _).2 (by rw [hl, hvv]; simp)
          have her : l.eraseIdx (placeA l op.val) = [] := by
            rw [placeA_eq hlu, erase_eq hlu (by rw [hl, hvv]; simp), hl, hvv]; simp
          have c2 : ¬ (false = false ∧ op.val ≠ [] ∧ op.val ≠ (op.key, l.headD []).snd) := by rintro ⟨_, _, q⟩; exact q (by show op.val = l.headD []; rw [hhd]; exact hvv)
          rw [ht, if_neg (show ¬ true = false by simp), if_pos her, if_neg c2, delE_all (.inl rfl), if_neg (hlen _ ⟨_, hmem0, by simp⟩)]
          refine ⟨eqv_set h h1 h2 h3 h4 ?_ (up_mdel _ h4.up) (vals_mdel h4.vals) hdd, rfl⟩
          rw [h4.ents, delf_all]
        · have ht : thereA l op.val = false := by rw [← Bool.not_eq_true, thereA_iff hlu, hl]; simpa using hvv
          rw [ht, if_pos rfl, if_pos ⟨rfl, hv, by show ¬ op.val = l.headD []; rw [hhd]; exact hvv⟩]
          exact ⟨h, rfl⟩
      · have e1 : decide (B.flags = 1) = true := by rw [e]; rfl
        have c3 : ¬ (true = false ∧ op.val ≠ [] ∧ op.val ≠ (op.key, l.headD []).snd) := fun q => Bool.noConfusion q.1
        rw [e1, if_neg c3, delE_one hv]
        by_cases hin : op.val ∈ l
        · have ht : thereA l op.val = true := (thereA_iff hlu _).2 hin
          rw [ht, if_neg (by simp), if_neg (hlen _ ⟨(op.key, op.val), by rw [h4.ents]; exact (mem_flat h4.up).2 ⟨l, g1, hin⟩, by simp⟩)]
          rw [placeA_eq hlu, erase_eq hlu hin]
          by_cases hnil : (l.filter fun x => !(x == op.val)) = []
          · rw [if_pos hnil]
            refine ⟨eqv_set h h1 h2 h3 h4 ?_ (up_mdel _ h4.up) (vals_mdel h4.vals) hdd, rfl⟩
            rw [h4.ents, delf_one _ _ h4.up g1, if_pos hnil]
          · rw [if_neg hnil]
            refine ⟨eqv_set h h1 h2 h3 h4 ?_ (up_mput _ _ h4.up) (vals_mput h4.vals hnil (filter_up hlu _) fun e0 => by rw [e] at e0; exact absurd e0 (by decide)) (hdj _), rfl⟩
            rw [h4.ents, delf_one _ _ h4.up g1, if_neg hnil, mput_ord _ _ h4.up]
        · have ht : thereA l op.val = false := by rw [← Bool.not_eq_true, thereA_iff hlu]; exact hin
          rw [ht, if_pos rfl, if_pos]
          · exact ⟨h, rfl⟩
          · rw [List.length_filter_eq_length_iff]
            intro y hy
            rw [h4.ents] at hy
            by_cases q : y.1 = op.key
            · have hy' : (op.key, y.2) ∈ flat B.m := by rw [← q]; exact hy
              obtain ⟨l', hl', hv'⟩ := (mem_flat h4.up).1 hy'
              rw [g1] at hl'; injection hl' with hl'; subst hl'
              have : y.2 ≠ op.val := fun q' => hin (by rw [← q']; exact hv')
              simp [this]
            · simp [q]
theorem eqv_get {A : ModA} {R : RefA} (h : Eqv A R) (op : OpA) {B : BaseA} {k : Nat} (hf : findA A op.db = (some B, 0)) (h2 : placeR R.l op.db = some k) (h4 : EqB B (atR R k)) :
    getR R k op.key = (if (valuesA A op).2.2 ≠ 0 then ⟨(valuesA A op).2.2, [], []⟩ else ⟨0, [], (valuesA A op).2.1.headD []⟩) := by
  have hval := values_eq hf
  unfold getR
  rw [hval, short_eq]
  by_cases hs : shortB op.key = false
  · simp only [if_pos hs]; rfl
  have hst : shortB op.key = true := by simpa using hs
  simp only [if_neg hs, named_eq h h2 hst]
  by_cases hn : ((mget op.key A.l).isSome && decide (op.db = [])) = true
  · simp only [if_pos hn]; rfl
  simp only [if_neg hn]
  rcases key_flat (k := op.key) (m := B.m) (fun p hp => (h4.vals p hp).1) with ⟨g1, g2⟩ | ⟨l, i, g1, g2, g3⟩
  · rw [← h4.ents] at g2
    rw [g1, g2]; rfl
  · rw [← h4.ents] at g2 g3
    rw [g1, g2]
    simp only []
    rw [g3]; rfl
end Go.Proofs.YtmkhjmldncegcaaGreatDoor

/-
  PLAIN: each op on both models: names, the cursor; all of them; what they tell of themselves.
-/
set_option linter.unusedVariables false
set_option linter.unusedSectionVars false
set_option linter.unusedSimpArgs false
namespace Go.Proofs.YtmkhjmldncegcaaGreatDoor
open Go

theorem findA_21 {A : ModA} {n : S} (h : (findA A n).2 = 21) : n ≠ [] ∧ shortB n = true ∧ mget n (mainA A).m = none ∧ mget n A.l = none := by
  unfold findA at h
  by_cases e : n = []
  · rw [if_pos e] at h; exact absurd h (by show ¬ (0 : Int) = 21; decide)
  rw [if_neg e] at h
  by_cases hs : shortB n = false
  · rw [if_pos hs] at h; exact absurd h (by show ¬ (22 : Int) = 21; decide)
  rw [if_neg hs] at h
  by_cases hm : (mget n (mainA A).m).isSome = true
  · rw [if_pos hm] at h; exact absurd h (by show ¬ (23 : Int) = 21; decide)
  rw [if_neg hm] at h
  by_cases hl : (mget n A.l).isNone = true
  · exact ⟨e, by simpa using hs, by simpa using hm, by simpa using hl⟩
  · rw [if_neg hl] at h; exact absurd h (by show ¬ (0 : Int) = 21; decide)
theorem place_none {l : List DBA} {n : S} : placeR l n = none ↔ ∀ d ∈ l, d.name ≠ n := by
  unfold placeR
  rw [List.findIdx?_eq_none_iff]
  simp
theorem place_iff {l : List DBA} (nd : (l.map (·.name)).Pairwise (· ≠ ·)) {k : Nat} {d : DBA} (h : l[k]? = some d) : placeR l d.name = some k := by
  unfold placeR
  rw [List.findIdx?_eq_some_iff_getElem]
  obtain ⟨hk, hd⟩ := List.getElem?_eq_some_iff.1 h
  refine ⟨hk, by simp [hd], fun j hj => ?_⟩
  rw [List.pairwise_iff_getElem] at nd
  have := nd j k (by simp; omega) (by simpa using hk) hj
  simp at this ⊢
  rw [← hd]; exact this
theorem eqv_name {A : ModA} {R : RefA} (h : Eqv A R) (op : OpA) : Eqv (nameA A op).1 (nameR R op).1 ∧ (nameA A op).2 = (nameR R op).2 := by
  unfold nameA nameR
  by_cases e0 : op.db = []
  · rw [if_pos e0, if_pos e0]; exact ⟨h, rfl⟩
  rw [if_neg e0, if_neg e0]
  rcases find_eq h op.db with ⟨f1, f2⟩ | ⟨B, k, f1, f2, h1, h2, h3, h4⟩
  · simp only [f2]
    rw [if_neg f1, if_neg f1]
    by_cases h21 : (findA A op.db).2 = 21
    · obtain ⟨_, hs, hm, hl⟩ := findA_21 h21
      by_cases hfl : op.flags ≠ 0 ∧ op.flags ≠ 1
      · have c1 : ¬ ((findA A op.db).2 ≠ 21) := fun q => q h21
        have c2 : (findA A op.db).2 = 21 ∧ op.flags ≠ 0 ∧ op.flags ≠ 1 := ⟨h21, hfl⟩
        rw [if_neg c1, if_pos hfl, if_pos c2]; exact ⟨h, rfl⟩
      have c1 : ¬ ((findA A op.db).2 ≠ 21) := fun q => q h21
      have c2 : ¬ ((findA A op.db).2 = 21 ∧ op.flags ≠ 0 ∧ op.flags ≠ 1) := fun q => hfl q.2
      rw [if_neg c1, if_neg hfl, if_neg c2, if_neg c1, h.len]
      by_cases hlen : R.l.length > 4
      · rw [if_pos hlen, if_pos hlen]; exact ⟨h, rfl⟩
      rw [if_neg hlen, if_neg hlen]
      refine ⟨?_, rfl⟩
      have hpn : placeR R.l op.db = none := by
        rcases h.look op.db with ⟨_, q⟩ | ⟨B, k, q, _⟩
        · exact q
        · rw [hl] at q; cases q
      have hpl : ∀ n, n ≠ op.db → placeR (R.l ++ [⟨op.db, op.flags, []⟩]) n = placeR R.l n := fun n hn => by
        unfold placeR
        rw [List.findIdx?_append]
        have : [(⟨op.db, op.flags, []⟩ : DBA)].findIdx? (fun d => d.name == n) = none := by
          rw [List.findIdx?_eq_none_iff]
          intro x hx
          simp at hx; subst hx
          simpa using fun q => hn q.symm
        rw [this]; simp
      have hpl2 : placeR (R.l ++ [⟨op.db, op.flags, []⟩]) op.db = some R.l.length := by
        unfold placeR at hpn ⊢
        rw [List.findIdx?_append, hpn]
        simp [List.findIdx?_cons]
      have hat : ∀ k, k < R.l.length → atR ⟨R.l ++ [⟨op.db, op.flags, []⟩], R.on, R.name, R.ek, R.ev⟩ k = atR R k := fun k hk => by
        unfold atR; simp [List.getD, List.getElem?_append_left hk]
      have hmn : mainA { A with l := mput op.db ⟨op.flags, []⟩ A.l } = mainA A := by
        unfold mainA; simp only []; rw [mget_put_other (Ne.symm e0)]
      refine ⟨up_mput _ _ h.up, fun n => ?_, by show placeR (R.l ++ _) [] = _; rw [hpl _ (Ne.symm e0)]; exact h.head, ?_, ?_, fun n hn hi => ?_, fun n hn hi => ?_, h.cur, h.at_⟩
      · by_cases e : n = op.db
        · subst e
          refine .inr ⟨⟨op.flags, []⟩, R.l.length, mget_put_same _ _ _, hpl2, by show R.l.length < (R.l ++ _).length; simp, ?_⟩
          have : atR ⟨R.l ++ [⟨op.db, op.flags, []⟩], R.on, R.name, R.ek, R.ev⟩ R.l.length = ⟨op.db, op.flags, []⟩ := at_some (by simp)
          show EqB _ (atR ⟨R.l ++ [⟨op.db, op.flags, []⟩], R.on, R.name, R.ek, R.ev⟩ R.l.length)
          rw [this]
          refine ⟨rfl, ?_, rfl, List.Pairwise.nil, fun p hp => by simp at hp⟩
          by_cases q0 : op.flags = 0
          · exact .inl q0
          · exact .inr (Classical.byContradiction fun q1 => hfl ⟨q0, q1⟩)
        · rcases h.look n with ⟨q1, q2⟩ | ⟨B', j, q1, q2, q3, q4⟩
          · exact .inl ⟨by show mget n (mput _ _ _) = none; rw [mget_put_other e]; exact q1, by show placeR (R.l ++ _) n = none; rw [hpl n e]; exact q2⟩
          · refine .inr ⟨B', j, by show mget n (mput _ _ _) = _; rw [mget_put_other e]; exact q1, by show placeR (R.l ++ _) n = _; rw [hpl n e]; exact q2, by show j < (R.l ++ _).length; simp; omega, ?_⟩
            show EqB B' (atR ⟨R.l ++ [⟨op.db, op.flags, []⟩], R.on, R.name, R.ek, R.ev⟩ j)
            rw [hat j q3]; exact q4
      · show ((R.l ++ [(⟨op.db, op.flags, []⟩ : DBA)]).map (·.name)).Pairwise _
        rw [List.map_append, List.pairwise_append]
        refine ⟨h.nd, List.pairwise_singleton _ _, fun a ha b hb => ?_⟩
        obtain ⟨d, hd, rfl⟩ := List.mem_map.1 ha
        simp at hb; subst hb
        exact place_none.1 hpn d hd
      · show (mput _ _ _).length = (R.l ++ [_]).length
        unfold mput
        rw [length_mins, mdel_gone hl, h.len]; simp
      · rw [hmn]
        by_cases e : n = op.db
        · subst e; exact hm
        · exact h.disj n hn (by rw [← mget_put_other e (⟨op.flags, []⟩ : BaseA) A.l]; exact hi)
      · by_cases e : n = op.db
        · subst e; exact hs
        · exact h.short n hn (by rw [← mget_put_other e (⟨op.flags, []⟩ : BaseA) A.l]; exact hi)
    · have c2 : ¬ ((findA A op.db).2 = 21 ∧ op.flags ≠ 0 ∧ op.flags ≠ 1) := fun q => h21 q.1
      rw [if_pos h21, if_neg c2, if_pos h21]; exact ⟨h, rfl⟩
  · simp only [f1, f2, Option.getD_some, if_true]
    rw [h4.flags]
    exact ⟨h, rfl⟩
theorem length_mdel_some {α : Type} {k : S} : ∀ {m : List (S × α)}, Up m → ∀ {v : α}, mget k m = some v → (mdel k m).length + 1 = m.length
  | [], _, _, h => by simp [mget_nil] at h
  | y :: r, hu, v, h => by
    rw [mget_cons] at h
    rw [mdel_cons]
    by_cases e : y.1 = k
    · rw [if_pos ((sameK_iff _ _).2 e), mdel_gone (by rw [← e]; exact up_tail hu)]; rfl
    · rw [if_neg (by rw [sameK_ne e]; simp)] at h
      rw [if_neg (show ¬ sameK y.1 k = true by rw [sameK_ne e]; simp)]
      have := length_mdel_some (List.pairwise_cons.1 hu).2 h
      simp; omega
theorem eqv_drop {A : ModA} {R : RefA} (h : Eqv A R) (op : OpA) : Eqv (dropA A op).1 (dropR R op.db).1 ∧ (dropA A op).2 = (dropR R op.db).2 := by
  unfold dropA dropR
  by_cases e0 : op.db = []
  · rw [if_pos e0, if_pos e0]; exact ⟨h, rfl⟩
  rw [if_neg e0, if_neg e0]
  rcases find_eq h op.db with ⟨f1, f2⟩ | ⟨B, k, f1, f2, h1, h2, h3, h4⟩
  · simp only [f2]
    rw [if_pos f1, if_pos f1]; exact ⟨h, rfl⟩
  simp only [f1, f2, Option.getD_some, ne_eq, not_true_eq_false, if_false]
  have hnd : ((R.l.eraseIdx k).map (·.name)).Pairwise (· ≠ ·) := List.Pairwise.sublist ((List.eraseIdx_sublist R.l k).map _) h.nd
  have hk0 : k ≠ 0 := fun e => e0 ((place_0 h h2).1 e)
  -- where the others are now
  have hoth : ∀ n j, n ≠ op.db → placeR R.l n = some j → ∃ j', placeR (R.l.eraseIdx k) n = some j' ∧ (R.l.eraseIdx k)[j']? = R.l[j]? ∧ (j = 0 → j' = 0) := fun n j hn hp => by
    obtain ⟨d, hd, hdn⟩ := place_at hp
    have hjk : j ≠ k := fun e => hn (by rw [← place_name hp, e, place_name h2])
    have hx : ∃ j', (R.l.eraseIdx k)[j']? = R.l[j]? ∧ (j = 0 → j' = 0) := by
      by_cases hlt : j < k
      · exact ⟨j, by rw [List.getElem?_eraseIdx, if_pos hlt], fun e => e⟩
      · exact ⟨j - 1, by rw [List.getElem?_eraseIdx, if_neg (by omega), show j - 1 + 1 = j by omega], fun e => by omega⟩
    obtain ⟨j', hj, hj0⟩ := hx
    exact ⟨j', by rw [← hdn]; exact place_iff hnd (by rw [hj]; exact hd), hj, hj0⟩
  have key : Eqv { A with l := mdel op.db A.l } { R with l := R.l.eraseIdx k } := by
    refine ⟨up_mdel _ h.up, fun n => ?_, ?_, hnd, ?_, fun n hn hi => ?_, fun n hn hi => ?_, h.cur, h.at_⟩
    · by_cases e : n = op.db
      · subst e
        refine .inl ⟨mget_del_same _ _, place_none.2 fun d hd hdn => ?_⟩
        obtain ⟨j, hj⟩ := List.mem_iff_getElem?.1 hd
        have hnk : ∃ i, i ≠ k ∧ R.l[i]? = some d := by
          rw [List.getElem?_eraseIdx] at hj
          split at hj
          · exact ⟨j, by omega, hj⟩
          · exact ⟨j + 1, by omega, hj⟩
        obtain ⟨i, hi, hd2⟩ := hnk
        have := place_iff h.nd hd2
        rw [hdn, h2] at this
        injection this with this
        exact hi this.symm
      · rcases h.look n with ⟨q1, q2⟩ | ⟨B', j, q1, q2, q3, q4⟩
        · refine .inl ⟨mget_del_none q1, place_none.2 fun d hd => place_none.1 q2 d ((List.eraseIdx_sublist R.l k).subset hd)⟩
        · obtain ⟨j', p1, p2, _⟩ := hoth n j e q2
          refine .inr ⟨B', j', by show mget n (mdel _ _) = _; rw [mget_del_other e]; exact q1, p1, ?_, ?_⟩
          · have : R.l[j]? = some R.l[j] := List.getElem?_eq_getElem q3
            rw [this] at p2
            exact (List.getElem?_eq_some_iff.1 p2).1
          · have : atR { R with l := R.l.eraseIdx k } j' = atR R j := by unfold atR; simp [List.getD, p2]
            rw [this]; exact q4
    · obtain ⟨j', p1, _, p3⟩ := hoth [] 0 (Ne.symm e0) h.head
      show placeR (R.l.eraseIdx k) [] = _
      rw [p1, p3 rfl]
    · show (mdel _ _).length = (R.l.eraseIdx k).length
      have := length_mdel_some h.up h1
      rw [List.length_eraseIdx, if_pos h3, ← h.len]; omega
    · have hn' : n ≠ op.db := fun e => by
        subst e
        have : mget op.db ({ A with l := mdel op.db A.l } : ModA).l = none := mget_del_same _ _
        rw [this] at hi; cases hi
      have : mainA { A with l := mdel op.db A.l } = mainA A := by
        unfold mainA; simp only []; rw [mget_del_other (Ne.symm e0)]
      rw [this]
      exact h.disj n hn (by rw [← mget_del_other hn' A.l]; exact hi)
    · have hn' : n ≠ op.db := fun e => by
        subst e
        have : mget op.db ({ A with l := mdel op.db A.l } : ModA).l = none := mget_del_same _ _
        rw [this] at hi; cases hi
      exact h.short n hn (by rw [← mget_del_other hn' A.l]; exact hi)
  refine ⟨?_, trivial⟩
  by_cases ho : R.on = true
  · obtain ⟨a1, a2, a3⟩ := h.at_ ho
    have hn : (R.name == op.db) = (A.db == op.db) := by rw [a1]
    rw [hn, ho, Bool.true_and]
    by_cases e : A.db = op.db
    · rw [if_pos e]
      have hbf : (!(A.db == op.db)) = false := by simp [e]
      rw [hbf]
      exact ⟨key.up, key.look, key.head, key.nd, key.len, key.disj, key.short, rfl, fun q => by cases q⟩
    · rw [if_neg e]
      have hbf : (!(A.db == op.db)) = true := by simp [e]
      rw [hbf, ← ho]
      exact key
  · have ho' : R.on = false := by simpa using ho
    have hA : A.on = false := h.cur.trans ho'
    rw [ho', Bool.false_and]
    split
    · exact ⟨key.up, key.look, key.head, key.nd, key.len, key.disj, key.short, rfl, fun q => by cases q⟩
    · exact ⟨key.up, key.look, key.head, key.nd, key.len, key.disj, key.short, hA, fun q => by cases q⟩
theorem ents_eq {B : BaseA} {d : DBA} (h : EqB B d) : entriesA B = d.e := h.ents.symm
theorem ge_nil (a : S) : geS a [] = true := by unfold geS; cases a <;> rfl
theorem eqv_seek {A : ModA} {R : RefA} (h : Eqv A R) (op : OpA) (hkk : op.kind = 13 ∨ op.kind = 15) {B : BaseA} {k : Nat} (hf : findA A op.db = (some B, 0)) (h2 : placeR R.l op.db = some k) (h4 : EqB B (atR R k)) :
    Eqv (seekA A op).1 (seekR R k (if op.kind = 13 then [] else op.key)).1 ∧ (seekR R k (if op.kind = 13 then [] else op.key)).2 = (if (seekA A op).2.2 ≠ 0 then ⟨(seekA A op).2.2, [], []⟩ else ⟨0, (seekA A op).2.1.1, (seekA A op).2.1.2⟩) := by
  have hp : (fun e : S × S => decide (op.kind = 13) || geS e.1 op.key) = fun x => geS x.1 (if op.kind = 13 then [] else op.key) := by
    funext e
    rcases hkk with q | q <;> rw [q] <;> simp [ge_nil]
  unfold seekA seekR
  rw [hf]
  simp only [ne_eq, not_true_eq_false, if_false, Option.getD_some]
  rw [hp, ents_eq h4]
  cases hh : (atR R k).e.find? fun x => geS x.1 (if op.kind = 13 then [] else op.key) with
  | none => exact ⟨⟨h.up, h.look, h.head, h.nd, h.len, h.disj, h.short, rfl, fun q => by cases q⟩, rfl⟩
  | some x => exact ⟨⟨h.up, h.look, h.head, h.nd, h.len, h.disj, h.short, rfl, fun _ => ⟨(place_name h2).symm, rfl, rfl⟩⟩, rfl⟩
theorem eqv_next {A : ModA} {R : RefA} (h : Eqv A R) : Eqv (nextA A).1 (nextR R).1 ∧ (nextR R).2 = (if (nextA A).2.2 ≠ 0 then ⟨(nextA A).2.2, [], []⟩ else ⟨0, (nextA A).2.1.1, (nextA A).2.1.2⟩) := by
  unfold nextA nextR
  rw [h.cur]
  by_cases ho : R.on = false
  · rw [if_pos ho, if_pos ho]; exact ⟨h, rfl⟩
  have ho' : R.on = true := by simpa using ho
  obtain ⟨a1, a2, a3⟩ := h.at_ ho'
  rw [if_neg ho, if_neg ho, a1, a2, a3]
  rcases find_eq h R.name with ⟨f1, f2⟩ | ⟨B, k, f1, f2, h1, h2, h3, h4⟩
  · simp only [f2]
    rw [if_pos f1, if_pos f1]
    exact ⟨h, by simp only []; rw [if_pos f1]⟩
  · simp only [f1, f2, ne_eq, not_true_eq_false, if_false, Option.getD_some]
    have hp : (fun e : S × S => gtS e.1 R.ek || (e.1 == R.ek && decide (B.flags = 1) && gtS e.2 R.ev)) = fun x => gtS x.1 R.ek || (decide ((atR R k).flags = 1) && (x.1 == R.ek && gtS x.2 R.ev)) := by
      funext e
      rw [h4.flags]
      cases gtS e.1 R.ek <;> cases (e.1 == R.ek) <;> cases decide ((atR R k).flags = 1) <;> simp
    rw [hp, ents_eq h4]
    cases hh : (atR R k).e.find? fun x => gtS x.1 R.ek || (decide ((atR R k).flags = 1) && (x.1 == R.ek && gtS x.2 R.ev)) with
    | none => exact ⟨h, rfl⟩
    | some x =>
      simp only []
      exact ⟨⟨h.up, h.look, h.head, h.nd, h.len, h.disj, h.short, rfl, fun _ => ⟨rfl, rfl, rfl⟩⟩, rfl⟩
theorem if_rep {n : Int} : (if n ≠ 0 then (⟨n, [], []⟩ : RepA) else ⟨0, [], []⟩) = ⟨n, [], []⟩ := by
  by_cases e : n = 0
  · rw [if_neg (fun q => q e), e]
  · rw [if_pos e]
/-- Whatever they are asked they answer alike. -/
theorem eqv_do {A : ModA} {R : RefA} (h : Eqv A R) (op : OpA) : Eqv (doA A op).1 (doR R op).1 ∧ (doA A op).2 = (doR R op).2 := by
  have hbad : (findA A op.db).2 ≠ 0 → valuesA A op = (none, [], (findA A op.db).2) ∧ putA A op = (A, (findA A op.db).2) ∧ delA A op = (A, (findA A op.db).2) ∧ seekA A op = (A, ([], []), (findA A op.db).2) := fun f1 => by
    have hv : valuesA A op = (none, [], (findA A op.db).2) := by unfold valuesA; rw [if_pos f1]
    exact ⟨hv, by unfold putA; rw [if_pos f1], by unfold delA; rw [hv]; simp only []; rw [if_pos f1], by unfold seekA; rw [if_pos f1]⟩
  have hop : op.kind = 8 ∨ op.kind = 9 ∨ op.kind = 10 ∨ op.kind = 11 ∨ op.kind = 12 ∨ (op.kind = 13 ∨ op.kind = 15) ∨ op.kind = 14 ∨ (op.kind ≠ 8 ∧ op.kind ≠ 9 ∧ op.kind ≠ 10 ∧ op.kind ≠ 11 ∧ op.kind ≠ 12 ∧ op.kind ≠ 13 ∧ op.kind ≠ 14 ∧ op.kind ≠ 15) := by omega
  unfold doA doR doesA
  rcases hop with k | k | k | k | k | k | k | ⟨k1, k2, k3, k4, k5, k6, k7, k8⟩
  · simp only [k, show ¬ (8 : Int) = 14 by decide, show ¬ (8 : Int) = 11 by decide, show ¬ (8 : Int) = 12 by decide, if_false, if_true, true_or]
    rcases find_eq h op.db with ⟨f1, f2⟩ | ⟨B, q, f1, f2, h1, h2, h3, h4⟩
    · obtain ⟨hv, _⟩ := hbad f1
      rw [hv, f2, if_pos f1]
      simp only [if_pos f1]
      exact ⟨h, trivial⟩
    · rw [f2]
      simp only [ne_eq, not_true_eq_false, if_false, Option.getD_some]
      refine ⟨h, ?_⟩
      rw [eqv_get h op f1 h2 h4]
      by_cases hc : (valuesA A op).2.2 = 0
      · simp [hc]
      · simp [hc]
  · simp only [k, show ¬ (9 : Int) = 14 by decide, show ¬ (9 : Int) = 11 by decide, show ¬ (9 : Int) = 12 by decide, show ¬ (9 : Int) = 8 by decide, if_false, if_true, true_or, or_true]
    rcases find_eq h op.db with ⟨f1, f2⟩ | ⟨B, q, f1, f2, h1, h2, h3, h4⟩
    · obtain ⟨_, hv, _⟩ := hbad f1
      rw [hv, f2, if_pos f1]
      exact ⟨h, if_rep⟩
    · rw [f2]
      simp only [ne_eq, not_true_eq_false, if_false, Option.getD_some]
      obtain ⟨q1, q2⟩ := eqv_put h op f1 h1 h2 h3 h4
      exact ⟨q1, by rw [← q2]; exact if_rep⟩
  · simp only [k, show ¬ (10 : Int) = 14 by decide, show ¬ (10 : Int) = 11 by decide, show ¬ (10 : Int) = 12 by decide, show ¬ (10 : Int) = 8 by decide, show ¬ (10 : Int) = 9 by decide, if_false, if_true, true_or, or_true]
    rcases find_eq h op.db with ⟨f1, f2⟩ | ⟨B, q, f1, f2, h1, h2, h3, h4⟩
    · obtain ⟨_, _, hv, _⟩ := hbad f1
      rw [hv, f2, if_pos f1]
      exact ⟨h, if_rep⟩
    · rw [f2]
      simp only [ne_eq, not_true_eq_false, if_false, Option.getD_some]
      obtain ⟨q1, q2⟩ := eqv_del h op f1 h1 h2 h3 h4
      exact ⟨q1, by rw [← q2]; exact if_rep⟩
  · simp only [k, show ¬ (11 : Int) = 14 by decide, show ¬ (11 : Int) = 8 by decide, show ¬ (11 : Int) = 9 by decide, show ¬ (11 : Int) = 10 by decide, if_false, if_true]
    obtain ⟨q1, q2⟩ := eqv_name h op
    exact ⟨q1, by rw [← q2]; exact if_rep⟩
  · simp only [k, show ¬ (12 : Int) = 14 by decide, show ¬ (12 : Int) = 11 by decide, show ¬ (12 : Int) = 8 by decide, show ¬ (12 : Int) = 9 by decide, show ¬ (12 : Int) = 10 by decide, if_false, if_true]
    obtain ⟨q1, q2⟩ := eqv_drop h op
    exact ⟨q1, by rw [← q2]; exact if_rep⟩
  · have n8 : ¬ op.kind = 8 := by omega
    have n9 : ¬ op.kind = 9 := by omega
    have n10 : ¬ op.kind = 10 := by omega
    have n11 : ¬ op.kind = 11 := by omega
    have n12 : ¬ op.kind = 12 := by omega
    have n14 : ¬ op.kind = 14 := by omega
    simp only [n8, n9, n10, n11, n12, n14, k, if_false, if_true, false_or]
    rcases find_eq h op.db with ⟨f1, f2⟩ | ⟨B, q, f1, f2, h1, h2, h3, h4⟩
    · obtain ⟨_, _, _, hv⟩ := hbad f1
      rw [hv, f2, if_pos f1]
      exact ⟨h, if_rep⟩
    · rw [f2]
      simp only [ne_eq, not_true_eq_false, if_false, Option.getD_some]
      have hs := eqv_seek h op k f1 h2 h4
      have e : (if op.kind = 13 then seekR R q [] else seekR R q op.key) = seekR R q (if op.kind = 13 then [] else op.key) := by split <;> rfl
      rw [e]
      exact ⟨hs.1, hs.2.symm⟩
  · simp only [k, show ¬ (14 : Int) = 8 by decide, show ¬ (14 : Int) = 9 by decide, show ¬ (14 : Int) = 10 by decide, show ¬ (14 : Int) = 11 by decide, show ¬ (14 : Int) = 12 by decide, show ¬ (14 : Int) = 13 by decide, show ¬ (14 : Int) = 15 by decide, if_false, if_true, or_self]
    exact ⟨(eqv_next h).1, (eqv_next h).2.symm⟩
  · simp only [k1, k2, k3, k4, k5, k6, k7, k8, if_false, or_self]
    exact ⟨h, rfl⟩
theorem list_eq {A : ModA} {R : RefA} (h : Eqv A R) (n : S) : listA A n = listR R n := by
  unfold listA listR
  rcases h.look n with ⟨q1, q2⟩ | ⟨B, k, q1, q2, q3, q4⟩
  · rw [q1, q2]
  · rw [q1, q2]; simp only []; rw [ents_eq q4]
end Go.Proofs.YtmkhjmldncegcaaGreatDoor

/-
  PLAIN: the two models name the same databases; bounds of the document's model.
-/
set_option linter.unusedVariables false
set_option linter.unusedSectionVars false
namespace Go.Proofs.YtmkhjmldncegcaaGreatDoor
open Go

theorem ins_eq (n : S) : ∀ l : List S, (l.takeWhile fun x => Op.bytesLess x n) ++ n :: (l.dropWhile fun x => Op.bytesLess x n) = sIns n l
  | [] => rfl
  | a :: r => by
    unfold sIns
    rw [List.takeWhile_cons, List.dropWhile_cons]
    cases h : Op.bytesLess a n with
    | true => simp only [if_true, List.cons_append]; rw [ins_eq n r]
    | false => simp
theorem sup_ext : ∀ {l m : List S}, SUp l → SUp m → (∀ a, a ∈ l ↔ a ∈ m) → l = m
  | [], [], _, _, _ => rfl
  | [], b :: m, _, _, h => by have := (h b).2 (by simp); simp at this
  | a :: l, [], _, _, h => by have := (h a).1 (by simp); simp at this
  | a :: l, b :: m, hl, hm, h => by
    have hl2 := List.pairwise_cons.1 hl
    have hm2 := List.pairwise_cons.1 hm
    have hab : a = b := by
      rcases List.mem_cons.1 ((h a).1 (by simp)) with e | e
      · exact e
      · rcases List.mem_cons.1 ((h b).2 (by simp)) with e' | e'
        · exact e'.symm
        · have h1 := hm2.1 a e
          have h2 := hl2.1 b e'
          have := bl_trans h1 h2
          rw [bl_irr] at this; cases this
    subst hab
    have ha : a ∉ l := fun e => by have := hl2.1 a e; rw [bl_irr] at this; cases this
    have hb : a ∉ m := fun e => by have := hm2.1 a e; rw [bl_irr] at this; cases this
    congr 1
    refine sup_ext hl2.2 hm2.2 fun x => ⟨fun hx => ?_, fun hx => ?_⟩
    · rcases List.mem_cons.1 ((h x).1 (by simp [hx])) with e | e
      · subst e; exact absurd hx ha
      · exact e
    · rcases List.mem_cons.1 ((h x).2 (by simp [hx])) with e | e
      · subst e; exact absurd hx hb
      · exact e
def insF (l : List S) (ns : List S) : List S := ns.foldl (fun l n => sIns n l) l
theorem insF_mem {a : S} : ∀ {ns l : List S}, a ∈ insF l ns ↔ a ∈ l ∨ a ∈ ns
  | [], l => by simp [insF]
  | n :: ns, l => by
    show a ∈ insF (sIns n l) ns ↔ _
    rw [insF_mem, sIns_mem]
    simp only [List.mem_cons]
    constructor
    · rintro ((h | h) | h) <;> simp [h]
    · rintro (h | h | h) <;> simp [h]
theorem insF_up : ∀ {ns l : List S}, SUp l → ns.Pairwise (· ≠ ·) → (∀ n ∈ ns, n ∉ l) → SUp (insF l ns)
  | [], l, hl, _, _ => hl
  | n :: ns, l, hl, hp, hd => by
    have hp2 := List.pairwise_cons.1 hp
    show SUp (insF (sIns n l) ns)
    refine insF_up (sIns_up hl (hd n (by simp))) hp2.2 fun x hx hm => ?_
    rcases sIns_mem.1 hm with e | e
    · exact hp2.1 x hx e.symm
    · exact hd x (by simp [hx]) e
theorem namesR_ins (R : RefA) : namesR R = insF [] ((R.l.drop 1).map (·.name)) := by
  unfold namesR insF
  rw [List.foldl_map]
  congr 1
  funext l d
  exact ins_eq d.name l
theorem mget_mem_iff {α : Type} {k : S} : ∀ {l : List (S × α)}, (mget k l).isSome = true ↔ k ∈ l.map (·.1)
  | [] => by simp [mget, mget]
  | y :: r => by
    rw [mget_cons]
    by_cases e : sameK y.1 k = true
    · rw [if_pos e]
      have : y.1 = k := by
        rcases Decidable.em (y.1 = k) with h | h
        · exact h
        · rw [sameK_ne h] at e; cases e
      simp [this]
    · rw [if_neg e, mget_mem_iff]
      have : ¬ y.1 = k := fun h => e (by rw [h]; exact sameK_self _)
      simp only [List.map_cons, List.mem_cons]
      constructor
      · exact fun h => .inr h
      · rintro (h | h)
        · exact absurd h.symm this
        · exact h
theorem names_eq {A : ModA} {R : RefA} (h : Eqv A R) : namesA A = namesR R := by
  obtain ⟨d0, hd0, hn0⟩ := place_at h.head
  obtain ⟨r, hr⟩ : ∃ r, R.l = d0 :: r := by
    cases hR : R.l with
    | nil => rw [hR] at hd0; simp at hd0
    | cons a r => rw [hR] at hd0; simp at hd0; exact ⟨r, by rw [hd0]⟩
  have hnd := h.nd
  rw [hr] at hnd
  have hnd2 := List.pairwise_cons.1 (show ((d0.name :: r.map (·.name))).Pairwise (· ≠ ·) from hnd)
  rw [namesR_ins, hr]
  show namesA A = insF [] (r.map (·.name))
  refine sup_ext ?_ (insF_up List.Pairwise.nil hnd2.2 (fun _ _ => by simp)) fun a => ?_
  · exact filter_up (List.pairwise_map.2 h.up) _
  · rw [insF_mem]
    simp only [List.not_mem_nil, false_or]
    unfold namesA
    rw [List.mem_filter, ← mget_mem_iff]
    have hpl : (mget a A.l).isSome = true ↔ ∃ d ∈ R.l, d.name = a := by
      rcases h.look a with ⟨q1, q2⟩ | ⟨B, k, q1, q2, q3, q4⟩
      · rw [q1]
        have := place_none.1 q2
        simp
        exact this
      · rw [q1]
        obtain ⟨d, hd, hn⟩ := place_at q2
        simp
        exact ⟨d, List.mem_of_getElem? hd, hn⟩
    rw [hpl, hr]
    constructor
    · rintro ⟨⟨d, hd, rfl⟩, hne⟩
      rcases List.mem_cons.1 hd with e | e
      · subst e; rw [hn0] at hne; simp at hne
      · exact List.mem_map.2 ⟨d, e, rfl⟩
    · intro ha
      obtain ⟨d, hd, rfl⟩ := List.mem_map.1 ha
      refine ⟨⟨d, by simp [hd], rfl⟩, ?_⟩
      have := hnd2.1 d.name ha
      rw [hn0] at this
      simp
      exact fun e => this e.symm
end Go.Proofs.YtmkhjmldncegcaaGreatDoor

