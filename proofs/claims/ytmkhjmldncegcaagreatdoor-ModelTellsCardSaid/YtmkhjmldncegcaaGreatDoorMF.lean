/-
  WALKS: past.commits.
-/
import Derived.Test.YtmkhjmldncegcaaGreatDoorME
import Derived.BigQuiet
set_option linter.unusedVariables false
set_option linter.unusedSimpArgs false
namespace Go.Proofs.YtmkhjmldncegcaaGreatDoor
open Go.RowKit Go.Maps Go.ChangeMaps Go.MapKept Go.Sort

theorem Ext.grown (w : World) (n : Nat) (os : Array Obj) : Ext w (Sort.grow (w.drewN n) os) := by
  refine ⟨rfl, rfl, rfl, by simp, fun k hk => ?_⟩
  show (w.heap ++ os)[k]? = _
  rw [Array.getElem?_append_left hk]

set_option maxHeartbeats 1000000 in
set_option maxRecDepth 100000 in
theorem opClone_any (v : Value) (xs : List OpA) (w : World) (h : w.ownsRow 0 30 6 v xs.length (opsCells xs)) (hl : xs.length ≤ 1000) :
    Calls Tryz.prog 59 #[v] w fun e w' => ∃ v', e = .returned v' ∧ w'.ownsRow w.heap.size 30 6 v' xs.length (opsCells xs) ∧ Ext w w' := by
  have heq := fun W a n c => Lib.run_eql_slice_nil (P := Tryz.prog) W 22 30 a n c 0 0 Tryz.underlying22
  have HS : Hid (∀ W, Ext w W → Sl W 6 v xs.length (opsCells xs)) := fun W e => Sl.ext (Sl.ofOwns h) e
  rcases h.2 with ⟨rfl, hz⟩ | ⟨g, cap, cur, rfl, _⟩
  · have hx : xs = [] := List.eq_nil_of_length_eq_zero hz
    subst hx
    clear h hz
    go_enter Tryz.func59, Tryz.ntmps59
    go_wp2_with fail
    go_ret
    exact ⟨_, rfl, owns_nil _ _ _ _, Ext.rfl' _⟩
  · clear h
    go_enter Tryz.func59, Tryz.ntmps59
    go_wp2_with (at_builtin; refine wpList_append_sl _ rfl _ _ 22 (by rfl) w.heap.size opEl _ _ _ (by rfl) (owns_empty w _ _) _ _ _ (by rfl) (HS.out _ ((Ext.rfl' w).alloc _)) (opsCells_one _) (by unfold maxLen; omega) (by omega) (by simp) ?_; intro v1 w2 hown hgrow hat; have HO := Lib.hid hown; have HG := Lib.hid hgrow; clear hown hgrow hat)
    go_ret
    have ho := HO.out
    simp only [Nat.zero_add, List.nil_append] at ho
    exact ⟨_, rfl, ho, below_append ((Ext.rfl' w).alloc _) (by simp) (owns_empty w _ 6) HG.out⟩

theorem Beside.nodupR {κ α β : Type} [Ky κ] {R : κ → α → β → Prop} {l : List (κ × α)} {r : List (κ × β)} (h : Beside R l r) (hp : l.Pairwise (fun p q => p.1 ≠ q.1)) : r.Pairwise (fun p q => p.1 ≠ q.1) := by
  have e := h.keys
  have h1 : (l.map (·.1)).Pairwise (fun a b => a ≠ b) := by rw [List.pairwise_map]; exact hp
  rw [e, List.pairwise_map] at h1
  exact h1

def comTo (l : List ToldA) (j : Nat) : List (Int × StA) × List ComA := (l.take j).foldl comStep ([], [])
theorem comTo_succ {l : List ToldA} {j : Nat} {t : ToldA} (h : l[j]? = some t) : comTo l (j + 1) = comStep (comTo l j) t := by
  obtain ⟨hj, e⟩ := List.getElem?_eq_some_iff.1 h
  unfold comTo
  rw [List.take_succ_eq_append_getElem hj, List.foldl_append, e]
  rfl

/-- What the loop keeps. -/
structure ComRel (w1 : World) (mb : Nat) (l : List ToldA) (j : Nat) (v : Value) (wr : World) (σ : Sig) (rows : List (Int × Value)) (L : List (ComA × Value)) : Prop where
  chg : RowChg mb w1 wr
  neat : Neat wr σ
  old : ∀ k, k < w1.heap.size → (σ k).1 = 0
  ss : SsAt wr σ mb rows (comTo l j).1
  coms : ComsAt wr σ w1.heap.size v L
  same : L.map (·.1) = (comTo l j).2
  nilv : L = [] → v = .slice none 0 0
  len : rows.length ≤ j
  lenL : L.length ≤ j
  lenO : ∀ s ∈ (comTo l j).1, (s.2.ops.headD []).length ≤ j

theorem RowChg.cell {b : Nat} {w w' : World} {es : Array MapEntry} {c : Nat} (h : RowChg b w w') {a : Addr} {v : Value} (hb : w.heap[b]? = some (.map es c)) (hc : w.cell? a = some v) : w'.cell? a = some v := by
  have hne : a.block ≠ b := fun e => by
    subst e
    unfold World.cell? at hc
    rw [hb] at hc
    cases hc
  rw [World.cell?_of_block (w := w) (w' := w') (a := a) (h.block _ (lt_of_cell hc) hne)]; exact hc

theorem RowChg.ext {b : Nat} {w w' w'' : World} (h : RowChg b w w') (e : Ext w' w'') : RowChg b w w'' := ⟨e.os.trans h.os, e.tape.trans h.tape, e.output.trans h.output, Nat.le_trans h.size e.size, fun k hk hne => (e.block k (by have := h.size; omega)).trans (h.block k hk hne)⟩

theorem told_at : ∀ {l : List ToldA} {j : Nat} {t : ToldA}, l[j]? = some t → ∀ {k : Nat}, k < 14 → (l.flatMap toldCells)[j * 14 + k]? = (toldCells t)[k]?
  | [], j, t, h, k, hk => by simp at h
  | a :: r, 0, t, h, k, hk => by
    simp at h; subst h
    rw [List.flatMap_cons, Nat.zero_mul, Nat.zero_add, List.getElem?_append_left (by rw [toldCells_len]; exact hk)]
  | a :: r, j + 1, t, h, k, hk => by
    rw [List.flatMap_cons, List.getElem?_append_right (by rw [toldCells_len]; omega), toldCells_len, show (j + 1) * 14 + k - 14 = j * 14 + k by omega]
    exact told_at (by simpa using h) hk

/-- But for the block that a slice value owns, nothing that was has turned. -/
structure OffOwn (u : Value) (w w' : World) : Prop where
  os : w'.os = w.os
  tape : w'.tape = w.tape
  output : w'.output = w.output
  size : w.heap.size ≤ w'.heap.size
  block : ∀ k, k < w.heap.size → u.ownBlock ≠ some k → w'.heap[k]? = w.heap[k]?
theorem OffOwn.ofGrown {u : Value} {w w1 w' : World} (e : Ext w w1) (h : w1.grownBy w' u.ownBlock) : OffOwn u w w' :=
  ⟨h.os.trans e.os, h.tape.trans e.tape, h.output.trans e.output, Nat.le_trans e.size h.size, fun k hk hne => (h.block k (by have := e.size; omega) (fun q => hne q.symm)).trans (e.block k hk)⟩
theorem OffOwn.cell {u : Value} {w w' : World} (h : OffOwn u w w') {b o : Nat} {x : Value} (hne : u.ownBlock ≠ some b) (hc : w.cell? ⟨b, o, none⟩ = some x) : w'.cell? ⟨b, o, none⟩ = some x := by
  rw [World.cell?_of_block (w := w) (w' := w') (a := ⟨b, o, none⟩) (h.block b (lt_of_cell hc) hne)]; exact hc
theorem OffOwn.keep {u : Value} {w w' : World} (h : OffOwn u w w') {σ : Sig} (hl : ∀ g, u.ownBlock = some g → σ g = other) {p : Lab → Prop} (hp : ¬ p other) : Keep p σ w σ w' := fun k hk e =>
  ⟨h.block k hk (fun q => hp (by rw [← hl k q]; exact e)), rfl⟩
theorem OffOwn.ss {u : Value} {w w' : World} (h : OffOwn u w w') {σ : Sig} {mb : Nat} {rows : List (Int × Value)} {sts : List (Int × StA)} (hl : ∀ g, u.ownBlock = some g → σ g = other) (hmb : u.ownBlock ≠ some mb) (hs : SsAt w σ mb rows sts) : SsAt w' σ mb rows sts :=
  ⟨hs.1.same (h.block mb hs.1.lt hmb), hs.2.1, hs.2.2.imp fun q _ _ hh => hh.keep (h.keep hl (by unfold oSt other; simp))⟩
theorem OffOwn.chg {u : Value} {w1 w w' : World} {mb : Nat} (h : OffOwn u w w') (hc : RowChg mb w1 w) (hb : ∀ g, u.ownBlock = some g → w1.heap.size ≤ g) : RowChg mb w1 w' :=
  ⟨h.os.trans hc.os, h.tape.trans hc.tape, h.output.trans hc.output, Nat.le_trans hc.size h.size, fun k hk hne => (h.block k (by have := hc.size; omega) (fun q => by have := hb k q; omega)).trans (hc.block k hk hne)⟩

theorem stepS_len (s : StA) (t : ToldA) : ((stepS s t).ops.headD []).length ≤ (s.ops.headD []).length + 1 := by
  unfold stepS
  cases wayOf s t with
  | none => exact Nat.le_succ _
  | some q => cases q <;> simp
theorem comStep_2 {a : List (Int × StA) × List ComA} {t : ToldA} {s : StA} (hz : (mget t.pid a.1).getD ⟨false, 0, []⟩ = s) : (comStep a t).2 = if outerB s t && decide (s.base < t.txn) then a.2 ++ [⟨t.txn, t.frm, s.ops.headD []⟩] else a.2 := by subst hz; rfl
theorem mem_mupd {κ α : Type} [Ky κ] {k : κ} {v : α} {l : List (κ × α)} {y : κ × α} (h : y ∈ mupd k v l) : y = (k, v) ∨ y ∈ l := by
  unfold mupd at h
  split at h
  · exact mem_mset h
  · exact mem_mput h

/-- A slice value that reads as these commits. -/
def Comms (w : World) (v : Value) (cs : List ComA) : Prop := ∃ L : List (ComA × Value), L.map (·.1) = cs ∧ Sl w 3 v L.length (L.flatMap comCells) ∧ ∀ p ∈ L, Sl w 6 p.2 p.1.ops.length (opsCells p.1.ops)
theorem Comms.ext {w w' : World} {v : Value} {cs : List ComA} (h : Comms w v cs) (e : Ext w w') : Comms w' v cs := by
  obtain ⟨L, h1, h2, h3⟩ := h
  exact ⟨L, h1, Sl.ext h2 e, fun p hp => Sl.ext (h3 p hp) e⟩
def ComPost (l : List ToldA) (w : World) (e : Ending) (w' : World) : Prop := ∃ v', e = .returned v' ∧ Comms w' v' (commitsA l) ∧ Ext w w'

def pairOf (e : ComE) : ComA × Value := (e.1, .slice e.2.1 e.2.2.1 e.2.2.2)
theorem pairs_of {w : World} {σ : Sig} {base : Nat} {v : Value} {L : List (ComA × Value)} (h : ComsAt w σ base v L) : ∃ E : List ComE, L = E.map pairOf := by
  have : ∀ p ∈ L, ∃ e : ComE, p = pairOf e := fun p hp => by
    obtain ⟨_, a, c, hv, _⟩ := Sl.ofOwns (h.ops p hp).1
    exact ⟨(p.1, a, p.1.ops.length, c), by unfold pairOf; rw [← hv]⟩
  clear h
  induction L with
  | nil => exact ⟨[], rfl⟩
  | cons x r ih =>
    obtain ⟨E, hE⟩ := ih fun p hp => this p (by simp [hp])
    obtain ⟨e, he⟩ := this x (by simp)
    exact ⟨e :: E, by rw [List.map_cons, hE, he]⟩
theorem pairs_flat (E : List ComE) : (E.map pairOf).flatMap comCells = E.flatMap comEC := by
  rw [List.flatMap_map]; rfl
def sortE (E : List ComE) : List ComE := (Sort.insertionSort (ltOf cmpE) E.toArray 0 E.length).toList
theorem sortE_len (E : List ComE) : (sortE E).length = E.length := by unfold sortE; rw [Array.length_toList, isort_size]; simp
theorem sortE_fst (E : List ComE) : (sortE E).map (·.1) = orderC (E.map (·.1)) := by
  unfold sortE orderC
  have := isort_map (fun e : ComE => e.1) (ltOf cmpE) (ltOf cmpCom) (fun x y => rfl) E.toArray 0 E.length (by simp)
  rw [← Array.toList_map, this]
  simp
theorem sortE_mem {E : List ComE} {e : ComE} (h : e ∈ sortE E) : e ∈ E := by
  unfold sortE at h
  exact isort_all (fun x => x ∈ E) (ltOf cmpE) E.toArray 0 E.length (by simp) (fun x hx => by simpa using hx) e (by simpa using h)

theorem orderC_nil : orderC [] = [] := by unfold orderC; simp [isort_self]
theorem orderA_nil : orderA [] = [] := by unfold orderA; simp [isort_self]
theorem commitsA_nil : commitsA [] = [] := by unfold commitsA; rw [orderA_nil]; exact orderC_nil
/-- Behind the sort: the commits in order. -/
theorem coms_sorted {w w1 wr w2 : World} {σ : Sig} {g cap : Nat} {E : List ComE} {l : List ToldA} (hx : Ext w w1) (hmb : w.heap.size < w1.heap.size) (hch : RowChg w.heap.size w1 wr) (hco : ComsAt wr σ w1.heap.size (.slice (some ⟨g, 0, none⟩) E.length cap) (E.map pairOf))
    (hsame : (E.map pairOf).map (·.1) = (comFold (orderA l)).2) (hh : HoldsK comEC 3 w2 g 0 (Sort.insertionSort (ltOf cmpE) E.toArray 0 E.length)) (hc2 : RowChg g wr w2) :
    Comms w2 (.slice (some ⟨g, 0, none⟩) E.length cap) (commitsA l) ∧ Ext w w2 := by
  have hgb : w1.heap.size ≤ g := (hco.row.lt g rfl).1
  have hcap : E.length ≤ cap ∧ cap ≤ maxLen := by
    have := hco.row
    rw [List.length_map] at this
    obtain ⟨_, p, c, hv, h1, h2, _⟩ := Sl.ofOwns this
    injection hv with _ _ hc
    subst hc
    exact ⟨h1, h2⟩
  refine ⟨⟨(sortE E).map pairOf, ?_, ?_, fun p hp => ?_⟩, ?_⟩
  · have e1 : ((sortE E).map pairOf).map (·.1) = (sortE E).map (·.1) := by rw [List.map_map]; rfl
    have e2 : (E.map pairOf).map (·.1) = E.map (·.1) := by rw [List.map_map]; rfl
    rw [e1, sortE_fst, ← e2, hsame]; rfl
  · rw [List.length_map, sortE_len, pairs_flat]
    refine sl_of comEC 3 comEC_len (by omega) (sortE_len E) ?_ hcap.1 hcap.2
    have : (sortE E).toArray = Sort.insertionSort (ltOf cmpE) E.toArray 0 E.length := by unfold sortE; simp
    rw [this]; exact hh
  · obtain ⟨e, he, rfl⟩ := List.mem_map.1 hp
    have hm : pairOf e ∈ E.map pairOf := List.mem_map.2 ⟨e, sortE_mem he, rfl⟩
    have h1 := hco.ops _ hm
    exact Sl.ofOwns (owns_same h1.1 fun q hq => hc2.block q (h1.1.lt q hq).2 (fun e => by subst e; exact hco.apart _ hm q hq rfl))
  · refine ⟨hc2.os.trans (hch.os.trans hx.os), hc2.tape.trans (hch.tape.trans hx.tape), hc2.output.trans (hch.output.trans hx.output), Nat.le_trans hx.size (Nat.le_trans hch.size hc2.size), fun k hk => ?_⟩
    have := hch.size
    rw [hc2.block k (by omega) (by omega), hch.block k (by omega) (by omega), hx.block k hk]

/-- A round's end. -/
theorem com_step {w1 W2 w5 : World} {σ σ' : Sig} {mb sb j : Nat} {ls : List ToldA} {t : ToldA} {s : StA} {v3 : Value} {rows : List (Int × Value)} {L3 : List (ComA × Value)}
    (hsu : comTo ls (j + 1) = comStep (comTo ls j) t) (hz : (mget t.pid (comTo ls j).1).getD ⟨false, 0, []⟩ = s) (hlo : ∀ s ∈ (comTo ls j).1, (s.2.ops.headD []).length ≤ j)
    (hss : SsAt W2 σ mb rows (mupd t.pid s (comTo ls j).1)) (hrw : mget t.pid rows = some (.pointer (some ⟨sb, 0, none⟩))) (hn : Neat W2 σ) (hold : ∀ k, k < w1.heap.size → (σ k).1 = 0) (hch : RowChg mb w1 W2)
    (hco : ComsAt W2 σ w1.heap.size v3 L3) (hsame : L3.map (·.1) = (comStep (comTo ls j) t).2) (hnil : L3 = [] → v3 = .slice none 0 0) (hl1 : rows.length ≤ j + 1) (hl2 : L3.length ≤ j + 1)
    (hst : StIs w5 σ' (oSt t.pid) sb (stepS s t)) (hm : Moved σ (oSt t.pid) W2 σ' w5) : ComRel w1 mb ls (j + 1) v3 w5 σ' rows L3 := by
  have hs1 := hch.size
  refine ⟨⟨hm.turn.os.trans hch.os, hm.turn.tape.trans hch.tape, hm.turn.output.trans hch.output, Nat.le_trans hch.size hm.turn.size, fun k hk hne => (hm.turn.block k (by omega) (by rw [hold k hk]; unfold oSt; omega)).trans (hch.block k hk hne)⟩, hm.neat, fun k hk => by rw [hm.ext k (by omega)]; exact hold k hk, ?_, hco.keep ((Keep.ofMoved (j := 0) hm (by unfold oSt; omega)).weak fun l hl => by rw [hl]; rfl), by rw [hsu]; exact hsame, hnil, hl1, hl2, ?_⟩
  · rw [hsu]
    show SsAt w5 σ' mb rows (mupd t.pid (stepS ((mget t.pid (comTo ls j).1).getD ⟨false, 0, []⟩) t) (comTo ls j).1)
    rw [hz, ← mset_mupd t.pid s]
    exact hss.step hrw hst hm
  · rw [hsu]
    intro x hx
    have hx' : x ∈ mupd t.pid (stepS ((mget t.pid (comTo ls j).1).getD ⟨false, 0, []⟩) t) (comTo ls j).1 := hx
    rw [hz] at hx'
    rcases mem_mupd hx' with e | hx'
    · rw [e]
      have h1 := stepS_len s t
      have h2 : (s.ops.headD []).length ≤ j := by
        rw [← hz]
        cases hg : mget t.pid (comTo ls j).1 with
        | none => simp
        | some y => exact hlo _ (mget_mem hg)
      show ((stepS s t).ops.headD []).length ≤ j + 1
      omega
    · have := hlo _ hx'; omega

set_option maxHeartbeats 4000000 in
set_option maxRecDepth 100000 in
theorem comFold_any (v : Value) (l : List ToldA) (w : World) (h : Tolds w v l) (h0 : l ≠ []) (hl : l.length ≤ 20) (hok : comOks ([], []) (orderA l) = true) (hp : ∀ t ∈ orderA l, -9223372036854775808 ≤ t.pid ∧ t.pid ≤ 9223372036854775807) :
    Calls Tryz.prog 35 #[v] w (ComPost l w) := by
  have hm1 : ∀ w, (Instr.makeMap 121 none).run Tryz.prog w = .ok (.map (some w.heap.size)) (w.alloc (.map #[] 0)) := fun w => run_makeMap _ w
  have HO := Lib.hid (ordered_any v l (w.alloc (.map #[] 0)) (h.ext ((Ext.rfl' w).alloc _)) h0 hl)
  have HL := Lib.hid (orderA_len l)
  have HOK := Lib.hid hok
  have HPID := Lib.hid hp
  obtain ⟨ls, hls⟩ : ∃ ls, orderA l = ls := ⟨_, rfl⟩
  rw [hls] at HO HL HOK HPID
  have HLS : Hid (ls = orderA l) := hls.symm
  clear h h0 hok hp hls
  go_enter Tryz.func35, Tryz.ntmps35
  go_wp2_with fail
  refine HO.out.mono ?_
  rintro e w1 ⟨v', rfl, hT, hext⟩
  have hmb : w1.heap[w.heap.size]? = some (.map #[] 0) := by rw [hext.block _ (by simp)]; exact heap_new _ _
  have hMA : MapOf (κ := Int) w1 3 w.heap.size [] := (MapOf.made (κ := Int) w 3).ext hext
  have hsz : w.heap.size < w1.heap.size := lt_heap hmb
  have hT2 := hT
  obtain ⟨hfl, p, c, rfl, hc1, hc2, hcells⟩ := hT
  have HC := Lib.hid hcells
  have HX := Lib.hid hext
  have HMB := Lib.hid hmb
  have HX2 : Hid (Ext w w1) := Ext.step ((Ext.rfl' w).alloc _) hext
  have hneat0 : Neat w1 (lay (fun _ => other) w.heap.size mapLab) := fun k hk => lay_other (by omega)
  have hold0 : ∀ k, k < w1.heap.size → (lay (fun _ => other) w.heap.size mapLab k).1 = 0 := fun k hk => by unfold lay; split <;> rfl
  have hrel0 : ComRel w1 w.heap.size ls 0 (.slice none 0 0) w1 (lay (fun _ => other) w.heap.size mapLab) [] [] := ⟨⟨rfl, rfl, rfl, Nat.le_refl _, fun _ _ _ => rfl⟩, hneat0, hold0, ⟨hMA, lay_same _ _ _, .nil⟩, ⟨owns_nil _ _ _ _, (fun g hg => by cases hg), (by intro p hp; cases hp), (by intro p hp; cases hp)⟩, rfl, fun _ => rfl, by simp, by simp, by simp [comTo]⟩
  have HR0 := Lib.hid hrel0
  have hll : ls.length ≤ 20 := by rw [HL.out]; exact hl
  clear hext hmb hMA hcells hrel0 hT2 hfl
  go_wp2_with fail
  go_loopw [3, 12] (fun v i wr => ∃ j : Nat, j ≤ ls.length ∧ i = .int .i64 j ∧ ∃ σ rows L, ComRel w1 w.heap.size ls j v wr σ rows L) (fun _ i _ => ls.length - (intOf i).toNat)
  case atStart => exact ⟨0, by omega, rfl, _, _, _, HR0.out⟩
  case round =>
    obtain ⟨j, hj, rfl, σ, rows, L, hR⟩ := hrel
    obtain ⟨wo, rfl⟩ : ∃ wo : World, wo = wr := ⟨_, rfl⟩
    have HR := Lib.hid hR
    by_cases hlt : j < ls.length
    · obtain ⟨b, off, rfl, hcells⟩ := HC.out (by omega)
      obtain ⟨t, htj⟩ : ∃ t, ls[j]? = some t := ⟨_, List.getElem?_eq_getElem hlt⟩
      have hcell : ∀ k u, k < 14 → (toldCells t)[k]? = some u → wo.cell? ⟨b, off + j * 14 + k, none⟩ = some u := fun k u hk hu => by
        rw [Nat.add_assoc]
        exact hR.chg.cell HMB.out (hcells _ _ (by rw [told_at htj hk]; exact hu))
      have d0 := hcell 0 _ (by omega) rfl
      have d1 := hcell 1 _ (by omega) rfl
      have d2 := hcell 2 _ (by omega) rfl
      have d3 := hcell 3 _ (by omega) rfl
      have d4 := hcell 4 _ (by omega) rfl
      have d5 := hcell 5 _ (by omega) rfl
      have d6 := hcell 6 _ (by omega) rfl
      have d7 := hcell 7 _ (by omega) rfl
      have d8 := hcell 8 _ (by omega) rfl
      have d9 := hcell 9 _ (by omega) rfl
      have d10 := hcell 10 _ (by omega) rfl
      have d11 := hcell 11 _ (by omega) rfl
      have d12 := hcell 12 _ (by omega) rfl
      have d13 := hcell 13 _ (by omega) rfl
      simp only [Nat.add_zero] at d0
      obtain ⟨hp1, hp2⟩ := HPID.out t (List.mem_of_getElem? htj)
      have HWAY := Lib.hid (comOks_at ls ([], []) j t HOK.out htj)
      have HSU := Lib.hid (comTo_succ htj)
      clear hcells hcell htj
      have hlk : (Instr.lookup 121 (.map (some w.heap.size)) (.int .i64 t.pid) false).run Tryz.prog (wo.alloc (.cells (toldCells t).toArray 38)) = .ok ((mget t.pid rows).getD (.pointer none)) (wo.alloc (.cells (toldCells t).toArray 38)) :=
        (hR.ss.1.ext ((Ext.rfl' wo).alloc _)).look1 (t := 121) (e := 122) keyedI Tryz.underlying121 (z := .pointer none) (Tryz.zeroValue122 _) (keyI hp1 hp2)
      cases hg : mget t.pid rows with
      | some pv =>
        obtain ⟨s, hsm, sb, rfl, hst⟩ : ∃ s, mget t.pid (comTo ls j).1 = some s ∧ StAt wo σ (oSt t.pid) pv s := by
          have := hR.ss.2.2.has (k := t.pid)
          rw [hg] at this
          obtain ⟨s, hs⟩ := Option.isSome_iff_exists.1 this.symm
          obtain ⟨a, ha, hst⟩ := hR.ss.2.2.get_some hs
          rw [hg] at ha
          injection ha with ha
          subst ha
          exact ⟨s, hs, hst⟩
        rw [hg] at hlk
        simp only [Option.getD_some] at hlk
        have hbox : (wo.alloc (.cells (toldCells t).toArray 38)).heap[wo.heap.size]? = some (.cells (toldCells t).toArray 38 (0, 0)) := heap_new wo _
        have e1 : Ext wo (wo.alloc (.cells (toldCells t).toArray 38)) := (Ext.rfl' wo).alloc _
        have hz : (mget t.pid (comTo ls j).1).getD ⟨false, 0, []⟩ = s := by rw [hsm]; rfl
        have hss : SsAt (wo.alloc (.cells (toldCells t).toArray 38)) σ w.heap.size rows (mupd t.pid s (comTo ls j).1) := by
          have := hR.ss.ext e1
          unfold mupd
          rw [if_pos (by rw [hsm]; rfl), mset_self (hR.ss.2.2.nodupR (hR.ss.1.nodup keyedI)) hsm]
          exact this
        have HB := Lib.hid hbox
        have HZ := Lib.hid hz
        have HSS := Lib.hid hss
        have HRW := Lib.hid hg
        have HST := Lib.hid (hst.ext e1)
        have HN := Lib.hid (hR.neat.ext e1)
        have HCO := Lib.hid (hR.coms.ext e1)
        have HCH : Hid (RowChg w.heap.size w1 (wo.alloc (.cells (toldCells t).toArray 38))) := hR.chg.trans ⟨rfl, rfl, rfl, by simp, fun k hk _ => e1.block k hk⟩
        have HRL : Hid (rows.length ≤ j + 1) := Nat.le_succ_of_le hR.len
        unfold toldCells at hlk HB HSS HST HN HCO HCH
        have HWY : Hid ((wayOf s t).isSome = true) := by have h' : comOk (comTo ls j).1 t = true := HWAY.out; unfold comOk at h'; rw [hz] at h'; exact h'
        have HLO := Lib.hid hR.lenO
        have HLN : Hid ((s.ops.headD []).length ≤ 1000) := by have := hR.lenO _ (mget_mem hsm); show (s.ops.headD []).length ≤ 1000; have h' : (s.ops.headD []).length ≤ j := this; omega
        have HOLD := Lib.hid hR.old
        have HSAME := Lib.hid hR.same
        have HNIL := Lib.hid hR.nilv
        have HLL := Lib.hid hR.lenL
        have hOWN : ∀ g, u3.ownBlock = some g → g < wo.heap.size := fun g hg => (hR.coms.row.lt g hg).2
        have HOWN := Lib.hid hOWN
        have HMBL := Lib.hid hsz
        have mixed : Tryz.prog.follows .mixedOrders = true := by kernel_rfl
        obtain ⟨σ2, rfl⟩ : ∃ σ2, σ2 = σ := ⟨_, rfl⟩
        obtain ⟨rows2, rfl⟩ : ∃ r, r = rows := ⟨_, rfl⟩
        clear hbox e1 hz hss hst hg hsm hOWN
        clear hR
        go_wp2_with fail
        generalize hW : wo.alloc (Obj.cells _ 38) = W at HB HSS HST HN HCO HCH ⊢
        have HWO : Hid (wo.heap.size < W.heap.size) := lt_heap HB.out
        have hsb : sb < W.heap.size := by obtain ⟨_, _, h2, _⟩ := HST.out; exact lt_heap h2
        obtain ⟨q, qc, hsrow, _⟩ := st_cells HST.out
        have g0 := fun n os => (Ext.grown W n os).cell (cellAt HB.out 0)
        have g1 := fun n os => (Ext.grown W n os).cell (cellAt HB.out 1)
        have g2 := fun n os => (Ext.grown W n os).cell (cellAt HB.out 2)
        have g3 := fun n os => (Ext.grown W n os).cell (cellAt HB.out 3)
        have g4 := fun n os => (Ext.grown W n os).cell (cellAt HB.out 4)
        have g5 := fun n os => (Ext.grown W n os).cell (cellAt HB.out 5)
        have g6 := fun n os => (Ext.grown W n os).cell (cellAt HB.out 6)
        have g7 := fun n os => (Ext.grown W n os).cell (cellAt HB.out 7)
        have g8 := fun n os => (Ext.grown W n os).cell (cellAt HB.out 8)
        have g9 := fun n os => (Ext.grown W n os).cell (cellAt HB.out 9)
        have g10 := fun n os => (Ext.grown W n os).cell (cellAt HB.out 10)
        have g11 := fun n os => (Ext.grown W n os).cell (cellAt HB.out 11)
        have g12 := fun n os => (Ext.grown W n os).cell (cellAt HB.out 12)
        have g13 := fun n os => (Ext.grown W n os).cell (cellAt HB.out 13)
        have gs1 := fun n os => (Ext.grown W n os).cell (show W.cell? ⟨sb, 1, none⟩ = some (.int .u64 s.base) by rw [cellAt hsrow 1]; rfl)
        have HOUT : Hid (∀ n os, Calls Tryz.prog 58 #[.pointer (some ⟨sb, 0, none⟩), toldV t] (Sort.grow (W.drewN n) os) fun e w' => e = .returned (.bool (outerB s t)) ∧ ∃ q os', w' = Sort.grow ((Sort.grow (W.drewN n) os).drewN q) os') := fun n os =>
          (outer_any σ2 _ sb s t _ (HST.out.ext (Ext.grown W n os))).mono fun e w' ⟨h1, h2⟩ => ⟨h1, 0, #[.cells (toldCells t).toArray 38], h2.trans (by rw [Sort.alloc_eq_grow]; rfl)⟩
        unfold toldV toldCells at HOUT
        clear hlk d0 d1 d2 d3 d4 d5 d6 d7 d8 d9 d10 d11 d12 d13 hW hsrow
        cases hO : outerB s t with
        | false =>
          rw [hO] at HOUT
          have hcs : (comStep (comTo ls j) t).2 = (comTo ls j).2 := by rw [comStep_2 HZ.out, hO]; rfl
          have HCS := Lib.hid hcs
          clear hO hcs
          refine wp_region_quiet_grown (by assumption) (by kernel_rfl) ?_
          repeat (first | go_big_quiet_step ((go_at_call 58; refine Calls.grown_of (HOUT.out _ _))) | quiet_step ((go_at_call 58; refine Calls.grown_of (HOUT.out _ _))))
          refine wpQuiet_nil ?_
          intro _ hw'
          obtain ⟨⟨nq, osq⟩, hw''⟩ := hw'
          subst hw''
          have EW2 : Hid (Ext W (Sort.grow (W.drewN nq) osq)) := Ext.grown W nq osq
          generalize Sort.grow (W.drewN nq) osq = W2 at EW2 ⊢
          have b0 := EW2.out.cell (cellAt HB.out 0)
          have b1 := EW2.out.cell (cellAt HB.out 1)
          have b2 := EW2.out.cell (cellAt HB.out 2)
          have b3 := EW2.out.cell (cellAt HB.out 3)
          have b4 := EW2.out.cell (cellAt HB.out 4)
          have b5 := EW2.out.cell (cellAt HB.out 5)
          have b6 := EW2.out.cell (cellAt HB.out 6)
          have b7 := EW2.out.cell (cellAt HB.out 7)
          have b8 := EW2.out.cell (cellAt HB.out 8)
          have b9 := EW2.out.cell (cellAt HB.out 9)
          have b10 := EW2.out.cell (cellAt HB.out 10)
          have b11 := EW2.out.cell (cellAt HB.out 11)
          have b12 := EW2.out.cell (cellAt HB.out 12)
          have b13 := EW2.out.cell (cellAt HB.out 13)
          simp [toldCells] at b0 b1 b2 b3 b4 b5 b6 b7 b8 b9 b10 b11 b12 b13
          clear g0 g1 g2 g3 g4 g5 g6 g7 g8 g9 g10 g11 g12 g13 gs1
          have HTK : Hid (Calls Tryz.prog 60 #[.pointer (some ⟨sb, 0, none⟩), toldV t] W2 (TakesPost σ2 (oSt t.pid) sb (stepS s t) W2)) := takes_any σ2 _ sb s t W2 (HN.out.ext EW2.out) (HST.out.ext EW2.out) HWY.out HLN.out
          unfold toldV toldCells at HTK
          go_wp2_with fail
          refine HTK.out.mono ?_
          rintro e w5 ⟨rfl, σ5, h1, h2⟩
          have H1 := Lib.hid h1
          have H2 := Lib.hid h2
          clear h1 h2
          go_wp2_with fail
          go_roundw
          case rel => exact ⟨j + 1, by omega, by go_num, σ5, rows2, L, com_step HSU.out HZ.out HLO.out (HSS.out.ext EW2.out) HRW.out (HN.out.ext EW2.out) HOLD.out (HCH.out.ext EW2.out) (HCO.out.ext EW2.out) (HSAME.out.trans HCS.out.symm) HNIL.out HRL.out (Nat.le_succ_of_le HLL.out) H1.out H2.out⟩
          case measure => simp [intOf]; omega
        | true =>
          rw [hO] at HOUT
          by_cases hbt : s.base < t.txn
          · have hbt' : decide (s.base < t.txn) = true := decide_eq_true hbt
            have hcs : (comStep (comTo ls j) t).2 = (comTo ls j).2 ++ [⟨t.txn, t.frm, s.ops.headD []⟩] := by rw [comStep_2 HZ.out, hO, decide_eq_true hbt]; rfl
            have HCS := Lib.hid hcs
            have HO1 := Lib.hid hO
            clear hO hcs hbt
            refine wp_region_quiet_grown (by assumption) (by kernel_rfl) ?_
            repeat (first | go_big_quiet_step ((go_at_call 58; refine Calls.grown_of (HOUT.out _ _))) | quiet_step ((go_at_call 58; refine Calls.grown_of (HOUT.out _ _))))
            refine wpQuiet_nil ?_
            intro _ hw'
            obtain ⟨⟨nq, osq⟩, hw''⟩ := hw'
            subst hw''
            have EW2 : Hid (Ext W (Sort.grow (W.drewN nq) osq)) := Ext.grown W nq osq
            generalize Sort.grow (W.drewN nq) osq = W2 at EW2 ⊢
            have b0 := EW2.out.cell (cellAt HB.out 0)
            have b1 := EW2.out.cell (cellAt HB.out 1)
            have b2 := EW2.out.cell (cellAt HB.out 2)
            have b3 := EW2.out.cell (cellAt HB.out 3)
            have b4 := EW2.out.cell (cellAt HB.out 4)
            have b5 := EW2.out.cell (cellAt HB.out 5)
            have b6 := EW2.out.cell (cellAt HB.out 6)
            have b7 := EW2.out.cell (cellAt HB.out 7)
            have b8 := EW2.out.cell (cellAt HB.out 8)
            have b9 := EW2.out.cell (cellAt HB.out 9)
            have b10 := EW2.out.cell (cellAt HB.out 10)
            have b11 := EW2.out.cell (cellAt HB.out 11)
            have b12 := EW2.out.cell (cellAt HB.out 12)
            have b13 := EW2.out.cell (cellAt HB.out 13)
            simp [toldCells] at b0 b1 b2 b3 b4 b5 b6 b7 b8 b9 b10 b11 b12 b13
            clear g0 g1 g2 g3 g4 g5 g6 g7 g8 g9 g10 g11 g12 g13 gs1
            have hops1 : s.ops.length = 1 := by have := HO1.out; unfold outerB at this; simp at this; exact this.2
            obtain ⟨row, hrow⟩ : ∃ row, s.ops = [row] := List.length_eq_one_iff.1 hops1
            obtain ⟨g, rowv, k2, k0, hgl, hrw⟩ : ∃ g rowv, W.cell? ⟨sb, 2, none⟩ = some (.slice (some ⟨g, 0, none⟩) 1 1) ∧ W.cell? ⟨g, 0, none⟩ = some rowv ∧ σ2 g = (oSt t.pid, .names) ∧ OpsAt W σ2 (oSt t.pid, .vals []) rowv row := by
              obtain ⟨_, ov, h2, h3⟩ := HST.out
              rcases h3 with ⟨h0, _⟩ | ⟨row', g, rv, b1, rfl, b3, b4, b5⟩
              · rw [h0] at hrow; cases hrow
              · obtain rfl : row' = row := by rw [hrow] at b1; injection b1 with h _; exact h.symm
                exact ⟨g, rv, by rw [cellAt h2 2]; rfl, by rw [cellAt b4 0]; rfl, b3, b5⟩
            have hhd : s.ops.headD [] = row := by rw [hrow]; rfl
            have hrl : row.length ≤ 1000 := by have := HLN.out; rw [hhd] at this; exact this
            have s2 := EW2.out.cell k2
            have s0 := EW2.out.cell k0
            have hne1 : u3.ownBlock ≠ some sb := fun e => by have h1 := HCO.out.own sb e; obtain ⟨h2, _⟩ := HST.out; rw [h2] at h1; unfold oSt other at h1; simp at h1
            have hne2 : u3.ownBlock ≠ some g := fun e => by have h1 := HCO.out.own g e; rw [hgl] at h1; unfold oSt other at h1; simp at h1
            have hne3 : u3.ownBlock ≠ some wo.heap.size := fun e => by have := HOWN.out _ e; omega
            have HCL : Hid (∀ W', Ext W2 W' → Calls Tryz.prog 59 #[rowv] W' fun e w' => ∃ v', e = .returned v' ∧ w'.ownsRow W'.heap.size 30 6 v' row.length (opsCells row) ∧ Ext W' w') := fun W' e => opClone_any rowv row W' (owns_ext hrw.1 (Ext.step EW2.out e)) hrl
            have HX13 := Lib.hid (cellAt HB.out 13)
            have HX8 := Lib.hid (cellAt HB.out 8)
            have HX2 := Lib.hid k2
            have HX0 := Lib.hid k0
            have HNE1 := Lib.hid hne1
            have HNE2 := Lib.hid hne2
            have HNE3 := Lib.hid hne3
            have HHD := Lib.hid hhd
            have hLL := HLL.out
            clear k2 k0 hgl hrw hne1 hne2 hne3 hhd hrow hops1
            go_wp2_with fail
            go_region_held3 (fun w' => w'.cell? ⟨wo.heap.size, 13, none⟩ = some (.int .u64 t.txn) ∧ w'.cell? ⟨wo.heap.size, 8, none⟩ = some (.int .i64 t.frm) ∧ w'.cell? ⟨sb, 2, none⟩ = some (.slice (some ⟨g, 0, none⟩) 1 1) ∧ w'.cell? ⟨g, 0, none⟩ = some rowv)
              (first | exact ⟨b13, b8, s2, s0⟩ | exact K3.out | exact ⟨((Ext.rfl' _).alloc _).cell K3.out.1, ((Ext.rfl' _).alloc _).cell K3.out.2.1, ((Ext.rfl' _).alloc _).cell K3.out.2.2.1, ((Ext.rfl' _).alloc _).cell K3.out.2.2.2⟩ | exact K4.out)
              (first
                | (go_at_call 59; refine (HCL.out _ (by first | exact Ext.rfl' W2 | exact Ext.drewN W2 1)).mono ?_; rintro e w3 ⟨v2, rfl, hown3, hext3⟩
                   obtain ⟨_, p2, cc2, rfl, _, _, _⟩ := Sl.ofOwns hown3
                   have e23 : Ext W2 w3 := by first | exact hext3 | exact Ext.step (Ext.drewN W2 1) hext3
                   have K3 := Lib.hid (And.intro (e23.cell b13) (And.intro (e23.cell b8) (And.intro (e23.cell s2) (e23.cell s0))))
                   have HO3 := Lib.hid hown3
                   have HE3 := Lib.hid e23
                   clear hown3 hext3 e23)
                | (refine step_append_sl _ (by rfl) _ _ _ (by rfl) w1.heap.size commitEl u3 L.length (L.flatMap comCells) (by rfl) (owns_ext HCO.out.row (Ext.alloc (Ext.step EW2.out HE3.out) _)) _ 1 (comCells (⟨t.txn, t.frm, s.ops.headD []⟩, .slice p2 row.length cc2)) (by rfl) (Sl.newN w3 _ _ _ rfl (by omega)) (comCells_one ⟨p2, row.length, cc2, rfl⟩) (by unfold maxLen; omega) (by omega) (by first | exact Nat.le_trans HCH.out.size (Ext.alloc (Ext.step EW2.out HE3.out) _).size | (have := HCH.out.size; have := (Ext.step EW2.out HE3.out).size; simp; omega)) ?_; intro v3 w4 hown4 hgrow4 hat4
                   have hOff : OffOwn u3 W w4 := OffOwn.ofGrown (Ext.alloc (Ext.step EW2.out HE3.out) _) hgrow4
                   have K4 := Lib.hid (And.intro (hOff.cell HNE3.out (HX13.out)) (And.intro (hOff.cell HNE3.out (HX8.out)) (And.intro (hOff.cell HNE1.out (HX2.out)) (hOff.cell HNE2.out (HX0.out)))))
                   have HO4 := Lib.hid hown4
                   have HG4 := Lib.hid hgrow4
                   have HA4 := Lib.hid hat4
                   have HOFF := Lib.hid hOff
                   clear hown4 hgrow4 hat4 hOff))
            have hown3' : ∀ q, u3.ownBlock = some q → σ2 q = other := HCO.out.own
            have hbs : ∀ q, u3.ownBlock = some q → w1.heap.size ≤ q := fun q hq => (HCO.out.row.lt q hq).1
            have HN4 : Hid (Neat w4 σ2) := fun k hk => HN.out k (by have := HOFF.out.size; omega)
            have HST4 : Hid (StIs w4 σ2 (oSt t.pid) sb s) := HST.out.keep (HOFF.out.keep hown3' (p := fun l => l.1 = oSt t.pid) (by unfold oSt other; simp)) rfl rfl rfl
            have HSS4 : Hid (SsAt w4 σ2 w.heap.size rows2 (mupd t.pid s (comTo ls j).1)) := HOFF.out.ss hown3' (fun q => by have := hbs _ q; have := HMBL.out; omega) HSS.out
            have HCH4 : Hid (RowChg w.heap.size w1 w4) := HOFF.out.chg HCH.out hbs
            have HCO4 : Hid (ComsAt w4 σ2 w1.heap.size v3 (L ++ [(⟨t.txn, t.frm, s.ops.headD []⟩, .slice p2 row.length cc2)])) := coms_more HN.out HCO.out EW2.out HE3.out (by show w3.ownsRow _ _ _ _ (s.ops.headD []).length (opsCells (s.ops.headD [])); rw [HHD.out]; exact HO3.out) (Nat.le_refl _) HO4.out HG4.out HA4.out
            have b0' := HOFF.out.cell HNE3.out (cellAt HB.out 0)
            have b1' := HOFF.out.cell HNE3.out (cellAt HB.out 1)
            have b2' := HOFF.out.cell HNE3.out (cellAt HB.out 2)
            have b3' := HOFF.out.cell HNE3.out (cellAt HB.out 3)
            have b4' := HOFF.out.cell HNE3.out (cellAt HB.out 4)
            have b5' := HOFF.out.cell HNE3.out (cellAt HB.out 5)
            have b6' := HOFF.out.cell HNE3.out (cellAt HB.out 6)
            have b7' := HOFF.out.cell HNE3.out (cellAt HB.out 7)
            have b8' := HOFF.out.cell HNE3.out (cellAt HB.out 8)
            have b9' := HOFF.out.cell HNE3.out (cellAt HB.out 9)
            have b10' := HOFF.out.cell HNE3.out (cellAt HB.out 10)
            have b11' := HOFF.out.cell HNE3.out (cellAt HB.out 11)
            have b12' := HOFF.out.cell HNE3.out (cellAt HB.out 12)
            have b13' := HOFF.out.cell HNE3.out (cellAt HB.out 13)
            simp [toldCells] at b0' b1' b2' b3' b4' b5' b6' b7' b8' b9' b10' b11' b12' b13'
            clear b0 b1 b2 b3 b4 b5 b6 b7 b8 b9 b10 b11 b12 b13 s2 s0 hown3' hbs
            have HTK : Hid (Calls Tryz.prog 60 #[.pointer (some ⟨sb, 0, none⟩), toldV t] w4 (TakesPost σ2 (oSt t.pid) sb (stepS s t) w4)) := takes_any σ2 _ sb s t w4 HN4.out HST4.out HWY.out HLN.out
            unfold toldV toldCells at HTK
            go_wp2_with fail
            refine HTK.out.mono ?_
            rintro e w5 ⟨rfl, σ5, h1, h2⟩
            have H1 := Lib.hid h1
            have H2 := Lib.hid h2
            clear h1 h2
            go_wp2_with fail
            go_roundw
            case rel => exact ⟨j + 1, by omega, by go_num, σ5, rows2, _, com_step HSU.out HZ.out HLO.out HSS4.out HRW.out HN4.out HOLD.out HCH4.out HCO4.out (by rw [HCS.out, List.map_append, HSAME.out]; rfl) (fun h => by simp at h) HRL.out (by have := HLL.out; simp; omega) H1.out H2.out⟩
            case measure => simp [intOf]; omega
          · have hbt' : decide (s.base < t.txn) = false := decide_eq_false hbt
            have hcs : (comStep (comTo ls j) t).2 = (comTo ls j).2 := by rw [comStep_2 HZ.out, hO, decide_eq_false hbt]; rfl
            have HCS := Lib.hid hcs
            clear hO hcs hbt
            refine wp_region_quiet_grown (by assumption) (by kernel_rfl) ?_
            repeat (first | go_big_quiet_step ((go_at_call 58; refine Calls.grown_of (HOUT.out _ _))) | quiet_step ((go_at_call 58; refine Calls.grown_of (HOUT.out _ _))))
            refine wpQuiet_nil ?_
            intro _ hw'
            obtain ⟨⟨nq, osq⟩, hw''⟩ := hw'
            subst hw''
            have EW2 : Hid (Ext W (Sort.grow (W.drewN nq) osq)) := Ext.grown W nq osq
            generalize Sort.grow (W.drewN nq) osq = W2 at EW2 ⊢
            have b0 := EW2.out.cell (cellAt HB.out 0)
            have b1 := EW2.out.cell (cellAt HB.out 1)
            have b2 := EW2.out.cell (cellAt HB.out 2)
            have b3 := EW2.out.cell (cellAt HB.out 3)
            have b4 := EW2.out.cell (cellAt HB.out 4)
            have b5 := EW2.out.cell (cellAt HB.out 5)
            have b6 := EW2.out.cell (cellAt HB.out 6)
            have b7 := EW2.out.cell (cellAt HB.out 7)
            have b8 := EW2.out.cell (cellAt HB.out 8)
            have b9 := EW2.out.cell (cellAt HB.out 9)
            have b10 := EW2.out.cell (cellAt HB.out 10)
            have b11 := EW2.out.cell (cellAt HB.out 11)
            have b12 := EW2.out.cell (cellAt HB.out 12)
            have b13 := EW2.out.cell (cellAt HB.out 13)
            simp [toldCells] at b0 b1 b2 b3 b4 b5 b6 b7 b8 b9 b10 b11 b12 b13
            clear g0 g1 g2 g3 g4 g5 g6 g7 g8 g9 g10 g11 g12 g13 gs1
            have HTK : Hid (Calls Tryz.prog 60 #[.pointer (some ⟨sb, 0, none⟩), toldV t] W2 (TakesPost σ2 (oSt t.pid) sb (stepS s t) W2)) := takes_any σ2 _ sb s t W2 (HN.out.ext EW2.out) (HST.out.ext EW2.out) HWY.out HLN.out
            unfold toldV toldCells at HTK
            go_wp2_with fail
            refine HTK.out.mono ?_
            rintro e w5 ⟨rfl, σ5, h1, h2⟩
            have H1 := Lib.hid h1
            have H2 := Lib.hid h2
            clear h1 h2
            go_wp2_with fail
            go_roundw
            case rel => exact ⟨j + 1, by omega, by go_num, σ5, rows2, L, com_step HSU.out HZ.out HLO.out (HSS.out.ext EW2.out) HRW.out (HN.out.ext EW2.out) HOLD.out (HCH.out.ext EW2.out) (HCO.out.ext EW2.out) (HSAME.out.trans HCS.out.symm) HNIL.out HRL.out (Nat.le_succ_of_le HLL.out) H1.out H2.out⟩
            case measure => simp [intOf]; omega
      | none =>
        rw [hg] at hlk
        simp only [Option.getD_none] at hlk
        have hsm : mget t.pid (comTo ls j).1 = none := by
          have := hR.ss.2.2.has (k := t.pid)
          rw [hg] at this
          cases h : mget t.pid (comTo ls j).1 with
          | none => rfl
          | some _ => rw [h] at this; cases this
        obtain ⟨s, hs⟩ : ∃ s : StA, s = ⟨false, 0, []⟩ := ⟨_, rfl⟩
        have hz : (mget t.pid (comTo ls j).1).getD ⟨false, 0, []⟩ = s := by rw [hsm, hs]; rfl
        have hO : outerB s t = false := by rw [hs]; unfold outerB; simp
        have e1 : Ext wo (wo.alloc (.cells (toldCells t).toArray 38)) := (Ext.rfl' wo).alloc _
        have hsz1 : (wo.alloc (.cells (toldCells t).toArray 38)).heap.size = wo.heap.size + 1 := by simp
        obtain ⟨W, hr, hM2, ht2⟩ := (hR.ss.1.ext (Ext.alloc e1 (.cells #[.bool false, .int .u64 0, .slice none 0 0] 125))).store (t := 121) (e := 122) keyedI Tryz.underlying121 (by have := hR.len; unfold maxLen; omega) (keyI hp1 hp2) (.pointer (some ⟨(wo.alloc (.cells (toldCells t).toArray 38)).heap.size, 0, none⟩))
        have hnew := SsAt.new hR.neat hR.ss e1 hM2 ht2
        have hkk := hR.ss.newKeep (l := (oSt t.pid, .top)) e1 ht2
        have hWs : W.heap.size = wo.heap.size + 2 := by rw [(Only.ofMap ht2).size]; simp
        have hmbl : w.heap.size < wo.heap.size := hR.ss.1.lt
        have hbox : W.heap[wo.heap.size]? = some (.cells (toldCells t).toArray 38 (0, 0)) := by
          rw [(Only.ofMap ht2).block _ (by omega), ((Ext.rfl' (wo.alloc (.cells (toldCells t).toArray 38))).alloc _).block _ (by omega)]; exact heap_new wo _
        rw [hsz1] at hnew hkk
        rw [← hs] at hnew
        obtain ⟨σ2, hσ2⟩ : ∃ σ2, σ2 = lay σ (wo.heap.size + 1) (oSt t.pid, .top) := ⟨_, rfl⟩
        obtain ⟨rows2, hrows2⟩ : ∃ r, r = mput t.pid (.pointer (some ⟨wo.heap.size + 1, 0, none⟩)) rows := ⟨_, rfl⟩
        have hr2 : mget t.pid rows2 = some (.pointer (some ⟨wo.heap.size + 1, 0, none⟩)) := by rw [hrows2]; exact mget_put_same _ _ _
        have hrl2 : rows2.length ≤ j + 1 := by rw [hrows2]; have := length_mput t.pid (.pointer (some ⟨wo.heap.size + 1, 0, none⟩)) rows; have := hR.len; omega
        rw [← hσ2, ← hrows2] at hnew
        rw [← hσ2] at hkk
        obtain ⟨sb, hsbE⟩ : ∃ sb, sb = wo.heap.size + 1 := ⟨_, rfl⟩
        rw [← hsbE] at hnew hr2
        have hmu : mupd t.pid s (comTo ls j).1 = mput t.pid s (comTo ls j).1 := by unfold mupd; rw [hsm]; rfl
        have HB := Lib.hid hbox
        have HZ := Lib.hid hz
        have HSS : Hid (SsAt W σ2 w.heap.size rows2 (mupd t.pid s (comTo ls j).1)) := by show SsAt _ _ _ _ _; rw [hmu]; exact hnew.1
        have HRW := Lib.hid hr2
        have HST := Lib.hid hnew.2.2
        have HN := Lib.hid hnew.2.1
        have HCO := Lib.hid (hR.coms.keep hkk)
        have HCH : Hid (RowChg w.heap.size w1 W) := ⟨(Only.ofMap ht2).os.trans hR.chg.os, (Only.ofMap ht2).tape.trans hR.chg.tape, (Only.ofMap ht2).output.trans hR.chg.output, by have := hR.chg.size; omega, fun k hk hne => by
          rw [(Only.ofMap ht2).block k hne, (Ext.alloc e1 _).block k (by have := hR.chg.size; omega)]; exact hR.chg.block k hk hne⟩
        have HRL := Lib.hid hrl2
        have HWY : Hid ((wayOf s t).isSome = true) := by have h' : comOk (comTo ls j).1 t = true := HWAY.out; unfold comOk at h'; rw [hz] at h'; exact h'
        have HLO := Lib.hid hR.lenO
        have HLN : Hid ((s.ops.headD []).length ≤ 1000) := by show (s.ops.headD []).length ≤ 1000; rw [hs]; simp
        have HOLD : Hid (∀ k, k < w1.heap.size → (σ2 k).1 = 0) := fun k hk => by rw [hσ2, lay_other (by have := hR.chg.size; omega)]; exact hR.old k hk
        have HSAME := Lib.hid hR.same
        have HNIL := Lib.hid hR.nilv
        have HLL := Lib.hid hR.lenL
        have mixed : Tryz.prog.follows .mixedOrders = true := by kernel_rfl
        rw [hsz1] at hr
        rw [← hsbE] at hr
        have HSB : Hid (sb = wo.heap.size + 1) := hsbE
        unfold toldCells at hlk hr
        clear hR hbox e1 hz hg hsm hM2 ht2 hnew hkk hWs hmbl hσ2 hrows2 hr2 hrl2 hmu hs hsz1
        subst hsbE
        go_wp2_with fail
        generalize wo.heap.size + 1 = sb at HSS HRW HST HSB ⊢
        have HWO : Hid (wo.heap.size < W.heap.size) := lt_heap HB.out
        have hsb : sb < W.heap.size := by obtain ⟨_, _, h2, _⟩ := HST.out; exact lt_heap h2
        obtain ⟨q, qc, hsrow, _⟩ := st_cells HST.out
        have g0 := fun n os => (Ext.grown W n os).cell (cellAt HB.out 0)
        have g1 := fun n os => (Ext.grown W n os).cell (cellAt HB.out 1)
        have g2 := fun n os => (Ext.grown W n os).cell (cellAt HB.out 2)
        have g3 := fun n os => (Ext.grown W n os).cell (cellAt HB.out 3)
        have g4 := fun n os => (Ext.grown W n os).cell (cellAt HB.out 4)
        have g5 := fun n os => (Ext.grown W n os).cell (cellAt HB.out 5)
        have g6 := fun n os => (Ext.grown W n os).cell (cellAt HB.out 6)
        have g7 := fun n os => (Ext.grown W n os).cell (cellAt HB.out 7)
        have g8 := fun n os => (Ext.grown W n os).cell (cellAt HB.out 8)
        have g9 := fun n os => (Ext.grown W n os).cell (cellAt HB.out 9)
        have g10 := fun n os => (Ext.grown W n os).cell (cellAt HB.out 10)
        have g11 := fun n os => (Ext.grown W n os).cell (cellAt HB.out 11)
        have g12 := fun n os => (Ext.grown W n os).cell (cellAt HB.out 12)
        have g13 := fun n os => (Ext.grown W n os).cell (cellAt HB.out 13)
        have gs1 := fun n os => (Ext.grown W n os).cell (show W.cell? ⟨sb, 1, none⟩ = some (.int .u64 s.base) by rw [cellAt hsrow 1]; rfl)
        have HOUT : Hid (∀ n os, Calls Tryz.prog 58 #[.pointer (some ⟨sb, 0, none⟩), toldV t] (Sort.grow (W.drewN n) os) fun e w' => e = .returned (.bool (outerB s t)) ∧ ∃ q os', w' = Sort.grow ((Sort.grow (W.drewN n) os).drewN q) os') := fun n os =>
          (outer_any σ2 _ sb s t _ (HST.out.ext (Ext.grown W n os))).mono fun e w' ⟨h1, h2⟩ => ⟨h1, 0, #[.cells (toldCells t).toArray 38], h2.trans (by rw [Sort.alloc_eq_grow]; rfl)⟩
        unfold toldV toldCells at HOUT
        clear hlk d0 d1 d2 d3 d4 d5 d6 d7 d8 d9 d10 d11 d12 d13 hr hsrow
        rw [hO] at HOUT
        have hcs : (comStep (comTo ls j) t).2 = (comTo ls j).2 := by rw [comStep_2 HZ.out, hO]; rfl
        have HCS := Lib.hid hcs
        clear hO hcs
        refine wp_region_quiet_grown (by assumption) (by kernel_rfl) ?_
        repeat (first | go_big_quiet_step ((go_at_call 58; refine Calls.grown_of (HOUT.out _ _))) | quiet_step ((go_at_call 58; refine Calls.grown_of (HOUT.out _ _))))
        refine wpQuiet_nil ?_
        intro _ hw'
        obtain ⟨⟨nq, osq⟩, hw''⟩ := hw'
        subst hw''
        have EW2 : Hid (Ext W (Sort.grow (W.drewN nq) osq)) := Ext.grown W nq osq
        generalize Sort.grow (W.drewN nq) osq = W2 at EW2 ⊢
        have b0 := EW2.out.cell (cellAt HB.out 0)
        have b1 := EW2.out.cell (cellAt HB.out 1)
        have b2 := EW2.out.cell (cellAt HB.out 2)
        have b3 := EW2.out.cell (cellAt HB.out 3)
        have b4 := EW2.out.cell (cellAt HB.out 4)
        have b5 := EW2.out.cell (cellAt HB.out 5)
        have b6 := EW2.out.cell (cellAt HB.out 6)
        have b7 := EW2.out.cell (cellAt HB.out 7)
        have b8 := EW2.out.cell (cellAt HB.out 8)
        have b9 := EW2.out.cell (cellAt HB.out 9)
        have b10 := EW2.out.cell (cellAt HB.out 10)
        have b11 := EW2.out.cell (cellAt HB.out 11)
        have b12 := EW2.out.cell (cellAt HB.out 12)
        have b13 := EW2.out.cell (cellAt HB.out 13)
        simp [toldCells] at b0 b1 b2 b3 b4 b5 b6 b7 b8 b9 b10 b11 b12 b13
        clear g0 g1 g2 g3 g4 g5 g6 g7 g8 g9 g10 g11 g12 g13 gs1
        have HTK : Hid (Calls Tryz.prog 60 #[.pointer (some ⟨sb, 0, none⟩), toldV t] W2 (TakesPost σ2 (oSt t.pid) sb (stepS s t) W2)) := takes_any σ2 _ sb s t W2 (HN.out.ext EW2.out) (HST.out.ext EW2.out) HWY.out HLN.out
        unfold toldV toldCells at HTK
        go_wp2_with fail
        refine HTK.out.mono ?_
        rintro e w5 ⟨rfl, σ5, h1, h2⟩
        have H1 := Lib.hid h1
        have H2 := Lib.hid h2
        clear h1 h2
        go_wp2_with fail
        go_roundw
        case rel => exact ⟨j + 1, by omega, by go_num, σ5, rows2, L, com_step HSU.out HZ.out HLO.out (HSS.out.ext EW2.out) HRW.out (HN.out.ext EW2.out) HOLD.out (HCH.out.ext EW2.out) (HCO.out.ext EW2.out) (HSAME.out.trans HCS.out.symm) HNIL.out HRL.out (Nat.le_succ_of_le HLL.out) H1.out H2.out⟩
        case measure => simp [intOf]; omega
    · obtain rfl : j = ls.length := by omega
      have hfold : comTo ls ls.length = comFold (orderA l) := by unfold comTo comFold; rw [List.take_length, HLS.out]
      have hxx := HX2.out
      cases hL : L with
      | nil =>
        have hv := hR.nilv hL
        subst hv
        have HFIN : Hid (Comms wo (.slice none 0 0) (commitsA l) ∧ Ext w wo) := by
          have hs := hR.same
          rw [hL, hfold] at hs
          refine ⟨⟨[], ?_, Sl.ofOwns (owns_nil wo 0 87 3), by intro p hp; cases hp⟩, RowChg.fresh hxx hR.chg (Nat.le_refl _)⟩
          have hs' : (comFold (orderA l)).2 = [] := hs.symm
          unfold commitsA
          rw [hs', orderC_nil]
          rfl
        clear hR hL hfold hxx
        go_wp2_with fail
        refine (com_sort_nil _).mono ?_
        rintro e w2 ⟨rfl, rfl⟩
        go_wp2_with fail
        go_ret
        exact ⟨_, rfl, HFIN.out⟩
      | cons x r =>
        obtain ⟨E, hE⟩ := pairs_of hR.coms
        have hlen : L.length = E.length := by rw [hE]; simp
        have hpos : 0 < E.length := by rw [← hlen, hL]; simp
        have hle : E.length ≤ 20 := by have := hR.lenL; omega
        obtain ⟨g, cap, hv⟩ : ∃ g cap, u3 = .slice (some ⟨g, 0, none⟩) E.length cap := by
          rcases hR.coms.row.2 with ⟨_, h⟩ | ⟨g, cap, cur, h, _⟩
          · omega
          · exact ⟨g, cap, by rw [h, hlen]⟩
        subst hv
        have hrow := hR.coms.row
        rw [hE, List.length_map, pairs_flat] at hrow
        have hK := holdsK_of comEC 3 comEC_len (by omega) hrow
        have hsort := com_sort g cap E.toArray wo hK (hrow.lt g rfl).2 (by simpa using hle)
        rw [List.size_toArray] at hsort
        have HSORT := Lib.hid hsort
        have HFIN : Hid (∀ w2, HoldsK comEC 3 w2 g 0 (Sort.insertionSort (ltOf cmpE) E.toArray 0 E.length) → RowChg g wo w2 → Comms w2 (.slice (some ⟨g, 0, none⟩) E.length cap) (commitsA l) ∧ Ext w w2) := fun w2 h1 h2 =>
          coms_sorted hxx hsz hR.chg (by have := hR.coms; rw [hE] at this; exact this) (by have := hR.same; rw [hE, hfold] at this; exact this) h1 h2
        clear hR hL hfold hxx hE hlen hrow hK hsort
        go_wp2_with fail
        refine HSORT.out.mono ?_
        rintro e w2 ⟨rfl, h1, h2⟩
        have HF2 := Lib.hid (HFIN.out _ h1 h2)
        clear h1 h2
        go_wp2_with fail
        go_ret
        exact ⟨_, rfl, HF2.out⟩

set_option maxHeartbeats 1000000 in
set_option maxRecDepth 100000 in
theorem commits_nil (w : World) : Calls Tryz.prog 35 #[.slice none 0 0] w (ComPost [] w) := by
  have hm1 : ∀ w, (Instr.makeMap 121 none).run Tryz.prog w = .ok (.map (some w.heap.size)) (w.alloc (.map #[] 0)) := fun w => run_makeMap _ w
  have HF : Hid (ComPost [] w (.returned (.slice none 0 0)) (w.alloc (.map #[] 0))) := ⟨_, rfl, ⟨[], commitsA_nil.symm, Sl.ofOwns (owns_nil _ 0 87 3), by intro p hp; cases hp⟩, (Ext.rfl' w).alloc _⟩
  go_enter Tryz.func35, Tryz.ntmps35
  go_wp2_with fail
  refine (ordered_nil _).mono ?_
  rintro e w2 ⟨rfl, rfl⟩
  go_wp2_with fail
  refine wp_loop_rounds 1 ?_
  rw [rounds_succ]
  go_wp2_with fail
  refine (com_sort_nil _).mono ?_
  rintro e w2 ⟨rfl, rfl⟩
  go_wp2_with fail
  go_ret
  exact HF.out
end Go.Proofs.YtmkhjmldncegcaaGreatDoor

/-
  WALKS: past.Versions.
-/
set_option linter.unusedVariables false
set_option linter.unusedSimpArgs false
namespace Go.Proofs.YtmkhjmldncegcaaGreatDoor
open Go.RowKit Go.Maps Go.ChangeMaps Go.MapKept Go.Sort

def plays (A : ModA) (l : List OpA) : ModA := l.foldl (fun A op => (doA A op).1) A
def dupB (cs : List ComA) (i : Nat) (c : ComA) : Bool := match cs[i + 1]? with | some d => d.txn == c.txn | none => false
def verStep (cs : List ComA) (i : Nat) (a : List (Nat × ModA)) : List (Nat × ModA) :=
  match cs[i]? with
  | none => a
  | some c => match mget (c.txn - 1) a with
    | none => a
    | some A => if dupB cs i c then a else mput c.txn (lostA (plays A c.ops)) a
def verTo (cs : List ComA) : Nat → List (Nat × ModA)
  | 0 => [(1, newA)]
  | i + 1 => verStep cs i (verTo cs i)
def versA (l : List ToldA) : List (Nat × ModA) := verTo (commitsA l) (commitsA l).length

/-- What may be asked. -/
def OpOk (o : OpA) : Prop := o.db.length ≤ maxLen ∧ o.key.length ≤ maxLen
def ComOk (c : ComA) : Prop := 2 ≤ c.txn ∧ c.txn < 18446744073709551616 ∧ c.ops.length ≤ 1000 ∧ ∀ o ∈ c.ops, OpOk o

theorem sound_plays {A : ModA} {m : Nat} (h : Sound A m) : ∀ (l : List OpA), (∀ o ∈ l, OpOk o) → Sound (plays A l) (m + l.length)
  | [], _ => h
  | o :: r, hl => by
    have h1 := sound_plays (A := (doA A o).1) (sound_do h o (hl o (by simp)).1) r fun x hx => hl x (by simp [hx])
    have e : m + 1 + r.length = m + (o :: r).length := by simp; omega
    rw [e] at h1
    exact h1

theorem keyedU : Keyed Tryz.prog 36 := int_keyed Tryz.underlying36
theorem keyU {n : Nat} (h : n < 18446744073709551616) : keyOf Tryz.prog 36 (.int .u64 n) = some (Ky.lit n) :=
  keyOf_int_mk Tryz.underlying36 (WalkArith.wf_u64 ⟨by omega, by omega⟩)

/-- The versions, by the map. -/
def VsAt (w : World) (σ : Sig) (mb : Nat) (rows : List (Nat × Value)) (vs : List (Nat × ModA)) : Prop :=
  MapOf w 36 mb rows ∧ σ mb = mapLab ∧ Beside (fun n v A => ModAt w σ (oVe n) v A) rows vs
theorem VsAt.ext {w w' : World} {σ : Sig} {mb : Nat} {rows : List (Nat × Value)} {vs : List (Nat × ModA)} (h : VsAt w σ mb rows vs) (e : Ext w w') : VsAt w' σ mb rows vs :=
  ⟨h.1.ext e, h.2.1, h.2.2.imp fun _ _ _ hs => hs.ext e⟩
theorem oVe_ne {a b : Nat} (h : a ≠ b) : oVe a ≠ oVe b := fun e => h (by unfold oVe at e; omega)
theorem oVe_0 (a : Nat) : oVe a ≠ 0 := by unfold oVe; omega
/-- A step of an owner that is none of these. -/
theorem VsAt.moved {w w' : World} {σ σ' : Sig} {mb i : Nat} {rows : List (Nat × Value)} {vs : List (Nat × ModA)} (h : VsAt w σ mb rows vs) (m : Moved σ i w σ' w') (hi : i ≠ 0) (hv : ∀ n, oVe n ≠ i) : VsAt w' σ' mb rows vs := by
  have hl := h.1.lt
  refine ⟨h.1.same (m.turn.block mb hl (by rw [h.2.1]; exact fun e => hi e.symm)), by rw [m.ext mb hl]; exact h.2.1, h.2.2.imp fun n v A ha => ha.keep (Keep.ofMoved m (hv n))⟩

set_option maxHeartbeats 400000 in
theorem new_lab (σ : Sig) (i : Nat) (w : World) (hn : Neat w σ) :
    Calls Tryz.prog 7 #[] w fun e w' => ∃ pv, e = .returned pv ∧ ∃ σ', ModAt w' σ' i pv newA ∧ Ext w w' ∧ SigExt w σ σ' ∧ Neat w' σ' ∧ ∀ k, (σ' k).1 = i ∨ σ' k = σ k := by
  have hm1 : ∀ w, (Instr.makeMap 59 none).run Tryz.prog w = .ok (.map (some w.heap.size)) (w.alloc (.map #[] 0)) := fun w => run_makeMap _ w
  have hm2 : ∀ w, (Instr.makeMap 56 none).run Tryz.prog w = .ok (.map (some w.heap.size)) (w.alloc (.map #[] 0)) := fun w => run_makeMap _ w
  obtain ⟨W3, hW3⟩ : ∃ W3, W3 = ((w.alloc (.map #[] 0)).alloc (.map #[] 0)).alloc (.cells #[.int .i64 0, .map (some (w.heap.size + 1))] 58 (0, 0)) := ⟨_, rfl⟩
  have hM : MapOf (κ := S) W3 9 w.heap.size [] := by
    rw [hW3]; exact (MapOf.made w 9).ext (((Ext.rfl' _).alloc _).alloc _)
  obtain ⟨w4, hr, hM4, ht4⟩ := hM.store (t := 59) (e := 55) keyedS Tryz.underlying59 (by simp [maxLen]) (k := []) (key := encStr []) (keyS (by simp)) (.pointer (some ⟨w.heap.size + 2, 0, none⟩))
  rw [hW3] at hr
  clear hM
  have HM := Lib.hid hM4
  have HT := Lib.hid ht4
  have HW := Lib.hid hW3
  clear hM4 ht4 hW3
  go_enter Tryz.func7, Tryz.ntmps7
  go_wp2
  go_ret
  have hM4 := HM.out
  have ht4 := HT.out
  have hW3 := HW.out
  have s3 : W3.heap.size = w.heap.size + 3 := by rw [hW3]; simp
  have s4 : w4.heap.size = w.heap.size + 3 := by rw [mapTurned_size ht4, s3]
  have e3 : Ext w W3 := by rw [hW3]; exact (((Ext.rfl' w).alloc _).alloc _).alloc _
  have e4 : Ext w w4 := below_map e3 ht4 (Nat.le_refl _) (by omega)
  have hb3 : W3.heap[w.heap.size + 2]? = some (.cells #[.int .i64 0, .map (some (w.heap.size + 1))] 58 (0, 0)) := by
    have := heap_new ((w.alloc (.map #[] 0)).alloc (.map #[] 0)) (.cells #[.int .i64 0, .map (some (w.heap.size + 1))] 58 (0, 0))
    rw [hW3]
    simpa using this
  have hm3 : MapOf (κ := S) W3 9 (w.heap.size + 1) [] := by
    have := (MapOf.made (κ := S) (w.alloc (.map #[] 0)) 9).ext ((Ext.rfl' _).alloc (.cells #[.int .i64 0, .map (some (w.heap.size + 1))] 58 (0, 0)))
    rw [hW3]
    simpa using this
  have e5 : ∀ o, Ext w4 (w4.alloc o) := fun o => (Ext.rfl' w4).alloc o
  refine ⟨_, rfl, lay (lay (lay (lay σ w.heap.size (i, .names)) (w.heap.size + 1) (i, .vals [])) (w.heap.size + 2) (i, .base [])) w4.heap.size (i, .top), ⟨w4.heap.size, w.heap.size, _, rfl, lay_same _ _ _, heap_new _ _, ?_, hM4.ext (e5 _), ?_⟩, e4.alloc _, ?_, ?_, ?_⟩
  · rw [lay_other (by omega), lay_other (by omega), lay_other (by omega), lay_same]
  · refine Beside.cons ⟨w.heap.size + 2, w.heap.size + 1, [], rfl, ?_, ?_, ?_, ?_, .nil⟩ .nil
    · rw [lay_other (by omega), lay_same]
    · rw [(e5 _).block _ (by omega), mapTurned_other ht4 (by omega)]; exact hb3
    · rw [lay_other (by omega), lay_other (by omega), lay_same]
    · exact (hm3.same (mapTurned_other ht4 (by omega))).ext (e5 _)
  · intro k hk
    rw [lay_other (by omega), lay_other (by omega), lay_other (by omega), lay_other (by omega)]
  · intro k hk
    simp at hk
    rw [lay_other (by omega), lay_other (by omega), lay_other (by omega), lay_other (by omega)]
    exact hn k (by omega)
  · intro k
    unfold lay
    split
    · exact .inl rfl
    split
    · exact .inl rfl
    split
    · exact .inl rfl
    split
    · exact .inl rfl
    · exact .inr rfl

theorem op_at : ∀ {l : List OpA} {j : Nat} {o : OpA}, l[j]? = some o → ∀ {k : Nat}, k < 6 → (opsCells l)[j * 6 + k]? = (opCells o).toList[k]?
  | [], j, t, h, k, hk => by simp at h
  | a :: r, 0, t, h, k, hk => by
    simp at h; subst h
    show (List.flatMap _ (a :: r))[0 * 6 + k]? = _
    rw [List.flatMap_cons, Nat.zero_mul, Nat.zero_add, List.getElem?_append_left (by rw [opCells_len]; exact hk)]
  | a :: r, j + 1, t, h, k, hk => by
    show (List.flatMap _ (a :: r))[(j + 1) * 6 + k]? = _
    rw [List.flatMap_cons, List.getElem?_append_right (by rw [opCells_len]; omega), opCells_len, show (j + 1) * 6 + k - 6 = j * 6 + k by omega]
    exact op_at (by simpa using h) hk

/-- What the loop over the commits keeps. -/
structure VerRel (w2 : World) (σ2 : Sig) (cs : List ComA) (i mb : Nat) (wr : World) (σ : Sig) (rows : List (Nat × Value)) : Prop where
  chg : RowChg mb w2 wr
  sig : SigExt w2 σ2 σ
  neat : Neat wr σ
  vs : VsAt wr σ mb rows (verTo cs i)
  len : rows.length ≤ i + 1
  sound : ∀ n A, (n, A) ∈ verTo cs i → Sound A (1000 * i)

theorem com_at : ∀ {L : List (ComA × Value)} {j : Nat} {p : ComA × Value}, L[j]? = some p → ∀ {k : Nat}, k < 3 → (L.flatMap comCells)[j * 3 + k]? = (comCells p)[k]?
  | [], j, t, h, k, hk => by simp at h
  | a :: r, 0, t, h, k, hk => by
    simp at h; subst h
    rw [List.flatMap_cons, Nat.zero_mul, Nat.zero_add, List.getElem?_append_left (by rw [comCells_len]; exact hk)]
  | a :: r, j + 1, t, h, k, hk => by
    rw [List.flatMap_cons, List.getElem?_append_right (by rw [comCells_len]; omega), comCells_len, show (j + 1) * 3 + k - 3 = j * 3 + k by omega]
    exact com_at (by simpa using h) hk

theorem VerRel.same {w2 wr wr' : World} {σ2 σ : Sig} {cs : List ComA} {i mb : Nat} {rows : List (Nat × Value)} (h : VerRel w2 σ2 cs i mb wr σ rows) (e : Ext wr wr') (hs : verTo cs (i + 1) = verTo cs i) : VerRel w2 σ2 cs (i + 1) mb wr' σ rows :=
  ⟨h.chg.ext e, h.sig, h.neat.ext e, by rw [hs]; exact h.vs.ext e, Nat.le_succ_of_le h.len, fun n A hm => by rw [hs] at hm; exact (h.sound n A hm).more (by omega)⟩

/-- Behind a commit that counts. -/
theorem ver_step {w3 wo w4 w5 w6 : World} {σ1 σa σc σ5 : Sig} {cs : List ComA} {cc : ComA} {j n mb pbM mbM : Nat} {rows : List (Nat × Value)} {bases' : List (S × Value)} {A : ModA} (hR : VerRel w3 σ1 cs j mb wo σa rows) (hcc : cs[j]? = some cc) (hn : cc.txn = n + 1)
    (hA : mget n (verTo cs j) = some A) (hnd : dupB cs j cc = false) (hold : ∀ k n, k < w3.heap.size → 2 ≤ n → (σ1 k).1 ≠ oVe n) (h1n : 1 ≤ n) (e4 : Ext wo w4) (s4 : SigExt wo σa σc) (m5 : Moved σc (oVe (n + 1)) w4 σ5 w5)
    (hI : ModIs w5 σ5 (oVe (n + 1)) pbM mbM bases' (lostA (plays A cc.ops))) (hM6 : MapOf w6 36 mb (mput (n + 1) (.pointer (some ⟨pbM, 0, none⟩)) rows)) (ht : w5.mapTurned w6 mb) (hops : ∀ o ∈ cc.ops, OpOk o) (hl : cc.ops.length ≤ 1000) :
    VerRel w3 σ1 cs (j + 1) mb w6 σ5 (mput (n + 1) (.pointer (some ⟨pbM, 0, none⟩)) rows) := by
  have hv : verTo cs (j + 1) = mput (n + 1) (lostA (plays A cc.ops)) (verTo cs j) := by
    show verStep cs j (verTo cs j) = _
    unfold verStep
    rw [hcc]
    simp only []
    rw [hn, Nat.add_sub_cancel, hA]
    simp only []
    rw [if_neg (by rw [hnd]; simp)]
  have o6 := Only.ofMap ht
  have z1 := hR.chg.size
  have z2 := e4.size
  have z3 := m5.turn.size
  have z4 : w6.heap.size = w5.heap.size := o6.size
  have hmbl : mb < wo.heap.size := hR.vs.1.lt
  have hs : ∀ k, k < wo.heap.size → σ5 k = σa k := fun k hk => by rw [m5.ext k (by omega), s4 k hk]
  have hmb5 : σ5 mb = mapLab := by rw [hs mb hmbl]; exact hR.vs.2.1
  refine ⟨⟨o6.os.trans (m5.turn.os.trans (e4.os.trans hR.chg.os)), o6.tape.trans (m5.turn.tape.trans (e4.tape.trans hR.chg.tape)), o6.output.trans (m5.turn.output.trans (e4.output.trans hR.chg.output)), by omega, fun k hk hne => ?_⟩, fun k hk => by rw [hs k (by omega), hR.sig k hk], fun k hk => m5.neat k (by omega), ⟨hM6, hmb5, ?_⟩, by have := length_mput (n + 1) (Value.pointer (some ⟨pbM, 0, none⟩)) rows; have := hR.len; omega, fun n' A' hm => ?_⟩
  · rw [o6.block k hne, m5.turn.block k (by omega) (by rw [s4 k (by omega), hR.sig k hk]; exact hold k (n + 1) hk (by omega)), e4.block k (by omega), hR.chg.block k hk hne]
  · rw [hv]
    have hIM : ModIs w6 σ5 (oVe (n + 1)) pbM mbM bases' (lostA (plays A cc.ops)) := hI.only o6 (by rw [hmb5]; exact fun e => oVe_0 _ e.symm)
    refine Beside.put' (fun n' a b hne hb => ?_) ⟨pbM, mbM, bases', rfl, hIM⟩ hR.vs.2.2
    have k1 : Keep (fun l => l.1 = oVe n') σa wo σc w4 := fun k hk _ => ⟨e4.block k hk, s4 k hk⟩
    have k2 : Keep (fun l => l.1 = oVe n') σc w4 σ5 w5 := Keep.ofMoved m5 (oVe_ne hne)
    have k3 : Keep (fun l => l.1 = oVe n') σ5 w5 σ5 w6 := Keep.ofOnly o6 (by rw [hmb5]; exact fun e => oVe_0 _ e.symm)
    exact hb.keep (k1.trans z2 (k2.trans z3 k3))
  · rw [hv] at hm
    rcases mem_mput hm with e | hm
    · injection e with _ e
      rw [e]
      exact ((sound_plays (hR.sound n A (mget_mem hA)) cc.ops hops).more (by omega)).lost
    · exact (hR.sound n' A' hm).more (by omega)

def VerPost (σ : Sig) (l : List ToldA) (w : World) (e : Ending) (w' : World) : Prop :=
  ∃ mb σ' rows, e = .returned (.map (some mb)) ∧ VsAt w' σ' mb rows (versA l) ∧ Ext w w' ∧ SigExt w σ σ' ∧ Neat w' σ'

set_option maxHeartbeats 4000000 in
set_option maxRecDepth 100000 in
theorem vers_any (σ : Sig) (v : Value) (l : List ToldA) (w : World) (hn : Neat w σ) (hg : Ground σ w) (hfree : ∀ k n, (σ k).1 ≠ oVe n) (hcs : ∀ c ∈ commitsA l, ComOk c) (hlen : (commitsA l).length ≤ 20)
    (hcom : ∀ W, Ext w W → Calls Tryz.prog 35 #[v] W (ComPost l W)) :
    Calls Tryz.prog 16 #[v] w (VerPost σ l w) := by
  have hm1 : ∀ w, (Instr.makeMap 41 none).run Tryz.prog w = .ok (.map (some w.heap.size)) (w.alloc (.map #[] 0)) := fun w => run_makeMap _ w
  have HN := Lib.hid (new_lab (lay σ w.heap.size mapLab) (oVe 1) (w.alloc (.map #[] 0)) (fun k hk => by simp at hk; rw [lay_other (by omega)]; exact hn k (by omega)))
  have HCOM := Lib.hid hcom
  have HG := Lib.hid hg
  have HCS := Lib.hid hcs
  obtain ⟨cs, hcse⟩ : ∃ cs, commitsA l = cs := ⟨_, rfl⟩
  have HCE : Hid (cs = commitsA l) := hcse.symm
  rw [hcse] at HCS hlen
  clear hcom hg hcs hcse
  go_enter Tryz.func16, Tryz.ntmps16
  go_wp2_with fail
  go_step3
  go_wp2_with fail
  refine HN.out.mono ?_
  rintro e w1 ⟨pv, rfl, σ1, hM1, hx1, hs1, hn1, hlb1⟩
  obtain ⟨pb1, mbm1, bases1, rfl, hI1⟩ := hM1
  have hMA : MapOf (κ := Nat) w1 36 w.heap.size [] := (MapOf.made (κ := Nat) w 36).ext hx1
  obtain ⟨w2, hr2, hM2, ht2⟩ := hMA.store (t := 41) (e := 24) keyedU Tryz.underlying41 (by simp [maxLen]) (key := .int .u64 1) (k := (1 : Nat)) (keyU (n := 1) (by omega)) (.pointer (some ⟨pb1, 0, none⟩))
  have hsz0 : w.heap.size < w1.heap.size := hMA.lt
  have o2 := Only.ofMap ht2
  have ew2 : Ext w w2 := Ext.only (Ext.step ((Ext.rfl' w).alloc _) hx1) o2 (Nat.le_refl _)
  have hlab : σ1 w.heap.size = mapLab := by rw [hs1 _ (by simp)]; exact lay_same _ _ _
  have hvs2 : VsAt w2 σ1 w.heap.size (mput 1 (.pointer (some ⟨pb1, 0, none⟩)) []) [(1, newA)] := by
    refine ⟨hM2, hlab, .cons ⟨pb1, mbm1, bases1, rfl, hI1.only o2 (by rw [hlab]; exact fun e => oVe_0 1 e.symm)⟩ .nil⟩
  have hn2 : Neat w2 σ1 := fun k hk => hn1 k (by rw [← o2.size]; exact hk)
  have hsig2 : SigExt w σ σ1 := fun k hk => by rw [hs1 k (by simp; omega), lay_other (by omega)]
  have HCC := Lib.hid (HCOM.out w2 ew2)
  have HVS2 := Lib.hid hvs2
  have HN2 := Lib.hid hn2
  have HSIG2 := Lib.hid hsig2
  have HEW2 := Lib.hid ew2
  have HO2 := Lib.hid o2
  have HX1 := Lib.hid hx1
  have HS1 := Lib.hid hs1
  have hszz : w.heap.size < w2.heap.size := by rw [o2.size]; exact hsz0
  clear hMA hM2 ht2 o2 ew2 hlab hvs2 hn2 hsig2 hx1 hs1 hn1 hI1
  go_wp2_with fail
  refine HCC.out.mono ?_
  rintro e w3 ⟨va, rfl, hcm, hx3⟩
  rw [← HCE.out] at hcm
  obtain ⟨L, hL, hsl, hops⟩ := hcm
  have hll : L.length = cs.length := by rw [← hL]; simp
  obtain ⟨_, p, c, rfl, hc1, hc2, hcells⟩ := hsl
  have hrel0 : VerRel w3 σ1 cs 0 w.heap.size w3 σ1 (mput 1 (.pointer (some ⟨pb1, 0, none⟩)) []) :=
    ⟨⟨rfl, rfl, rfl, Nat.le_refl _, fun _ _ _ => rfl⟩, fun _ _ => rfl, HN2.out.ext hx3, HVS2.out.ext hx3, by have := length_mput 1 (Value.pointer (some ⟨pb1, 0, none⟩)) ([] : List (Nat × Value)); simpa using this, fun n A h => by simp [verTo] at h; rw [h.2]; exact sound_new⟩
  have hold3 : ∀ k n, k < w3.heap.size → 2 ≤ n → (σ1 k).1 ≠ oVe n := fun k n hk h2 => by
    rcases hlb1 k with h | h
    · rw [h]; exact oVe_ne (by omega)
    · rw [h]
      by_cases hk0 : k = w.heap.size
      · rw [hk0, lay_same]; exact fun e => oVe_0 n e.symm
      · rw [lay_other hk0]; exact hfree k n
  have HR0 := Lib.hid hrel0
  have HOLD3 := Lib.hid hold3
  have HL := Lib.hid hL
  have HOPS := Lib.hid hops
  have HCELLS := Lib.hid hcells
  have HX3 := Lib.hid hx3
  rw [hll] at hc1 ⊢
  have HLL := Lib.hid hll
  clear hL hll hops hcells hx3 hrel0 hold3 hlb1
  go_wp2_with fail
  go_step3
  go_wp2_with fail
  go_loopg [18] cs.length (fun g i wr => ∃ j : Nat, j ≤ cs.length ∧ cs.length - j ≤ g ∧ i = .int .i64 j ∧ ∃ σ rows, VerRel w3 σ1 cs j w.heap.size wr σ rows)
  case atStart => exact ⟨0, by omega, by omega, rfl, _, _, HR0.out⟩
  case round =>
    obtain ⟨j, hj, hg, rfl, σa, rows, hR⟩ := hrel
    obtain ⟨wo, rfl⟩ : ∃ wo : World, wo = wr := ⟨_, rfl⟩
    have HR := Lib.hid hR
    by_cases hlt : j < cs.length
    · obtain ⟨b, off, rfl, hcells⟩ := HCELLS.out (by rw [HLL.out]; omega)
      obtain ⟨cm, hcj⟩ : ∃ cm, L[j]? = some cm := ⟨_, List.getElem?_eq_getElem (by rw [HLL.out]; exact hlt)⟩
      obtain ⟨cc, cv⟩ := cm
      have hcc : cs[j]? = some cc := by rw [← HL.out, List.getElem?_map, hcj]; rfl
      obtain ⟨ct1, ct2, cl, cok⟩ := HCS.out cc (List.mem_of_getElem? hcc)
      have hmbc : ∀ {a : Addr} {u : Value}, w3.cell? a = some u → wo.cell? a = some u := fun {a} {u} hc => by
        obtain ⟨es, clock, hmb3⟩ : ∃ es clock, w3.heap[w.heap.size]? = some (.map es clock) := by
          obtain ⟨es, clock, hmb, _⟩ := HVS2.out.1
          exact ⟨es, clock, by rw [HX3.out.block _ hszz]; exact hmb⟩
        exact hR.chg.cell hmb3 hc
      have d0 : wo.cell? ⟨b, off + j * 3, none⟩ = some (.int .u64 cc.txn) := hmbc (hcells (j * 3) _ (by have := com_at hcj (k := 0) (by omega); rw [Nat.add_zero] at this; rw [this]; rfl))
      have d1 : wo.cell? ⟨b, off + j * 3 + 1, none⟩ = some (.int .i64 cc.frm) := by rw [Nat.add_assoc]; exact hmbc (hcells _ _ (by rw [com_at hcj (k := 1) (by omega)]; rfl))
      have d2 : wo.cell? ⟨b, off + j * 3 + 2, none⟩ = some cv := by rw [Nat.add_assoc]; exact hmbc (hcells _ _ (by rw [com_at hcj (k := 2) (by omega)]; rfl))
      obtain ⟨n, hn1⟩ : ∃ n, cc.txn = n + 1 := ⟨cc.txn - 1, by omega⟩
      have hbn : n < 18446744073709551615 := by omega
      have h1n : 1 ≤ n := by omega
      have hlk := fun o => (hR.vs.1.ext ((Ext.rfl' wo).alloc o)).look1 (t := 41) (e := 24) keyedU Tryz.underlying41 (z := .pointer none) (Tryz.zeroValue24 _) (k := n) (keyU (by omega))
      have e0 : wo.cell? ⟨b, off + j * 3, none⟩ = some (.int .u64 ((n : Int) + 1)) := by rw [d0, hn1]; rfl
      have hco : Sl w3 6 cv cc.ops.length (opsCells cc.ops) := HOPS.out _ (List.mem_of_getElem? hcj)
      obtain ⟨hofl, op0, oc0, rfl, ho1, ho2, hocells⟩ := hco
      have hvt : verTo cs (j + 1) = verStep cs j (verTo cs j) := rfl
      cases hA : mget n (verTo cs j) with
      | none =>
        have hst : verTo cs (j + 1) = verTo cs j := by rw [hvt]; unfold verStep; rw [hcc]; simp only []; rw [hn1, Nat.add_sub_cancel, hA]
        have hrow : mget n rows = none := hR.vs.2.2.get_none hA
        rw [hrow] at hlk
        simp only [Option.getD_none] at hlk
        have HST := Lib.hid hst
        clear hR d0 hst hrow hvt hA hocells hofl hcells
        go_wp2_with fail
        go_quiet (fail)
        go_wp2_with fail
        go_roundg (cs.length - (j + 1))
        case measure => omega
        case rel => exact ⟨j + 1, by omega, by omega, by go_num, σa, rows, HR.out.same (Ext.step ((Ext.rfl' wo).alloc _) (Ext.drewN _ _)) HST.out⟩
      | some A =>
        obtain ⟨av, hrow, pbA, mbA, basesA, rfl, hIA⟩ := hR.vs.2.2.get_some hA
        rw [hrow] at hlk
        simp only [Option.getD_some] at hlk
        have hways : (j + 1 < cs.length ∧ ∃ cn, cs[j + 1]? = some cn ∧ (cn.txn == cc.txn) = true) ∨ (j + 1 < cs.length ∧ ∃ cn, cs[j + 1]? = some cn ∧ (cn.txn == cc.txn) = false) ∨ j + 1 = cs.length := by
          by_cases h : j + 1 < cs.length
          · obtain ⟨cn, hcn⟩ : ∃ cn, cs[j + 1]? = some cn := ⟨_, List.getElem?_eq_getElem h⟩
            cases hq : (cn.txn == cc.txn) with
            | true => exact .inl ⟨h, cn, hcn, hq⟩
            | false => exact .inr (.inl ⟨h, cn, hcn, hq⟩)
          · exact .inr (.inr (by omega))
        have hnext : ∀ cn, cs[j + 1]? = some cn → wo.cell? ⟨b, off + (j + 1) * 3, none⟩ = some (.int .u64 cn.txn) := fun cn hcn => by
          obtain ⟨pm, hpm⟩ : ∃ pm, L[j + 1]? = some pm := ⟨_, List.getElem?_eq_getElem (by rw [HLL.out]; exact (List.getElem?_eq_some_iff.1 hcn).1)⟩
          have h1 : pm.1 = cn := by rw [← HL.out, List.getElem?_map, hpm] at hcn; injection hcn
          have := hmbc (hcells ((j + 1) * 3) _ (by have := com_at hpm (k := 0) (by omega); rw [Nat.add_zero] at this; rw [this]; rfl))
          rw [this, h1]
        rcases hways with ⟨hlt1, cn, hcn, heq⟩ | hrest
        · have hst : verTo cs (j + 1) = verTo cs j := by rw [hvt]; unfold verStep; rw [hcc]; simp only []; rw [hn1, Nat.add_sub_cancel, hA]; simp only []; rw [if_pos (by unfold dupB; rw [hcn]; exact heq)]
          have e1 := fun o => ((Ext.rfl' wo).alloc o).cell (hnext cn hcn)
          have hq : (cn.txn == n + 1) = true := by rw [← hn1]; exact heq
          have HST := Lib.hid hst
          clear hR d0 hst hrow hvt hA hocells hofl hcells hnext hcn heq hn1 hIA
          have k1 : IntKind.i64.wrap ((j : Int) + 1) = (j : Int) + 1 := IntWalk.i64_in _ (by omega)
          have k2 : (0 : Int) ≤ (j : Int) + 1 := by omega
          have k3 : ((j : Int) + 1).toNat = j + 1 := by omega
          have k4 : (j : Int) + 1 < (cs.length : Int) := by omega
          have k5 : decide (j + 1 < cs.length) = true := decide_eq_true hlt1
          go_wp2_with fail
          go_quiet (fail)
          clear k1 k3
          go_wp2_with fail
          go_roundg (cs.length - (j + 1))
          case measure => omega
          case rel => exact ⟨j + 1, by omega, by omega, by go_num, σa, rows, HR.out.same (Ext.step ((Ext.rfl' wo).alloc _) (Ext.drewN _ _)) HST.out⟩
        · have hdup : dupB cs j cc = false := by
            rcases hrest with ⟨_, cn, hcn, heq⟩ | h
            · unfold dupB; rw [hcn]; exact heq
            · unfold dupB; rw [List.getElem?_eq_none (by omega)]
          have HDUP := Lib.hid hdup
          have HCC2 := Lib.hid hcc
          have HN1 := Lib.hid hn1
          have HA2 := Lib.hid hA
          have HIA := Lib.hid hIA
          have HOC := Lib.hid hocells
          have HOK := Lib.hid cok
          have HMBC : Hid (∀ (a : Addr) (u : Value), w3.cell? a = some u → wo.cell? a = some u) := fun a u h => hmbc h
          have k1 : IntKind.i64.wrap ((j : Int) + 1) = (j : Int) + 1 := IntWalk.i64_in _ (by omega)
          have k2 : (0 : Int) ≤ (j : Int) + 1 := by omega
          have k3 : ((j : Int) + 1).toNat = j + 1 := by omega
          have HK1 := Lib.hid k1
          have HK3 := Lib.hid k3
          have hneq : ∀ cn, cs[j + 1]? = some cn → (cn.txn == cc.txn) = false → (cn.txn == n + 1) = false := fun cn _ h => by rw [← hn1]; exact h
          clear hR d0 hvt hA hocells hofl hcells hIA hn1 cok hdup hcc
          rcases hrest with ⟨hlt1, cn, hcn, heq⟩ | hlast
          · have e1 := fun o => ((Ext.rfl' wo).alloc o).cell (hnext cn hcn)
            have hq := hneq cn hcn heq
            have k4 : (j : Int) + 1 < (cs.length : Int) := by omega
            have k5 : decide (j + 1 < cs.length) = true := decide_eq_true hlt1
            clear hnext hneq hcn heq
            go_wp2_with fail
            go_quiet (fail)
            generalize hWq : World.drewN (wo.alloc (Obj.cells _ 87)) nq = Wq
            have EWQ : Ext wo Wq := by rw [← hWq]; exact Ext.step ((Ext.rfl' wo).alloc _) (Ext.drewN _ _)
            have hbx : Wq.heap[wo.heap.size]? = some (.cells #[.int .u64 ((n : Int) + 1), .int .i64 cc.frm, .slice op0 cc.ops.length oc0] 87 (0, 0)) := by rw [← hWq]; exact heap_new wo _
            have HCP := Lib.hid (copy_any σa (oVe n) (oVe (n + 1)) pbA mbA basesA A Wq (1000 * j) (HIA.out.ext EWQ) (HR.out.neat.ext EWQ) (HR.out.sound n A (mget_mem HA2.out)) (by omega))
            have HEWQ := Lib.hid EWQ
            have HBX := Lib.hid hbx
            clear hWq EWQ hbx d1 d2 e0 hlk k1 k3
            go_wp2_with fail
            refine HCP.out.mono ?_
            rintro e w4 ⟨pv, rfl, σc, hM4, hx4, hs4, hn4⟩
            obtain ⟨pbM, mbM, basesM, rfl, hI4⟩ := hM4
            have hbx4 := (hx4.block _ (lt_heap HBX.out)).trans HBX.out
            have b2 := cellAt hbx4 2
            simp at b2
            have HBX4 := Lib.hid hbx4
            have HX4 := Lib.hid (Ext.step HEWQ.out hx4)
            have HS4 : Hid (SigExt wo σa σc) := fun k hk => hs4 k (by have := HEWQ.out.size; omega)
            have HSB : Hid (σc wo.heap.size = other) := by show _ = _; rw [hs4 _ (lt_heap HBX.out)]; exact HR.out.neat _ (Nat.le_refl _)
            have HN4 := Lib.hid hn4
            have HI4 := Lib.hid hI4
            have HG4 : Hid (Ground σc w4) := by
              have g0 := HG.out
              have z1 := HX3.out.size
              have z2 := HR.out.chg.size
              have z3 := HEW2.out.size
              have c0 := HX4.out.cell (HMBC.out _ _ (HX3.out.cell (HEW2.out.cell g0.1)))
              refine ⟨c0, ?_⟩
              have h0 := g0.lt
              rw [HS4.out 0 (by omega), HR.out.sig 0 (by omega), HSIG2.out 0 h0]; exact g0.2
            clear hx4 hs4 hn4 hI4 hbx4
            go_wp2_with fail
            go_loopg [53] cc.ops.length (fun g i wr => ∃ k : Nat, k ≤ cc.ops.length ∧ cc.ops.length - k ≤ g ∧ i = .int .i64 k ∧ ∃ σk basesK, ModIs wr σk (oVe (n + 1)) pbM mbM basesK (plays A (cc.ops.take k)) ∧ Moved σc (oVe (n + 1)) w4 σk wr)
            case atStart => exact ⟨0, by omega, by omega, rfl, σc, basesM, by simpa [plays] using HI4.out, Moved.refl HN4.out _⟩
            case round =>
              obtain ⟨k, hk, hgk, rfl, σk, basesK, hIk, hMk⟩ := hrel
              obtain ⟨wk, rfl⟩ : ∃ wk : World, wk = wr := ⟨_, rfl⟩
              have HIK := Lib.hid hIk
              have HMK := Lib.hid hMk
              by_cases hkl : k < cc.ops.length
              · obtain ⟨ob, ooff, rfl, hoc⟩ := HOC.out (by omega)
                obtain ⟨o, hko⟩ : ∃ o, cc.ops[k]? = some o := ⟨_, List.getElem?_eq_getElem hkl⟩
                have hcell : ∀ q u, q < 6 → (opCells o).toList[q]? = some u → wk.cell? ⟨ob, ooff + k * 6 + q, none⟩ = some u := fun q u hq hu => by
                  have c3 := hoc (k * 6 + q) u (by rw [op_at hko hq]; exact hu)
                  rw [← Nat.add_assoc] at c3
                  have hob : ob < w3.heap.size := lt_of_cell c3
                  have c4 := HX4.out.cell (HMBC.out _ _ c3)
                  rw [World.cell?_of_block (w := w4) (w' := wk) (a := ⟨ob, ooff + k * 6 + q, none⟩) (hMk.turn.block ob (lt_of_cell c4) (by have := HR.out.chg.size; rw [HS4.out ob (by omega), HR.out.sig ob hob]; exact HOLD3.out ob (n + 1) hob (by omega)))]
                  exact c4
                have q0 := hcell 0 _ (by omega) rfl
                have q1 := hcell 1 _ (by omega) rfl
                have q2 := hcell 2 _ (by omega) rfl
                have q3 := hcell 3 _ (by omega) rfl
                have q4 := hcell 4 _ (by omega) rfl
                have q5 := hcell 5 _ (by omega) rfl
                simp only [Nat.add_zero] at q0
                have hook := HOK.out o (List.mem_of_getElem? hko)
                have HDO : Hid (Calls Tryz.prog 10 #[.pointer (some ⟨pbM, 0, none⟩), opV o] (wk.alloc (.cells (opCells o) 30)) (DoPost σk (oVe (n + 1)) pbM mbM (doA (plays A (cc.ops.take k)) o).1 (doA (plays A (cc.ops.take k)) o).2 (wk.alloc (.cells (opCells o) 30)))) :=
                  do_any σk (oVe (n + 1)) pbM mbM basesK _ o _ (1000 * j + k) (hIk.ext ((Ext.rfl' wk).alloc _)) (hMk.neat.ext ((Ext.rfl' wk).alloc _)) (by
                    have := sound_plays (HR.out.sound n A (mget_mem HA2.out)) (cc.ops.take k) (fun x hx => HOK.out x (List.mem_of_mem_take hx))
                    rw [List.length_take, Nat.min_eq_left hk] at this
                    exact this) (by omega) hook.1 hook.2 (oVe_0 _) ((HG4.out.moved hMk (oVe_0 _)).ext ((Ext.rfl' wk).alloc _))
                have HSU : Hid (plays A (cc.ops.take (k + 1)) = (doA (plays A (cc.ops.take k)) o).1) := by
                  show _ = _
                  have : cc.ops.take (k + 1) = cc.ops.take k ++ [o] := by rw [List.take_succ_eq_append_getElem hkl]; rw [List.getElem?_eq_getElem hkl] at hko; injection hko with hko; rw [hko]
                  rw [this]
                  unfold plays
                  rw [List.foldl_append]; rfl
                unfold opV opCells at HDO
                clear hoc hcell hko hIk hMk
                go_wp2_with fail
                refine HDO.out.mono ?_
                rintro e w6 ⟨rfl, σ6, bases6, hI6, hM6⟩
                have HI6 := Lib.hid hI6
                have HM6 := Lib.hid hM6
                clear hI6 hM6
                go_wp2_with fail
                go_roundg (cc.ops.length - (k + 1))
                case measure => omega
                case rel => exact ⟨k + 1, by omega, by omega, by go_num, σ6, bases6, by rw [HSU.out]; exact HI6.out, (HMK.out.thenExt ((Ext.rfl' wk).alloc _)).trans HM6.out⟩
              · obtain rfl : k = cc.ops.length := by omega
                have HLO := Lib.hid fun (W : World) (hx : Ext wk W) => lost_any σk (oVe (n + 1)) pbM mbM basesK (plays A (cc.ops.take cc.ops.length)) W (hIk.ext hx) (hMk.neat.ext hx)
                clear hIk hMk
                go_wp2_with fail
                refine (HLO.out _ (by first | exact Ext.rfl' wk | exact Ext.drewN wk _)).mono ?_
                rintro e w6 ⟨rfl, hI6, hM6⟩
                have hM46 := HMK.out.trans hM6
                have hbx6 : w6.heap[wo.heap.size]? = some (.cells #[.int .u64 ((n : Int) + 1), .int .i64 cc.frm, .slice op0 cc.ops.length oc0] 87 (0, 0)) := by
                  rw [hM46.turn.block _ (lt_heap HBX4.out) (by rw [HSB.out]; exact fun e => oVe_0 _ e.symm)]
                  exact HBX4.out
                have b0 := cellAt hbx6 0
                simp at b0
                have hMw : MapOf w6 36 w.heap.size rows := by
                  have hm := HR.out.vs
                  have h4 := hm.1.ext HX4.out
                  exact h4.same (hM46.turn.block _ h4.lt (by rw [HS4.out _ hm.1.lt, hm.2.1]; exact fun e => oVe_0 _ e.symm))
                obtain ⟨w7, hr7, hM7, ht7⟩ := hMw.store (t := 41) (e := 24) keyedU Tryz.underlying41 (by have := HR.out.len; unfold maxLen; omega) (key := .int .u64 ((n : Int) + 1)) (k := n + 1) (keyU (n := n + 1) (by omega)) (.pointer (some ⟨pbM, 0, none⟩))
                have hfin := ver_step HR.out HCC2.out HN1.out HA2.out HDUP.out HOLD3.out h1n HX4.out HS4.out hM46 (by rw [List.take_length] at hI6; exact hI6) hM7 ht7 HOK.out cl
                have HFIN := Lib.hid hfin
                clear hI6 hM6 hM46 hbx6 hMw hM7 ht7 hfin
                go_wp2_with fail
                go_roundg (cs.length - (j + 1))
                case measure => omega
                case rel => exact ⟨j + 1, by omega, by omega, by go_num, _, _, HFIN.out⟩
          · have k5 : decide (j + 1 < cs.length) = false := decide_eq_false (by omega)
            have k6 : decide ((j : Int) + 1 < (cs.length : Int)) = false := decide_eq_false (by omega)
            have HLAST := Lib.hid hlast
            clear hnext hneq hlast
            go_wp2_with fail
            go_quiet (fail)
            generalize hWq : World.drewN (wo.alloc (Obj.cells _ 87)) nq = Wq
            have EWQ : Ext wo Wq := by rw [← hWq]; exact Ext.step ((Ext.rfl' wo).alloc _) (Ext.drewN _ _)
            have hbx : Wq.heap[wo.heap.size]? = some (.cells #[.int .u64 ((n : Int) + 1), .int .i64 cc.frm, .slice op0 cc.ops.length oc0] 87 (0, 0)) := by rw [← hWq]; exact heap_new wo _
            have HCP := Lib.hid (copy_any σa (oVe n) (oVe (n + 1)) pbA mbA basesA A Wq (1000 * j) (HIA.out.ext EWQ) (HR.out.neat.ext EWQ) (HR.out.sound n A (mget_mem HA2.out)) (by omega))
            have HEWQ := Lib.hid EWQ
            have HBX := Lib.hid hbx
            clear hWq EWQ hbx d1 d2 e0 hlk k1 k3
            go_wp2_with fail
            refine HCP.out.mono ?_
            rintro e w4 ⟨pv, rfl, σc, hM4, hx4, hs4, hn4⟩
            obtain ⟨pbM, mbM, basesM, rfl, hI4⟩ := hM4
            have hbx4 := (hx4.block _ (lt_heap HBX.out)).trans HBX.out
            have b2 := cellAt hbx4 2
            simp at b2
            have HBX4 := Lib.hid hbx4
            have HX4 := Lib.hid (Ext.step HEWQ.out hx4)
            have HS4 : Hid (SigExt wo σa σc) := fun k hk => hs4 k (by have := HEWQ.out.size; omega)
            have HSB : Hid (σc wo.heap.size = other) := by show _ = _; rw [hs4 _ (lt_heap HBX.out)]; exact HR.out.neat _ (Nat.le_refl _)
            have HN4 := Lib.hid hn4
            have HI4 := Lib.hid hI4
            have HG4 : Hid (Ground σc w4) := by
              have g0 := HG.out
              have z1 := HX3.out.size
              have z2 := HR.out.chg.size
              have z3 := HEW2.out.size
              have c0 := HX4.out.cell (HMBC.out _ _ (HX3.out.cell (HEW2.out.cell g0.1)))
              refine ⟨c0, ?_⟩
              have h0 := g0.lt
              rw [HS4.out 0 (by omega), HR.out.sig 0 (by omega), HSIG2.out 0 h0]; exact g0.2
            clear hx4 hs4 hn4 hI4 hbx4
            go_wp2_with fail
            go_loopg [53] cc.ops.length (fun g i wr => ∃ k : Nat, k ≤ cc.ops.length ∧ cc.ops.length - k ≤ g ∧ i = .int .i64 k ∧ ∃ σk basesK, ModIs wr σk (oVe (n + 1)) pbM mbM basesK (plays A (cc.ops.take k)) ∧ Moved σc (oVe (n + 1)) w4 σk wr)
            case atStart => exact ⟨0, by omega, by omega, rfl, σc, basesM, by simpa [plays] using HI4.out, Moved.refl HN4.out _⟩
            case round =>
              obtain ⟨k, hk, hgk, rfl, σk, basesK, hIk, hMk⟩ := hrel
              obtain ⟨wk, rfl⟩ : ∃ wk : World, wk = wr := ⟨_, rfl⟩
              have HIK := Lib.hid hIk
              have HMK := Lib.hid hMk
              by_cases hkl : k < cc.ops.length
              · obtain ⟨ob, ooff, rfl, hoc⟩ := HOC.out (by omega)
                obtain ⟨o, hko⟩ : ∃ o, cc.ops[k]? = some o := ⟨_, List.getElem?_eq_getElem hkl⟩
                have hcell : ∀ q u, q < 6 → (opCells o).toList[q]? = some u → wk.cell? ⟨ob, ooff + k * 6 + q, none⟩ = some u := fun q u hq hu => by
                  have c3 := hoc (k * 6 + q) u (by rw [op_at hko hq]; exact hu)
                  rw [← Nat.add_assoc] at c3
                  have hob : ob < w3.heap.size := lt_of_cell c3
                  have c4 := HX4.out.cell (HMBC.out _ _ c3)
                  rw [World.cell?_of_block (w := w4) (w' := wk) (a := ⟨ob, ooff + k * 6 + q, none⟩) (hMk.turn.block ob (lt_of_cell c4) (by have := HR.out.chg.size; rw [HS4.out ob (by omega), HR.out.sig ob hob]; exact HOLD3.out ob (n + 1) hob (by omega)))]
                  exact c4
                have q0 := hcell 0 _ (by omega) rfl
                have q1 := hcell 1 _ (by omega) rfl
                have q2 := hcell 2 _ (by omega) rfl
                have q3 := hcell 3 _ (by omega) rfl
                have q4 := hcell 4 _ (by omega) rfl
                have q5 := hcell 5 _ (by omega) rfl
                simp only [Nat.add_zero] at q0
                have hook := HOK.out o (List.mem_of_getElem? hko)
                have HDO : Hid (Calls Tryz.prog 10 #[.pointer (some ⟨pbM, 0, none⟩), opV o] (wk.alloc (.cells (opCells o) 30)) (DoPost σk (oVe (n + 1)) pbM mbM (doA (plays A (cc.ops.take k)) o).1 (doA (plays A (cc.ops.take k)) o).2 (wk.alloc (.cells (opCells o) 30)))) :=
                  do_any σk (oVe (n + 1)) pbM mbM basesK _ o _ (1000 * j + k) (hIk.ext ((Ext.rfl' wk).alloc _)) (hMk.neat.ext ((Ext.rfl' wk).alloc _)) (by
                    have := sound_plays (HR.out.sound n A (mget_mem HA2.out)) (cc.ops.take k) (fun x hx => HOK.out x (List.mem_of_mem_take hx))
                    rw [List.length_take, Nat.min_eq_left hk] at this
                    exact this) (by omega) hook.1 hook.2 (oVe_0 _) ((HG4.out.moved hMk (oVe_0 _)).ext ((Ext.rfl' wk).alloc _))
                have HSU : Hid (plays A (cc.ops.take (k + 1)) = (doA (plays A (cc.ops.take k)) o).1) := by
                  show _ = _
                  have : cc.ops.take (k + 1) = cc.ops.take k ++ [o] := by rw [List.take_succ_eq_append_getElem hkl]; rw [List.getElem?_eq_getElem hkl] at hko; injection hko with hko; rw [hko]
                  rw [this]
                  unfold plays
                  rw [List.foldl_append]; rfl
                unfold opV opCells at HDO
                clear hoc hcell hko hIk hMk
                go_wp2_with fail
                refine HDO.out.mono ?_
                rintro e w6 ⟨rfl, σ6, bases6, hI6, hM6⟩
                have HI6 := Lib.hid hI6
                have HM6 := Lib.hid hM6
                clear hI6 hM6
                go_wp2_with fail
                go_roundg (cc.ops.length - (k + 1))
                case measure => omega
                case rel => exact ⟨k + 1, by omega, by omega, by go_num, σ6, bases6, by rw [HSU.out]; exact HI6.out, (HMK.out.thenExt ((Ext.rfl' wk).alloc _)).trans HM6.out⟩
              · obtain rfl : k = cc.ops.length := by omega
                have HLO := Lib.hid fun (W : World) (hx : Ext wk W) => lost_any σk (oVe (n + 1)) pbM mbM basesK (plays A (cc.ops.take cc.ops.length)) W (hIk.ext hx) (hMk.neat.ext hx)
                clear hIk hMk
                go_wp2_with fail
                refine (HLO.out _ (by first | exact Ext.rfl' wk | exact Ext.drewN wk _)).mono ?_
                rintro e w6 ⟨rfl, hI6, hM6⟩
                have hM46 := HMK.out.trans hM6
                have hbx6 : w6.heap[wo.heap.size]? = some (.cells #[.int .u64 ((n : Int) + 1), .int .i64 cc.frm, .slice op0 cc.ops.length oc0] 87 (0, 0)) := by
                  rw [hM46.turn.block _ (lt_heap HBX4.out) (by rw [HSB.out]; exact fun e => oVe_0 _ e.symm)]
                  exact HBX4.out
                have b0 := cellAt hbx6 0
                simp at b0
                have hMw : MapOf w6 36 w.heap.size rows := by
                  have hm := HR.out.vs
                  have h4 := hm.1.ext HX4.out
                  exact h4.same (hM46.turn.block _ h4.lt (by rw [HS4.out _ hm.1.lt, hm.2.1]; exact fun e => oVe_0 _ e.symm))
                obtain ⟨w7, hr7, hM7, ht7⟩ := hMw.store (t := 41) (e := 24) keyedU Tryz.underlying41 (by have := HR.out.len; unfold maxLen; omega) (key := .int .u64 ((n : Int) + 1)) (k := n + 1) (keyU (n := n + 1) (by omega)) (.pointer (some ⟨pbM, 0, none⟩))
                have hfin := ver_step HR.out HCC2.out HN1.out HA2.out HDUP.out HOLD3.out h1n HX4.out HS4.out hM46 (by rw [List.take_length] at hI6; exact hI6) hM7 ht7 HOK.out cl
                have HFIN := Lib.hid hfin
                clear hI6 hM6 hM46 hbx6 hMw hM7 ht7 hfin
                go_wp2_with fail
                go_roundg (cs.length - (j + 1))
                case measure => omega
                case rel => exact ⟨j + 1, by omega, by omega, by go_num, _, _, HFIN.out⟩
    · obtain rfl : j = cs.length := by omega
      have HFIN : Hid (VerPost σ l w (.returned (.map (some w.heap.size))) wo) := by
        refine ⟨w.heap.size, σa, rows, rfl, ?_, RowChg.fresh (Ext.step HEW2.out HX3.out) hR.chg (Nat.le_refl _), fun k hk => ?_, hR.neat⟩
        · have := hR.vs
          unfold versA
          rw [← HCE.out]
          exact this
        · have z1 := HX3.out.size
          have z2 := HEW2.out.size
          rw [hR.sig k (by omega), HSIG2.out k hk]
      clear hR
      go_wp2_with fail
      rw [Exit.noGoto_ret]
      go_ret
      exact HFIN.out
end Go.Proofs.YtmkhjmldncegcaaGreatDoor

/-
  WALKS: past.told.
-/
set_option linter.unusedVariables false
set_option linter.unusedSimpArgs false
namespace Go.Proofs.YtmkhjmldncegcaaGreatDoor
open Go.RowKit Go.Maps Go.ChangeMaps Go.MapKept Go.Sort

def toldB (frm : Int) (t : ToldA) : Bool := decide (t.op.kind = 6) && decide (0 < t.till) && decide (t.till < frm) && decide (t.rep.code = 0)
def toldStep (frm : Int) (n : Nat) (t : ToldA) : Nat := if toldB frm t then max n t.txn else n
def toldA (l : List ToldA) (frm : Int) : Nat := l.foldl (toldStep frm) 0
def toldTo (l : List ToldA) (frm : Int) (j : Nat) : Nat := (l.take j).foldl (toldStep frm) 0
theorem toldTo_succ {l : List ToldA} {frm : Int} {j : Nat} {t : ToldA} (h : l[j]? = some t) : toldTo l frm (j + 1) = toldStep frm (toldTo l frm j) t := by
  obtain ⟨hj, e⟩ := List.getElem?_eq_some_iff.1 h
  unfold toldTo
  rw [List.take_succ_eq_append_getElem hj, List.foldl_append, e]; rfl

set_option maxHeartbeats 4000000 in
set_option maxRecDepth 100000 in
theorem told_any (v : Value) (l : List ToldA) (frm : Int) (w : World) (h : Tolds w v l) (hl : l.length ≤ 1000) (ht : ∀ t ∈ l, t.txn < 18446744073709551616) :
    Calls Tryz.prog 69 #[v, .int .i64 frm] w fun e w' => e = .returned (.int .u64 (toldA l frm)) ∧ Ext w w' := by
  obtain ⟨hfl, p, c, rfl, hc1, hc2, hcells⟩ := h
  have HC := Lib.hid hcells
  have HT := Lib.hid ht
  clear hcells hfl ht
  go_enter Tryz.func69, Tryz.ntmps69
  go_wp2_with fail
  go_loopw [5, 10] (fun n i wr => ∃ j : Nat, j ≤ l.length ∧ i = .int .i64 j ∧ n = .int .u64 (toldTo l frm j) ∧ Ext w wr) (fun _ i _ => l.length - (intOf i).toNat)
  case atStart => exact ⟨0, by omega, rfl, rfl, Ext.rfl' _⟩
  case round =>
    obtain ⟨j, hj, rfl, rfl, hx⟩ := hrel
    obtain ⟨wo, rfl⟩ : ∃ wo : World, wo = wr := ⟨_, rfl⟩
    have HX := Lib.hid hx
    by_cases hlt : j < l.length
    · obtain ⟨b, off, rfl, hcells⟩ := HC.out (by omega)
      obtain ⟨t, htj⟩ : ∃ t, l[j]? = some t := ⟨_, List.getElem?_eq_getElem hlt⟩
      have hcell : ∀ k u, k < 14 → (toldCells t)[k]? = some u → wo.cell? ⟨b, off + j * 14 + k, none⟩ = some u := fun k u hk hu => by
        rw [Nat.add_assoc]
        exact hx.cell (hcells _ _ (by rw [told_at htj hk]; exact hu))
      have d0 := hcell 0 _ (by omega) rfl
      have d1 := hcell 1 _ (by omega) rfl
      have d2 := hcell 2 _ (by omega) rfl
      have d3 := hcell 3 _ (by omega) rfl
      have d4 := hcell 4 _ (by omega) rfl
      have d5 := hcell 5 _ (by omega) rfl
      have d6 := hcell 6 _ (by omega) rfl
      have d7 := hcell 7 _ (by omega) rfl
      have d8 := hcell 8 _ (by omega) rfl
      have d9 := hcell 9 _ (by omega) rfl
      have d10 := hcell 10 _ (by omega) rfl
      have d11 := hcell 11 _ (by omega) rfl
      have d12 := hcell 12 _ (by omega) rfl
      have d13 := hcell 13 _ (by omega) rfl
      simp only [Nat.add_zero] at d0
      have HSU := Lib.hid (toldTo_succ (frm := frm) htj)
      have htx := HT.out t (List.mem_of_getElem? htj)
      clear hcells hcell htj hx
      generalize toldTo l frm j = n at HSU ⊢
      have hways : (((t.op.kind == 6) = true ∧ decide (0 < t.till) = true ∧ decide (t.till < frm) = true ∧ (t.rep.code == 0) = true) ∧ toldB frm t = true) ∨
          (((t.op.kind == 6) = false ∨ ((t.op.kind == 6) = true ∧ decide (0 < t.till) = false) ∨ ((t.op.kind == 6) = true ∧ decide (0 < t.till) = true ∧ decide (t.till < frm) = false) ∨ ((t.op.kind == 6) = true ∧ decide (0 < t.till) = true ∧ decide (t.till < frm) = true ∧ (t.rep.code == 0) = false)) ∧ toldB frm t = false) := by
        unfold toldB
        rw [show decide (t.op.kind = 6) = (t.op.kind == 6) from rfl, show decide (t.rep.code = 0) = (t.rep.code == 0) from rfl]
        cases (t.op.kind == 6) <;> cases decide (0 < t.till) <;> cases decide (t.till < frm) <;> cases (t.rep.code == 0) <;> simp
      rcases hways with ⟨⟨p1, p2, p3, p4⟩, hB⟩ | ⟨hr, hB⟩
      · have HS2 : Hid (toldTo l frm (j + 1) = max n t.txn) := by show _ = _; rw [HSU.out]; unfold toldStep; rw [if_pos hB]
        clear hB HSU
        have hmx : (max (n : Int) (t.txn : Int)) = ((max n t.txn : Nat) : Int) := by omega
        have HMX := Lib.hid hmx
        clear hmx
        go_wp2_with fail
        exact ⟨⟨j + 1, by omega, by go_num, by rw [HS2.out, HMX.out], Ext.alloc HX.out _⟩, by simp [intOf]; omega⟩
      · have HS2 : Hid (toldTo l frm (j + 1) = n) := by show _ = _; rw [HSU.out]; unfold toldStep; rw [if_neg (by rw [hB]; simp)]
        clear hB HSU
        rcases hr with p1 | ⟨p1, p2⟩ | ⟨p1, p2, p3⟩ | ⟨p1, p2, p3, p4⟩
        all_goals
          go_wp2_with fail
          go_roundw
          case rel => exact ⟨j + 1, by omega, by go_num, by rw [HS2.out], Ext.alloc HX.out _⟩
          case measure => simp [intOf]; omega
    · obtain rfl : j = l.length := by omega
      have HF : Hid (toldTo l frm l.length = toldA l frm) := by show _ = _; unfold toldTo toldA; rw [List.take_length]
      clear hx
      go_wp2_with fail
      go_ret
      exact ⟨by rw [← HF.out]; rfl, HX.out⟩
end Go.Proofs.YtmkhjmldncegcaaGreatDoor

