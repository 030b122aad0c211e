/-
  The evaluator at this program: its functions, types and laws.
-/
import Derived.Test.YtgjnadligocdkaaGreatDoorSvPD
import Derived.Test.YtgjnadligocdkaaGreatDoorSvT
import Derived.Test.YtgjnadligocdkaaGreatDoorAsD
import Derived.Test.YtgjnadligocdkaaGreatDoorArD
set_option maxRecDepth 100000
noncomputable section
namespace Go.Ev
def fnsAll (X : Env) : List Func → Nat → Bool
  | [], _ => true
  | fn :: l, g => (X.orc g != 0 || fnOk X g fn) && !(fn.name == "runtime.NumGoroutine") && fnsAll X l (g + 1)
theorem fnsA : fnsAll XB Proofs.Tryz.prog.funcs.toList 0 = true := by decide +kernel
def tyEq (a b : Ty) : Bool := a.agg == b.agg && Nat.beq a.sz b.sz && Nat.beq a.kind b.kind && Nat.beq a.elem b.elem && a.arr == b.arr && a.zok == b.zok && Nat.beq a.zn b.zn && Nat.beq a.zN b.zN && a.fs == b.fs && Nat.beq a.key b.key
theorem tyEq_eq {a b : Ty} (h : tyEq a b = true) : a = b := by
  cases a; cases b
  simp only [tyEq, Bool.and_eq_true, beq_iff_eq, Nat.beq_eq] at h
  obtain ⟨⟨⟨⟨⟨⟨⟨⟨⟨h1, h2⟩, h3⟩, h4⟩, h5⟩, h6⟩, h7⟩, h8⟩, h9⟩, h10⟩ := h
  subst h1 h2 h3 h4 h5 h6 h7 h8 h9 h10
  rfl
def tyAll : Nat → Bool
  | 0 => true
  | n + 1 => tyEq (tyAt tyTab n) (tyOf Proofs.Tryz.prog n) && tyAll n
theorem tyAll_at : ∀ {n : Nat}, tyAll n = true → ∀ t, t < n → tyAt tyTab t = tyOf Proofs.Tryz.prog t
  | 0, _, t, ht => absurd ht (by omega)
  | n + 1, h, t, ht => by
    unfold tyAll at h
    rw [Bool.and_eq_true] at h
    by_cases e : t = n
    · subst e; exact tyEq_eq h.1
    · exact tyAll_at h.2 t (by omega)
theorem sizeP : Proofs.Tryz.prog.types.size = 413 := by decide +kernel
theorem tysA : tyAll 413 = true := by decide +kernel
end Go.Ev
set_option maxRecDepth 100000
set_option linter.unusedVariables false
set_option linter.unusedSimpArgs false
noncomputable section
namespace Go.Ev
open Go.Proofs Go.Maps Go.MapKept
abbrev EO (o : List (Nat × Nat)) : Env := envOf Tryz.prog tyTab drTab o
theorem envE (o : List (Nat × Nat)) : EnvOk (EO o) := ⟨fun t => by
  show @Bool.rec (fun _ => Ty) (tyOf Tryz.prog t) (tyAt tyTab t) (Nat.blt t Tryz.prog.types.size) = _
  cases h : Nat.blt t Tryz.prog.types.size with
  | false => rfl
  | true =>
    rw [blt_iff, sizeP] at h
    exact tyAll_at tysA t h⟩
theorem fnsAll_at {X : Env} : ∀ {l : List Func} {k : Nat}, fnsAll X l k = true → ∀ (i : Nat) (fn : Func), l[i]? = some fn → (X.orc (k + i) = 0 → fnOk X (k + i) fn = true) ∧ (fn.name == "runtime.NumGoroutine") = false
  | [], _, _, i, fn, hi => absurd hi (by simp)
  | f0 :: l, k, h, i, fn, hi => by
    unfold fnsAll at h
    simp only [Bool.and_eq_true, Bool.or_eq_true, bne_iff_ne, Bool.not_eq_true'] at h
    obtain ⟨⟨h1, h2⟩, h3⟩ := h
    cases i with
    | zero =>
      simp only [List.getElem?_cons_zero, Option.some.injEq] at hi
      subst hi
      exact ⟨fun ho => h1.resolve_left fun hne => hne ho, h2⟩
    | succ i =>
      have := fnsAll_at h3 i fn (by simpa using hi)
      rw [show k + (i + 1) = k + 1 + i by omega]; exact this
theorem drawOk_eq (o o' : List (Nat × Nat)) (ops : List Oper) : drawOk (EO o) ops = drawOk (EO o') ops := rfl
theorem drawReads_eq (o o' : List (Nat × Nat)) (ops : List Oper) : drawReads (EO o) ops = drawReads (EO o') ops := rfl
theorem drawsOk_eq (o o' : List (Nat × Nat)) (g : Nat) : ∀ c : Code, drawsOk (EO o) g c = drawsOk (EO o') g c
  | .region r ops true => by
    unfold drawsOk
    rw [drawOk_eq o o', drawReads_eq o o']
    rfl
  | .region r ops false => rfl
  | .seq a b => by unfold drawsOk; rw [drawsOk_eq o o' g a, drawsOk_eq o o' g b]
  | .cond c a b => by unfold drawsOk; rw [drawsOk_eq o o' g a, drawsOk_eq o o' g b]
  | .block _ b => by unfold drawsOk; exact drawsOk_eq o o' g b
  | .loop b => by unfold drawsOk; exact drawsOk_eq o o' g b
  | .scope b => by unfold drawsOk; exact drawsOk_eq o o' g b
  | .skip => rfl
  | .rangeFunc .. => rfl
  | .exit _ => rfl
  | .label _ => rfl
  | .goto _ => rfl
  | .ret => rfl
  | .refuse _ => rfl
theorem fnOk_eq (o o' : List (Nat × Nat)) (g : Nat) (fn : Func) : fnOk (EO o) g fn = fnOk (EO o') g fn := by
  unfold fnOk
  cases fn.body with
  | none => rfl
  | some c => show (funcOk fn && drawsOk (EO o) g c) = (funcOk fn && drawsOk (EO o') g c); rw [drawsOk_eq o o' g c]
theorem fnsOkE {o : List (Nat × Nat)} (h : ∀ g, orcAt o g = 0 → orcAt orcB g = 0) : FnsOk (EO o) where
  ok := fun g fn hg ho => by
    have := (fnsAll_at fnsA g fn (by have h : Tryz.prog.funcs[g]? = some fn := hg; simpa using h)).1
    rw [Nat.zero_add] at this
    rw [fnOk_eq o orcB]; exact this (h g ho)
  name := fun g fn hg => (fnsAll_at fnsA g fn (by have h : Tryz.prog.funcs[g]? = some fn := hg; simpa using h)).2
theorem mixedE : Tryz.prog.follows .mixedOrders = true := by kernel_rfl
theorem stays_alloc (w : World) (o : Go.Obj) : Stays w (w.alloc o) := ⟨by simp, rfl, rfl, fun k hk => (Go.RowKit.Below.alloc (Go.RowKit.Below.refl w.heap.size w) (Nat.le_refl _) o).block k hk⟩
theorem Stays.trans {a b c : World} (h : Stays a b) (k : Stays b c) : Stays a c := ⟨Nat.le_trans h.1 k.1, k.2.1.trans h.2.1, k.2.2.1.trans h.2.2.1, fun i hi => (k.2.2.2 i (Nat.lt_of_lt_of_le hi h.1)).trans (h.2.2.2 i hi)⟩
theorem keysLaw : KeysLaw Tryz.prog 180 1 3 := by
  intro B a b es clock ns w hc hb hst hk hn hsz
  have hkeys : ∀ x ∈ es.toList, ∃ n : Int, x.key = .int .i64 n ∧ 0 ≤ n ∧ n < 9223372036854775808 := fun x hx => by
    have h1 : x.key ∈ es.toList.map (·.key) := List.mem_map_of_mem hx
    rw [hk] at h1
    obtain ⟨n, h2, h3⟩ := List.mem_map.1 h1
    exact ⟨n, h3.symm, hn n h2⟩
  let R : Value → Option (DataW Value × List MemPlace) := fun _ => some (.nil, [])
  have hrd : ∀ x ∈ es.toList, ∃ n : Int, x.key = .int .i64 n ∧ Go.WideElems.rd Tryz.prog 3 R x = some (.int .i64 n, .nil) := fun x hx => by
    obtain ⟨n, h1, h2, h3⟩ := hkeys x hx
    refine ⟨n, h1, ?_⟩
    have hw : (Lit.int .i64 n).wf = true := by
      simp [Lit.wf, IntKind.min, IntKind.max, IntKind.signed, IntKind.bits]; omega
    have : keyOf Tryz.prog 3 x.key = some (.int .i64 n) := by
      rw [h1]; simp [keyOf, Tryz.underlying3, mapKey, hw]
    simp [Go.WideElems.rd, this, R]
  have hml : maxLen ≥ 16777214 := by decide
  have hfit : Go.WideElems.Fit Tryz.prog 3 R es clock := ⟨by omega, hst, fun x hx => let ⟨n, _, h⟩ := hrd x hx; ⟨_, h⟩⟩
  have hown : w.ownsMap Tryz.prog 3 R b es.size (.map ((es.toList.map (Go.WideElems.rg Tryz.prog 3 R)).foldr DataW.insert [])) := ⟨es, clock, hb, hfit, Nat.le_refl _, rfl⟩
  have hints : intKeys (DataW.map ((es.toList.map (Go.WideElems.rg Tryz.prog 3 R)).foldr DataW.insert [])) = ((es.toList.map (Go.WideElems.rg Tryz.prog 3 R)).foldr DataW.insert []).map fun p => intOf p.1 := rfl
  have hperm : (intKeys (DataW.map ((es.toList.map (Go.WideElems.rg Tryz.prog 3 R)).foldr DataW.insert []))).Perm ns := by
    rw [hints]
    refine ((Go.WideShapes.sorted_perm _).map _).trans ?_
    rw [List.map_map]
    have e : es.toList.map ((fun p => intOf p.1) ∘ Go.WideElems.rg Tryz.prog 3 R) = ns := by
      have h1 : es.toList.map ((fun p => intOf p.1) ∘ Go.WideElems.rg Tryz.prog 3 R) = (es.toList.map (·.key)).map (fun v => match v with | .int _ n => n | _ => 0) := by
        rw [List.map_map]
        refine List.map_congr_left fun x hx => ?_
        obtain ⟨n, h1, h2⟩ := hrd x hx
        simp [Go.WideElems.rg, h2, h1, intOf]
      rw [h1, hk, List.map_map]
      exact List.map_id _
    rw [e]
  have hsize : Maps.size (DataW.map ((es.toList.map (Go.WideElems.rg Tryz.prog 3 R)).foldr DataW.insert [])) = es.size := by
    show ((es.toList.map (Go.WideElems.rg Tryz.prog 3 R)).foldr DataW.insert []).length = _
    rw [DataW.length_sorted]; simp
  refine (Tryz.Dirty B a b es.size _ R w hown (by rw [hsize]; omega) (by rw [hsize]; omega) hc).mono ?_
  rintro e w' ⟨v, ss, rfl, h1, h2, h3, h4⟩
  exact ⟨v, ss, rfl, h1.trans hperm, h2, h3, h4.size, h4.os, h4.output, h4.block⟩
theorem byte_cast {x : Int} (h : 0 ≤ x ∧ x < 256) : ((UInt8.ofNat x.toNat).toNat : Int) = x := by
  rw [UInt8.toNat_ofNat']
  omega
theorem packB_txt (a b c d f g h i : Int) (hx : ∀ x ∈ [a, b, c, d, f, g, h, i], 0 ≤ x ∧ x < 256) : (packB ([a, b, c, d, f, g, h, i].map fun n => UInt8.ofNat n.toNat) : Int) = a + 256 * b + 65536 * c + 16777216 * d + 4294967296 * f + 1099511627776 * g + 281474976710656 * h + 72057594037927936 * i := by
  have h1 := byte_cast (hx a (by simp))
  have h2 := byte_cast (hx b (by simp))
  have h3 := byte_cast (hx c (by simp))
  have h4 := byte_cast (hx d (by simp))
  have h5 := byte_cast (hx f (by simp))
  have h6 := byte_cast (hx g (by simp))
  have h7 := byte_cast (hx h (by simp))
  have h8 := byte_cast (hx i (by simp))
  simp only [List.map_cons, List.map_nil, packB]
  clear hx
  generalize (UInt8.ofNat a.toNat).toNat = a' at h1 ⊢
  generalize (UInt8.ofNat b.toNat).toNat = b' at h2 ⊢
  generalize (UInt8.ofNat c.toNat).toNat = c' at h3 ⊢
  generalize (UInt8.ofNat d.toNat).toNat = d' at h4 ⊢
  generalize (UInt8.ofNat f.toNat).toNat = f' at h5 ⊢
  generalize (UInt8.ofNat g.toNat).toNat = g' at h6 ⊢
  generalize (UInt8.ofNat h.toNat).toNat = h' at h7 ⊢
  generalize (UInt8.ofNat i.toNat).toNat = i' at h8 ⊢
  subst h1 h2 h3 h4 h5 h6 h7 h8
  omega
theorem numLaw_of {g : FuncId} (h : ∀ (n : Nat) (_ : n < 18446744073709551616) (w : World), Calls Tryz.prog g #[.int .u64 n] w fun e w' => ∃ (a b c d f g h i : Int) (W : Go.Obj), e = .returned (.string (YtgjnadligocdkaaGreatDoor.txt [a, b, c, d, f, g, h, i])) ∧ w' = w.alloc W ∧ n = a + 256 * b + 65536 * c + 16777216 * d + 4294967296 * f + 1099511627776 * g + 281474976710656 * h + 72057594037927936 * i ∧ ∀ x ∈ [a, b, c, d, f, g, h, i], 0 ≤ x ∧ x < 256) : NumLaw Tryz.prog g := by
  intro n w hn
  refine (h n hn w).mono ?_
  rintro e w' ⟨a, b, c, d, f, g, h, i, W, rfl, rfl, h1, h2⟩
  refine ⟨_, rfl, by rw [YtgjnadligocdkaaGreatDoor.txt_list]; rfl, ?_, stays_alloc _ _⟩
  rw [YtgjnadligocdkaaGreatDoor.txt_list]
  have := packB_txt a b c d f g h i h2
  omega
theorem sumC_eq : ∀ (l : List UInt8) (h : Nat), YtgjnadligocdkaaGreatDoor.sumC l h = sumB l h
  | [], h => rfl
  | b :: l, h => sumC_eq l _
theorem sumLaw_of {g : FuncId} (h : ∀ (s : ByteArray) (_ : s.size ≤ 16777214) (w : World), Calls Tryz.prog g #[.string s] w fun e w' => e = .returned (.int .u64 (YtgjnadligocdkaaGreatDoor.sumC s.data.toList 5381 : Nat)) ∧ w' = w) : SumLaw Tryz.prog g := by
  intro s w hs
  refine (h s (by simpa using hs) w).mono ?_
  rintro e w' ⟨rfl, rfl⟩
  exact ⟨by rw [sumC_eq], Nat.le_refl _, rfl, rfl, fun _ _ => rfl⟩
theorem asLaw : AsLaw Tryz.prog 64 125 147 220 4294967342 where
  none := fun t w => YtgjnadligocdkaaGreatDoor.as_nil t w
  some := fun n a old w hg hc hfz => (YtgjnadligocdkaaGreatDoor.as_hit0 n a old w hg.1 hc hfz).mono fun e w' ⟨h1, h2⟩ => ⟨h1, _, (((stays_alloc _ _).trans (stays_alloc _ _)).trans (stays_alloc _ _)).trans (stays_alloc _ _), h2⟩
theorem idxI_eq (x : Int) : ∀ (l : List Int) (j : Nat), YtgjnadligocdkaaGreatDoor.idxI x l j = idxZ x l j
  | [], _ => rfl
  | y :: l, j => by
    show (if (x == y) = true then (j : Int) else YtgjnadligocdkaaGreatDoor.idxI x l (j + 1)) = if (x == y) = true then (j : Int) else idxZ x l (j + 1)
    rw [idxI_eq x l (j + 1)]
theorem idxLaw : IdxLaw Tryz.prog 111 where
  nil := fun p c x w => YtgjnadligocdkaaGreatDoor.idx_none p c x w
  row := fun xs b off c x w hn hc => (YtgjnadligocdkaaGreatDoor.idx_any xs b off c x w hn hc).mono fun e w' h => by rw [idxI_eq] at h; exact h
theorem numLawI : NumLawI Tryz.prog 191 := fun n w hn => by
  refine (YtgjnadligocdkaaGreatDoor.pnum_any n hn.1 hn.2 w).mono ?_
  rintro e w' ⟨a, b, c, d, f, g, h, i, W, rfl, rfl, h1, h2⟩
  refine ⟨_, rfl, by rw [YtgjnadligocdkaaGreatDoor.txt_list]; rfl, ?_, stays_alloc _ _⟩
  rw [YtgjnadligocdkaaGreatDoor.txt_list]
  have := packB_txt a b c d f g h i h2
  omega
theorem packN_eq : ∀ l : List UInt8, YtgjnadligocdkaaGreatDoor.packN l = packB l
  | [] => rfl
  | b :: l => by show b.toNat + 256 * YtgjnadligocdkaaGreatDoor.packN l = _; rw [packN_eq l]; rfl
theorem stays_refl (w : World) : Stays w w := ⟨Nat.le_refl _, rfl, rfl, fun _ _ => rfl⟩
theorem cutLaw : CutLaw Tryz.prog 152 (.iface 125 (.int .i64 11)) where
  ok := fun B o s w h1 h2 hf hn => by
    have hs : 8 ≤ s.size := by simpa using hn
    have ht : (s.extract 0 8).size ≤ 8 := by simp; omega
    refine (YtgjnadligocdkaaGreatDoor.num_of (s.extract 0 8) ht _ w B o (YtgjnadligocdkaaGreatDoor.take_ok B o s w h1 h2 hf hs)).mono ?_
    rintro e w' ⟨rfl, rfl⟩
    refine ⟨s.extract 8 s.size, ?_, ?_, w, stays_refl w, rfl⟩
    · rw [packN_eq]
      have : (s.extract 0 8).data.toList = s.data.toList.take 8 := by rw [ByteArray.data_extract, Array.toList_extract]; simp [List.extract_eq_take_drop]
      rw [this]
    · rw [ByteArray.data_extract, Array.toList_extract]; simp [List.extract_eq_take_drop]; rw [List.take_of_length_le (by simp)]
  short := fun B o s er w h1 h2 hf hc => by
    have ht : (ByteArray.mk #[]).size ≤ 8 := by decide
    rcases hc with ⟨rfl, hn⟩ | ⟨t, v, rfl⟩
    · refine (YtgjnadligocdkaaGreatDoor.num_of ⟨#[]⟩ ht _ w B o (YtgjnadligocdkaaGreatDoor.take_short B o s w h1 h2 hf (by simpa using hn))).mono ?_
      rintro e w' ⟨rfl, rfl⟩
      exact ⟨rfl, w, stays_refl w, rfl⟩
    · refine (YtgjnadligocdkaaGreatDoor.num_of ⟨#[]⟩ ht _ w B o (YtgjnadligocdkaaGreatDoor.take_err B o s t v w h1 h2 hf)).mono ?_
      rintro e w' ⟨rfl, rfl⟩
      exact ⟨rfl, w, stays_refl w, rfl⟩
def errCell : Nat := errC (125 + 65536 * 11)
theorem errCell_vr (σ : Sig) (I : Imm) : CRs σ I errCell (.iface 125 (.int .i64 11)) := by
  refine .inl (.inl ⟨by decide +kernel, by decide +kernel, 125, .int .i64 11, by decide +kernel, rfl, by decide +kernel, ?_⟩)
  have e : errCell % tI = 554597137599850363154807652363 := by decide +kernel
  rw [e]
  unfold CRp
  rw [show hi 554597137599850363154807652363 = 7 from by decide +kernel]
  exact ⟨11, rfl, by decide, by decide, by decide +kernel⟩
theorem orcAt_mem {l : List (Nat × Nat)} {g : Nat} (h : orcAt l g ≠ 0) : (g, orcAt l g) ∈ l := by
  induction l with
  | nil => exact absurd rfl h
  | cons x l ih =>
    have e : orcAt (x :: l) g = @Option.rec Nat (fun _ => Nat) 0 (fun x => x) (@Bool.rec (fun _ => Option Nat) (find2 g l) (some x.2) (Nat.beq x.1 g)) := rfl
    rw [e] at h ⊢
    cases hb : Nat.beq x.1 g with
    | true =>
      have : x.1 = g := beq_iff.1 hb
      subst this
      exact List.mem_cons_self ..
    | false =>
      rw [hb] at h
      exact List.mem_cons_of_mem _ (ih h)
theorem mainB {o : List (Nat × Nat)} {g c : Nat} {fn : Func} {F : Nat} {H : HT} {nx : Nat} (hg : Tryz.prog.funcs[g]? = some fn) (hf : Free H nx) (hc : (g, c) ∈ orcB) : Tells (orc c fn (EO o) F H nx) (CalR (EO o) g F H nx) := by
  simp only [orcB, List.mem_cons, Prod.mk.injEq, List.not_mem_nil, or_false] at hc
  rcases hc with ⟨rfl, rfl⟩ | ⟨rfl, rfl⟩ | ⟨rfl, rfl⟩ | ⟨rfl, rfl⟩ | ⟨rfl, rfl⟩ | ⟨rfl, rfl⟩ | ⟨rfl, rfl⟩ | ⟨rfl, rfl⟩ | ⟨rfl, rfl⟩ | ⟨rfl, rfl⟩
  · have h := oAs_ok (X := EO o) (H := H) (nx := nx) (F := F) (T := 125) (TP := 147) (R := 220) (E := 4294967342) asLaw (enters_of Tryz.func64 (by kernel_rfl) rfl) hf
    exact h
  · exact oNum_ok (numLaw_of fun n hn w => YtgjnadligocdkaaGreatDoor.num_a n hn w) (enters_of Tryz.func66 (by kernel_rfl) rfl) hf
  · exact oNum_ok (numLaw_of fun n hn w => YtgjnadligocdkaaGreatDoor.num_b n hn w) (enters_of Tryz.func67 (by kernel_rfl) rfl) hf
  · exact oSum_ok (sumLaw_of fun s hs w => YtgjnadligocdkaaGreatDoor.sum_b s hs w) (enters_of Tryz.func82 (by kernel_rfl) rfl) hf
  · exact oIdx_ok idxLaw (enters_of Tryz.func111 (by kernel_rfl) rfl) hf
  · exact Tells.frc (F := fun C k => oCutNum C F H nx k) (oCutNum_ok (C := errC (125 + 65536 * 11)) (fun σ I => (errCell_vr σ I).toV) (errCell_vr _ _) cutLaw (enters_of Tryz.func152 (by kernel_rfl) rfl) hf)
  · have : fn = Tryz.f158 := Option.some.inj (hg.symm.trans Tryz.func158)
    subst this
    exact oClone_ok ⟨Tryz.func158, by kernel_rfl, by kernel_rfl, by kernel_rfl, by kernel_rfl⟩ hf
  · exact oKeys_ok keysLaw (enters_of Tryz.func180 (by kernel_rfl) rfl) hf
  · exact oNumI_ok numLawI (enters_of Tryz.func191 (by kernel_rfl) rfl) hf
  · exact oSum_ok (sumLaw_of fun s hs w => YtgjnadligocdkaaGreatDoor.sum_a s hs w) (enters_of Tryz.func193 (by kernel_rfl) rfl) hf
theorem orcB_ok : OrcOk (EO orcB) := fun g fn F H nx hg ho hf => mainB hg hf (orcAt_mem ho)
theorem sizeE : 3 ≤ Tryz.prog.types.size := by rw [sizeP]; omega
theorem fnsOkB : FnsOk (EO orcB) := fnsOkE fun g h => h
theorem topB {G : Obj} {n g F : Nat} {fn : Func} (hg : Tryz.prog.funcs[g]? = some fn) (ho : orcAt orcB g = 0) (hi : isImm G) (hrun : isTr (runTop XB G n g fn F) = true) {args : Array Value} (hA : ∀ σ I, ArgsR σ I F args) (w : World) (hG : Grounded G w) :
    Calls Tryz.prog g args w fun e w' => e = .returned (.bool true) ∧ Kept w w' :=
  top (envE orcB) sizeE fnsOkB orcB_ok mixedE hg ho hi hrun hA w hG
theorem args0 : ∀ σ I, ArgsR σ I 0 #[] := fun σ I => ⟨by decide, .inl (by decide +kernel), fun i h => absurd h (by simp)⟩
def gG : Obj := .tup 220 4294967342
theorem trueLaw_of {n g : Nat} {fn : Func} (hg : Tryz.prog.funcs[g]? = some fn) (ho : orcAt orcB g = 0) (hrun : isTr (runTop XB gG n g fn 0) = true) : TrueLaw Tryz.prog g 220 4294967342 := fun w hw => by
  refine (topB hg ho (G := gG) trivial hrun args0 w fun R E h => ?_).mono fun e w' ⟨h1, h2⟩ => ⟨h1, h2⟩
  injection h with h1 h2
  subst h1 h2
  exact hw
end Go.Ev
