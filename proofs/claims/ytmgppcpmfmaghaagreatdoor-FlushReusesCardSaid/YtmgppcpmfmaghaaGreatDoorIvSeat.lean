/-
  The evaluator at this program: a run that answers true tells that the call returns true.
-/
import Derived.Test.YtmgppcpmfmaghaaGreatDoorIvPC
import Derived.Test.YtmgppcpmfmaghaaGreatDoorIvT
import Derived.Test.YtmgppcpmfmaghaaGreatDoorKeysD
import Derived.Test.YtmgppcpmfmaghaaGreatDoorSumD
import Derived.Test.YtmgppcpmfmaghaaGreatDoorAsD
set_option maxRecDepth 100000
noncomputable section
namespace Go.Ev
def fnsAll (X : Env) : List Func → Nat → Bool
  | [], _ => true
  | fn :: l, g => (X.orc g != 0 || fnOk X g fn) && !(fn.name == "runtime.NumGoroutine") && fnsAll X l (g + 1)
theorem fnsA : fnsAll XA Proofs.Tryz.prog.funcs.toList 0 = true := by decide +kernel
def tyEq (a b : Ty) : Bool := a.agg == b.agg && Nat.beq a.sz b.sz && Nat.beq a.kind b.kind && Nat.beq a.elem b.elem && a.arr == b.arr && a.zok == b.zok && Nat.beq a.zn b.zn && Nat.beq a.zN b.zN && a.fs == b.fs && Nat.beq a.key b.key
theorem tyEq_eq {a b : Ty} (h : tyEq a b = true) : a = b := by
  cases a; cases b
  simp only [tyEq, Bool.and_eq_true, beq_iff_eq, Nat.beq_eq] at h
  obtain ⟨⟨⟨⟨⟨⟨⟨⟨⟨h1, h2⟩, h3⟩, h4⟩, h5⟩, h6⟩, h7⟩, h8⟩, h9⟩, h10⟩ := h
  subst h1 h2 h3 h4 h5 h6 h7 h8 h9 h10
  rfl
def tyAll : Nat → Bool
  | 0 => true
  | n + 1 => tyEq (tyAt tyTab n) (tyOf Proofs.Tryz.prog n) && tyAll n
theorem tyAll_at : ∀ {n : Nat}, tyAll n = true → ∀ t, t < n → tyAt tyTab t = tyOf Proofs.Tryz.prog t
  | 0, _, t, ht => absurd ht (by omega)
  | n + 1, h, t, ht => by
    unfold tyAll at h
    rw [Bool.and_eq_true] at h
    by_cases e : t = n
    · subst e; exact tyEq_eq h.1
    · exact tyAll_at h.2 t (by omega)
theorem sizeP : Proofs.Tryz.prog.types.size = 455 := by decide +kernel
theorem tysA : tyAll 455 = true := by decide +kernel
end Go.Ev
set_option maxRecDepth 100000
set_option linter.unusedVariables false
set_option linter.unusedSimpArgs false
noncomputable section
namespace Go.Ev
open Go.Proofs Go.Maps Go.MapKept
theorem envA : EnvOk XA := ⟨fun t => by
  show @Bool.rec (fun _ => Ty) (tyOf Tryz.prog t) (tyAt tyTab t) (Nat.blt t Tryz.prog.types.size) = _
  cases h : Nat.blt t Tryz.prog.types.size with
  | false => rfl
  | true =>
    rw [blt_iff, sizeP] at h
    exact tyAll_at tysA t h⟩
theorem fnsAll_at {X : Env} : ∀ {l : List Func} {k : Nat}, fnsAll X l k = true → ∀ (i : Nat) (fn : Func), l[i]? = some fn → (X.orc (k + i) = 0 → fnOk X (k + i) fn = true) ∧ (fn.name == "runtime.NumGoroutine") = false
  | [], _, _, i, fn, hi => absurd hi (by simp)
  | f0 :: l, k, h, i, fn, hi => by
    unfold fnsAll at h
    simp only [Bool.and_eq_true, Bool.or_eq_true, bne_iff_ne, Bool.not_eq_true'] at h
    obtain ⟨⟨h1, h2⟩, h3⟩ := h
    cases i with
    | zero =>
      simp only [List.getElem?_cons_zero, Option.some.injEq] at hi
      subst hi
      exact ⟨fun ho => h1.resolve_left fun hne => hne ho, h2⟩
    | succ i =>
      have := fnsAll_at h3 i fn (by simpa using hi)
      rw [show k + (i + 1) = k + 1 + i by omega]; exact this
theorem fnsOkA : FnsOk XA where
  ok := fun g fn hg ho => by
    have := (fnsAll_at fnsA g fn (by have h : Tryz.prog.funcs[g]? = some fn := hg; simpa using h)).1
    rw [Nat.zero_add] at this; exact this ho
  name := fun g fn hg => (fnsAll_at fnsA g fn (by have h : Tryz.prog.funcs[g]? = some fn := hg; simpa using h)).2
theorem mixedA : XA.P.follows .mixedOrders = true := by kernel_rfl
theorem keysLaw : KeysLaw Tryz.prog 39 1 3 := by
  intro B a b es clock ns w hc hb hst hk hn hsz
  have hkeys : ∀ x ∈ es.toList, ∃ n : Int, x.key = .int .i64 n ∧ 0 ≤ n ∧ n < 9223372036854775808 := fun x hx => by
    have h1 : x.key ∈ es.toList.map (·.key) := List.mem_map_of_mem hx
    rw [hk] at h1
    obtain ⟨n, h2, h3⟩ := List.mem_map.1 h1
    exact ⟨n, h3.symm, hn n h2⟩
  let R : Value → Option (DataW Value × List MemPlace) := fun _ => some (.nil, [])
  have hrd : ∀ x ∈ es.toList, ∃ n : Int, x.key = .int .i64 n ∧ Go.WideElems.rd Tryz.prog 3 R x = some (.int .i64 n, .nil) := fun x hx => by
    obtain ⟨n, h1, h2, h3⟩ := hkeys x hx
    refine ⟨n, h1, ?_⟩
    have hw : (Lit.int .i64 n).wf = true := by
      simp [Lit.wf, IntKind.min, IntKind.max, IntKind.signed, IntKind.bits]; omega
    have : keyOf Tryz.prog 3 x.key = some (.int .i64 n) := by
      rw [h1]; simp [keyOf, Tryz.underlying3, mapKey, hw]
    simp [Go.WideElems.rd, this, R]
  have hml : maxLen ≥ 16777214 := by decide
  have hfit : Go.WideElems.Fit Tryz.prog 3 R es clock := ⟨by omega, hst, fun x hx => let ⟨n, _, h⟩ := hrd x hx; ⟨_, h⟩⟩
  have hown : w.ownsMap Tryz.prog 3 R b es.size (.map ((es.toList.map (Go.WideElems.rg Tryz.prog 3 R)).foldr DataW.insert [])) := ⟨es, clock, hb, hfit, Nat.le_refl _, rfl⟩
  have hints : intKeys (DataW.map ((es.toList.map (Go.WideElems.rg Tryz.prog 3 R)).foldr DataW.insert [])) = ((es.toList.map (Go.WideElems.rg Tryz.prog 3 R)).foldr DataW.insert []).map fun p => intOf p.1 := rfl
  have hperm : (intKeys (DataW.map ((es.toList.map (Go.WideElems.rg Tryz.prog 3 R)).foldr DataW.insert []))).Perm ns := by
    rw [hints]
    refine ((Go.WideShapes.sorted_perm _).map _).trans ?_
    rw [List.map_map]
    have e : es.toList.map ((fun p => intOf p.1) ∘ Go.WideElems.rg Tryz.prog 3 R) = ns := by
      have h1 : es.toList.map ((fun p => intOf p.1) ∘ Go.WideElems.rg Tryz.prog 3 R) = (es.toList.map (·.key)).map (fun v => match v with | .int _ n => n | _ => 0) := by
        rw [List.map_map]
        refine List.map_congr_left fun x hx => ?_
        obtain ⟨n, h1, h2⟩ := hrd x hx
        simp [Go.WideElems.rg, h2, h1, intOf]
      rw [h1, hk, List.map_map]
      exact List.map_id _
    rw [e]
  have hsize : Maps.size (DataW.map ((es.toList.map (Go.WideElems.rg Tryz.prog 3 R)).foldr DataW.insert [])) = es.size := by
    show ((es.toList.map (Go.WideElems.rg Tryz.prog 3 R)).foldr DataW.insert []).length = _
    rw [DataW.length_sorted]; simp
  refine (Tryz.Dirty B a b es.size _ R w hown (by rw [hsize]; omega) (by rw [hsize]; omega) hc).mono ?_
  rintro e w' ⟨v, ss, rfl, h1, h2, h3, h4⟩
  exact ⟨v, ss, rfl, h1.trans hperm, h2, h3, h4.size, h4.os, h4.output, h4.block⟩
theorem byte_cast {x : Int} (h : 0 ≤ x ∧ x < 256) : ((UInt8.ofNat x.toNat).toNat : Int) = x := by
  rw [UInt8.toNat_ofNat']
  omega
theorem packB_txt (a b c d f g h i : Int) (hx : ∀ x ∈ [a, b, c, d, f, g, h, i], 0 ≤ x ∧ x < 256) : (packB ([a, b, c, d, f, g, h, i].map fun n => UInt8.ofNat n.toNat) : Int) = a + 256 * b + 65536 * c + 16777216 * d + 4294967296 * f + 1099511627776 * g + 281474976710656 * h + 72057594037927936 * i := by
  have h1 := byte_cast (hx a (by simp))
  have h2 := byte_cast (hx b (by simp))
  have h3 := byte_cast (hx c (by simp))
  have h4 := byte_cast (hx d (by simp))
  have h5 := byte_cast (hx f (by simp))
  have h6 := byte_cast (hx g (by simp))
  have h7 := byte_cast (hx h (by simp))
  have h8 := byte_cast (hx i (by simp))
  simp only [List.map_cons, List.map_nil, packB]
  clear hx
  generalize (UInt8.ofNat a.toNat).toNat = a' at h1 ⊢
  generalize (UInt8.ofNat b.toNat).toNat = b' at h2 ⊢
  generalize (UInt8.ofNat c.toNat).toNat = c' at h3 ⊢
  generalize (UInt8.ofNat d.toNat).toNat = d' at h4 ⊢
  generalize (UInt8.ofNat f.toNat).toNat = f' at h5 ⊢
  generalize (UInt8.ofNat g.toNat).toNat = g' at h6 ⊢
  generalize (UInt8.ofNat h.toNat).toNat = h' at h7 ⊢
  generalize (UInt8.ofNat i.toNat).toNat = i' at h8 ⊢
  subst h1 h2 h3 h4 h5 h6 h7 h8
  omega
theorem stays_alloc (w : World) (o : Go.Obj) : Stays w (w.alloc o) := ⟨by simp, rfl, rfl, fun k hk => (Go.RowKit.Below.alloc (Go.RowKit.Below.refl w.heap.size w) (Nat.le_refl _) o).block k hk⟩
theorem Stays.trans {a b c : World} (h : Stays a b) (k : Stays b c) : Stays a c := ⟨Nat.le_trans h.1 k.1, k.2.1.trans h.2.1, k.2.2.1.trans h.2.2.1, fun i hi => (k.2.2.2 i (Nat.lt_of_lt_of_le hi h.1)).trans (h.2.2.2 i hi)⟩
theorem numLaw_of {g : FuncId} (h : ∀ (n : Nat) (_ : n < 18446744073709551616) (w : World), Calls Tryz.prog g #[.int .u64 n] w fun e w' => ∃ (a b c d f g h i : Int) (W : Go.Obj), e = .returned (.string (YtmgppcpmfmaghaaGreatDoor.txt [a, b, c, d, f, g, h, i])) ∧ w' = w.alloc W ∧ n = a + 256 * b + 65536 * c + 16777216 * d + 4294967296 * f + 1099511627776 * g + 281474976710656 * h + 72057594037927936 * i ∧ ∀ x ∈ [a, b, c, d, f, g, h, i], 0 ≤ x ∧ x < 256) : NumLaw Tryz.prog g := by
  intro n w hn
  refine (h n hn w).mono ?_
  rintro e w' ⟨a, b, c, d, f, g, h, i, W, rfl, rfl, h1, h2⟩
  refine ⟨_, rfl, by rw [YtmgppcpmfmaghaaGreatDoor.txt_list]; rfl, ?_, stays_alloc _ _⟩
  rw [YtmgppcpmfmaghaaGreatDoor.txt_list]
  have := packB_txt a b c d f g h i h2
  omega
theorem sumC_eq : ∀ (l : List UInt8) (h : Nat), YtmgppcpmfmaghaaGreatDoor.sumC l h = sumB l h
  | [], h => rfl
  | b :: l, h => sumC_eq l _
theorem sumLaw_of {g : FuncId} (h : ∀ (s : ByteArray) (_ : s.size ≤ 16777214) (w : World), Calls Tryz.prog g #[.string s] w fun e w' => e = .returned (.int .u64 (YtmgppcpmfmaghaaGreatDoor.sumC s.data.toList 5381 : Nat)) ∧ w' = w) : SumLaw Tryz.prog g := by
  intro s w hs
  refine (h s (by simpa using hs) w).mono ?_
  rintro e w' ⟨rfl, rfl⟩
  exact ⟨by rw [sumC_eq], Nat.le_refl _, rfl, rfl, fun _ _ => rfl⟩
theorem asLaw : AsLaw Tryz.prog 79 50 134 232 38 where
  none := fun t w => YtmgppcpmfmaghaaGreatDoor.as_nil t w
  some := fun n a old w hg hc hfz => (YtmgppcpmfmaghaaGreatDoor.as_hit0 n a old w hg hc hfz).mono fun e w' ⟨h1, h2⟩ => ⟨h1, _, (((stays_alloc _ _).trans (stays_alloc _ _)).trans (stays_alloc _ _)).trans (stays_alloc _ _), h2⟩
theorem orcAt_none {l : List (Nat × Nat)} {g : Nat} (h : ∀ x ∈ l, x.1 ≠ g) : orcAt l g = 0 := by
  have : find2 g l = none := by
    induction l with
    | nil => rfl
    | cons x l ih =>
      show @Bool.rec (fun _ => Option Nat) (find2 g l) (some x.2) (Nat.beq x.1 g) = none
      rw [beq_false.2 (h x (by simp))]
      exact ih fun y hy => h y (by simp [hy])
  unfold orcAt; rw [this]
theorem orcA_ok : OrcOk XA := by
  intro g fn F H nx hg ho hf
  have hm : g = 24 ∨ g = 79 ∨ g = 39 ∨ g = 141 ∨ g = 158 ∨ g = 159 ∨ g = 195 ∨ g = 220 := by
    rcases Classical.em (∃ x ∈ orcA, x.1 = g) with ⟨x, hx, rfl⟩ | hn
    · have : x.1 ∈ orcA.map (·.1) := List.mem_map_of_mem hx
      simp [orcA] at this
      rcases this with h | h | h | h | h | h | h | h <;> simp [h]
    · exact absurd (orcAt_none fun x hx e => hn ⟨x, hx, e⟩) ho
  rcases hm with rfl | rfl | rfl | rfl | rfl | rfl | rfl | rfl
  · exact oIs_ok (T := 50) ⟨fun m w => YtmgppcpmfmaghaaGreatDoor.is_nil1 m w, fun n m w => YtmgppcpmfmaghaaGreatDoor.is_one n m w⟩ (enters_of Tryz.func24 (by kernel_rfl) rfl) hf
  · exact oAs_ok (T := 50) (TP := 134) (R := 232) (E := 38) asLaw (enters_of Tryz.func79 (by kernel_rfl) rfl) hf
  · exact oKeys_ok keysLaw (enters_of Tryz.func39 (by kernel_rfl) rfl) hf
  · exact oSum_ok (sumLaw_of fun s hs w => YtmgppcpmfmaghaaGreatDoor.sum_b s hs w) (enters_of Tryz.func141 (by kernel_rfl) rfl) hf
  · exact oNum_ok (numLaw_of fun n hn w => YtmgppcpmfmaghaaGreatDoor.num_a n hn w) (enters_of Tryz.func158 (by kernel_rfl) rfl) hf
  · exact oSum_ok (sumLaw_of fun s hs w => YtmgppcpmfmaghaaGreatDoor.sum_a s hs w) (enters_of Tryz.func159 (by kernel_rfl) rfl) hf
  · exact oNum_ok (numLaw_of fun n hn w => YtmgppcpmfmaghaaGreatDoor.num_b n hn w) (enters_of Tryz.func195 (by kernel_rfl) rfl) hf
  · have : fn = Tryz.f220 := Option.some.inj (hg.symm.trans Tryz.func220)
    subst this
    exact oClone_ok ⟨Tryz.func220, by kernel_rfl, by kernel_rfl, by kernel_rfl, by kernel_rfl⟩ hf
theorem runOkA (n : Nat) : RunOk XA (Ev.runN n XA) := run_ok envA ⟨trivial⟩ (by show 3 ≤ Tryz.prog.types.size; rw [sizeP]; omega) fnsOkA orcA_ok (fun call hc => draw_ok envA ⟨trivial⟩ (by show 3 ≤ Tryz.prog.types.size; rw [sizeP]; omega) mixedA hc) n
theorem topA {G : Obj} {n g F : Nat} {fn : Func} (hg : Tryz.prog.funcs[g]? = some fn) (ho : orcAt orcA g = 0) (hi : isImm G) (hrun : isTr (runTop XA G n g fn F) = true) {args : Array Value} (hA : ∀ σ I, ArgsR σ I F args) (w : World) (hG : Grounded G w) :
    Calls Tryz.prog g args w fun e w' => e = .returned (.bool true) ∧ Kept w w' :=
  top envA (by show 3 ≤ Tryz.prog.types.size; rw [sizeP]; omega) fnsOkA orcA_ok mixedA hg ho hi hrun hA w hG
theorem topN {n g F : Nat} {fn : Func} (hg : Tryz.prog.funcs[g]? = some fn) (ho : orcAt orcA g = 0) (hrun : isTr (runTop XA (.str 0 0) n g fn F) = true) {args : Array Value} (hA : ∀ σ I, ArgsR σ I F args) (w : World) :
    Calls Tryz.prog g args w fun e w' => e = .returned (.bool true) ∧ Kept w w' := topA hg ho (show isImm (.str 0 0) from trivial) hrun hA w fun R E h => by cases h
end Go.Ev
