/-
  What the evaluator answers is what the program does, whatever is drawn: part 2.
-/
import Derived.Test.YtkcffdanhklphaaGreatDoorTvPA
import Derived.DeepKeys
import Derived.MapKept
import Derived.Laws.Append
import Derived.Conc.LoneCalls
import Derived.Conc.LoneSelectN
import Derived.Maps.RangeRun
import Derived.Scope
set_option linter.unusedVariables false
set_option linter.unusedSimpArgs false
namespace Go.Ev
variable {X : Env} {o : Oper} {f : FR} {H : HT} {nx : Nat} {call : CallT}

/-! ### Plain cells compared -/
/-- two plain values of one kind (3 to 11) -/
inductive Two (a b : Nat) : Value → Value → Prop
  | bool (x y : Bool) (h : Nat.beq a b = (x == y)) : Two a b (.bool x) (.bool y)
  | int (k : IntKind) (n m : Int) (h : Nat.beq a b = (n == m)) (hn : k.min ≤ n ∧ n ≤ k.max) (hm : k.min ≤ m ∧ m ≤ k.max) : Two a b (.int k n) (.int k m)
theorem int_cell_inj {k : IntKind} {n m : Int} (h1 : k.min ≤ n) (h2 : n ≤ k.max) (h3 : k.min ≤ m) (h4 : m ≤ k.max) (h : n % 18446744073709551616 = m % 18446744073709551616) : n = m := by
  cases k <;> simp [IntKind.min, IntKind.max, IntKind.signed, IntKind.bits] at h1 h2 h3 h4 <;> omega
theorem two_of {σ : Sig} {I : Imm} {a b kd : Nat} {va vb : Value} (ha : CRp σ I a va) (hb : CRp σ I b vb) (h1 : hi a = kd) (h2 : hi b = kd) (h3 : 3 ≤ kd) (h4 : kd ≤ 11) : Two a b va vb := by
  by_cases e : kd = 3
  · subst e
    obtain ⟨x, rfl, rfl⟩ := ha.bool_inv h1
    obtain ⟨y, rfl, rfl⟩ := hb.bool_inv h2
    refine .bool x y ?_
    cases x <;> cases y <;> decide
  · obtain ⟨k, hk, n, rfl, n1, n2, n3⟩ := ha.int_inv (by omega) (by omega)
    obtain ⟨k', hk', m, rfl, m1, m2, m3⟩ := hb.int_inv (by omega) (by omega)
    have : k = k' := intTag_inj (by omega)
    subst this
    refine .int k n m ?_ ⟨n1, n2⟩ ⟨m1, m2⟩
    rw [Bool.eq_iff_iff, beq_iff, beq_iff_eq]
    refine ⟨fun h => int_cell_inj n1 n2 m1 m2 (by omega), fun h => by rw [n3, m3, h]⟩
theorem packB_inj : ∀ {l m : List UInt8}, l.length = m.length → packB l = packB m → l = m
  | [], [], _, _ => rfl
  | a :: l, b :: m, h, e => by
    simp only [packB] at e
    have ha : a.toNat < 256 := a.toNat_lt
    have hb : b.toNat < 256 := b.toNat_lt
    have h1 : a.toNat = b.toNat := by omega
    have h2 : packB l = packB m := by omega
    rw [UInt8.toNat_inj.1 h1, packB_inj (by simpa using h) h2]
  | [], _ :: _, h, _ => by simp at h
  | _ :: _, [], h, _ => by simp at h
theorem bytes_ext {s t : ByteArray} (h : s.data.toList = t.data.toList) : s = t := ByteArray.ext (Array.toList_inj.1 h)
theorem StrIs.eq_iff {s t : ByteArray} {n N m M : Nat} (h1 : StrIs s n N) (h2 : StrIs t m M) : and' (Nat.beq n m) (Nat.beq N M) = decide (s = t) := by
  rw [and'_eq, Bool.eq_iff_iff, Bool.and_eq_true, beq_iff, beq_iff, decide_eq_true_eq]
  constructor
  · rintro ⟨e1, e2⟩
    exact bytes_ext (packB_inj (by rw [← h1.len, ← h2.len]; exact e1) (by rw [← h1.num, ← h2.num]; exact e2))
  · rintro rfl
    exact ⟨h1.len.trans h2.len.symm, h1.num.trans h2.num.symm⟩
/-- plain values of kind kd: what the comparison is -/
inductive PEq (kd : Nat) (e : Bool) : Value → Value → Prop
  | bool (x y : Bool) (hk : kd = 3) (h : e = (x == y)) : PEq kd e (.bool x) (.bool y)
  | int (k : IntKind) (n m : Int) (hk : kd = intTag k) (h : e = (n == m)) (hn : k.min ≤ n ∧ n ≤ k.max) (hm : k.min ≤ m ∧ m ≤ k.max) : PEq kd e (.int k n) (.int k m)
  | str (s t : ByteArray) (hk : kd = 12) (h : e = decide (s = t)) (hs : s.size ≤ 16777214) (ht : t.size ≤ 16777214) : PEq kd e (.string s) (.string t)
/-- a text of which a bound alone is known -/
theorem isTx_str {σ : Sig} {I : Imm} {a : Nat} {v : Value} (h : isTx a = true) (hv : VR σ I a v) : ∃ s : ByteArray, v = .string s ∧ ((a / 18446744073709551616 % 4 = 1 ∧ 1 ≤ s.size ∧ s.size ≤ 8) ∨ (a / 18446744073709551616 % 4 ≠ 1 ∧ 9 ≤ s.size ∧ s.size ≤ 20)) := by
  unfold isTx at h
  rw [and'_eq, Bool.and_eq_true, beq_iff, ble_iff] at h
  have hp := hv.toP (by omega)
  unfold CRp at hp
  rw [h.1] at hp
  obtain ⟨_, _, _, h4⟩ := hp
  have hq : Nat.land (Nat.shiftRight a 64) 3 = a / 18446744073709551616 % 4 := by
    show (a >>> 64) &&& 3 = _
    rw [Nat.shiftRight_eq_div_pow]
    exact Nat.and_two_pow_sub_one_eq_mod _ 2
  rw [hq] at h
  rcases h4 with h4 | ⟨s, e, h4⟩
  · omega
  · exact ⟨s, e, h4⟩
theorem empty_str {σ : Sig} {I : Imm} {b : Nat} {v : Value} (h : b = 950737950171172051122527404032) (hv : VR σ I b v) : ∃ s : ByteArray, v = .string s ∧ s.size = 0 := by
  subst h
  have hp : CRp σ I 950737950171172051122527404032 v := hv.toP (by decide)
  unfold CRp at hp
  rw [show Ev.hi 950737950171172051122527404032 = 12 from by decide] at hp
  obtain ⟨s, e, h1, h2⟩ := hp
  refine ⟨s, e, ?_⟩
  unfold strC at h2
  have : s.data.toList.length = 0 := by omega
  simpa using this
theorem farB_ne {σ : Sig} {I : Imm} {a b : Nat} {va vb : Value} (h : farB a b = true) (ha : VR σ I a va) (hb : VR σ I b vb) : ∃ n m : Int, va = .int .i64 n ∧ vb = .int .i64 m ∧ n ≠ m ∧ (IntKind.i64.min ≤ n ∧ n ≤ IntKind.i64.max) ∧ (IntKind.i64.min ≤ m ∧ m ≤ IntKind.i64.max) := by
  unfold farB at h
  simp only [and'_eq, or'_eq, Bool.and_eq_true, Bool.or_eq_true, blt_iff] at h
  obtain ⟨m, rfl, q3⟩ := isNn_int h.1 hb
  have q : IntKind.i64.min ≤ m ∧ m ≤ IntKind.i64.max := by
    have h1 := h.1
    unfold isNn at h1
    simp only [and'_eq, Bool.and_eq_true, blt_iff] at h1
    simp [IntKind.min, IntKind.max, IntKind.signed, IntKind.bits]
    omega
  rcases h.2 with ⟨h1, h2⟩ | ⟨h1, h2⟩
  · obtain ⟨n, rfl, p1, p2, p3⟩ := isUp_int h1 ha
    exact ⟨n, m, rfl, rfl, by omega, ⟨p1, p2⟩, q⟩
  · obtain ⟨n, rfl, p1, p2, p3⟩ := isDn_int h1 ha
    exact ⟨n, m, rfl, rfl, by omega, ⟨p1, p2⟩, q⟩
theorem unE_peq {σ : Sig} {I : Imm} {kd a b : Nat} {va vb : Value} (h : unE kd a b = true) (ha : VR σ I a va) (hb : VR σ I b vb) : PEq kd false va vb := by
  unfold unE at h
  simp only [and'_eq, or'_eq, Bool.and_eq_true, Bool.or_eq_true, beq_iff] at h
  rcases h with ⟨hk, ⟨h1, h2⟩ | ⟨h1, h2⟩⟩ | ⟨hk, h1 | h1⟩
  · obtain ⟨s, rfl, hs⟩ := isTx_str h1 ha
    obtain ⟨t, rfl, ht⟩ := empty_str h2 hb
    exact .str s t hk (decide_eq_false (fun e => by subst e; omega)).symm (by omega) (by omega)
  · obtain ⟨s, rfl, hs⟩ := isTx_str h1 hb
    obtain ⟨t, rfl, ht⟩ := empty_str h2 ha
    exact .str t s hk (decide_eq_false (fun e => by subst e; omega)).symm (by omega) (by omega)
  · obtain ⟨n, m, rfl, rfl, hne, hn, hm⟩ := farB_ne h1 ha hb
    exact .int .i64 n m hk (by simpa using hne) hn hm
  · obtain ⟨n, m, rfl, rfl, hne, hn, hm⟩ := farB_ne h1 hb ha
    exact .int .i64 m n hk (by simpa using hne.symm) hm hn
theorem eqK_tells {kd a b : Nat} {H : HT} {nx : Nat} (hf : Free H nx) : Tells1 (eqK kd a b H) fun e => ∀ (I : Imm) (σ : Sig) va vb, Holds I H nx → VR σ I a va → VR σ I b vb → PEq kd e va vb := by
  show Tells1 (fun k => br (br (br (.bad 30) (k (Nat.beq a b)) (and' (Nat.ble 3 kd) (and' (Nat.ble kd 11) (and' (Nat.beq (hi a) kd) (Nat.beq (hi b) kd)))))
    (strs a b H fun n N m M => br (.bad 30) (k (and' (Nat.beq n m) (Nat.beq N M))) (and' (Nat.ble n 16777214) (Nat.ble m 16777214))) (Nat.beq kd 12)) (k false) (unE kd a b)) _
  refine Tells1.ite (fun h => Tells1.pure fun I σ va vb hI ha hb => unE_peq h ha hb) fun _ => ?_
  refine Tells1.ite (fun h => ?_) fun _ => Tells1.ifb fun h => Tells1.pure fun I σ va vb hI ha hb => ?_
  · show Tells1 (fun k => str a H fun n N => str b H fun m M => br (.bad 30) (k (and' (Nat.beq n m) (Nat.beq N M))) (and' (Nat.ble n 16777214) (Nat.ble m 16777214))) _
    refine Tells1.bind2 (str_tells hf) fun n N h1 => Tells1.bind2 (str_tells hf) fun m M h2 => Tells1.ifb fun hl => Tells1.pure fun I σ va vb hI ha hb => ?_
    obtain ⟨s, rfl, e2⟩ := h1.2 I σ va hI ha
    obtain ⟨t, rfl, e4⟩ := h2.2 I σ vb hI hb
    simp only [and'_eq, Bool.and_eq_true, ble_iff] at hl
    refine .str s t (beq_iff.1 h) (e2.eq_iff e4) ?_ ?_
    · have := e2.len; simp at this; omega
    · have := e4.len; simp at this; omega
  · simp only [and'_eq, Bool.and_eq_true, ble_iff, beq_iff] at h
    have h2 := two_of (ha.toP (by omega)) (hb.toP (by omega)) h.2.2.1 h.2.2.2 h.1 h.2.1
    cases h2 with
    | bool x y hh =>
      have h3 : kd = 3 := by
        have := ha.toP (by omega)
        by_cases h3 : kd = 3
        · exact h3
        · obtain ⟨k, _, n, e, _⟩ := this.int_inv (by omega) (by omega)
          exact Value.noConfusion e
      exact .bool x y h3 hh
    | int k n m hh hn hm =>
      have hp := ha.toP (by omega)
      have h3 : kd ≠ 3 := fun e => by
        obtain ⟨_, _, e⟩ := hp.bool_inv (by omega)
        exact Value.noConfusion e
      obtain ⟨k', hk', n', e, _⟩ := hp.int_inv (by omega) (by omega)
      injection e with e1 e2
      subst e1
      exact .int k n m (by omega) hh hn hm

/-! ### Comparing in the model -/
/-- what both comparisons of the model say -/
structure EqRun (P : Program) (lit : Bool) (t : TypeId) (va vb : Value) (e : Bool) : Prop where
  guard : ∀ op x y w, litOf x y = lit → (eqGuard op t x y va vb).run P w = .ok () w
  eql : ∀ w, (binOp .eql t va vb).run P w = .ok (.bool e) w
  neq : ∀ w, (binOp .neq t va vb).run P w = .ok (.bool (!e)) w
theorem guard_any {P : Program} {op : BinOp} {t : TypeId} {x y : Operand} {a b : Value} {w : World} (h1 : ¬ (a = .nilIface ∧ b = .nilIface)) (h2 : ∀ cs, a ≠ .agg cs) : (eqGuard op t x y a b).run P w = .ok () w := run_guard_of h1 h2
/-- told by the plain comparison -/
theorem EqRun.of {P : Program} {lit : Bool} {t : TypeId} {va vb : Value} {e : Bool} (hg : ∀ op x y w, litOf x y = lit → (eqGuard op t x y va vb).run P w = .ok () w)
    (h1 : ∀ w, (binOp .eql t va vb).run P w = (do pure (.bool (← Op.equal t va vb)) : Sem Value).run P w) (h2 : ∀ w, (binOp .neq t va vb).run P w = (do pure (.bool (!(← Op.equal t va vb))) : Sem Value).run P w)
    (he : ∀ w, (Op.equal t va vb).run P w = .ok e w) : EqRun P lit t va vb e where
  guard := hg
  eql := fun w => by rw [h1]; simp [Sem.run_bind, he w]
  neq := fun w => by rw [h2]; simp [Sem.run_bind, he w]
theorem run_equalS {P : Program} {t : TypeId} {d : TypeDesc} (h : P.underlying t = some d) {va vb : Value} {w : World} : (Op.equal t va vb).run P w = ((Op.equalIn 10000 t va vb)).run P w := rfl
theorem toList_inj {s t : ByteArray} : (s.toList == t.toList) = decide (s = t) := by
  rw [Bool.eq_iff_iff, beq_iff_eq, decide_eq_true_eq, ByteArray.toList_eq, ByteArray.toList_eq]
  exact ⟨fun h => bytes_ext h, fun h => by rw [h]⟩
theorem peq_run (hX : EnvOk X) {lit : Bool} {t : TypeId} {va vb : Value} {e : Bool} (h : PEq (kindT X t) e va vb) : EqRun X.P lit t va vb e := by
  cases h with
  | bool x y hk h =>
    have hu : X.P.underlying t = some .bool := kind_eq hX hk
    refine .of (fun op x y w _ => guard_any (by simp) (by simp)) (fun w => rfl) (fun w => rfl) fun w => ?_
    show (Op.equalIn (9999 + 1) t (.bool x) (.bool y)).run X.P w = _
    unfold Op.equalIn
    simp [Sem.run_bind, run_underlying hu, h]
  | int k n m hk h hn hm =>
    refine ⟨fun op x y w _ => guard_any (by simp) (by simp), fun w => ?_, fun w => ?_⟩
    · subst h; simp [binOp, Op.intCmp]
    · subst h; simp [binOp, Op.intCmp, bne]
  | str s t hk h =>
    refine ⟨fun op x y w _ => guard_any (by simp) (by simp), fun w => ?_, fun w => ?_⟩
    · subst h; simp only [binOp, Op.stringOp, toList_inj]; rfl
    · subst h; simp only [binOp, Op.stringOp, toList_inj]; rfl

/-! ### Structs of plain cells -/
inductive PlainV : Nat → Value → Lit → Prop
  | bool (b : Bool) : PlainV 3 (.bool b) (.bool b)
  | int (k : IntKind) (n : Int) (h1 : k.min ≤ n) (h2 : n ≤ k.max) : PlainV (intTag k) (.int k n) (.int k n)
  | str (s : ByteArray) (h : s.size ≤ 16777214) : PlainV 12 (.string s) (.string s.data.toList)
/-- cells of those kinds -/
def PlainL : List Nat → List Value → List Lit → Prop
  | [], [], [] => True
  | k :: ks, v :: vs, l :: ls => PlainV k v l ∧ PlainL ks vs ls
  | _, _, _ => False
theorem PlainL.length : ∀ {ks : List Nat} {vs : List Value} {ls : List Lit}, PlainL ks vs ls → vs.length = ks.length ∧ ls.length = ks.length
  | [], [], [], _ => ⟨rfl, rfl⟩
  | k :: ks, v :: vs, l :: ls, h => by have := PlainL.length h.2; simp [this.1, this.2]
  | [], _ :: _, _, h => h.elim
  | [], [], _ :: _, h => h.elim
  | _ :: _, [], _, h => h.elim
  | _ :: _, _ :: _, [], h => h.elim
theorem PlainL.drop : ∀ {ks : List Nat} {vs : List Value} {ls : List Lit} (n : Nat), PlainL ks vs ls → PlainL (ks.drop n) (vs.drop n) (ls.drop n)
  | ks, vs, ls, 0, h => by simpa using h
  | [], [], [], n + 1, h => by simpa using h
  | k :: ks, v :: vs, l :: ls, n + 1, h => by simpa using PlainL.drop n h.2
  | [], _ :: _, _, _ + 1, h => h.elim
  | [], [], _ :: _, _ + 1, h => h.elim
  | _ :: _, [], _, _ + 1, h => h.elim
  | _ :: _, _ :: _, [], _ + 1, h => h.elim
theorem PlainL.take : ∀ {ks : List Nat} {vs : List Value} {ls : List Lit} (n : Nat), PlainL ks vs ls → PlainL (ks.take n) (vs.take n) (ls.take n)
  | ks, vs, ls, 0, h => by simp [PlainL]
  | [], [], [], n + 1, h => by simp [PlainL]
  | k :: ks, v :: vs, l :: ls, n + 1, h => by simpa [PlainL] using ⟨h.1, PlainL.take n h.2⟩
  | [], _ :: _, _, _ + 1, h => h.elim
  | [], [], _ :: _, _ + 1, h => h.elim
  | _ :: _, [], _, _ + 1, h => h.elim
  | _ :: _, _ :: _, [], _ + 1, h => h.elim
theorem PlainV.inv12 {v : Value} {l : Lit} (h : PlainV 12 v l) : ∃ s : ByteArray, v = .string s ∧ l = .string s.data.toList ∧ s.size ≤ 16777214 := by
  generalize e : 12 = k at h
  cases h with
  | bool b => omega
  | int k n => cases k <;> simp [intTag] at e
  | str s h => exact ⟨s, rfl, rfl, h⟩
theorem PlainV.inv3 {v : Value} {l : Lit} (h : PlainV 3 v l) : ∃ b, v = .bool b ∧ l = .bool b := by
  generalize e : 3 = k at h
  cases h with
  | bool b => exact ⟨b, rfl, rfl⟩
  | int k n => cases k <;> simp [intTag] at e
  | str s h => omega
theorem PlainV.invI {k : IntKind} {v : Value} {l : Lit} (h : PlainV (intTag k) v l) : ∃ n, v = .int k n ∧ l = .int k n ∧ k.min ≤ n ∧ n ≤ k.max := by
  generalize e : intTag k = kd at h
  cases h with
  | bool b => cases k <;> simp [intTag] at e
  | int k' n h1 h2 => have := intTag_inj e; subst this; exact ⟨n, rfl, rfl, h1, h2⟩
  | str s h => cases k <;> simp [intTag] at e
theorem PlainL.one {k : Nat} {vs : List Value} {ls : List Lit} (h : PlainL [k] vs ls) : ∃ v l, vs = [v] ∧ ls = [l] ∧ PlainV k v l := by
  obtain ⟨h1, h2⟩ := h.length
  obtain ⟨v, rfl⟩ := List.length_eq_one_iff.1 h1
  obtain ⟨l, rfl⟩ := List.length_eq_one_iff.1 h2
  exact ⟨v, l, rfl, rfl, h.1⟩
/-- how the fields' kinds are gathered -/
def gather (P : Program) (d : Nat) (acc : Option (List Nat)) (f : Field) : Option (List Nat) :=
  match acc with | none => none | some l => if f.offset = l.length then (match plainT P d f.type with | some l' => some (l ++ l') | none => none) else none
theorem gather_none {P : Program} {d : Nat} : ∀ fs : List Field, fs.foldl (gather P d) none = none
  | [] => rfl
  | f :: fs => gather_none fs
theorem plainT_struct {P : Program} {d : Nat} {t : TypeId} {fs : Array Field} {ks : List Nat} (hu : P.underlying t = some (.struct fs)) (h : plainT P (d + 1) t = some ks) :
    fs.toList.foldl (gather P d) (some []) = some ks ∧ P.cellsOf t = ks.length := by
  unfold plainT at h
  simp only [hu] at h
  split at h
  · rename_i l hl
    split at h
    · rename_i hc
      injection h with h; subst h
      exact ⟨hl, hc⟩
    · cases h
  · cases h
theorem plainT_cells {P : Program} {d : Nat} {t : TypeId} {ks : List Nat} (h : plainT P d t = some ks) : P.cellsOf t = ks.length := by
  cases d with
  | zero => simp [plainT] at h
  | succ d =>
    cases hu : P.underlying t with
    | none => simp [plainT, hu] at h
    | some kd =>
      cases kd
      case struct fs => exact (plainT_struct hu h).2
      case int k => simp only [plainT, hu] at h; split at h <;> first | (injection h with h; subst h; assumption) | cases h
      case bool => simp only [plainT, hu] at h; split at h <;> first | (injection h with h; subst h; assumption) | cases h
      case string => simp only [plainT, hu] at h; split at h <;> first | (injection h with h; subst h; assumption) | cases h
      all_goals (simp [plainT, hu] at h; done)
theorem gather_pre {P : Program} {d : Nat} : ∀ (fs : List Field) (acc res : List Nat), fs.foldl (gather P d) (some acc) = some res → ∃ m, res = acc ++ m
  | [], acc, res, h => ⟨[], by simpa using h.symm⟩
  | f :: fs, acc, res, h => by
    simp only [List.foldl_cons] at h
    unfold gather at h
    simp only at h
    split at h
    · split at h
      · obtain ⟨m, hm⟩ := gather_pre fs _ res h
        exact ⟨_, by rw [hm, List.append_assoc]⟩
      · have := gather_none (P := P) (d := d) fs; unfold gather at this; rw [this] at h; cases h
    · have := gather_none (P := P) (d := d) fs; unfold gather at this; rw [this] at h; cases h
theorem lits_of {P : Program} : ∀ (d : Nat) (t : TypeId) (m : Nat) (ks : List Nat) (vs : List Value) (ls : List Lit), plainT P d t = some ks → P.keyTypeAt m t = true → PlainL ks vs ls → P.keyLits d t vs = some ls
  | 0, t, m, ks, vs, ls, h, _, _ => by simp [plainT] at h
  | d + 1, t, 0, ks, vs, ls, h, hk, _ => by simp [Program.keyTypeAt] at hk
  | d + 1, t, m + 1, ks, vs, ls, h, hk, hp => by
    cases hu : P.underlying t with
    | none => simp [plainT, hu] at h
    | some kd =>
      cases kd
      case bool =>
        simp only [plainT, hu] at h; split at h
        · injection h with h; subst h
          obtain ⟨v, l, rfl, rfl, hq⟩ := hp.one
          obtain ⟨b, rfl, rfl⟩ := hq.inv3; simp [Program.keyLits, hu]
        · cases h
      case int k =>
        simp only [plainT, hu] at h; split at h
        · injection h with h; subst h
          obtain ⟨v, l, rfl, rfl, hq⟩ := hp.one
          obtain ⟨n, rfl, rfl, h1, h2⟩ := hq.invI; simp [Program.keyLits, hu, Lit.wf, h1, h2]
        · cases h
      case string =>
        simp only [plainT, hu] at h; split at h
        · injection h with h; subst h
          obtain ⟨v, l, rfl, rfl, hq⟩ := hp.one
          obtain ⟨s, rfl, rfl, h1⟩ := hq.inv12; simp only [Program.keyLits, hu]; rw [if_pos (show s.size ≤ maxLen by unfold maxLen; omega)]
        · cases h
      case struct fs =>
        obtain ⟨hg, hc⟩ := plainT_struct hu h
        unfold Program.keyTypeAt at hk
        simp only [hu, Bool.and_eq_true, Bool.not_eq_true'] at hk
        have hfs := Array.all_eq_true_iff_forall_mem.1 hk.1.1
        have hlen := hp.length
        have key : ∀ (l : List Field) (acc : List Nat), (∀ f ∈ l, f.name ≠ "_" ∧ P.keyTypeAt m f.type = true) → l.foldl (gather P d) (some acc) = some ks →
            ∃ pieces, l.mapM (fun f => P.keyLits d f.type ((vs.drop f.offset).take (P.cellsOf f.type))) = some pieces ∧ pieces.flatten = ls.drop acc.length := by
          intro l
          induction l with
          | nil =>
            intro acc _ hfold
            simp at hfold; subst hfold
            exact ⟨[], rfl, by rw [List.drop_eq_nil_of_le (by omega)]; rfl⟩
          | cons f l ih =>
            intro acc hall hfold
            simp only [List.foldl_cons] at hfold
            by_cases ho : f.offset = acc.length
            · cases hpt : plainT P d f.type with
              | none =>
                have : gather P d (some acc) f = none := by unfold gather; simp [ho, hpt]
                rw [this, gather_none] at hfold; cases hfold
              | some l' =>
                have hgth : gather P d (some acc) f = some (acc ++ l') := by unfold gather; simp [ho, hpt]
                rw [hgth] at hfold
                obtain ⟨mm, hm⟩ := gather_pre l _ _ hfold
                obtain ⟨pieces, p1, p2⟩ := ih (acc ++ l') (fun f hf => hall f (by simp [hf])) hfold
                have hcl := plainT_cells hpt
                have hpl : PlainL l' ((vs.drop f.offset).take (P.cellsOf f.type)) ((ls.drop f.offset).take (P.cellsOf f.type)) := by
                  have := (hp.drop f.offset).take (P.cellsOf f.type)
                  rw [hm, ho, hcl] at this
                  simpa [ho, hcl] using this
                have h1 := lits_of d f.type m l' _ _ hpt (hall f (by simp)).2 hpl
                refine ⟨(ls.drop f.offset).take (P.cellsOf f.type) :: pieces, ?_, ?_⟩
                · rw [List.mapM_cons, h1, p1]; rfl
                · rw [List.flatten_cons, p2, ho, hcl, List.length_append, ← List.drop_drop, List.take_append_drop]
            · have : gather P d (some acc) f = none := by unfold gather; simp [ho]
              rw [this, gather_none] at hfold; cases hfold
        obtain ⟨pieces, p1, p2⟩ := key fs.toList [] (fun f hf => by
          have := hfs f (Array.mem_toList_iff.1 hf)
          simp only [Bool.and_eq_true, bne_iff_ne, ne_eq] at this
          exact this) hg
        simp only [Program.keyLits, hu]
        rw [if_pos ⟨by rw [hlen.1, hc], by
          refine Array.all_eq_true_iff_forall_mem.2 fun f hf => ?_
          have := hfs f hf
          simp only [Bool.and_eq_true] at this; exact this.1⟩, p1]
        simp [p2]
      all_goals (simp [plainT, hu] at h; done)
theorem no_guard {P : Program} : ∀ (d : Nat) (t : TypeId) (D : Nat) (ks : List Nat), plainT P d t = some ks → d ≤ D → P.eqGuardType D t = false
  | 0, t, D, ks, h, _ => by simp [plainT] at h
  | d + 1, t, 0, ks, h, hd => by omega
  | d + 1, t, D + 1, ks, h, hd => by
    cases hu : P.underlying t with
    | none => simp [plainT, hu] at h
    | some kd =>
      cases kd
      case struct fs =>
        obtain ⟨hg, hc⟩ := plainT_struct hu h
        have key : ∀ (l : List Field) (acc : List Nat), l.foldl (gather P d) (some acc) = some ks → ∀ f ∈ l, P.eqGuardType D f.type = false := by
          intro l
          induction l with
          | nil => intro acc _ f hf; cases hf
          | cons g l ih =>
            intro acc hfold f hf
            simp only [List.foldl_cons] at hfold
            by_cases ho : g.offset = acc.length
            · cases hpt : plainT P d g.type with
              | none =>
                have : gather P d (some acc) g = none := by unfold gather; simp [ho, hpt]
                rw [this, gather_none] at hfold; cases hfold
              | some l' =>
                have hgth : gather P d (some acc) g = some (acc ++ l') := by unfold gather; simp [ho, hpt]
                rw [hgth] at hfold
                rcases List.mem_cons.1 hf with rfl | hf
                · exact no_guard d _ D l' hpt (by omega)
                · exact ih _ hfold f hf
            · have : gather P d (some acc) g = none := by unfold gather; simp [ho]
              rw [this, gather_none] at hfold; cases hfold
        unfold Program.eqGuardType
        simp only [hu]
        rw [Bool.eq_false_iff, ne_eq, Array.any_eq_true]
        rintro ⟨i, hi, he⟩
        have := key fs.toList [] hg fs[i] (by simp)
        rw [this] at he; simp at he
      all_goals (unfold Program.eqGuardType; simp [plainT, hu] at h ⊢)
end Go.Ev
set_option linter.unusedVariables false
set_option linter.unusedSimpArgs false
namespace Go.Ev
variable {X : Env} {o : Oper} {f : FR} {H : HT} {nx : Nat} {call : CallT}

/-! ### Cells of structs compared -/
theorem PEq.lits {kd : Nat} {e : Bool} {va vb : Value} (h : PEq kd e va vb) : ∃ la lb, PlainV kd va la ∧ PlainV kd vb lb ∧ (e = true ↔ la = lb) := by
  cases h with
  | bool x y hk h => subst hk; exact ⟨_, _, .bool x, .bool y, by rw [h]; cases x <;> cases y <;> simp⟩
  | int k n m hk h hn hm => subst hk; exact ⟨_, _, .int k n hn.1 hn.2, .int k m hm.1 hm.2, by rw [h]; simp⟩
  | str s t hk h hs ht => subst hk; exact ⟨_, _, .str s hs, .str t ht, by
      rw [h, decide_eq_true_eq]
      exact ⟨fun e => by rw [e], fun e => by injection e with e; exact bytes_ext e⟩⟩
noncomputable def eqAA (H : HT) (k : Bool → Out) (ks : List Nat) : Bool → Nat → Nat → Out :=
  @List.rec Nat (fun _ => Bool → Nat → Nat → Out) (fun acc _ _ => k acc)
    (fun kd _ ih acc N M => frc (fun a => frc (fun b => eqK kd a b H fun e => frc (fun N => frc (fun M => br (ih false N M) (ih acc N M) e) (Nat.shiftRight M 128)) (Nat.shiftRight N 128)) (dig M 1)) (dig N 1)) ks
theorem eqA_eq (H : HT) (k : Bool → Out) (ks : List Nat) (N M : Nat) : eqA H k ks N M = eqAA H k ks true N M := rfl
theorem eqA_tells {H : HT} {nx : Nat} (hf : Free H nx) : ∀ (ks : List Nat) (acc : Bool) (N M : Nat), Tells1 (fun k => eqAA H k ks acc N M) fun e => ∀ (I : Imm) (σ : Sig) (vs ws : List Value), Holds I H nx → vs.length = ks.length → ws.length = ks.length →
    (∀ i (h : i < vs.length), CRs σ I (dig N (i + 1)) vs[i]) → (∀ i (h : i < ws.length), CRs σ I (dig M (i + 1)) ws[i]) → ∃ la lb, PlainL ks vs la ∧ PlainL ks ws lb ∧ (e = true ↔ acc = true ∧ la = lb)
  | [], acc, N, M => Tells1.pure fun I σ vs ws _ h1 h2 _ _ => by
    have e1 : vs = [] := List.length_eq_zero_iff.1 h1
    have e2 : ws = [] := List.length_eq_zero_iff.1 h2
    subst e1 e2; exact ⟨[], [], trivial, trivial, by simp⟩
  | kd :: ks, acc, N, M => by
    show Tells1 (fun k => frc (fun a => frc (fun b => eqK kd a b H fun e => frc (fun N => frc (fun M => br (eqAA H k ks false N M) (eqAA H k ks acc N M) e) (Nat.shiftRight M 128)) (Nat.shiftRight N 128)) (dig M 1)) (dig N 1)) _
    refine Tells1.frc (Tells1.frc (Tells1.bind1 (eqK_tells hf) fun e he => Tells1.frc (Tells1.frc ?_)))
    have split : ∀ (I : Imm) (σ : Sig) (vs : List Value) (N : Nat), vs.length = (kd :: ks).length → (∀ i (h : i < vs.length), CRs σ I (dig N (i + 1)) vs[i]) →
        ∃ v vs', vs = v :: vs' ∧ vs'.length = ks.length ∧ CRs σ I (dig N 1) v ∧ ∀ i (h : i < vs'.length), CRs σ I (dig (Nat.shiftRight N 128) (i + 1)) vs'[i] := by
      intro I σ vs N hl hc
      cases vs with
      | nil => simp at hl
      | cons v vs' =>
        refine ⟨v, vs', rfl, by simpa using hl, hc 0 (by simp), fun i h => ?_⟩
        show CRs σ I (dig (N >>> 128) (i + 1)) _
        rw [dig_shr]
        exact hc (i + 1) (by simpa using h)
    have main : ∀ acc', Tells1 (fun k => eqAA H k ks acc' (Nat.shiftRight N 128) (Nat.shiftRight M 128)) fun e' => ∀ (I : Imm) (σ : Sig) (vs ws : List Value), Holds I H nx → vs.length = (kd :: ks).length → ws.length = (kd :: ks).length →
        (∀ i (h : i < vs.length), CRs σ I (dig N (i + 1)) vs[i]) → (∀ i (h : i < ws.length), CRs σ I (dig M (i + 1)) ws[i]) → ∃ la lb la' lb', PlainL (kd :: ks) vs (la :: la') ∧ PlainL (kd :: ks) ws (lb :: lb') ∧ (e = true ↔ la = lb) ∧ (e' = true ↔ acc' = true ∧ la' = lb') := fun acc' =>
      (eqA_tells hf ks acc' _ _).mono fun e' h I σ vs ws hI h1 h2 h3 h4 => by
        obtain ⟨v, vs', rfl, q2, q3, q4⟩ := split I σ vs N h1 h3
        obtain ⟨u, ws', rfl, r2, r3, r4⟩ := split I σ ws M h2 h4
        obtain ⟨la, lb, p1, p2, p3⟩ := (he I σ _ _ hI q3.toV r3.toV).lits
        obtain ⟨la', lb', s1, s2, s3⟩ := h I σ vs' ws' hI q2 r2 q4 r4
        exact ⟨la, lb, la', lb', ⟨p1, s1⟩, ⟨p2, s2⟩, p3, s3⟩
    refine Tells1.ite (fun ht => (main acc).mono fun e' h I σ vs ws hI h1 h2 h3 h4 => ?_) fun ht => (main false).mono fun e' h I σ vs ws hI h1 h2 h3 h4 => ?_
    · obtain ⟨la, lb, la', lb', p1, p2, p3, p4⟩ := h I σ vs ws hI h1 h2 h3 h4
      refine ⟨_, _, p1, p2, ?_⟩
      have : la = lb := p3.1 ht
      subst this
      rw [p4]; simp
    · obtain ⟨la, lb, la', lb', p1, p2, p3, p4⟩ := h I σ vs ws hI h1 h2 h3 h4
      refine ⟨_, _, p1, p2, ?_⟩
      have : la ≠ lb := fun h => by rw [p3.2 h] at ht; cases ht
      rw [p4]; simp [this]
theorem split_cells {σ : Sig} {I : Imm} {N : Nat} {cs : Array Value} (h : ∀ i (h : i < cs.size), CRs σ I (dig N (i + 1)) cs[i]) : ∀ i (h : i < cs.toList.length), CRs σ I (dig N (i + 1)) cs.toList[i] := fun i hi => by
  have := h i (by simpa using hi)
  simpa using this
theorem guard_struct {P : Program} {op : BinOp} {t : TypeId} {x y : Operand} {xs ys : Array Value} {w : World} (h : P.eqGuardType P.depth t = false) : (eqGuard op t x y (.agg xs) (.agg ys)).run P w = .ok () w := by
  unfold eqGuard
  have hp : (program).run P w = .ok P w := rfl
  cases op <;> first | rfl | simp [Sem.run_bind, hp, h]
theorem depth_ge {P : Program} (h : 3 ≤ P.types.size) : 8 ≤ P.depth := by unfold Program.depth; omega
theorem agg_run (hX : EnvOk X) (hT : 3 ≤ X.P.types.size) {lit : Bool} {t : TypeId} {ks : List Nat} (hk : kindT X t = 1) (hp : plainT X.P 8 t = some ks) (hkt : X.P.keyTypeAt 8 t = true) {xs ys : Array Value} {la lb : List Lit} {e : Bool}
    (h1 : PlainL ks xs.toList la) (h2 : PlainL ks ys.toList lb) (he : e = true ↔ la = lb) : EqRun X.P lit t (.agg xs) (.agg ys) e := by
  obtain ⟨fs, hu⟩ : ∃ fs, X.P.underlying t = some (.struct fs) := kind_eq hX hk
  have hl1 := lits_of 8 t 8 ks _ _ hp hkt h1
  have hl2 := lits_of 8 t 8 ks _ _ hp hkt h2
  have hc := plainT_cells hp
  have f1 : (Value.agg xs).formed X.P t = true := by
    simp only [Value.formed, hu]
    have := h1.length.1
    simp at this
    simp [this, hc]
  have f2 : (Value.agg ys).formed X.P t = true := by
    simp only [Value.formed, hu]
    have := h2.length.1
    simp at this
    simp [this, hc]
  refine .of (fun op x y w _ => guard_struct (no_guard 8 t _ ks hp (depth_ge hT))) (fun w => rfl) (fun w => rfl) fun w => ?_
  obtain ⟨r, hr, hiff⟩ := run_equalIn_deep (P := X.P) 9992 8 t hkt w 8 8 (.agg xs) (.agg ys) la lb f1 f2 hl1 hl2
  show (Op.equalIn (9992 + 8) t (.agg xs) (.agg ys)).run X.P w = _
  rw [hr]
  congr 1
  rw [Bool.eq_iff_iff, hiff, he]

/-! ### Where one is nil -/
theorem or4 {a b c d : Bool} (h : or' (and' a b) (and' c d) = true) : (a = true ∧ b = true) ∨ (c = true ∧ d = true) := by
  rw [or'_eq, and'_eq, and'_eq, Bool.or_eq_true, Bool.and_eq_true, Bool.and_eq_true] at h; exact h
theorem nil_run (hX : EnvOk X) {σ : Sig} {I : Imm} {lit : Bool} {t : TypeId} {a b : Nat} {va vb : Value} (hk : 14 ≤ kindT X t ∧ kindT X t ≤ 17) (h1 : hi a = kindT X t) (h2 : hi b = kindT X t) (h3 : some' a = false ∨ some' b = false)
    (ha : VR σ I a va) (hb : VR σ I b vb) : EqRun X.P lit t va vb (Nat.beq a b) := by
  have pa := ha.toP (by omega)
  have pb := hb.toP (by omega)
  have hs : kindT X t = 14 ∨ kindT X t = 15 ∨ kindT X t = 16 ∨ kindT X t = 17 := by omega
  have hn : ∀ {c : Nat}, some' c = false → c % 16777216 = 0 := fun {c} h => by rw [some'_def] at h; simpa using h
  rcases hs with e | e | e | e
  · obtain ⟨el, hu⟩ : ∃ e, X.P.underlying t = some (.pointer e) := kind_eq hX e
    rcases pa.ptr_inv (by omega) with ⟨ra, rfl⟩ | ⟨ba, oa, ea, q1, q2, q3, ra, rfl⟩ <;> rcases pb.ptr_inv (by omega) with ⟨rb, rfl⟩ | ⟨bb, ob, eb, r1, r2, r3, rb, rfl⟩
    · refine .of (fun op x y w _ => guard_any (by simp) (by simp)) (fun w => rfl) (fun w => rfl) fun w => ?_
      rw [beq_iff.2 (by rw [ra, rb])]
      show (Op.equalIn (9999 + 1) t _ _).run X.P w = _
      unfold Op.equalIn; simp [Sem.run_bind, run_underlying hu]
    · refine .of (fun op x y w _ => guard_any (by simp) (by simp)) (fun w => rfl) (fun w => rfl) fun w => ?_
      rw [beq_false.2 (by rw [ra, rb, mkPtr_def]; omega)]
      show (Op.equalIn (9999 + 1) t _ _).run X.P w = _
      unfold Op.equalIn; simp [Sem.run_bind, run_underlying hu]
    · refine .of (fun op x y w _ => guard_any (by simp) (by simp)) (fun w => rfl) (fun w => rfl) fun w => ?_
      rw [beq_false.2 (by rw [ra, rb, mkPtr_def]; omega)]
      show (Op.equalIn (9999 + 1) t _ _).run X.P w = _
      unfold Op.equalIn; simp [Sem.run_bind, run_underlying hu]
    · exfalso
      rw [ra, rb, some_mkPtr q2, some_mkPtr r2] at h3; simp at h3
  · obtain ⟨el, hu⟩ : ∃ e, X.P.underlying t = some (.slice e) := kind_eq hX e
    rcases pa.sl_inv (by omega) with ⟨ra, rfl⟩ | ⟨ba, oa, na, ca, capa, ea, q1, q2, q3, q4, q5, ra, rfl, _⟩ <;> rcases pb.sl_inv (by omega) with ⟨rb, rfl⟩ | ⟨bb, ob, nb, cb, capb, eb, r1, r2, r3, r4, r5, rb, rfl, _⟩
    · refine .of (fun op x y w _ => guard_any (by simp) (by simp)) (fun w => rfl) (fun w => rfl) fun w => ?_
      rw [beq_iff.2 (by rw [ra, rb])]
      show (Op.equalIn (9999 + 1) t _ _).run X.P w = _
      unfold Op.equalIn; simp [Sem.run_bind, run_underlying hu]
    · refine .of (fun op x y w _ => guard_any (by simp) (by simp)) (fun w => rfl) (fun w => rfl) fun w => ?_
      rw [beq_false.2 (by rw [ra, rb, mkSl_def]; omega)]
      show (Op.equalIn (9999 + 1) t _ _).run X.P w = _
      unfold Op.equalIn; simp [Sem.run_bind, run_underlying hu]
    · refine .of (fun op x y w _ => guard_any (by simp) (by simp)) (fun w => rfl) (fun w => rfl) fun w => ?_
      rw [beq_false.2 (by rw [ra, rb, mkSl_def]; omega)]
      show (Op.equalIn (9999 + 1) t _ _).run X.P w = _
      unfold Op.equalIn; simp [Sem.run_bind, run_underlying hu]
    · exfalso
      rw [ra, rb, some_mkSl q2, some_mkSl r2] at h3; simp at h3
  · obtain ⟨kk, el, hu⟩ : ∃ k e, X.P.underlying t = some (.map k e) := kind_eq hX e
    rcases pa.map_inv (by omega) with ⟨ra, rfl⟩ | ⟨ba, ea, q1, q2, ra, rfl⟩ <;> rcases pb.map_inv (by omega) with ⟨rb, rfl⟩ | ⟨bb, eb, r1, r2, rb, rfl⟩
    · refine .of (fun op x y w _ => guard_any (by simp) (by simp)) (fun w => rfl) (fun w => rfl) fun w => ?_
      rw [beq_iff.2 (by rw [ra, rb])]
      show (Op.equalIn (9999 + 1) t _ _).run X.P w = _
      unfold Op.equalIn; simp [Sem.run_bind, run_underlying hu]
    · refine .of (fun op x y w _ => guard_any (by simp) (by simp)) (fun w => rfl) (fun w => rfl) fun w => ?_
      rw [beq_false.2 (by rw [ra, rb]; omega)]
      show (Op.equalIn (9999 + 1) t _ _).run X.P w = _
      unfold Op.equalIn; simp [Sem.run_bind, run_underlying hu]
    · refine .of (fun op x y w _ => guard_any (by simp) (by simp)) (fun w => rfl) (fun w => rfl) fun w => ?_
      rw [beq_false.2 (by rw [ra, rb]; omega)]
      show (Op.equalIn (9999 + 1) t _ _).run X.P w = _
      unfold Op.equalIn; simp [Sem.run_bind, run_underlying hu]
    · exfalso
      rcases h3 with h | h
      · have := hn h; omega
      · have := hn h; omega
  · obtain ⟨dd, el, hu⟩ : ∃ d e, X.P.underlying t = some (.chan d e) := kind_eq hX e
    rcases pa.chan_inv (by omega) with ⟨ra, rfl⟩ | ⟨ba, ea, q1, q2, ra, rfl⟩ <;> rcases pb.chan_inv (by omega) with ⟨rb, rfl⟩ | ⟨bb, eb, r1, r2, rb, rfl⟩
    · refine .of (fun op x y w _ => guard_any (by simp) (by simp)) (fun w => rfl) (fun w => rfl) fun w => ?_
      rw [beq_iff.2 (by rw [ra, rb])]
      show (Op.equalIn (9999 + 1) t _ _).run X.P w = _
      unfold Op.equalIn; simp [Sem.run_bind, run_underlying hu]
    · refine .of (fun op x y w _ => guard_any (by simp) (by simp)) (fun w => rfl) (fun w => rfl) fun w => ?_
      rw [beq_false.2 (by rw [ra, rb]; omega)]
      show (Op.equalIn (9999 + 1) t _ _).run X.P w = _
      unfold Op.equalIn; simp [Sem.run_bind, run_underlying hu]
    · refine .of (fun op x y w _ => guard_any (by simp) (by simp)) (fun w => rfl) (fun w => rfl) fun w => ?_
      rw [beq_false.2 (by rw [ra, rb]; omega)]
      show (Op.equalIn (9999 + 1) t _ _).run X.P w = _
      unfold Op.equalIn; simp [Sem.run_bind, run_underlying hu]
    · exfalso
      rcases h3 with h | h
      · have := hn h; omega
      · have := hn h; omega
end Go.Ev
set_option linter.unusedVariables false
set_option linter.unusedSimpArgs false
namespace Go.Ev
variable {X : Env} {o : Oper} {f : FR} {H : HT} {nx : Nat} {call : CallT}

/-! ### Functions, interfaces compared -/
theorem fn_inv {σ : Sig} {I : Imm} {c : Nat} {v : Value} (h : VR σ I c v) (h1 : 18 ≤ hi c) (h2 : hi c ≤ 20) : (hi c = 20 ∧ c = 1584563250285286751870879006720 ∧ v = .nilFunc) ∨ (hi c ≠ 20 ∧ ∃ g x y, v = .func g x y) := by
  have hs := h.toS (by omega)
  rcases hs with hs | ⟨q, _, g, _, _, _, _, x, y, _, rfl, _⟩
  · have hp := hs.of_lt (by omega)
    unfold CRp at hp
    have : hi c = 18 ∨ hi c = 19 ∨ hi c = 20 := by omega
    rcases this with e | e | e <;> rw [e] at hp
    · obtain ⟨g, _, _, rfl⟩ := hp; exact .inr ⟨by omega, _, _, _, rfl⟩
    · exact hp.elim
    · exact .inl ⟨e, hp⟩
  · exact .inr ⟨by omega, _, _, _, rfl⟩
theorem func_run (hX : EnvOk X) {σ : Sig} {I : Imm} {lit : Bool} {t : TypeId} {a b : Nat} {va vb : Value} (hk : kindT X t = 18) (h1 : 18 ≤ hi a ∧ hi a ≤ 20) (h2 : 18 ≤ hi b ∧ hi b ≤ 20) (h3 : hi a = 20 ∨ hi b = 20)
    (ha : VR σ I a va) (hb : VR σ I b vb) : EqRun X.P lit t va vb (Nat.beq a b) := by
  obtain ⟨pp, rr, vv, hu⟩ : ∃ p r v, X.P.underlying t = some (.func p r v) := kind_eq hX hk
  rcases fn_inv ha h1.1 h1.2 with ⟨q1, q2, rfl⟩ | ⟨q1, g, x, y, rfl⟩ <;> rcases fn_inv hb h2.1 h2.2 with ⟨r1, r2, rfl⟩ | ⟨r1, g', x', y', rfl⟩
  · refine .of (fun op x y w _ => guard_any (by simp) (by simp)) (fun w => rfl) (fun w => rfl) fun w => ?_
    rw [beq_iff.2 (by rw [q2, r2])]
    show (Op.equalIn (9999 + 1) t _ _).run X.P w = _
    unfold Op.equalIn; simp [Sem.run_bind, run_underlying hu]
  · refine .of (fun op x y w _ => guard_any (by simp) (by simp)) (fun w => rfl) (fun w => rfl) fun w => ?_
    rw [beq_false.2 (fun e => by rw [e] at q1; exact r1 q1)]
    show (Op.equalIn (9999 + 1) t _ _).run X.P w = _
    unfold Op.equalIn; simp [Sem.run_bind, run_underlying hu]
  · refine .of (fun op x y w _ => guard_any (by simp) (by simp)) (fun w => rfl) (fun w => rfl) fun w => ?_
    rw [beq_false.2 (fun e => by rw [← e] at r1; exact q1 r1)]
    show (Op.equalIn (9999 + 1) t _ _).run X.P w = _
    unfold Op.equalIn; simp [Sem.run_bind, run_underlying hu]
  · omega
/-- told of two cells -/
def EqR (X : Env) (lit : Bool) (t : TypeId) (a b : Nat) (H : HT) (nx : Nat) (e : Bool) : Prop := ∀ (I : Imm) (σ : Sig) va vb, Holds I H nx → VR σ I a va → VR σ I b vb → EqRun X.P lit t va vb e
theorem eqN_tells (hX : EnvOk X) {lit : Bool} {t : TypeId} {a b : Nat} : Tells1 (eqN (kindT X t) a b) (EqR X lit t a b H nx) := by
  refine Tells1.ifb fun h => Tells1.pure fun I σ va vb hI ha hb => ?_
  simp only [and'_eq, or'_eq, not'_eq, Bool.or_eq_true, Bool.and_eq_true, beq_iff, ble_iff, Bool.not_eq_true'] at h
  rcases h with ⟨h1, ⟨h2, h3⟩, h4⟩ | ⟨h1, h2⟩
  · exact nil_run hX h1 h2 h3 h4 ha hb
  · refine func_run hX h1 ?_ ?_ ?_ ha hb <;> omega
theorem iface_inv {σ : Sig} {I : Imm} {c : Nat} {v : Value} (h : VR σ I c v) (h1 : 256 ≤ hi c) : ∃ t w, c / tI = t + 1 ∧ v = .iface t w ∧ hi (c % tI) ≤ 21 ∧ CRp σ I (c % tI) w ∧ c < 340282366920938463463374607431768211456 := by
  have hs := h.toS (by omega)
  rcases hs with hs | ⟨q, _⟩
  · rcases hs with ⟨q1, q2, t, w, q3, q4, q5, q6⟩ | ⟨q, _⟩
    · exact ⟨t, w, q3, q4, q5, q6, q2⟩
    · omega
  · omega
theorem nilI_inv {σ : Sig} {I : Imm} {c : Nat} {v : Value} (h : VR σ I c v) (h1 : hi c = 21) : c = 1663791412799551089464422957056 ∧ v = .nilIface := by
  have hp := h.toP (by omega)
  unfold CRp at hp; rw [h1] at hp; exact hp
theorem comp_def {t : TypeId} (h : compT X t = true) : ∃ i, X.P.info? t = some i ∧ i.comparable = true := by
  unfold compT at h
  cases hi : X.P.info? t with
  | none => rw [hi] at h; cases h
  | some i => rw [hi] at h; exact ⟨i, rfl, h⟩
theorem shr104 (c : Nat) : Nat.shiftRight c 104 = c / tI := by
  show c >>> 104 = _; rw [Nat.shiftRight_eq_div_pow]
theorem hi_modI (c : Nat) : hi c % 256 = hi (c % tI) := by
  rw [hi_def, hi_def]
  show c / 79228162514264337593543950336 % 256 = c % 20282409603651670423947251286016 / 79228162514264337593543950336
  omega
theorem eq_modI {a b : Nat} (h : a / tI = b / tI) : a = b ↔ a % tI = b % tI := by
  have h' : a / 20282409603651670423947251286016 = b / 20282409603651670423947251286016 := h
  show a = b ↔ a % 20282409603651670423947251286016 = b % 20282409603651670423947251286016
  omega
theorem eqI_tells (hX : EnvOk X) {lit : Bool} {t : TypeId} {a b : Nat} (hk : kindT X t = 21) : Tells1 (eqI lit X a b) (EqR X lit t a b H nx) := by
  obtain ⟨ms, hu⟩ : ∃ ms, X.P.underlying t = some (.interface ms) := kind_eq hX hk
  show Tells1 (fun k => br (br (br (.bad 27)
        (br (k false) (frc (fun t => br (.bad 26) (k (Nat.beq a b)) (and' (compT X t) (and' (isI (kindT X t)) (and' (Nat.beq (Nat.land (hi a) 255) (kindT X t)) (Nat.beq (Nat.land (hi b) 255) (kindT X t)))))) (Nat.pred (Nat.shiftRight a 104)))
          (Nat.beq (Nat.shiftRight a 104) (Nat.shiftRight b 104))) (and' (Nat.ble 256 (hi a)) (Nat.ble 256 (hi b))))
      (k false) (or' (and' (Nat.beq (hi a) 21) (Nat.ble 256 (hi b))) (and' (Nat.beq (hi b) 21) (Nat.ble 256 (hi a)))))
    (br (.bad 28) (k true) lit) (and' (Nat.beq (hi a) 21) (Nat.beq (hi b) 21))) _
  refine Tells1.ite (fun h => Tells1.ifb fun hl => Tells1.pure fun I σ va vb hI ha hb => ?_) fun _ => Tells1.ite (fun h => Tells1.pure fun I σ va vb hI ha hb => ?_) fun _ => Tells1.ifb fun h => Tells1.ite (fun h2 => Tells1.frc (Tells1.ifb fun h3 => Tells1.pure fun I σ va vb hI ha hb => ?_)) fun h2 => Tells1.pure fun I σ va vb hI ha hb => ?_
  · simp only [and'_eq, Bool.and_eq_true, beq_iff] at h
    obtain ⟨_, rfl⟩ := nilI_inv ha h.1
    obtain ⟨_, rfl⟩ := nilI_inv hb h.2
    refine .of (fun op x y w hlit => ?_) (fun w => rfl) (fun w => rfl) fun w => ?_
    · rw [hl] at hlit
      unfold litOf at hlit
      rw [or'_eq, Bool.or_eq_true] at hlit
      unfold eqGuard
      rcases hlit with hc | hc
      · cases x <;> first | (cases op <;> rfl) | (exact absurd hc (by simp [isLit]))
      · cases y <;> first | (cases op <;> first | rfl | (simp; done)) | (exact absurd hc (by simp [isLit]))
    · show (Op.equalIn (9999 + 1) t _ _).run X.P w = _
      unfold Op.equalIn; simp [Sem.run_bind, run_underlying hu]
  · simp only [and'_eq, or'_eq, Bool.or_eq_true, Bool.and_eq_true, beq_iff, ble_iff] at h
    rcases h with ⟨q1, q2⟩ | ⟨q1, q2⟩
    · obtain ⟨_, rfl⟩ := nilI_inv ha q1
      obtain ⟨t2, w2, _, rfl, _⟩ := iface_inv hb q2
      refine .of (fun op x y w _ => guard_any (by simp) (by simp)) (fun w => rfl) (fun w => rfl) fun w => ?_
      show (Op.equalIn (9999 + 1) t _ _).run X.P w = _
      unfold Op.equalIn; simp [Sem.run_bind, run_underlying hu]
    · obtain ⟨_, rfl⟩ := nilI_inv hb q1
      obtain ⟨t2, w2, _, rfl, _⟩ := iface_inv ha q2
      refine .of (fun op x y w _ => guard_any (by simp) (by simp)) (fun w => rfl) (fun w => rfl) fun w => ?_
      show (Op.equalIn (9999 + 1) t _ _).run X.P w = _
      unfold Op.equalIn; simp [Sem.run_bind, run_underlying hu]
  · simp only [and'_eq, Bool.and_eq_true, ble_iff] at h
    rw [shr104, shr104, beq_iff] at h2
    obtain ⟨ta, wa, qa1, rfl, qa2, qa3, qa4⟩ := iface_inv ha h.1
    obtain ⟨tb, wb, qb1, rfl, qb2, qb3, qb4⟩ := iface_inv hb h.2
    have htt : ta = tb := by omega
    subst htt
    have hpred : Nat.pred (Nat.shiftRight a 104) = ta := by rw [shr104, qa1]; rfl
    rw [hpred] at h3
    simp only [and'_eq, Bool.and_eq_true, beq_iff, isI, ble_iff, land255] at h3
    obtain ⟨hcomp, ⟨hk1, hk2⟩, ea, eb⟩ := h3
    obtain ⟨i, hi1, hi2⟩ := comp_def hcomp
    obtain ⟨k, hku, hkt⟩ := kind_int hX hk1 hk2
    have ha8 := hi_modI a
    have hb8 := hi_modI b
    have h2' := two_of qa3 qb3 (by omega) (by omega) (show 3 ≤ kindT X ta by omega) hk2
    have hab : Nat.beq a b = Nat.beq (a % tI) (b % tI) := by rw [Bool.eq_iff_iff, beq_iff, beq_iff]; exact eq_modI h2
    have hi1' : ∀ w, (typeInfo ta).run X.P w = .ok i w := fun w => by simp [typeInfo, hi1]
    cases h2' with
    | bool x y hh =>
      exfalso
      obtain ⟨k', _, n, e, _⟩ := qa3.int_inv (by omega) (by omega)
      exact Value.noConfusion e
    | int k' n m hh hn hm =>
      refine .of (fun op x y w _ => guard_any (by simp) (by simp)) (fun w => rfl) (fun w => rfl) fun w => ?_
      rw [hab, hh]
      show (Op.equalIn (9998 + 1 + 1) t _ _).run X.P w = _
      unfold Op.equalIn
      simp only [Sem.run_bind, run_underlying hu, Result.andThen_ok, ne_eq, not_true_eq_false, if_false, hi1' w, hi2, Bool.not_true, Bool.false_eq_true]
      unfold Op.equalIn
      simp [Sem.run_bind, run_underlying hku]
  · simp only [and'_eq, Bool.and_eq_true, ble_iff] at h
    rw [shr104, shr104, beq_false] at h2
    obtain ⟨ta, wa, qa1, rfl, qa2, qa3, qa4⟩ := iface_inv ha h.1
    obtain ⟨tb, wb, qb1, rfl, qb2, qb3, qb4⟩ := iface_inv hb h.2
    have htt : ta ≠ tb := by omega
    refine .of (fun op x y w _ => guard_any (by simp) (by simp)) (fun w => rfl) (fun w => rfl) fun w => ?_
    show (Op.equalIn (9999 + 1) t _ _).run X.P w = _
    unfold Op.equalIn
    simp [Sem.run_bind, run_underlying hu, htt]

/-! ### == and != -/
theorem eqAny_tells (hX : EnvOk X) (hT : 3 ≤ X.P.types.size) {lit : Bool} {t : TypeId} {a b : Nat} (hf : Free H nx) : Tells1 (eqAny lit X t a b H) (EqR X lit t a b H nx) := by
  show Tells1 (fun k => br (br (br (eqN (kindT X t) a b k) (eqI lit X a b k) (Nat.beq (kindT X t) 21))
      (match plainT X.P 8 t with
       | some ks => br (.bad 29) (aggK H a fun n N => aggK H b fun m M => br (.bad 30) (eqA H k ks N M) (and' (Nat.beq n ks.length) (Nat.beq m ks.length))) (X.P.keyTypeAt 8 t)
       | none => .bad 29) (Nat.beq (kindT X t) 1))
    (eqK (kindT X t) a b H k) (and' (Nat.ble 3 (kindT X t)) (Nat.ble (kindT X t) 12))) _
  refine Tells1.ite (fun h => (eqK_tells hf).mono fun e he I σ va vb hI ha hb => peq_run hX (he I σ va vb hI ha hb)) fun _ => Tells1.ite (fun h => ?_) fun _ => Tells1.ite (fun h => eqI_tells hX (beq_iff.1 h)) fun _ => eqN_tells hX
  cases hp : plainT X.P 8 t with
  | none => exact Tells1.bad
  | some ks =>
    refine Tells1.ifb fun hkt => Tells1.bind2 (aggK_tells hf) fun n N h1 => Tells1.bind2 (aggK_tells hf) fun m M h2 => Tells1.ifb fun hl => (eqA_tells hf ks true N M).mono fun e he I σ va vb hI ha hb => ?_
    simp only [and'_eq, Bool.and_eq_true, beq_iff] at hl
    obtain ⟨xs, rfl, e2, e3⟩ := h1.2 I σ _ hI ha
    obtain ⟨ys, rfl, e4, e5⟩ := h2.2 I σ _ hI hb
    obtain ⟨la, lb, p1, p2, p3⟩ := he I σ xs.toList ys.toList hI (by simp; omega) (by simp; omega) (split_cells e3) (split_cells e5)
    exact agg_run hX hT (beq_iff.1 h) hp hkt p1 p2 (by rw [p3]; simp)
theorem eql_pur (hX : EnvOk X) (hT : 3 ≤ X.P.types.size) {t u : TypeId} {x y : Operand} (ho : o.op = .binOp .eql t x y u) (hf : Free H nx) : Tells (eEql t x y X call f H nx) (Pur X o f H nx) := by
  refine pur2 hf fun a b H1 n1 hf1 => Tells.bind1 (eqAny_tells (lit := litOf x y) (t := t) (a := a) (b := b) hX hT hf1) fun e he => boolK'_tells.mono fun c H' nx' ⟨e1, e2, e3⟩ => ?_
  subst e1 e2 e3
  refine ⟨Grow.refl hf1, fun I σ A hI hA hB => ?_⟩
  have hr := he I σ _ _ hI hA hB
  exact ⟨.bool e, fun w => run_binOp ho (hr.guard _ _ _ w rfl) (hr.eql w), (crp_bool e).toV⟩
theorem neq_pur (hX : EnvOk X) (hT : 3 ≤ X.P.types.size) {t u : TypeId} {x y : Operand} (ho : o.op = .binOp .neq t x y u) (hf : Free H nx) : Tells (eNeq t x y X call f H nx) (Pur X o f H nx) := by
  refine pur2 hf fun a b H1 n1 hf1 => Tells.bind1 (eqAny_tells (lit := litOf x y) (t := t) (a := a) (b := b) hX hT hf1) fun e he => boolK'_tells.mono fun c H' nx' ⟨e1, e2, e3⟩ => ?_
  subst e1 e2 e3
  refine ⟨Grow.refl hf1, fun I σ A hI hA hB => ?_⟩
  have hr := he I σ _ _ hI hA hB
  refine ⟨.bool (!e), fun w => run_binOp ho (hr.guard _ _ _ w rfl) (hr.neq w), ?_⟩
  rw [not'_eq]; exact (crp_bool _).toV
theorem bin_pur (hX : EnvOk X) (hT : 3 ≤ X.P.types.size) {op : BinOp} {t u : TypeId} {x y : Operand} (ho : o.op = .binOp op t x y u) (hf : Free H nx) : Tells (eBin op t x y u X call f H nx) (Pur X o f H nx) := by
  cases op with
  | eql => exact eql_pur (call := call) hX hT ho hf
  | neq => exact neq_pur (call := call) hX hT ho hf
  | _ => exact eBin0_pur (call := call) ho hf ⟨by simp, by simp⟩
end Go.Ev
set_option linter.unusedVariables false
set_option linter.unusedSimpArgs false
namespace Go.Ev
variable {X : Env} {o : Oper} {f : FR} {H : HT} {nx : Nat} {call : CallT}

/-! ### Zero values, pairs -/
theorem zeroC_tells {t : TypeId} (hf : Free H nx) : Tells (zeroC X t H nx) fun c H' nx' => Grow H nx H' nx' ∧ ∃ v, (∀ w, (zeroValue t).run X.P w = .ok v w) ∧ ∀ (I : Imm) (σ : Sig), Holds I H' nx' → CRa σ I c v := by
  show Tells (fun k => match X.P.info? t with
    | some i => (match i.zero with | some v => constK v f0 H nx k | none => .bad 81)
    | none => .bad 82) _
  cases hi : X.P.info? t with
  | none => exact Tells.bad
  | some i =>
    cases hz : i.zero with
    | none => simp only [hz]; exact Tells.bad
    | some v =>
      simp only [hz]
      exact (constK_tells hf).mono fun c H' nx' ⟨g, h⟩ => ⟨g, v, fun w => run_zero hi hz w, h⟩
theorem dig2 {a b : Nat} (ha : a < 2 ^ 128) (hb : b < 2 ^ 128) : dig (Nat.add (Nat.shiftLeft a 128) (Nat.shiftLeft b 256)) (0 + 1) = a ∧ dig (Nat.add (Nat.shiftLeft a 128) (Nat.shiftLeft b 256)) (1 + 1) = b := by
  have h1 : a <<< 128 < 2 ^ (128 * 2) := by
    rw [Nat.shiftLeft_eq]
    have : a * 2 ^ 128 < 2 ^ 128 * 2 ^ 128 := (Nat.mul_lt_mul_right (by decide)).2 ha
    rw [← Nat.pow_add] at this; exact this
  have e : Nat.add (Nat.shiftLeft a 128) (Nat.shiftLeft b 256) = Nat.add (a <<< 128) (Nat.shiftLeft b (Nat.shiftLeft 2 7)) := rfl
  rw [e, dig_top h1 hb, dig_top h1 hb, if_neg (by decide), if_pos (by decide), if_pos (by decide)]
  exact ⟨by rw [dig_shl, dig_small ha], rfl⟩
theorem pair_tells {a b : Nat} (hf : Free H nx) : Tells (pair a b H nx) fun c H' nx' => Grow H nx H' nx' ∧ ∀ (I : Imm) (σ : Sig) va vb, Holds I H' nx' → CRa σ I a va → CRa σ I b vb → CRv σ I c (.tuple #[va, vb]) :=
  (newTup_tells hf).mono fun c H' nx' ⟨g, h⟩ => ⟨g, fun I σ va vb hI ha hb => h I σ #[va, vb] hI rfl fun i hi => by
    have : i = 0 ∨ i = 1 := by have : i < 2 := hi; omega
    obtain ⟨q1, q2⟩ := dig2 ha.lt hb.lt
    rcases this with rfl | rfl
    · rw [q1]; exact ha
    · rw [q2]; exact hb⟩
theorem cra_bool {σ : Sig} {I : Imm} (b : Bool) : CRa σ I (boolC b) (.bool b) := .inl (.inl (.inr ⟨by have := (crp_bool (σ := σ) (I := I) b).hi_le; omega, crp_bool b⟩))
theorem CRp.toA {σ : Sig} {I : Imm} {c : Nat} {v : Value} (h : CRp σ I c v) : CRa σ I c v := .inl (.inl (.inr ⟨by have := h.hi_le; omega, h⟩))
theorem CRa.toVR {σ : Sig} {I : Imm} {c : Nat} {v : Value} (h : CRa σ I c v) : VR σ I c v := .inr (.inr (.inl h))
theorem okK_tells {ok e : Bool} {v : Nat} (hf : Free H nx) : Tells (okK ok v (boolC e) H nx) fun c H' nx' => Grow H nx H' nx' ∧ ∀ (I : Imm) (σ : Sig) va, Holds I H' nx' → CRa σ I v va → VR σ I c (if ok then .tuple #[va, .bool e] else va) := by
  cases ok
  · exact Tells.pure ⟨Grow.refl hf, fun I σ va hI h => h.toVR⟩
  · exact (pair_tells hf).mono fun c H' nx' ⟨g, h⟩ => ⟨g, fun I σ va hI ha => .inr (.inr (h I σ va (.bool e) hI ha (cra_bool e)))⟩

/-! ### Assertions of a type -/
theorem assert_pur (hX : EnvOk X) {t u : TypeId} {x : Operand} {ok : Bool} (ho : o.op = .typeAssert x t u ok) (hf : Free H nx) : Tells (eAssert x t u ok X call f H nx) (Pur X o f H nx) := by
  refine pur1 hf fun a H1 n1 hf1 => ?_
  show Tells (fun k => br (br (.bad 85)
    (br (br (.bad 86) (zeroC X u H1 n1 fun v H nx => pair v (boolC false) H nx k) ok)
        (frc (fun c => okK ok c (boolC true) H1 n1 k) (Nat.mod a 20282409603651670423947251286016)) (Nat.beq (Nat.shiftRight a 104) (Nat.succ u))) (Nat.ble 256 (hi a)))
    (.bad 87) (or' (Nat.beq (kindT X u) 21) (Nat.beq (kindT X u) 0))) _
  refine Tells.ite (fun _ => Tells.bad) fun hk => Tells.ifb fun h256 => ?_
  have hk2 : kindT X u ≠ 21 ∧ kindT X u ≠ 0 := by
    rw [or'_eq, Bool.or_eq_false_iff, beq_false, beq_false] at hk; exact hk
  obtain ⟨d, hu, hd⟩ := kind_not_iface hX hk2.1 hk2.2
  have h256' := ble_iff.1 h256
  refine Tells.ite (fun he => Tells.frc ((okK_tells hf1).mono fun c H' nx' ⟨g, h⟩ => ⟨g, fun I σ A hI hA hF => ?_⟩)) fun he => Tells.ifb fun hok => Tells.bind (zeroC_tells hf1) fun z H2 n2 ⟨g1, v, hz, hv⟩ => (pair_tells g1.free).mono fun c H' nx' ⟨g2, h⟩ => ⟨g1.trans g2, fun I σ A hI hA hF => ?_⟩
  · rw [shr104, beq_iff] at he
    obtain ⟨tt, w, q1, q2, q3, q4, q5⟩ := iface_inv hA h256'
    have htt : tt = u := by
      have : tt + 1 = u + 1 := q1.symm.trans he
      omega
    subst htt
    refine ⟨_, fun w' => ?_, h I σ w hI q4.toA⟩
    simp only [execOp, ho, Instr.typeAssert, Sem.run_bind, run_underlying hu, Result.andThen_ok, q2]
    cases d <;> first | exact absurd rfl (hd _) | (cases ok <;> simp [pure, Sem.run])
  · subst hok
    rw [shr104, beq_false] at he
    obtain ⟨tt, w, q1, q2, q3, q4, q5⟩ := iface_inv hA h256'
    have htt : tt ≠ u := fun e => he (by rw [q1, e])
    refine ⟨.tuple #[v, .bool false], fun w' => ?_, .inr (.inr (h I σ v (.bool false) hI (hv I σ (hI.back g2.toALe)) (cra_bool false)))⟩
    simp only [execOp, ho, Instr.typeAssert, Sem.run_bind, run_underlying hu, Result.andThen_ok, q2]
    cases d <;> first | exact absurd rfl (hd _) | simp [htt, hz, pure, Sem.run]
end Go.Ev
set_option linter.unusedVariables false
set_option linter.unusedSimpArgs false
namespace Go.Ev
variable {X : Env} {o : Oper} {f : FR} {H : HT} {nx : Nat} {call : CallT}

/-! ### A map's table -/
def updL (key v : Nat) : ML → ML | .nil => .nil | .cons k' v' b' l => if k' = key then .cons k' v b' l else .cons k' v' b' (updL key v l)
def delL (key : Nat) : ML → ML | .nil => .nil | .cons k' v' b' l => if k' = key then l else .cons k' v' b' (delL key l)
theorem beqd (a b : Nat) : Nat.beq a b = decide (a = b) := by rw [Bool.eq_iff_iff, beq_iff, decide_eq_true_eq]
theorem updM_eq (key v : Nat) : ∀ (l : ML) (k : ML → Out), updM key v l k = k (updL key v l)
  | .nil, k => rfl
  | .cons k' v' b' l, k => by
    show br (updM key v l fun l => k (.cons k' v' b' l)) (k (.cons k' v b' l)) (Nat.beq k' key) = _
    unfold updL
    by_cases h : k' = key
    · rw [if_pos h, beq_iff.2 h]; rfl
    · rw [if_neg h, beq_false.2 h]; exact updM_eq key v l _
theorem delM_eq (key : Nat) : ∀ (l : ML) (k : ML → Out), delM key l k = k (delL key l)
  | .nil, k => rfl
  | .cons k' v' b' l, k => by
    show br (delM key l fun l => k (.cons k' v' b' l)) (k l) (Nat.beq k' key) = _
    unfold delL
    by_cases h : k' = key
    · rw [if_pos h, beq_iff.2 h]; rfl
    · rw [if_neg h, beq_false.2 h]; exact delM_eq key l _
theorem look_cons (key k v b : Nat) (l : ML) : look key (.cons k v b l) = if k = key then v else look key l := by
  show sel (look key l) v (Nat.beq k key) = _
  by_cases h : k = key
  · rw [if_pos h, beq_iff.2 h]; rfl
  · rw [if_neg h, beq_false.2 h]; rfl
theorem lookB_cons (key k v b : Nat) (l : ML) : lookB key (.cons k v b l) = if k = key then b else lookB key l := by
  show sel (lookB key l) b (Nat.beq k key) = _
  by_cases h : k = key
  · rw [if_pos h, beq_iff.2 h]; rfl
  · rw [if_neg h, beq_false.2 h]; rfl
theorem look_none {key : Nat} : ∀ {l : ML}, key ∉ keysM l → look key l = 0
  | .nil, _ => rfl
  | .cons k v b l, h => by
    simp only [keysM, List.mem_cons, not_or] at h
    rw [look_cons, if_neg (fun e => h.1 e.symm), look_none h.2]
theorem keys_updL (key v : Nat) : ∀ l : ML, keysM (updL key v l) = keysM l
  | .nil => rfl
  | .cons k' v' b' l => by unfold updL; split <;> simp [keysM, keys_updL key v l]
theorem births_updL (key v : Nat) : ∀ l : ML, birthsM (updL key v l) = birthsM l
  | .nil => rfl
  | .cons k' v' b' l => by unfold updL; split <;> simp [birthsM, births_updL key v l]
theorem keys_delL (key : Nat) : ∀ l : ML, (keysM (delL key l)).Sublist (keysM l)
  | .nil => List.Sublist.refl _
  | .cons k' v' b' l => by
    unfold delL; split
    · exact List.sublist_cons_self _ _
    · exact (keys_delL key l).cons_cons _
theorem births_delL (key : Nat) : ∀ l : ML, (birthsM (delL key l)).Sublist (birthsM l)
  | .nil => List.Sublist.refl _
  | .cons k' v' b' l => by
    unfold delL; split
    · exact List.sublist_cons_self _ _
    · exact (births_delL key l).cons_cons _
theorem len_delL {key : Nat} : ∀ {l : ML}, key ∈ keysM l → (keysM (delL key l)).length = Nat.pred (keysM l).length
  | .nil, h => absurd h (by simp [keysM])
  | .cons k' v' b' l, h => by
    unfold delL; split
    · simp [keysM]
    · rename_i hne
      simp only [keysM, List.mem_cons] at h
      have h' : key ∈ keysM l := h.resolve_left fun e => hne e.symm
      have := len_delL h'
      simp only [keysM, List.length_cons, this]
      have : 0 < (keysM l).length := List.length_pos_of_mem h'
      simp; omega
theorem mlr_mem {σ : Sig} {I : Imm} : ∀ {l : ML} {es : List MapEntry}, MLR σ I l es → ∀ x ∈ es, ∃ k v b, EntR σ I k v b x ∧ k ∈ keysM l
  | .nil, [], _, x, hx => absurd hx (by simp)
  | .cons k v b l, e :: es, h, x, hx => by
    rcases List.mem_cons.1 hx with rfl | hx
    · exact ⟨k, v, b, h.1, by simp [keysM]⟩
    · obtain ⟨k', v', b', h1, h2⟩ := mlr_mem h.2 x hx
      exact ⟨k', v', b', h1, by simp [keysM, h2]⟩
  | .nil, _ :: _, h, _, _ => h.elim
  | .cons _ _ _ _, [], h, _, _ => h.elim
theorem mlr_key {σ : Sig} {I : Imm} : ∀ {l : ML} {es : List MapEntry}, MLR σ I l es → ∀ k ∈ keysM l, ∃ x ∈ es, ∃ v b, EntR σ I k v b x
  | .nil, [], _, k, hk => absurd hk (by simp [keysM])
  | .cons k v b l, e :: es, h, k', hk => by
    simp only [keysM, List.mem_cons] at hk
    rcases hk with rfl | hk
    · exact ⟨e, by simp, v, b, h.1⟩
    · obtain ⟨x, h1, h2⟩ := mlr_key h.2 k' hk
      exact ⟨x, by simp [h1], h2⟩
  | .nil, _ :: _, h, _, _ => h.elim
  | .cons _ _ _ _, [], h, _, _ => h.elim
/-- where an entry stands -/
theorem mlr_split {σ : Sig} {I : Imm} {e : MapEntry} {r1 : List MapEntry} : ∀ {l : ML} {r2 : List MapEntry}, MLR σ I l (r2 ++ e :: r1) → (keysM l).Nodup → (birthsM l).Nodup → ∃ k, k ∈ keysM l ∧ EntR σ I k (look k l) (lookB k l) e ∧ lookB k l ∈ birthsM l ∧
    (∀ v val, CRa σ I v val → MLR σ I (updL k v l) (r2 ++ { e with val := val } :: r1)) ∧ MLR σ I (delL k l) (r2 ++ r1) ∧ ∀ v (kk : ML → Out), updB (lookB k l) v l kk = kk (updL k v l)
  | .nil, [], h, _, _ => h.elim
  | .nil, _ :: _, h, _, _ => h.elim
  | .cons k v b l, [], h, hn, hb => by
    refine ⟨k, by simp [keysM], ?_, ?_, fun v' val hv => ?_, ?_, fun v' kk => ?_⟩
    · rw [look_cons, lookB_cons, if_pos rfl, if_pos rfl]; exact h.1
    · rw [lookB_cons, if_pos rfl]; simp [birthsM]
    · unfold updL; rw [if_pos rfl]
      exact ⟨⟨h.1.1, h.1.2.1, h.1.2.2.1, hv, h.1.2.2.2.2⟩, h.2⟩
    · unfold delL; rw [if_pos rfl]; exact h.2
    · rw [lookB_cons, if_pos rfl]
      show br _ (kk (.cons k v' b l)) (Nat.beq b b) = _
      rw [beq_iff.2 rfl]; unfold updL; rw [if_pos rfl]; rfl
  | .cons k0 v0 b0 l, x :: r2, h, hn, hb => by
    simp only [keysM, List.nodup_cons] at hn
    simp only [birthsM, List.nodup_cons] at hb
    obtain ⟨k, q1, q2, q3, q4, q5, q6⟩ := mlr_split (r2 := r2) (l := l) h.2 hn.2 hb.2
    have hne : k0 ≠ k := fun e => hn.1 (e ▸ q1)
    refine ⟨k, by simp [keysM, q1], ?_, ?_, fun v' val hv => ?_, ?_, fun v' kk => ?_⟩
    · rw [look_cons, lookB_cons, if_neg hne, if_neg hne]; exact q2
    · rw [lookB_cons, if_neg hne]; simp [birthsM, q3]
    · unfold updL; rw [if_neg hne]; exact ⟨h.1, q4 v' val hv⟩
    · unfold delL; rw [if_neg hne]; exact ⟨h.1, q5⟩
    · rw [lookB_cons, if_neg hne]
      have hbne : b0 ≠ lookB k l := fun e => hb.1 (e ▸ q3)
      show br (updB (lookB k l) v' l fun l => kk (.cons k0 v0 b0 l)) _ (Nat.beq b0 (lookB k l)) = _
      rw [beq_false.2 hbne]; unfold updL; rw [if_neg hne]; exact q6 v' _

/-! ### Keys -/
theorem key_def (hX : EnvOk X) {t : TypeId} (h : 3 ≤ keyT X t) : keyT X t ≤ 12 ∧ ∃ kt d, X.P.underlying t = some (.map kt (elemT X t)) ∧ X.P.underlying kt = some d ∧ ∀ (σ : Sig) (I : Imm) c v, CRp σ I c v → hi c = keyT X t → MapKept.IsKey d v := by
  have e : keyT X t = (tyOf X.P t).key := by show (X.ty t).key = _; rw [hX.ty]
  have e2 : elemT X t = (tyOf X.P t).elem := by show (X.ty t).elem = _; rw [hX.ty]
  cases hu : X.P.underlying t with
  | none => simp only [tyOf, hu] at e; omega
  | some dd =>
    cases dd
    case map kt el =>
      have h2 : elemT X t = el := by rw [e2]; simp only [tyOf, hu]
      simp only [tyOf, hu] at e
      cases hk : X.P.underlying kt with
      | none => rw [hk] at e; simp only at e; omega
      | some d =>
        rw [hk] at e
        rw [h2]
        cases d
        case bool =>
          simp only at e
          refine ⟨by omega, kt, _, rfl, hk, fun σ I c v hc hh => ?_⟩
          obtain ⟨b, _, rfl⟩ := hc.bool_inv (by omega); trivial
        case int q =>
          simp only at e
          have := intTag_bd q
          refine ⟨by omega, kt, _, rfl, hk, fun σ I c v hc hh => ?_⟩
          obtain ⟨k, q1, n, rfl, _⟩ := hc.int_inv (by omega) (by omega)
          exact intTag_inj (by omega)
        case string =>
          simp only at e
          refine ⟨by omega, kt, _, rfl, hk, fun σ I c v hc hh => ?_⟩
          unfold CRp at hc; rw [hh, e] at hc
          obtain ⟨s, rfl, _⟩ := hc; trivial
        all_goals (simp only at e; omega)
    all_goals (simp only [tyOf, hu] at e; omega)
theorem cell_eq {σ : Sig} {I : Imm} {a b kt : Nat} {va vb : Value} (ha : CRp σ I a va) (hb : CRp σ I b vb) (h1 : hi a = kt) (h2 : hi b = kt) (h3 : 3 ≤ kt) (h4 : kt ≤ 12) : a = b ↔ va = vb := by
  by_cases h : kt = 12
  · unfold CRp at ha hb
    rw [h1, h] at ha; rw [h2, h] at hb
    obtain ⟨s, rfl, s2, s3⟩ := ha
    obtain ⟨t, rfl, t2, t3⟩ := hb
    constructor
    · intro e
      rw [s3, t3] at e
      unfold strC at e
      have p1 := packB_lt s.data.toList
      have p2 := packB_lt t.data.toList
      have p3 : 256 ^ s.data.toList.length ≤ 256 ^ 11 := Nat.pow_le_pow_right (by decide) s2
      have p4 : 256 ^ t.data.toList.length ≤ 256 ^ 11 := Nat.pow_le_pow_right (by decide) t2
      have p5 : (256 : Nat) ^ 11 = 309485009821345068724781056 := by decide
      have hl : s.data.toList.length = t.data.toList.length := by omega
      have hp : packB s.data.toList = packB t.data.toList := by rw [hl] at e; omega
      rw [bytes_ext (packB_inj hl hp)]
    · intro e; injection e with e; rw [s3, t3, e]
  · cases two_of ha hb h1 h2 h3 (by omega) with
    | bool x y hh => rw [← beq_iff, hh]; simp
    | int k n m hh => rw [← beq_iff, hh]; simp
theorem Tells.mapK {R : Nat → HT → Nat → Prop} {F : Nat → Nat → ML → K0 → Out} {H : HT} {b : Nat} (h : ∀ c q l, get H b = .map c q l → Tells (F c q l) R) :
    Tells (fun k => Ev.mapK H b fun c q l => F c q l k) R := by
  intro k
  show isBad (mapObj (fun c q l => F c q l k) (get H b)) ∨ ∃ c H' nx', mapObj (fun c q l => F c q l k) (get H b) = k c H' nx' ∧ R c H' nx'
  cases hg : get H b with
  | map c q l => exact h c q l hg k
  | _ => exact .inl ⟨16, rfl⟩
theorem Tells.keyK {R : Nat → HT → Nat → Prop} {G : K0 → Out} {kt c : Nat} (h : 3 ≤ kt → hi c = kt → Tells G R) : Tells (fun k => Ev.keyK kt c (G k)) R :=
  Tells.ifb fun hc => by rw [and'_eq, Bool.and_eq_true, ble_iff, beq_iff] at hc; exact h hc.1 hc.2
theorem Tells.mapNil {R : Nat → HT → Nat → Prop} {G : K0 → Out} {m : Nat} (h : hi m = 16 → some' m = true → Tells G R) : Tells (fun k => Ev.mapNil m (G k)) R :=
  Tells.ifb fun hc => by rw [and'_eq, Bool.and_eq_true, beq_iff] at hc; exact h hc.1 hc.2
theorem Tells.headK {R : Nat → HT → Nat → Prop} {G : K0 → Out} {key : Nat} {l : ML} (h : (∀ k v b l', l = .cons k v b l' → hi k = hi key) → Tells G R) : Tells (fun k => Ev.headK key l (G k)) R := by
  cases l with
  | nil => exact h fun _ _ _ _ e => ML.noConfusion e
  | cons k v b l =>
    show Tells (fun kk => br (.bad 80) (G kk) (Nat.beq (hi k) (hi key))) R
    refine Tells.ifb fun hc => h fun _ _ _ _ e => ?_
    injection e with e1 e2 e3 e4
    rw [← e1]; exact beq_iff.1 hc
/-- a map that isn't nil -/
theorem map_at {σ : Sig} {I : Imm} {c : Nat} {v : Value} (hv : VR σ I c v) (h : hi c = 16) (hs : some' c = true) : ∃ e, σ (blk c) = some e ∧ v = .map (some e.B) := by
  have hp := hv.toP (by omega)
  rcases hp.map_inv h with ⟨rfl, _⟩ | ⟨b, e, h1, h2, h3, h4⟩
  · exact absurd hs (by decide)
  · refine ⟨e, ?_, h4⟩
    have : blk c = b := by rw [blk_def, h3]; omega
    rw [this]; exact h1
/-- what is found in a table -/
structure Found (σ : Sig) (I : Imm) (d : TypeDesc) (key : Nat) (kv : Value) (l : ML) (es : Array MapEntry) : Prop where
  none : key ∉ keysM l → Instr.findNow d kv es.toList 0 = some none
  some : key ∈ keysM l → ∃ es1 e es2, es.toList = es1 ++ e :: es2 ∧ e.key = kv ∧ Instr.findNow d kv es.toList 0 = some (some (es1.length, e.val)) ∧ es[es1.length]? = some e ∧ EntR σ I key (look key l) (lookB key l) e ∧
    (∀ v val, CRa σ I v val → MLR σ I (updL key v l) (es2.reverse ++ { e with val := val } :: es1.reverse)) ∧ MLR σ I (delL key l) (es2.reverse ++ es1.reverse)
theorem found_of {σ : Sig} {I : Imm} {d : TypeDesc} {key kt : Nat} {kv : Value} {l : ML} {es : Array MapEntry} (h : MLR σ I l es.toList.reverse) (hn : (keysM l).Nodup) (hb : (birthsM l).Nodup) (hu : ∀ k ∈ keysM l, ∀ k' ∈ keysM l, hi k = hi k')
    (hh : ∀ k v b l', l = .cons k v b l' → hi k = hi key) (hk : CRp σ I key kv) (hkt : hi key = kt) (h3 : 3 ≤ kt) (h12 : kt ≤ 12) (hd : ∀ (σ : Sig) (I : Imm) c v, CRp σ I c v → hi c = kt → MapKept.IsKey d v) : Found σ I d key kv l es := by
  have hall : ∀ k ∈ keysM l, hi k = kt := by
    intro k hk'
    cases l with
    | nil => exact absurd hk' (by simp [keysM])
    | cons k0 v0 b0 l' =>
      have := hh k0 v0 b0 l' rfl
      rw [hu k hk' k0 (by simp [keysM]), this, hkt]
  have hent : ∀ x ∈ es.toList, ∃ k v b, EntR σ I k v b x ∧ k ∈ keysM l := fun x hx => mlr_mem h x (by simpa using hx)
  have hkeys : ∀ x ∈ es.toList, MapKept.IsKey d x.key := fun x hx => by
    obtain ⟨k, v, b, h1, h2⟩ := hent x hx
    exact hd σ I k x.key h1.1 (hall k h2)
  have hkv : MapKept.IsKey d kv := hd σ I key kv hk hkt
  rcases MapKept.findNow_spec hkv es.toList 0 hkeys with ⟨h1, h2⟩ | ⟨j, e, h1, h2, h3'⟩
  · refine ⟨fun _ => h1, fun hm => ?_⟩
    obtain ⟨x, q1, v, b, q2⟩ := mlr_key h key hm
    have hx : x ∈ es.toList := by simpa using q1
    exact absurd ((cell_eq q2.1 hk hkt hkt h3 h12).1 rfl) (h2 x hx)
  · have hj : j < es.toList.length := (List.getElem?_eq_some_iff.1 h2).1
    have hsplit : es.toList = es.toList.take j ++ e :: es.toList.drop (j + 1) := by
      have : es.toList.drop j = e :: es.toList.drop (j + 1) := by
        rw [List.drop_eq_getElem_cons hj]
        congr 1
        exact (List.getElem?_eq_some_iff.1 h2).2
      rw [← this, List.take_append_drop]
    have hrev : es.toList.reverse = (es.toList.drop (j + 1)).reverse ++ e :: (es.toList.take j).reverse := by
      conv => lhs; rw [hsplit]
      simp
    rw [hrev] at h
    obtain ⟨k, q1, q2, q3, q4, q5, q6⟩ := mlr_split h hn hb
    have hkk : k = key := (cell_eq q2.1 hk (hall k q1) hkt h3 h12).2 h3'
    subst hkk
    have hlen : (es.toList.take j).length = j := by simp at hj ⊢; omega
    refine ⟨fun hm => absurd q1 hm, fun _ => ⟨_, e, _, hsplit, h3', ?_, ?_, q2, q4, q5⟩⟩
    · rw [hlen]; simpa using h1
    · rw [hlen]; simpa using h2
theorem MapOR.found {σ : Sig} {I : Imm} {c q : Nat} {l : ML} {e : SE} {w : World} {key kt : Nat} {kv : Value} {d : TypeDesc} (h : MapOR σ I c q l e w) (hh : ∀ k v b l', l = .cons k v b l' → hi k = hi key)
    (hk : CRp σ I key kv) (hkt : hi key = kt) (h3 : 3 ≤ kt) (h12 : kt ≤ 12) (hd : ∀ (σ : Sig) (I : Imm) c v, CRp σ I c v → hi c = kt → MapKept.IsKey d v) :
    ∃ es, w.heap[e.B]? = some (.map es q) ∧ Found σ I d key kv l es := by
  obtain ⟨es, h1, h2, h4, h5, h6, h7, h8⟩ := h
  exact ⟨es, h1, found_of h2 h4 h5 h8 hh hk hkt h3 h12 hd⟩
end Go.Ev
set_option linter.unusedVariables false
set_option linter.unusedSimpArgs false
namespace Go.Ev
variable {X : Env} {o : Oper} {f : FR} {H : HT} {nx : Nat} {call : CallT}

/-! ### An object turned -/
theorem SRel.put {σ : Sig} {I : Imm} {H H' : HT} {nx b : Nat} {w : World} {e : SE} {x' : Ev.Obj} {ob ob0 : Go.Obj} (h : SRel σ I H nx w) (hnx : nx ≤ 262144) (he : σ b = some e) (hnd : get H b ≠ .dead) (hx : get H' b = x')
    (hs : ∀ j, j < 262144 → j ≠ b → get H' j = get H j) (hob : w.heap[e.B]? = some ob0) (ho : ∀ w' : World, w'.heap[e.B]? = some ob → ObjR σ I x' e w') :
    SRel σ I H' nx { w with heap := w.heap.setIfInBounds e.B ob } ∧ Unch σ w { w with heap := w.heap.setIfInBounds e.B ob } := by
  obtain ⟨h1, h2⟩ := MapKept.heap_set (o' := ob) hob
  refine ⟨{ dom := fun b' e' hb' => ?_, obj := fun b' e' hb' => ?_, inj := fun b1 b2 e1 e2 h3 h4 hB n1 n2 => ?_, g0 := h.g0.same fun z hn _ => h2 z fun e' => hn b e he e'.symm }, by simp, fun B hB hn => h2 B fun e' => hn b e he e'.symm, rfl, rfl⟩
  · have := h.dom b' e' hb'; simpa using this
  · by_cases hbb : b' = b
    · subst hbb
      rw [he] at hb'; obtain rfl := Option.some.inj hb'
      rw [hx]; exact ho _ h1
    · have hlt := (h.dom b' e' hb').1
      rw [hs b' (by omega) hbb]
      by_cases hd : get H b' = .dead
      · rw [hd]; trivial
      · refine (h.obj b' e' hb').world (h2 e'.B fun hB => hbb ?_)
        exact h.inj b' b e' e hb' he hB hd hnd
  · have g1 : get H b1 ≠ .dead := by
      by_cases hbb : b1 = b
      · subst hbb; exact hnd
      · rw [hs b1 (by have := (h.dom b1 e1 h3).1; omega) hbb] at n1; exact n1
    have g2 : get H b2 ≠ .dead := by
      by_cases hbb : b2 = b
      · subst hbb; exact hnd
      · rw [hs b2 (by have := (h.dom b2 e2 h4).1; omega) hbb] at n2; exact n2
    exact h.inj b1 b2 e1 e2 h3 h4 hB g1 g2
theorem setMap_tells {b c q c0 q0 : Nat} {l l0 : ML} (hf : Free H nx) (hg : get H b = .map c0 q0 l0) : Tells1 (setMap b c q l H) fun H' => ALe H nx H' nx ∧
    (b < nx → get H' b = .map c q l ∧ (∀ j, j < 262144 → j ≠ b → get H' j = get H j) ∧ ∀ σ, (∃ e, σ b = some e) → AFr σ nx H H') :=
  Tells1.frc (F := fun c k => frc (fun q => set H (.map c q l) b k) q) (Tells1.frc (F := fun q k => set H (.map c q l) b k) (set_tells hf (by rw [hg]; exact id) (by rw [hg]; simp) (fun h => by cases h)))
/-- a table turned -/
theorem map_after {σ : Sig} {I : Imm} {H H' : HT} {nx b c q c0 q0 : Nat} {l l0 : ML} {w : World} {e : SE} {es0 es : Array MapEntry} (h : SRel σ I H nx w) (hf : Free H nx) (he : σ b = some e) (hg : get H b = .map c0 q0 l0)
    (hset : b < nx → get H' b = .map c q l ∧ (∀ j, j < 262144 → j ≠ b → get H' j = get H j) ∧ ∀ σ, (∃ e, σ b = some e) → AFr σ nx H H') (hob : w.heap[e.B]? = some (.map es0 q0))
    (hm : MLR σ I l es.toList.reverse) (hk : (keysM l).Nodup) (hb : (birthsM l).Nodup) (hq : ∀ b ∈ birthsM l, b < q) (hc : c = (keysM l).length) (hu : ∀ k ∈ keysM l, ∀ k' ∈ keysM l, hi k = hi k') :
    After σ I H nx w σ H' nx { w with heap := w.heap.setIfInBounds e.B (.map es q) } := by
  obtain ⟨h1, h2, h3⟩ := hset (h.dom b e he).1
  obtain ⟨s1, s2⟩ := h.put (ob := .map es q) hf.1 he (by rw [hg]; simp) h1 h2 hob fun w' hw => ⟨es, hw, hm, hk, hb, hq, hc, hu⟩
  exact ⟨SExt.refl _ _ _, s1, s2, h3 σ ⟨e, he⟩⟩

/-! ### Looking up -/
theorem keyP {σ : Sig} {I : Imm} {c kt : Nat} {v : Value} (hv : VR σ I c v) (h : hi c = kt) (h3 : 3 ≤ kt) (h12 : kt ≤ 12) : CRp σ I c v := hv.toP (by omega)
theorem mul_one_val {σ : Sig} {I : Imm} {k v b : Nat} {e : MapEntry} (h : EntR σ I k v b e) : 1 ≤ v := by
  have := h.2.2.2.1
  rcases this with hs | ⟨h1, _⟩
  · have := hs.ne; rw [hi_def] at this; omega
  · rw [hi_def] at h1; omega
theorem look_iff {σ : Sig} {I : Imm} {l : ML} {key : Nat} {es : List MapEntry} (h : MLR σ I l es) : 1 ≤ look key l ↔ key ∈ keysM l := by
  constructor
  · intro h1
    by_cases hm : key ∈ keysM l
    · exact hm
    · rw [look_none hm] at h1; omega
  · intro hm
    induction l generalizing es with
    | nil => exact absurd hm (by simp [keysM])
    | cons k v b l ih =>
      cases es with
      | nil => exact h.elim
      | cons x es =>
        rw [look_cons]
        split
        · exact mul_one_val h.1
        · rename_i hne
          simp only [keysM, List.mem_cons] at hm
          exact ih h.2 (hm.resolve_left fun e => hne e.symm)
theorem lookup_snd (hX : EnvOk X) {t : TypeId} {x i : Operand} {ok : Bool} (ho : o.op = .lookup t x i ok) (hf : Free H nx) : Tells (eLookup t x i ok X call f H nx) (Snd X o f H nx) := by
  refine snd2 hf fun m key H1 n1 hf1 => Tells.keyK fun hk3 hkk => Tells.ifb fun h16 => ?_
  obtain ⟨h12, kt, d, hu, hd, hkey⟩ := key_def hX hk3
  have h16' := beq_iff.1 h16
  have run : ∀ {A : Act} {es : Array MapEntry} {v : Value} {b : Bool} {w : World} {fd : Option (Nat × Value)}, MapKept.IsKey d (A.eval i) →
      (A.eval x = .map none ∧ es = #[]) ∨ (∃ r q, A.eval x = .map (some r) ∧ w.heap[r]? = some (.map es q)) →
      Instr.findNow d (A.eval i) es.toList 0 = some fd → (match fd with | some (_, v') => v' = v ∧ b = true | none => (zeroValue (elemT X t)).run X.P w = .ok v w ∧ b = false) →
      (execOp A.eval o).run X.P w = .ok (.value (if ok then .tuple #[v, .bool b] else v)) w := by
    intro A es v b w fd hik hes hfd hv
    have h10 := MapKept.run_checkKey (w := w) hd hik
    have hfk := MapKept.run_findKey (w := w) hd hfd
    rcases hes with ⟨e1, e2⟩ | ⟨r, q, e1, e2⟩
    · subst e2
      have h10' := h10 (#[] : Array MapEntry).isEmpty 9999
      simp only [execOp, ho, e1, Instr.lookup, Sem.run_bind, run_underlying hu, Result.andThen_ok, pure, Sem.run]
      rw [h10']
      simp only [Result.andThen_ok, hfk]
      cases fd with
      | none => obtain ⟨hz, rfl⟩ := hv; simp only [Sem.run_bind, hz, Result.andThen_ok, pure, Sem.run]
      | some p => exact absurd hfd (by simp [Instr.findNow])
    · have h10' := h10 es.isEmpty 9999
      simp only [execOp, ho, e1, Instr.lookup, Sem.run_bind, run_underlying hu, MapKept.run_getObj_map e2, Result.andThen_ok, pure, Sem.run]
      rw [h10']
      simp only [Result.andThen_ok, hfk]
      cases fd with
      | none => obtain ⟨hz, rfl⟩ := hv; simp only [Sem.run_bind, hz, Result.andThen_ok, pure, Sem.run]
      | some p => obtain ⟨_, v'⟩ := p; obtain ⟨rfl, rfl⟩ := hv; simp only [Sem.run_bind, Result.andThen_ok, pure, Sem.run]
  refine Tells.ite (fun hnil => Tells.bind (zeroC_tells hf1) fun v H2 n2 ⟨g1, z, hz, hzv⟩ => (okK_tells (e := false) g1.free).mono fun c H' nx' ⟨g2, hok⟩ => ⟨(g1.trans g2).toALe, fun I σ w A hI hS hF hA hB => ?_⟩) fun hnil => Tells.mapK fun c q l hg => Tells.headK fun hh => Tells.frc (Tells.ite (fun h1 => ?_) fun h0 => Tells.bind (zeroC_tells hf1) fun v H2 n2 ⟨g1, z, hz, hzv⟩ => ?_)
  · have hm := beq_iff.1 hnil
    have hmv : A.eval x = .map none := by
      rcases (hA.toP (by omega)).map_inv h16' with ⟨_, e⟩ | ⟨b, e, _, hb, h3, _⟩
      · exact e
      · omega
    have hik := hkey σ I _ _ (keyP hB hkk hk3 h12) hkk
    exact .value (run (v := z) (b := false) (fd := none) hik (.inl ⟨hmv, rfl⟩) rfl ⟨hz w, rfl⟩) ⟨σ, .grow hS (g1.trans g2), hok I σ z hI (hzv I σ (hI.back g2.toALe))⟩
  · refine (okK_tells (e := true) hf1).mono fun c' H' nx' ⟨g2, hok⟩ => ⟨g2.toALe, fun I σ w A hI hS hF hA hB => ?_⟩
    have hs : some' m = true := by
      rw [some'_def]
      rcases (hA.toP (by omega)).map_inv h16' with ⟨e, _⟩ | ⟨b, e, _, hb, h3, _⟩
      · exact absurd e (beq_false.1 hnil)
      · have : m % 16777216 ≠ 0 := by omega
        simpa using this
    obtain ⟨e, he, hmv⟩ := map_at hA h16' hs
    have hob := hS.obj _ e he
    rw [hg] at hob
    have hkp := keyP hB hkk hk3 h12
    have hob' : MapOR σ I c q l e w := hob
    obtain ⟨es, hes, hfound⟩ := hob'.found hh hkp hkk hk3 h12 hkey
    obtain ⟨es0, q1, q2, _⟩ := hob'
    have hin : key ∈ keysM l := (look_iff q2).1 (ble_iff.1 h1)
    obtain ⟨es1, e', es2, r1, r2, r3, r4, r5, _⟩ := hfound.some hin
    exact .value (run (v := e'.val) (b := true) (hkey σ I _ _ hkp hkk) (.inr ⟨_, _, hmv, hes⟩) r3 ⟨rfl, rfl⟩) ⟨σ, .grow hS g2, hok I σ _ hI r5.2.2.2.1⟩
  · refine (okK_tells (e := false) g1.free).mono fun c' H' nx' ⟨g2, hok⟩ => ⟨(g1.trans g2).toALe, fun I σ w A hI hS hF hA hB => ?_⟩
    have hs : some' m = true := by
      rw [some'_def]
      rcases (hA.toP (by omega)).map_inv h16' with ⟨e, _⟩ | ⟨b, e, _, hb, h3, _⟩
      · exact absurd e (beq_false.1 hnil)
      · have : m % 16777216 ≠ 0 := by omega
        simpa using this
    obtain ⟨e, he, hmv⟩ := map_at hA h16' hs
    have hob := hS.obj _ e he
    rw [hg] at hob
    have hkp := keyP hB hkk hk3 h12
    have hob' : MapOR σ I c q l e w := hob
    obtain ⟨es, hes, hfound⟩ := hob'.found hh hkp hkk hk3 h12 hkey
    obtain ⟨es0, q1, q2, _⟩ := hob'
    have hin : key ∉ keysM l := fun hm => by
      have := (look_iff q2).2 hm
      have h0' := ble_false.1 h0
      omega
    exact .value (run (v := z) (b := false) (hkey σ I _ _ hkp hkk) (.inr ⟨_, _, hmv, hes⟩) (hfound.none hin) ⟨hz w, rfl⟩) ⟨σ, .grow hS (g1.trans g2), hok I σ z hI (hzv I σ (hI.back g2.toALe))⟩
end Go.Ev
set_option linter.unusedVariables false
set_option linter.unusedSimpArgs false
namespace Go.Ev
variable {X : Env} {o : Oper} {f : FR} {H : HT} {nx : Nat} {call : CallT}

/-- three operands -/
theorem snd3 {x y z : Operand} (hf : Free H nx) {F : Nat → Nat → Nat → HT → Nat → K0 → Out}
    (h : ∀ a b c H1 n1, Free H1 n1 → Tells (F a b c H1 n1) fun c' H' nx' => ALe H1 n1 H' nx' ∧ ∀ (I : Imm) (σ : Sig) (w : World) (A : Act), Holds I H' nx' → SRel σ I H1 n1 w → FrameR σ I f A.tmps → VR σ I a (A.eval x) → VR σ I b (A.eval y) → VR σ I c (A.eval z) →
      OpDo X.P o A w fun v w' => ∃ σ', After σ I H1 n1 w σ' H' nx' w' ∧ VR σ' I c' v) :
    Tells (fun k => arg2 x y f H nx fun a b H nx => arg z f H nx fun c H nx => F a b c H nx k) (Snd X o f H nx) := by
  refine arg2_tells hf fun a b H1 n1 ⟨g1, h1⟩ => Tells.bind (arg_tells g1.free) fun c H2 n2 ⟨g2, h2⟩ => (h a b c H2 n2 g2.free).mono fun c' H' nx' ⟨g3, h3⟩ => ?_
  refine ⟨(g1.trans g2).toALe.trans g3, fun I σ w A hI hS hF => ?_⟩
  have hv := h1 I σ A (hI.back (g2.toALe.trans g3)) hF
  refine (h3 I σ w A hI ((hS.grow g1).grow g2) hF hv.1 hv.2 (h2 I σ A (hI.back g3) hF)).mono fun v w' ⟨σ', ha, hv'⟩ => ⟨σ', ?_, hv'⟩
  exact (After.grow hS (g1.trans g2)).trans ha (g1.trans g2).le fun b e hb => (hS.dom b e hb).1
theorem valOk_cra {σ : Sig} {I : Imm} {c : Nat} {v : Value} (h : valOk c = true) (hv : VR σ I c v) : CRa σ I c v := by
  unfold valOk at h
  simp only [and'_eq, not'_eq, Bool.and_eq_true, Bool.not_eq_true', beq_false, ble_iff] at h
  rcases hv with hv | ⟨hv, _⟩ | hv
  · rw [hi_def] at hv; omega
  · exact absurd hv h.2.1
  · exact hv.toA h.2.2
theorem modify_at {α : Type} {l1 l2 : List α} {e : α} (g : α → α) : (l1 ++ e :: l2).modify l1.length g = l1 ++ g e :: l2 := by
  induction l1 with
  | nil => rfl
  | cons a l1 ih =>
    have : ((a :: l1) ++ e :: l2).modify (a :: l1).length g = a :: (l1 ++ e :: l2).modify l1.length g := by simp
    rw [this, ih]; rfl
theorem erase_at {α : Type} {l1 l2 : List α} {e : α} : (l1 ++ e :: l2).eraseIdx l1.length = l1 ++ l2 := by
  induction l1 with
  | nil => rfl
  | cons a l1 ih => simp [List.eraseIdx, ih]
theorem rev_modify {es : Array MapEntry} {es1 es2 : List MapEntry} {e : MapEntry} (h : es.toList = es1 ++ e :: es2) (g : MapEntry → MapEntry) : (es.modify es1.length g).toList.reverse = es2.reverse ++ g e :: es1.reverse := by
  have : (es.modify es1.length g).toList = es.toList.modify es1.length g := by simp
  rw [this, h, modify_at]; simp
theorem rev_erase {es : Array MapEntry} {es1 es2 : List MapEntry} {e : MapEntry} (h : es.toList = es1 ++ e :: es2) : (es.eraseIdxIfInBounds es1.length).toList.reverse = es2.reverse ++ es1.reverse := by
  have hlt : es1.length < es.size := by rw [← Array.length_toList, h]; simp
  have : (es.eraseIdxIfInBounds es1.length).toList = es.toList.eraseIdx es1.length := by
    unfold Array.eraseIdxIfInBounds
    rw [dif_pos hlt]; simp
  rw [this, h, erase_at]; simp
/-- the map's own facts -/
theorem MapOR.parts {σ : Sig} {I : Imm} {c q : Nat} {l : ML} {e : SE} {w : World} (h : MapOR σ I c q l e w) : (keysM l).Nodup ∧ (birthsM l).Nodup ∧ (∀ b ∈ birthsM l, b < q) ∧ c = (keysM l).length ∧ (∀ k ∈ keysM l, ∀ k' ∈ keysM l, hi k = hi k') ∧ ∃ es, w.heap[e.B]? = some (.map es q) ∧ MLR σ I l es.toList.reverse := by
  obtain ⟨es, h1, h2, h3, h4, h5, h6, h7⟩ := h
  exact ⟨h3, h4, h5, h6, h7, es, h1, h2⟩
theorem kinds_cons {key : Nat} {l : ML} (hu : ∀ k ∈ keysM l, ∀ k' ∈ keysM l, hi k = hi k') (hh : ∀ k v b l', l = .cons k v b l' → hi k = hi key) {v b : Nat} : ∀ k ∈ keysM (.cons key v b l), ∀ k' ∈ keysM (.cons key v b l), hi k = hi k' := by
  have all : ∀ k ∈ keysM l, hi k = hi key := by
    intro k hk
    cases l with
    | nil => exact absurd hk (by simp [keysM])
    | cons k0 v0 b0 l' =>
      have := hh k0 v0 b0 l' rfl
      rw [hu k hk k0 (by simp [keysM]), this]
  intro k hk k' hk'
  simp only [keysM, List.mem_cons] at hk hk'
  rcases hk with rfl | hk <;> rcases hk' with rfl | hk'
  · rfl
  · exact (all k' hk').symm
  · exact all k hk
  · rw [all k hk, all k' hk']
theorem births_cons {l : ML} {key v q : Nat} (h : ∀ b ∈ birthsM l, b < q) : ∀ b ∈ birthsM (.cons key v q l), b < Nat.succ q := by
  intro b hb
  simp only [birthsM, List.mem_cons] at hb
  rcases hb with rfl | hb
  · exact Nat.lt_succ_self _
  · exact Nat.lt_succ_of_lt (h b hb)
/-- a new entry -/
theorem mlr_push {σ : Sig} {I : Imm} {l : ML} {es : Array MapEntry} {key v b : Nat} {e : MapEntry} (h : MLR σ I l es.toList.reverse) (he : EntR σ I key v b e) : MLR σ I (.cons key v b l) (es.push e).toList.reverse := by
  simp only [Array.toList_push, List.reverse_append, List.reverse_cons, List.reverse_nil, List.nil_append, List.singleton_append]
  exact ⟨he, h⟩
theorem mapUpdate_snd (hX : EnvOk X) {t : TypeId} {m key v : Operand} (ho : o.op = .mapUpdate t m key v ∨ o.op = .insert t m key v) (hf : Free H nx) : Tells (eMapUpdate t m key v X call f H nx) (Snd X o f H nx) := by
  refine snd3 hf fun mc kc vc H1 n1 hf1 => Tells.keyK fun hk3 hkk => Tells.mapNil fun h16 hs => ?_
  obtain ⟨h12, kt, d, hu, hd, hkey⟩ := key_def hX hk3
  refine Tells.ifb fun hvo => Tells.frc (Tells.mapK fun c q l hg => Tells.headK fun hh => Tells.ite (fun h1 => ?_) fun h0 => ?_)
  · simp only [updM_eq]
    refine Tells.bind1 (setMap_tells (b := blk mc) (c := c) (q := q) (l := updL kc vc l) hf1 hg) fun H' ⟨hale, hset⟩ => Tells.pure ⟨hale, fun I σ w A hI hS hF hA hB hC => ?_⟩
    obtain ⟨e, he, hmv⟩ := map_at hA h16 hs
    have hob := hS.obj _ e he
    rw [hg] at hob
    have hob' : MapOR σ I c q l e w := hob
    obtain ⟨p1, p2, p3, p4, p5, es0, p6, p7⟩ := hob'.parts
    have hkp := keyP hB hkk hk3 h12
    obtain ⟨es, hes, hfound⟩ := hob'.found hh hkp hkk hk3 h12 hkey
    have hin : kc ∈ keysM l := (look_iff p7).1 (ble_iff.1 h1)
    obtain ⟨es1, e', es2, r1, r2, r3, r4, r5, r6, _⟩ := hfound.some hin
    have hik := hkey σ I _ _ hkp hkk
    have hres := map_after (c := c) (q := q) (l := updL kc vc l) (es := es.modify es1.length fun e => { e with key := A.eval key, val := A.eval v }) hS hf1 he hg hset hes
      (by rw [rev_modify r1]; have := r6 vc (A.eval v) (valOk_cra hvo hC); rw [← r2]; exact this)
      (by rw [keys_updL]; exact p1) (by rw [births_updL]; exact p2) (by rw [births_updL]; exact p3) (by rw [keys_updL]; exact p4) (by rw [keys_updL]; exact p5)
    refine .skip (w' := { w with heap := w.heap.setIfInBounds e.B (.map (es.modify es1.length fun e => { e with key := A.eval key, val := A.eval v }) q) }) ?_ ⟨σ, hres, vr_undef⟩
    have hrun : (Instr.mapUpdate t (A.eval m) (A.eval key) (A.eval v)).run X.P w = .ok () { w with heap := w.heap.setIfInBounds e.B (.map (es.modify es1.length fun e => { e with key := A.eval key, val := A.eval v }) q) } := by
      have h10 := MapKept.run_checkKey (w := w) hd hik false 9999
      have hkts := MapKept.run_keyThatStays (P := X.P) (w := w) hik
      have hg' : (((es[es1.length]?).map (·.key)).getD (A.eval key)) = A.eval key := by rw [r4]; simp [r2]
      simp only [Instr.mapUpdate, Sem.run_bind, run_underlying hu, Result.andThen_ok, hmv, MapKept.run_getObj_map hes]
      rw [h10]
      simp only [Result.andThen_ok, MapKept.run_findKey (w := w) hd r3, hg', Sem.run_bind, hkts, MapKept.run_setObj_map _ hes]
    rcases ho with ho | ho <;> simp only [execOp, ho, Sem.run_bind, hrun, Result.andThen_ok, pure, Sem.run]
  · refine Tells.bind1 (setMap_tells (b := blk mc) (c := Nat.succ c) (q := Nat.succ q) (l := .cons kc vc q l) hf1 hg) fun H' ⟨hale, hset⟩ => Tells.pure ⟨hale, fun I σ w A hI hS hF hA hB hC => ?_⟩
    obtain ⟨e, he, hmv⟩ := map_at hA h16 hs
    have hob := hS.obj _ e he
    rw [hg] at hob
    have hob' : MapOR σ I c q l e w := hob
    obtain ⟨p1, p2, p3, p4, p5, es0, p6, p7⟩ := hob'.parts
    have hkp := keyP hB hkk hk3 h12
    obtain ⟨es, hes, hfound⟩ := hob'.found hh hkp hkk hk3 h12 hkey
    have hee : es = es0 := by rw [hes] at p6; injection p6 with p6; injection p6
    subst hee
    have hin : kc ∉ keysM l := fun hm => by
      have := (look_iff p7).2 hm
      have h0' := ble_false.1 h0
      omega
    have hik := hkey σ I _ _ hkp hkk
    have hres := map_after (c := Nat.succ c) (q := Nat.succ q) (l := .cons kc vc q l) (es := es.push { key := A.eval key, val := A.eval v, born := q }) hS hf1 he hg hset hes
      (mlr_push p7 ⟨hkp, by omega, by omega, valOk_cra hvo hC, rfl⟩)
      (by simp only [keysM]; exact List.nodup_cons.2 ⟨hin, p1⟩) (by simp only [birthsM]; exact List.nodup_cons.2 ⟨fun hm => by have := p3 q hm; omega, p2⟩)
      (births_cons p3) (by simp [keysM, p4]) (kinds_cons p5 hh)
    refine .skip (w' := { w with heap := w.heap.setIfInBounds e.B (.map (es.push { key := A.eval key, val := A.eval v, born := q }) (q + 1)) }) ?_ ⟨σ, hres, vr_undef⟩
    have hrun : (Instr.mapUpdate t (A.eval m) (A.eval key) (A.eval v)).run X.P w = .ok () { w with heap := w.heap.setIfInBounds e.B (.map (es.push { key := A.eval key, val := A.eval v, born := q }) (q + 1)) } := by
      have h10 := MapKept.run_checkKey (w := w) hd hik false 9999
      simp only [Instr.mapUpdate, Sem.run_bind, run_underlying hu, Result.andThen_ok, hmv, MapKept.run_getObj_map hes]
      rw [h10]
      simp only [Result.andThen_ok, MapKept.run_findKey (w := w) hd (hfound.none hin), Sem.run_bind, MapKept.run_setObj_map _ hes]
    rcases ho with ho | ho <;> simp only [execOp, ho, Sem.run_bind, hrun, Result.andThen_ok, pure, Sem.run]

/-! ### Entries -/
theorem cra_int {σ : Sig} {I : Imm} {n : Nat} (h : n ≤ 16777214) : CRa σ I (intC n) (goInt (n : Int)) := by
  refine CRp.toA (crp_int' (k := .i64) (by show (-9223372036854775808 : Int) ≤ (n : Int); omega) (by show (n : Int) ≤ 9223372036854775807; omega) ?_)
  show n + 554597137599850363154807652352 = _
  simp only [intTag]; omega
theorem setKey_same {es : Array MapEntry} {i : Nat} {e : MapEntry} {kv : Value} (h : es[i]? = some e) (hk : e.key = kv) : es.modify i (fun e => { e with key := kv }) = es := by
  refine Array.ext_getElem? fun j => ?_
  rw [Array.getElem?_modify]
  split
  · rename_i hij; subst hij; rw [h]; simp [← hk]
  · rfl
theorem get_grow {H' : HT} {nx' b : Nat} (hf : Free H nx) (g : Grow H nx H' nx') (hd : get H b ≠ .dead) : get H' b = get H b := by
  rw [get_mod] at hd
  rw [get_mod, get_mod H]
  refine g.same _ (Decidable.byContradiction fun hn => hd (hf.2 _ (by omega) (Nat.mod_lt _ (by decide))))
theorem mapEntry_snd (hX : EnvOk X) {t : TypeId} {m key : Operand} (ho : o.op = .mapEntry t m key) (hf : Free H nx) : Tells (eMapEntry t m key X call f H nx) (Snd X o f H nx) := by
  refine snd2 hf fun mc kc H1 n1 hf1 => Tells.keyK fun hk3 hkk => Tells.mapNil fun h16 hs => ?_
  obtain ⟨h12, kt, d, hu, hd, hkey⟩ := key_def hX hk3
  refine Tells.frc (Tells.mapK fun c q l hg => Tells.headK fun hh => Tells.ifb fun hq => Tells.ite (fun h1 => ?_) fun h0 => ?_)
  · refine (pair_tells hf1).mono fun c' H' nx' ⟨g, hp⟩ => ⟨g.toALe, fun I σ w A hI hS hF hA hB => ?_⟩
    obtain ⟨e, he, hmv⟩ := map_at hA h16 hs
    have hob := hS.obj _ e he
    rw [hg] at hob
    have hob' : MapOR σ I c q l e w := hob
    obtain ⟨p1, p2, p3, p4, p5, es0, p6, p7⟩ := hob'.parts
    have hkp := keyP hB hkk hk3 h12
    obtain ⟨es, hes, hfound⟩ := hob'.found hh hkp hkk hk3 h12 hkey
    have hin : kc ∈ keysM l := (look_iff p7).1 (ble_iff.1 h1)
    obtain ⟨es1, e', es2, r1, r2, r3, r4, r5, r6, _⟩ := hfound.some hin
    have hik := hkey σ I _ _ hkp hkk
    have hbb : lookB kc l < q := by
      have hbm : lookB kc l ∈ birthsM l := by
        have hsp : es.toList.reverse = es2.reverse ++ e' :: es1.reverse := by rw [r1]; simp
        have hee : es = es0 := by rw [hes] at p6; injection p6 with p6; injection p6
        subst hee
        rw [hsp] at p7
        obtain ⟨k', q1, q2, q3, _⟩ := mlr_split p7 p1 p2
        have h5 := p5 k' q1 kc hin
        have : k' = kc := (cell_eq q2.1 hkp (by rw [h5]; exact hkk) hkk hk3 h12).2 r2
        subst this; exact q3
      exact p3 _ hbm
    refine .value (v := .tuple #[e'.val, goInt (lookB kc l : Int)]) ?_ ⟨σ, .grow hS g, .inr (.inr (hp I σ _ _ hI r5.2.2.2.1 (cra_int (by have := ble_iff.1 hq; omega))))⟩
    have h10 := MapKept.run_checkKey (w := w) hd hik false 9999
    have hkts := MapKept.run_keyThatStays (P := X.P) (w := w) hik
    have hg' : (((es[es1.length]?).map (·.key)).getD (A.eval key)) = A.eval key := by rw [r4]; simp [r2]
    have hsame := setKey_same r4 r2
    have hb' : ((es[es1.length]?).map (fun x => (x.born : Int))).getD 0 = (lookB kc l : Int) := by rw [r4]; simp [r5.2.2.2.2]
    have hww : { w with heap := w.heap.setIfInBounds e.B (.map es q) } = w := by
      have : w.heap.setIfInBounds e.B (.map es q) = w.heap := by
        refine Array.ext_getElem? fun j => ?_
        by_cases hj : j = e.B
        · subst hj; rw [(MapKept.heap_set hes).1, hes]
        · rw [(MapKept.heap_set hes).2 j hj]
      rw [this]
    simp only [execOp, ho, Instr.mapEntry, Sem.run_bind, run_underlying hu, Result.andThen_ok, hmv, MapKept.run_getObj_map hes]
    rw [h10]
    simp only [Result.andThen_ok, MapKept.run_findKey (w := w) hd r3, hg', Sem.run_bind, hkts, hsame, MapKept.run_setObj_map _ hes, hww, hb', pure, Sem.run]
  · refine Tells.bind (zeroC_tells hf1) fun v H2 n2 ⟨g1, z, hz, hzv⟩ => ?_
    have hg2 : get H2 (blk mc) = .map c q l := by rw [get_grow hf1 g1 (by rw [hg]; simp)]; exact hg
    refine Tells.bind1 (setMap_tells (b := blk mc) (c := Nat.succ c) (q := Nat.succ q) (l := .cons kc v q l) g1.free hg2) fun H3 ⟨hale, hset⟩ => (pair_tells hale.free).mono fun c' H' nx' ⟨g, hp⟩ => ⟨(g1.toALe.trans hale).trans g.toALe, fun I σ w A hI hS hF hA hB => ?_⟩
    obtain ⟨e, he, hmv⟩ := map_at hA h16 hs
    have hob := hS.obj _ e he
    rw [hg] at hob
    have hob' : MapOR σ I c q l e w := hob
    obtain ⟨p1, p2, p3, p4, p5, es0, p6, p7⟩ := hob'.parts
    have hkp := keyP hB hkk hk3 h12
    obtain ⟨es, hes, hfound⟩ := hob'.found hh hkp hkk hk3 h12 hkey
    have hee : es = es0 := by rw [hes] at p6; injection p6 with p6; injection p6
    subst hee
    have hin : kc ∉ keysM l := fun hm => by
      have := (look_iff p7).2 hm
      have h0' := ble_false.1 h0
      omega
    have hik := hkey σ I _ _ hkp hkk
    have hzc := hzv I σ (hI.back (hale.trans g.toALe))
    have hres := map_after (c := Nat.succ c) (q := Nat.succ q) (l := .cons kc v q l) (es := es.push { key := A.eval key, val := z, born := q }) (hS.grow g1) g1.free he hg2 hset hes
      (mlr_push p7 ⟨hkp, by omega, by omega, hzc, rfl⟩)
      (by simp only [keysM]; exact List.nodup_cons.2 ⟨hin, p1⟩) (by simp only [birthsM]; exact List.nodup_cons.2 ⟨fun hm => by have := p3 q hm; omega, p2⟩)
      (births_cons p3) (by simp [keysM, p4]) (kinds_cons p5 hh)
    have hres2 := (After.grow hS g1).trans hres g1.le fun b e hb => (hS.dom b e hb).1
    have hres3 := hres2.trans (After.grow hres2.rel g) g1.le fun b e hb => (hS.dom b e hb).1
    refine .value (v := .tuple #[z, goInt (q : Int)]) (w' := { w with heap := w.heap.setIfInBounds e.B (.map (es.push { key := A.eval key, val := z, born := q }) (q + 1)) }) ?_ ⟨σ, hres3, .inr (.inr (hp I σ _ _ hI hzc (cra_int (ble_iff.1 hq))))⟩
    have h10 := MapKept.run_checkKey (w := w) hd hik false 9999
    simp only [execOp, ho, Instr.mapEntry, Sem.run_bind, run_underlying hu, Result.andThen_ok, hmv, MapKept.run_getObj_map hes]
    rw [h10]
    simp only [Result.andThen_ok, MapKept.run_findKey (w := w) hd (hfound.none hin), Sem.run_bind, hz, MapKept.run_setObj_map _ hes, pure, Sem.run]

/-! ### A value laid into an entry -/
theorem updB_tells {v s : Nat} : ∀ (l : ML), Tells1 (updB s v l) fun l' => keysM l' = keysM l ∧ birthsM l' = birthsM l ∧ ∀ (σ : Sig) (I : Imm) (rl : List MapEntry) val, MLR σ I l rl → CRa σ I v val → ∃ r2 e r1, rl = r2 ++ e :: r1 ∧ e.born = s ∧ MLR σ I l' (r2 ++ { e with val := val } :: r1) ∧ ∀ x ∈ r2, x.born ≠ s
  | .nil => Tells1.bad
  | .cons k v0 b l => by
    show Tells1 (fun kk : ML → Out => br (updB s v l fun l => kk (.cons k v0 b l)) (kk (.cons k v b l)) (Nat.beq b s)) _
    refine Tells1.ite (fun h => Tells1.pure ⟨rfl, rfl, fun σ I rl val hm hv => ?_⟩) fun h => Tells1.bind1 (updB_tells l) fun l' ⟨h1, h2, h3⟩ => Tells1.pure ⟨by simp [keysM, h1], by simp [birthsM, h2], fun σ I rl val hm hv => ?_⟩
    · cases rl with
      | nil => exact hm.elim
      | cons e rl => exact ⟨[], e, rl, rfl, hm.1.2.2.2.2.trans (beq_iff.1 h), ⟨⟨hm.1.1, hm.1.2.1, hm.1.2.2.1, hv, hm.1.2.2.2.2⟩, hm.2⟩, fun x hx => absurd hx (by simp)⟩
    · cases rl with
      | nil => exact hm.elim
      | cons e0 rl =>
        obtain ⟨r2, e, r1, q1, q2, q3, q4⟩ := h3 σ I rl val hm.2 hv
        refine ⟨e0 :: r2, e, r1, by rw [q1]; rfl, q2, ⟨hm.1, q3⟩, fun x hx => ?_⟩
        rcases List.mem_cons.1 hx with rfl | hx
        · rw [hm.1.2.2.2.2]; exact beq_false.1 h
        · exact q4 x hx
theorem mlr_births {σ : Sig} {I : Imm} : ∀ {l : ML} {es : List MapEntry}, MLR σ I l es → birthsM l = es.map (·.born)
  | .nil, [], _ => rfl
  | .cons k v b l, e :: es, h => by simp only [birthsM, List.map_cons, mlr_births h.2, h.1.2.2.2.2]
  | .nil, _ :: _, h => h.elim
  | .cons _ _ _ _, [], h => h.elim
theorem findIdx_at {α : Type} {p : α → Bool} {l1 l2 : List α} {e : α} (h1 : ∀ x ∈ l1, p x = false) (h2 : p e = true) : (l1 ++ e :: l2).findIdx? p = some l1.length := by
  induction l1 with
  | nil => simp [List.findIdx?_cons, h2]
  | cons a l1 ih =>
    have ha := h1 a (by simp)
    simp only [List.cons_append, List.findIdx?_cons, ha, Bool.false_eq_true, if_false, ih (fun x hx => h1 x (by simp [hx])), Option.map_some, List.length_cons]
theorem entryStore_snd (hX : EnvOk X) {t : TypeId} {m s v : Operand} (ho : o.op = .entryStore t m s v) (hf : Free H nx) : Tells (eEntryStore t m s v X call f H nx) (Snd X o f H nx) := by
  refine snd3 hf fun mc sc vc H1 n1 hf1 => Tells.mapNil fun h16 hs => Tells.bind1 natK_tells fun st ⟨hst1, _, hst⟩ => Tells.ifb fun hvo => Tells.frc (Tells.mapK fun c q l hg => ?_)
  refine Tells.bind1 (updB_tells l) fun l' ⟨u1, u2, u3⟩ => Tells.bind1 (setMap_tells (b := blk mc) (c := c) (q := q) (l := l') hf1 hg) fun H' ⟨hale, hset⟩ => Tells.pure ⟨hale, fun I σ w A hI hS hF hA hB hC => ?_⟩
  obtain ⟨e, he, hmv⟩ := map_at hA h16 hs
  have hob := hS.obj _ e he
  rw [hg] at hob
  have hob' : MapOR σ I c q l e w := hob
  obtain ⟨p1, p2, p3, p4, p5, es, hes, p7⟩ := hob'.parts
  obtain ⟨r2, e', r1, q1, q2, q3, q4⟩ := u3 σ I _ (A.eval v) p7 (valOk_cra hvo hC)
  obtain ⟨k, hk⟩ := hst σ I _ hB
  have hsplit : es.toList = r1.reverse ++ e' :: r2.reverse := by
    have := congrArg List.reverse q1
    simpa using this
  have hone : ∀ x ∈ r1.reverse, x.born ≠ st := by
    intro x hx hxs
    have hb := mlr_births p7
    rw [hb, q1] at p2
    simp only [List.map_append, List.map_cons] at p2
    have h3 := (List.nodup_append.1 p2).2.1
    rw [List.nodup_cons] at h3
    exact h3.1 (List.mem_map.2 ⟨x, by simpa using hx, by rw [hxs, q2]⟩)
  have hres := map_after (c := c) (q := q) (l := l') (es := es.modify r1.reverse.length fun e => { e with val := A.eval v }) hS hf1 he hg hset hes
    (by rw [rev_modify hsplit]; simpa using q3) (by rw [u1]; exact p1) (by rw [u2]; exact p2) (by rw [u2]; exact p3) (by rw [u1]; exact p4) (by rw [u1]; exact p5)
  refine .skip (w' := { w with heap := w.heap.setIfInBounds e.B (.map (es.modify r1.reverse.length fun e => { e with val := A.eval v }) q) }) ?_ ⟨σ, hres, vr_undef⟩
  have hfi : es.findIdx? (fun e => (e.born : Int) == (st : Int)) = some r1.reverse.length := by
    have : es.findIdx? (fun e => (e.born : Int) == (st : Int)) = es.toList.findIdx? (fun e => (e.born : Int) == (st : Int)) := by obtain ⟨l⟩ := es; simp
    rw [this, hsplit]
    refine findIdx_at (fun x hx => ?_) (by simp [q2])
    have := hone x hx
    simp; omega
  simp only [execOp, ho, Instr.entryStore, hmv, hk, asInt, asIntOf, Sem.run_bind, MapKept.run_getObj_map hes, Result.andThen_ok, pure, Sem.run, hfi, MapKept.run_setObj_map _ hes]
end Go.Ev
set_option linter.unusedVariables false
set_option linter.unusedSimpArgs false
namespace Go.Ev
variable {X : Env} {o : Oper} {f : FR} {H : HT} {nx : Nat} {call : CallT}

/-! ### Calls of what is built in -/
theorem nth_cases (xs : Array Operand) (i : Nat) : nth xs i = .global 0 ∨ xs.toList[i]? = some (nth xs i) := by
  unfold nth
  cases h : xs.toList[i]? with
  | none => exact .inl rfl
  | some x => exact .inr rfl
theorem nth_arg {xs : Array Operand} {i : Nat} (h : xs.toList[i]? = some (nth xs i)) (ρ : Operand → Value) : (xs.map ρ)[i]? = some (ρ (nth xs i)) := by
  have : xs[i]? = some (nth xs i) := by simpa using h
  simp [this]
theorem Tells.withT {R : Nat → HT → Nat → Prop} {F : TypeId → K0 → Out} {ts : Array TypeId} {i : Nat} (h : ∀ t, ts[i]? = some t → Tells (F t) R) : Tells (fun k => Ev.withT ts i fun t => F t k) R := by
  unfold Ev.withT
  cases ht : ts.toList[i]? with
  | none => exact Tells.bad
  | some t => exact h t (by simpa using ht)
theorem snd1n {xs : Array Operand} {i : Nat} (hf : Free H nx) {F : Nat → HT → Nat → K0 → Out}
    (h : (∀ ρ : Operand → Value, (xs.map ρ)[i]? = some (ρ (nth xs i))) → ∀ c H1 n1, Free H1 n1 → Tells (F c H1 n1) fun c' H' nx' => ALe H1 n1 H' nx' ∧ ∀ (I : Imm) (σ : Sig) (w : World) (A : Act), Holds I H' nx' → SRel σ I H1 n1 w → FrameR σ I f A.tmps → VR σ I c (A.eval (nth xs i)) →
      OpDo X.P o A w fun v w' => ∃ σ', After σ I H1 n1 w σ' H' nx' w' ∧ VR σ' I c' v) :
    Tells (fun k => arg (nth xs i) f H nx fun c H nx => F c H nx k) (Snd X o f H nx) := by
  rcases nth_cases xs i with e | e
  · rw [e]; exact Tells.bad
  · exact snd1 hf (h (nth_arg e))
theorem snd2n {xs : Array Operand} (hf : Free H nx) {F : Nat → Nat → HT → Nat → K0 → Out}
    (h : (∀ ρ : Operand → Value, (xs.map ρ)[0]? = some (ρ (nth xs 0)) ∧ (xs.map ρ)[1]? = some (ρ (nth xs 1))) → ∀ a b H1 n1, Free H1 n1 → Tells (F a b H1 n1) fun c' H' nx' => ALe H1 n1 H' nx' ∧ ∀ (I : Imm) (σ : Sig) (w : World) (A : Act), Holds I H' nx' → SRel σ I H1 n1 w → FrameR σ I f A.tmps → VR σ I a (A.eval (nth xs 0)) → VR σ I b (A.eval (nth xs 1)) →
      OpDo X.P o A w fun v w' => ∃ σ', After σ I H1 n1 w σ' H' nx' w' ∧ VR σ' I c' v) :
    Tells (fun k => arg2 (nth xs 0) (nth xs 1) f H nx fun a b H nx => F a b H nx k) (Snd X o f H nx) := by
  rcases nth_cases xs 0 with e | e
  · rw [e]; exact Tells.bad
  · rcases nth_cases xs 1 with e' | e'
    · rw [e']
      show Tells (fun k => arg (nth xs 0) f H nx fun a H nx => .bad 8) _
      exact Tells.bind (F := fun _ _ _ _ => .bad 8) (arg_tells hf) fun c H1 n1 _ => Tells.bad
    · exact snd2 hf (h fun ρ => ⟨nth_arg e ρ, nth_arg e' ρ⟩)
theorem run_builtin {P : Program} {b : Builtin} {xs : Array Operand} {ts : Array TypeId} (ho : o.op = .call { callee := .builtin b, args := xs, argTypes := ts }) (A : Act) (w : World) :
    ∃ cs, (execOp A.eval o).run P w = (builtin b ts o.type cs (xs.map A.eval)).run P w := by
  refine ⟨xs.map fun | .const _ => true | _ => false, ?_⟩
  simp only [execOp, ho, resolve, Sem.run_bind, invoke, pure, Sem.run, Result.andThen_ok]
  rfl
theorem value_of {P : Program} {s : Sem Value} {w w' : World} {v : Value} (h : s.run P w = .ok v w') : ((do pure (.value (← s))) : Sem Next).run P w = .ok (.value v) w' := by
  simp only [Sem.run_bind, h, Result.andThen_ok, pure, Sem.run]
theorem delete_snd (hX : EnvOk X) {xs : Array Operand} {ts : Array TypeId} (ho : o.op = .call { callee := .builtin .delete, args := xs, argTypes := ts }) (hf : Free H nx) :
    Tells (eBuiltin .delete xs ts X call f H nx) (Snd X o f H nx) := by
  show Tells (fun k => withT ts 0 fun t => arg2 (nth xs 0) (nth xs 1) f H nx fun a b H nx => bDelete t a b X H nx k) _
  refine Tells.withT fun t ht => snd2n hf fun hargs mc kc H1 n1 hf1 => Tells.keyK fun hk3 hkk => Tells.ifb fun h16 => ?_
  obtain ⟨h12, kt, d, hu, hd, hkey⟩ := key_def hX hk3
  have h16' := beq_iff.1 h16
  refine Tells.ite (fun hs => Tells.frc (Tells.mapK fun c q l hg => Tells.headK fun hh => Tells.ite (fun h1 => ?_) fun h0 => Tells.pure ⟨(Grow.refl hf1).toALe, fun I σ w A hI hS hF hA hB => ?_⟩)) fun hs => Tells.pure ⟨(Grow.refl hf1).toALe, fun I σ w A hI hS hF hA hB => ?_⟩
  · simp only [delM_eq]
    refine Tells.bind1 (setMap_tells (b := blk mc) (c := Nat.pred c) (q := q) (l := delL kc l) hf1 hg) fun H' ⟨hale, hset⟩ => Tells.pure ⟨hale, fun I σ w A hI hS hF hA hB => ?_⟩
    obtain ⟨e, he, hmv⟩ := map_at hA h16' hs
    have hob := hS.obj _ e he
    rw [hg] at hob
    have hob' : MapOR σ I c q l e w := hob
    obtain ⟨p1, p2, p3, p4, p5, es0, p6, p7⟩ := hob'.parts
    have hkp := keyP hB hkk hk3 h12
    obtain ⟨es, hes, hfound⟩ := hob'.found hh hkp hkk hk3 h12 hkey
    have hin : kc ∈ keysM l := (look_iff p7).1 (ble_iff.1 h1)
    obtain ⟨es1, e', es2, r1, r2, r3, r4, r5, r6, r7⟩ := hfound.some hin
    have hik := hkey σ I _ _ hkp hkk
    have hsub := keys_delL kc l
    have hres := map_after (c := Nat.pred c) (q := q) (l := delL kc l) (es := es.eraseIdxIfInBounds es1.length) hS hf1 he hg hset hes (by rw [rev_erase r1]; exact r7)
      (hsub.nodup p1) ((births_delL kc l).nodup p2) (fun b hb => p3 b ((births_delL kc l).subset hb)) (by rw [len_delL hin, p4]) (fun k hk k' hk' => p5 k (hsub.subset hk) k' (hsub.subset hk'))
    refine .value (v := .tuple #[]) (w' := { w with heap := w.heap.setIfInBounds e.B (.map (es.eraseIdxIfInBounds es1.length) q) }) ?_ ⟨σ, hres, vr_undef⟩
    obtain ⟨cs, hb⟩ := run_builtin (P := X.P) ho A w
    rw [hb]
    refine value_of ?_
    have h10 := MapKept.run_checkKey (w := w) hd hik es.isEmpty 9999
    obtain ⟨a0, a1⟩ := hargs A.eval
    simp only [Builtin.delete_, ht, a0, a1, Sem.run_bind, run_underlying hu, Result.andThen_ok, hmv, MapKept.run_getObj_map hes]
    rw [h10]
    simp only [Result.andThen_ok, MapKept.run_findKey (w := w) hd r3, Sem.run_bind, MapKept.run_setObj_map _ hes, pure, Sem.run]
  · obtain ⟨e, he, hmv⟩ := map_at hA h16' hs
    have hob := hS.obj _ e he
    rw [hg] at hob
    have hob' : MapOR σ I c q l e w := hob
    obtain ⟨p1, p2, p3, p4, p5, es0, p6, p7⟩ := hob'.parts
    have hkp := keyP hB hkk hk3 h12
    obtain ⟨es, hes, hfound⟩ := hob'.found hh hkp hkk hk3 h12 hkey
    have hin : kc ∉ keysM l := fun hm => by
      have := (look_iff p7).2 hm
      have h0' := ble_false.1 h0
      omega
    have hik := hkey σ I _ _ hkp hkk
    refine .value (v := .tuple #[]) ?_ ⟨σ, .grow hS (Grow.refl hf1), vr_undef⟩
    obtain ⟨cs, hb⟩ := run_builtin (P := X.P) ho A w
    rw [hb]
    refine value_of ?_
    have h10 := MapKept.run_checkKey (w := w) hd hik es.isEmpty 9999
    obtain ⟨a0, a1⟩ := hargs A.eval
    have hww : { w with heap := w.heap.setIfInBounds e.B (.map es q) } = w := by
      have : w.heap.setIfInBounds e.B (.map es q) = w.heap := by
        refine Array.ext_getElem? fun j => ?_
        by_cases hj : j = e.B
        · subst hj; rw [(MapKept.heap_set hes).1, hes]
        · rw [(MapKept.heap_set hes).2 j hj]
      rw [this]
    simp only [Builtin.delete_, ht, a0, a1, Sem.run_bind, run_underlying hu, Result.andThen_ok, hmv, MapKept.run_getObj_map hes]
    rw [h10]
    simp only [Result.andThen_ok, MapKept.run_findKey (w := w) hd (hfound.none hin), Sem.run_bind, MapKept.run_setObj_map _ hes, hww, pure, Sem.run]
  · have hmv : A.eval (nth xs 0) = .map none := by
      rcases (hA.toP (by omega)).map_inv h16' with ⟨_, e⟩ | ⟨b, e, _, hb, h3, _⟩
      · exact e
      · rw [some'_def] at hs
        have : mc % 16777216 ≠ 0 := by omega
        simp [this] at hs
    have hkp := keyP hB hkk hk3 h12
    have hik := hkey σ I _ _ hkp hkk
    refine .value (v := .tuple #[]) ?_ ⟨σ, .grow hS (Grow.refl hf1), vr_undef⟩
    obtain ⟨cs, hb⟩ := run_builtin (P := X.P) ho A w
    rw [hb]
    refine value_of ?_
    have h10 := MapKept.run_checkKey (w := w) hd hik true 9999
    obtain ⟨a0, a1⟩ := hargs A.eval
    simp only [Builtin.delete_, ht, a0, a1, Sem.run_bind, run_underlying hu, Result.andThen_ok, hmv]
    rw [h10]
    simp only [Result.andThen_ok, pure, Sem.run]

/-! ### Lengths -/
/-- a text's or slice's length -/
theorem lenS_tells (hX : EnvOk X) {t : TypeId} {a : Nat} (hf : Free H nx) : Tells1 (lenS (kindT X t) a H) fun n => ∀ (I : Imm) (σ : Sig) v, Holds I H nx → VR σ I a v →
    (kindT X t = 12 ∧ ∃ s, v = .string s ∧ n = s.size) ∨ (kindT X t = 15 ∧ ∃ p cap, v = .slice p n cap) := by
  show Tells1 (fun k => br (br (br (.bad 90) (k 0) (and' (Nat.beq (kindT X t) 15) (or' (Nat.beq a 1188422437713965063903159255040) (Nat.beq a 1743019575313815427057966907392)))) (frc k (sln a)) (and' (Nat.beq (kindT X t) 15) (isSl a))) (str a H fun n _ => k n) (and' (Nat.beq (kindT X t) 12) (isS a))) _
  refine Tells1.ite (fun h => Tells1.bind2 (str_tells hf) fun n N ⟨_, hS⟩ => Tells1.pure fun I σ v hI hv => .inl ?_) fun _ => Tells1.ite (fun h => Tells1.frcK fun I σ v hI hv => .inr ?_) fun _ => Tells1.ifb fun h => Tells1.pure fun I σ v hI hv => .inr ?_
  · rw [and'_eq, Bool.and_eq_true, beq_iff] at h
    obtain ⟨s, e1, e2⟩ := hS I σ v hI hv
    exact ⟨h.1, s, e1, by rw [e2.len]; simp⟩
  · rw [and'_eq, Bool.and_eq_true, beq_iff] at h
    obtain ⟨e, cap, hs⟩ := isSl_inv hv h.2
    exact ⟨h.1, _, _, hs.val⟩
  · simp only [and'_eq, or'_eq, Bool.and_eq_true, Bool.or_eq_true, beq_iff] at h
    refine ⟨h.1, ?_⟩
    rcases h.2 with e | e
    · subst e
      have hp : CRp σ I 1188422437713965063903159255040 v := hv.toP (by decide)
      rcases hp.sl_inv rfl with ⟨_, e⟩ | ⟨b, o', n, cp, cap, e, q1, q2, q3, q4, q5, q6, _⟩
      · exact ⟨_, _, e⟩
      · rw [mkSl_def] at q6; omega
    · subst e
      have hp : CRp σ I 1743019575313815427057966907392 v := hv.toP (by decide)
      obtain ⟨ad, cap, _, e⟩ : ∃ a cap, (1743019575313815427057966907392 : Nat) = 1743019575313815427057966907392 ∧ v = .slice (some a) 0 cap := by
        unfold CRp at hp; rw [show Ev.hi 1743019575313815427057966907392 = 22 from rfl] at hp; exact hp
      exact ⟨_, _, e⟩
theorem run_lenS (hX : EnvOk X) {xs : Array Operand} {ts : Array TypeId} {t : TypeId} {n : Nat} (ho : o.op = .call { callee := .builtin .len, args := xs, argTypes := ts }) (ht : ts[0]? = some t) {A : Act} (ha : (xs.map A.eval)[0]? = some (A.eval (nth xs 0)))
    (h : (kindT X t = 12 ∧ ∃ s, A.eval (nth xs 0) = .string s ∧ n = s.size) ∨ (kindT X t = 15 ∧ ∃ p cap, A.eval (nth xs 0) = .slice p n cap)) (w : World) : (execOp A.eval o).run X.P w = .ok (.value (goInt n)) w := by
  obtain ⟨cs, hb⟩ := run_builtin (P := X.P) ho A w
  rw [hb]
  refine value_of ?_
  rcases h with ⟨hk, s, e, rfl⟩ | ⟨hk, p, cap, e⟩
  · have hu : X.P.underlying t = some .string := kind_eq hX hk
    simp only [Builtin.len_, ht, ha, e, Sem.run_bind, run_underlying hu, Result.andThen_ok, pure, Sem.run]
  · have hu := elem_slice hX hk
    simp only [Builtin.len_, ht, ha, e, Sem.run_bind, run_underlying hu, Result.andThen_ok, pure, Sem.run]
/-- the length of a text of which a bound alone is known -/
theorem lenTx_at {σ : Sig} {I : Imm} {a : Nat} {v : Value} (h : isTx a = true) (hv : VR σ I a v) : ∃ s : ByteArray, v = .string s ∧ VR σ I (lenTx a) (goInt s.size) := by
  obtain ⟨s, e, hs⟩ := isTx_str h hv
  refine ⟨s, e, CRp.toV ?_⟩
  have hq : Nat.land (Nat.shiftRight a 64) 3 = a / 18446744073709551616 % 4 := by
    show (a >>> 64) &&& 3 = _
    rw [Nat.shiftRight_eq_div_pow]
    exact Nat.and_two_pow_sub_one_eq_mod _ 2
  unfold lenTx
  rw [hq]
  rcases hs with ⟨h1, h2, h3⟩ | ⟨h1, h2, h3⟩
  · rw [beq_iff.2 h1]
    show CRp σ I 2059932225370872777432142708744 _
    unfold CRp
    rw [show Ev.hi 2059932225370872777432142708744 = 26 from by decide]
    refine ⟨_, rfl, ?_, ?_, ?_⟩
    · simp [IntKind.min, IntKind.signed, IntKind.bits]
    · simp [IntKind.max, IntKind.signed, IntKind.bits]; omega
    · rw [if_neg (by decide)]
      show (s.size : Int) ≤ (((2059932225370872777432142708744 % 18446744073709551616 : Nat)) : Int)
      have : (2059932225370872777432142708744 % 18446744073709551616 : Nat) = 8 := by decide
      omega
  · rw [beq_false.2 h1]
    show CRp σ I 2059932225389319521505852260361 _
    unfold CRp
    rw [show Ev.hi 2059932225389319521505852260361 = 26 from by decide]
    refine ⟨_, rfl, ?_, ?_, ?_⟩
    · simp [IntKind.min, IntKind.signed, IntKind.bits]
    · simp [IntKind.max, IntKind.signed, IntKind.bits]; omega
    · rw [if_pos (by decide)]
      show (((2059932225389319521505852260361 % 18446744073709551616 : Nat)) : Int) ≤ (s.size : Int)
      have : (2059932225389319521505852260361 % 18446744073709551616 : Nat) = 9 := by decide
      omega
theorem lenS_pur (hX : EnvOk X) {xs : Array Operand} {ts : Array TypeId} (ho : o.op = .call { callee := .builtin .len, args := xs, argTypes := ts }) (hf : Free H nx) :
    Tells (fun k => withT ts 0 fun t => arg (nth xs 0) f H nx fun a H nx => bLenS t a X H nx k) (Pur X o f H nx) := by
  refine Tells.withT fun t ht => ?_
  rcases nth_cases xs 0 with e | e
  · rw [e]; exact Tells.bad
  · refine pur1 hf fun a H1 n1 hf1 => ?_
    show Tells (fun k => br (lenS (kindT X t) a H1 fun n => br (.bad 90) (frc (fun c => k c H1 n1) (intC n)) (Nat.ble n 16777214)) (frc (fun c => k c H1 n1) (lenTx a)) (and' (Nat.beq (kindT X t) 12) (isTx a))) _
    refine Tells.ite (fun h => Tells.frcK ⟨Grow.refl hf1, fun I σ A hI hA hF => ?_⟩) fun _ => ?_
    · rw [and'_eq, Bool.and_eq_true, beq_iff] at h
      obtain ⟨s, e1, e2⟩ := lenTx_at h.2 hA
      exact ⟨goInt s.size, fun w => run_lenS hX ho ht (nth_arg e A.eval) (.inl ⟨h.1, s, e1, rfl⟩) w, e2⟩
    refine Tells.bind1 (lenS_tells hX hf1) fun n hn => Tells.ifb fun hle => Tells.frcK ⟨Grow.refl hf1, fun I σ A hI hA hF => ⟨goInt n, fun w => run_lenS hX ho ht (nth_arg e A.eval) (hn I σ _ hI hA) w, (cra_int (ble_iff.1 hle)).toVR⟩⟩
theorem chanK_tells {b : Nat} {H : HT} : ∀ k, isBad (chanK H b k) ∨ ∃ c n N, chanK H b k = k c n N ∧ get H b = .chan c n N ∧ c < 4294967296 := by
  intro k
  show isBad (chanObj (fun c n N => br (.bad 17) (k c n N) (Nat.blt c 4294967296)) (get H b)) ∨ ∃ c n N, chanObj _ (get H b) = _ ∧ _
  cases hg : get H b with
  | chan c n N =>
    by_cases h : c < 4294967296
    · refine .inr ⟨c, n, N, ?_, rfl, h⟩
      show br (.bad 17) (k c n N) (Nat.blt c 4294967296) = _
      rw [blt_iff.2 h]; rfl
    · refine .inl ⟨17, ?_⟩
      show br (.bad 17) (k c n N) (Nat.blt c 4294967296) = _
      rw [blt_false.2 (by omega)]; rfl
  | _ => exact .inl ⟨17, rfl⟩
theorem Tells.chanK {R : Nat → HT → Nat → Prop} {F : Nat → Nat → Nat → K0 → Out} {H : HT} {b : Nat} (h : ∀ c n N, get H b = .chan c n N → c < 4294967296 → Tells (F c n N) R) :
    Tells (fun k => Ev.chanK H b fun c n N => F c n N k) R := by
  intro k
  rcases chanK_tells (b := b) (H := H) (fun c n N => F c n N k) with hb | ⟨c, n, N, e, hg, hc⟩
  · exact .inl hb
  · show isBad (Ev.chanK H b fun c n N => F c n N k) ∨ ∃ c' H' nx', (Ev.chanK H b fun c n N => F c n N k) = k c' H' nx' ∧ R c' H' nx'
    rw [e]; exact h c n N hg hc k
theorem ObjR.chan {σ : Sig} {I : Imm} {c n N : Nat} {e : SE} {w : World} (h : ObjR σ I (.chan c n N) e w) (hc : c < 4294967296) : ChanOR σ I c n N e w := by
  rcases h with ⟨_, h⟩ | ⟨h, _⟩
  · exact h
  · omega
theorem chan_at {σ : Sig} {I : Imm} {c : Nat} {v : Value} (hv : VR σ I c v) (h : hi c = 17) (hs : some' c = true) : ∃ e, σ (blk c) = some e ∧ v = .chan (some e.B) := by
  have hp := hv.toP (by omega)
  rcases hp.chan_inv h with ⟨rfl, _⟩ | ⟨b, e, h1, h2, h3, h4⟩
  · exact absurd hs (by decide)
  · refine ⟨e, ?_, h4⟩
    have : blk c = b := by rw [blk_def, h3]; omega
    rw [this]; exact h1
theorem mlr_len {σ : Sig} {I : Imm} : ∀ {l : ML} {es : List MapEntry}, MLR σ I l es → (keysM l).length = es.length
  | .nil, [], _ => rfl
  | .cons k v b l, e :: es, h => by simp only [keysM, List.length_cons, mlr_len h.2]
  | .nil, _ :: _, h => h.elim
  | .cons _ _ _ _, [], h => h.elim
theorem len_snd (hX : EnvOk X) {xs : Array Operand} {ts : Array TypeId} (ho : o.op = .call { callee := .builtin .len, args := xs, argTypes := ts }) (hf : Free H nx) :
    Tells (eBuiltin .len xs ts X call f H nx) (Snd X o f H nx) := by
  show Tells (fun k => withT ts 0 fun t => arg (nth xs 0) f H nx fun a H nx => bLen t a X H nx k) _
  refine Tells.withT fun t ht => snd1n hf fun hargs a H1 n1 hf1 => ?_
  have go : ∀ {A : Act} {n : Nat} {w : World}, (Builtin.len_ ts o.type (xs.map A.eval)).run X.P w = .ok (goInt n) w → (execOp A.eval o).run X.P w = .ok (.value (goInt n)) w := fun {A n w} h => by
    obtain ⟨cs, hb⟩ := run_builtin (P := X.P) ho A w
    rw [hb]; exact value_of h
  unfold bLen
  cases hn : arrT X t with
  | some n =>
    refine Tells.ifb fun hle => Tells.pure ⟨(Grow.refl hf1).toALe, fun I σ w A hI hS hF hA => ?_⟩
    have hu := arr_def hX hn
    refine .value (go (n := n) ?_) ⟨σ, .grow hS (Grow.refl hf1), (cra_int (ble_iff.1 hle)).toVR⟩
    have ha := hargs A.eval
    simp only [Builtin.len_, ht, ha, Sem.run_bind, run_underlying hu, Result.andThen_ok, pure, Sem.run]
  | none =>
    show Tells (fun k => br (br (br (lenS (kindT X t) a H1 fun n => br (.bad 90) (frc (fun c => k c H1 n1) (intC n)) (Nat.ble n 16777214))
        (br (br (.bad 90) (frc (fun c => k c H1 n1) (intC 0)) (Nat.ble 0 16777214)) (chanK H1 (blk a) fun _ n _ => br (.bad 90) (frc (fun c => k c H1 n1) (intC n)) (Nat.ble n 16777214)) (some' a)) (and' (Nat.beq (kindT X t) 17) (Nat.beq (hi a) 17)))
        (br (br (.bad 90) (frc (fun c => k c H1 n1) (intC 0)) (Nat.ble 0 16777214)) (mapK H1 (blk a) fun n _ _ => br (.bad 90) (frc (fun c => k c H1 n1) (intC n)) (Nat.ble n 16777214)) (some' a)) (and' (Nat.beq (kindT X t) 16) (Nat.beq (hi a) 16))) (frc (fun c => k c H1 n1) (lenTx a)) (and' (Nat.beq (kindT X t) 12) (isTx a))) _
    refine Tells.ite (fun h => Tells.frcK ⟨(Grow.refl hf1).toALe, fun I σ w A hI hS hF hA => ?_⟩) fun _ => ?_
    · rw [and'_eq, Bool.and_eq_true, beq_iff] at h
      obtain ⟨s, e1, e2⟩ := lenTx_at h.2 hA
      exact .value (run_lenS hX ho ht (hargs A.eval) (.inl ⟨h.1, s, e1, rfl⟩) w) ⟨σ, .grow hS (Grow.refl hf1), e2⟩
    refine Tells.ite (fun hc => Tells.ite (fun hs => Tells.mapK fun c q l hg => Tells.ifb fun hle => Tells.frcK ⟨(Grow.refl hf1).toALe, fun I σ w A hI hS hF hA => ?_⟩) fun hs => Tells.ifb fun hle => Tells.frcK ⟨(Grow.refl hf1).toALe, fun I σ w A hI hS hF hA => ?_⟩) fun _ =>
      Tells.ite (fun hc => Tells.ite (fun hs => Tells.chanK fun c n N hg hcl => Tells.ifb fun hle => Tells.frcK ⟨(Grow.refl hf1).toALe, fun I σ w A hI hS hF hA => ?_⟩) fun hs => Tells.ifb fun hle => Tells.frcK ⟨(Grow.refl hf1).toALe, fun I σ w A hI hS hF hA => ?_⟩) fun _ =>
      Tells.bind1 (lenS_tells hX hf1) fun n hn => Tells.ifb fun hle => Tells.frcK ⟨(Grow.refl hf1).toALe, fun I σ w A hI hS hF hA => ?_⟩
    · rw [and'_eq, Bool.and_eq_true, beq_iff, beq_iff] at hc
      obtain ⟨kk, el, hu⟩ : ∃ k e, X.P.underlying t = some (.map k e) := kind_eq hX hc.1
      obtain ⟨e, he, hmv⟩ := map_at hA hc.2 hs
      have hob := hS.obj _ e he
      rw [hg] at hob
      have hob' : MapOR σ I c q l e w := hob
      obtain ⟨p1, p2, p3, p4, p5, es, hes, p7⟩ := hob'.parts
      have hsz : es.size = c := by have := mlr_len p7; simp at this; omega
      have ha := hargs A.eval
      refine .value (go (n := c) ?_) ⟨σ, .grow hS (Grow.refl hf1), (cra_int (ble_iff.1 hle)).toVR⟩
      simp only [Builtin.len_, ht, ha, hmv, Sem.run_bind, run_underlying hu, Result.andThen_ok, MapKept.run_getObj_map hes, hsz, pure, Sem.run]
    · rw [and'_eq, Bool.and_eq_true, beq_iff, beq_iff] at hc
      obtain ⟨kk, el, hu⟩ : ∃ k e, X.P.underlying t = some (.map k e) := kind_eq hX hc.1
      have hmv : A.eval (nth xs 0) = .map none := by
        rcases (hA.toP (by omega)).map_inv hc.2 with ⟨_, e⟩ | ⟨b, e, _, hb, h3, _⟩
        · exact e
        · rw [some'_def] at hs
          have : a % 16777216 ≠ 0 := by omega
          simp [this] at hs
      have ha := hargs A.eval
      refine .value (go (n := 0) ?_) ⟨σ, .grow hS (Grow.refl hf1), (cra_int (by omega)).toVR⟩
      simp only [Builtin.len_, ht, ha, hmv, Sem.run_bind, run_underlying hu, Result.andThen_ok, pure, Sem.run]; rfl
    · rw [and'_eq, Bool.and_eq_true, beq_iff, beq_iff] at hc
      obtain ⟨kk, el, hu⟩ : ∃ d e, X.P.underlying t = some (.chan d e) := kind_eq hX hc.1
      obtain ⟨e, he, hmv⟩ := chan_at hA hc.2 hs
      have hob := hS.obj _ e he
      rw [hg] at hob
      obtain ⟨buf, s, r, q1, q2, q3⟩ := hob.chan hcl
      have ha := hargs A.eval
      refine .value (go (n := n) ?_) ⟨σ, .grow hS (Grow.refl hf1), (cra_int (ble_iff.1 hle)).toVR⟩
      have hgo : (getObj e.B).run X.P w = .ok (.chan c buf false s r false) w := by simp [getObj, Sem.run, q1]
      simp only [Builtin.len_, ht, ha, hmv, Sem.run_bind, run_underlying hu, Result.andThen_ok, hgo, q2, pure, Sem.run, Bool.false_eq_true, if_false]
    · rw [and'_eq, Bool.and_eq_true, beq_iff, beq_iff] at hc
      obtain ⟨kk, el, hu⟩ : ∃ d e, X.P.underlying t = some (.chan d e) := kind_eq hX hc.1
      have hmv : A.eval (nth xs 0) = .chan none := by
        rcases (hA.toP (by omega)).chan_inv hc.2 with ⟨_, e⟩ | ⟨b, e, _, hb, h3, _⟩
        · exact e
        · rw [some'_def] at hs
          have : a % 16777216 ≠ 0 := by omega
          simp [this] at hs
      have ha := hargs A.eval
      refine .value (go (n := 0) ?_) ⟨σ, .grow hS (Grow.refl hf1), (cra_int (by omega)).toVR⟩
      simp only [Builtin.len_, ht, ha, hmv, Sem.run_bind, run_underlying hu, Result.andThen_ok, pure, Sem.run]; rfl
    · exact .value (run_lenS hX ho ht (hargs A.eval) (hn I σ _ hI hA) w) ⟨σ, .grow hS (Grow.refl hf1), (cra_int (ble_iff.1 hle)).toVR⟩
theorem cap_snd (hX : EnvOk X) {xs : Array Operand} {ts : Array TypeId} (ho : o.op = .call { callee := .builtin .cap, args := xs, argTypes := ts }) (hf : Free H nx) :
    Tells (eBuiltin .cap xs ts X call f H nx) (Snd X o f H nx) := by
  show Tells (fun k => withT ts 0 fun t => arg (nth xs 0) f H nx fun a H nx => br (.bad 96) (br (br (.bad 96) (k (intC 0) H nx) (Nat.beq a 1188422437713965063903159255040)) (frc (fun c => k c H nx) (intC (scp a))) (and' (isSl a) (not' (isOpn a)))) (Nat.beq (kindT X t) 15)) _
  refine Tells.withT fun t ht => snd1n hf fun hargs a H1 n1 hf1 => Tells.ifb fun hk => ?_
  have hu := elem_slice hX (beq_iff.1 hk)
  have go : ∀ {A : Act} {n : Nat} {w : World}, (Builtin.cap_ ts o.type (xs.map A.eval)).run X.P w = .ok (goInt n) w → (execOp A.eval o).run X.P w = .ok (.value (goInt n)) w := fun {A n w} h => by
    obtain ⟨cs, hb⟩ := run_builtin (P := X.P) ho A w
    rw [hb]; exact value_of h
  refine Tells.ite (fun hc => Tells.frcK ⟨(Grow.refl hf1).toALe, fun I σ w A hI hS hF hA => ?_⟩) fun _ => Tells.ifb fun hn => Tells.pure ⟨(Grow.refl hf1).toALe, fun I σ w A hI hS hF hA => ?_⟩
  · rw [and'_eq, not'_eq, Bool.and_eq_true, Bool.not_eq_true'] at hc
    obtain ⟨e, cap, hs⟩ := isSl_inv hA hc.1
    have hop : scp a < 8388608 := by have := ble_false.1 hc.2; omega
    have hcap := hs.known hop
    have ha := hargs A.eval
    refine .value (go (n := scp a) ?_) ⟨σ, .grow hS (Grow.refl hf1), (cra_int (by omega)).toVR⟩
    simp only [Builtin.cap_, ht, ha, hs.val, hcap, Sem.run_bind, run_underlying hu, Result.andThen_ok, pure, Sem.run]
  · have hn' := beq_iff.1 hn
    subst hn'
    have hp : CRp σ I 1188422437713965063903159255040 (A.eval (nth xs 0)) := hA.toP (by decide)
    have ha := hargs A.eval
    rcases hp.sl_inv rfl with ⟨_, e⟩ | ⟨b, o', n, cp, cap, e, q1, q2, q3, q4, q5, q6, _⟩
    · refine .value (go (n := 0) ?_) ⟨σ, .grow hS (Grow.refl hf1), (cra_int (by omega)).toVR⟩
      simp only [Builtin.cap_, ht, ha, e, Sem.run_bind, run_underlying hu, Result.andThen_ok, pure, Sem.run]
    · rw [mkSl_def] at q6; omega
end Go.Ev
set_option linter.unusedVariables false
set_option linter.unusedSimpArgs false
namespace Go.Ev
variable {X : Env} {o : Oper} {f : FR} {H : HT} {nx : Nat} {call : CallT}

/-! ### The least, the greatest -/
noncomputable def minmaxA (mx : Bool) (f : FR) (k : K0) (xs : List Operand) : Nat → HT → Nat → Out :=
  @List.rec Operand (fun _ => Nat → HT → Nat → Out) k
    (fun x _ ih a H nx => arg x f H nx fun b H nx => br (ints a b fun h => br (ih a H nx) (ih b H nx) (@Bool.rec (fun _ => Bool) (ilt h b a) (ilt h a b) mx)) (mmS mx a b fun c => ih c H nx) (bnd a b)) xs
def m2 : Bool → Value → Value → Sem Value | true => Builtin.max2 | false => Builtin.min2
theorem sel_vr {σ : Sig} {I : Imm} {a b : Nat} {va vb : Value} {r : Bool} (ha : VR σ I a va) (hb : VR σ I b vb) : VR σ I (sel a b r) (if r then vb else va) := by
  cases r
  · exact ha
  · exact hb
theorem mmS_tells {mx : Bool} {a b : Nat} {P : Program} : Tells1 (mmS mx a b) fun c => ∀ (I : Imm) (σ : Sig) va vb, VR σ I a va → VR σ I b vb → ∃ v, (∀ w, (m2 mx va vb).run P w = .ok v w) ∧ VR σ I c v := by
  cases mx
  · refine Tells1.ite (fun h => Tells1.pure fun I σ va vb ha hb => ?_) fun _ => Tells1.bind1 ltS_tells fun r h => Tells1.pure fun I σ va vb ha hb => ?_
    · simp only [and'_eq, Bool.and_eq_true, ble_iff] at h
      obtain ⟨n, rfl, q1, q2, q3⟩ := isUp_int h.1 ha
      obtain ⟨m, rfl, e⟩ := isNn_int h.2.1 hb
      have h0 := h.1
      unfold isUp at h0
      rw [and'_eq, Bool.and_eq_true, beq_iff, beq_iff, bit64] at h0
      refine ⟨.int .i64 (if m < n then m else n), fun w => ?_, CRp.toV ?_⟩
      · by_cases hlt : m < n <;> simp [m2, Builtin.min2, hlt]
      · unfold CRp; rw [h0.1]
        have h3 := h.2.2
        simp only [lo_def] at q3 h3 e
        have hm : m ≤ IntKind.i64.max := by
          have h4 := h.2.1
          unfold isNn at h4
          rw [and'_eq, Bool.and_eq_true, beq_iff, blt_iff, lo_def] at h4
          simp [IntKind.max, IntKind.bits, IntKind.signed]; omega
        have hmin : IntKind.i64.min ≤ m := by rw [e]; simp [IntKind.min, IntKind.bits, IntKind.signed]; omega
        refine ⟨_, rfl, ?_, ?_, ?_⟩
        · split
          · exact hmin
          · exact q1
        · split
          · exact hm
          · exact q2
        · rw [if_pos h0.2]
          clear q1 q2 hm hmin
          split <;> omega
    · obtain ⟨n, m, e1, e2, e3⟩ := h I σ vb va hb ha
      refine ⟨_, fun w => ?_, sel_vr ha hb⟩
      rw [e1, e2, e3]
      by_cases hlt : n < m <;> simp [m2, Builtin.min2, hlt]
  · show Tells1 (fun k => ltS a b fun r => k (sel a b r)) _
    refine Tells1.bind1 ltS_tells fun r h => Tells1.pure fun I σ va vb ha hb => ?_
    obtain ⟨n, m, e1, e2, e3⟩ := h I σ va vb ha hb
    refine ⟨_, fun w => ?_, sel_vr ha hb⟩
    rw [e1, e2, e3]
    by_cases hlt : n < m <;> simp [m2, Builtin.max2, hlt]
theorem minmax_tells {mx : Bool} : ∀ (xs : List Operand) (a : Nat) (H : HT) (nx : Nat), Free H nx → Tells (fun k => minmaxA mx f k xs a H nx) fun c H' nx' => Grow H nx H' nx' ∧ ∀ (I : Imm) (σ : Sig) (A : Act) va, Holds I H' nx' → FrameR σ I f A.tmps → VR σ I a va →
    ∃ v, (∀ w, ((xs.map A.eval).foldlM (m2 mx) va).run X.P w = .ok v w) ∧ VR σ I c v
  | [], a, H, nx, hf => Tells.pure ⟨Grow.refl hf, fun I σ A va hI hF hA => ⟨va, fun w => rfl, hA⟩⟩
  | x :: xs, a, H, nx, hf => by
    show Tells (fun k => arg x f H nx fun b H nx => br (ints a b fun h => br (minmaxA mx f k xs a H nx) (minmaxA mx f k xs b H nx) (@Bool.rec (fun _ => Bool) (ilt h b a) (ilt h a b) mx)) (mmS mx a b fun c => minmaxA mx f k xs c H nx) (bnd a b)) _
    refine Tells.bind (arg_tells hf) fun b H1 n1 ⟨g1, hB⟩ => Tells.ite (fun _ => Tells.bind1 (mmS_tells (P := X.P)) fun c hc => (minmax_tells xs c H1 n1 g1.free).mono fun c' H' nx' ⟨g2, h2⟩ => ⟨g1.trans g2, fun I σ A va hI hF hA => ?_⟩) fun _ => Tells.bind1 ints_tells fun h ⟨e1, e2, e3, e4⟩ => ?_
    · have hb := hB I σ A (hI.back g2.toALe) hF
      obtain ⟨v1, hr1, hv1⟩ := hc I σ _ _ hA hb
      obtain ⟨v, hr, hv⟩ := h2 I σ A _ hI hF hv1
      refine ⟨v, fun w => ?_, hv⟩
      simp only [List.map_cons, List.foldlM_cons, Sem.run_bind, hr1 w, Result.andThen_ok]
      exact hr w
    have step : ∀ {σ : Sig} {I : Imm} {va vb : Value} {t : Bool}, VR σ I a va → VR σ I b vb → (@Bool.rec (fun _ => Bool) (ilt h b a) (ilt h a b) mx) = t → ∀ w, (m2 mx va vb).run X.P w = .ok (if t then vb else va) w := by
      intro σ I va vb t ha hb ht w
      obtain ⟨k, n, m, hk, hT⟩ := two_ints ha hb (by omega) (by omega) (by omega)
      obtain ⟨rfl, rfl, q1, q2, q3, q4, q5, q6⟩ := hT
      have hT' : TwoInts a b (.int k n) (.int k m) k n m := ⟨rfl, rfl, q1, q2, q3, q4, q5, q6⟩
      have hh : h = intTag k := by rw [e1, hk]
      rw [hh] at ht
      cases mx
      · have h1 : ilt (intTag k) b a = t := ht
        rw [ilt_eq hT'.swap] at h1
        subst h1
        by_cases hlt : m < n <;> simp [m2, Builtin.min2, hlt]
      · have h1 : ilt (intTag k) a b = t := ht
        rw [ilt_eq hT'] at h1
        subst h1
        by_cases hlt : n < m <;> simp [m2, Builtin.max2, hlt]
    refine Tells.ite (fun ht => (minmax_tells xs b H1 n1 g1.free).mono fun c H' nx' ⟨g2, h2⟩ => ⟨g1.trans g2, fun I σ A va hI hF hA => ?_⟩) fun ht => (minmax_tells xs a H1 n1 g1.free).mono fun c H' nx' ⟨g2, h2⟩ => ⟨g1.trans g2, fun I σ A va hI hF hA => ?_⟩
    · have hb := hB I σ A (hI.back g2.toALe) hF
      obtain ⟨v, hr, hv⟩ := h2 I σ A _ hI hF hb
      refine ⟨v, fun w => ?_, hv⟩
      simp only [List.map_cons, List.foldlM_cons, Sem.run_bind, step hA hb ht w, Result.andThen_ok]
      exact hr w
    · have hb := hB I σ A (hI.back g2.toALe) hF
      obtain ⟨v, hr, hv⟩ := h2 I σ A _ hI hF hA
      refine ⟨v, fun w => ?_, hv⟩
      simp only [List.map_cons, List.foldlM_cons, Sem.run_bind, step hA hb ht w, Result.andThen_ok]
      exact hr w
theorem args_cons {xs : Array Operand} (h : xs.toList[0]? = some (nth xs 0)) (ρ : Operand → Value) : (xs.map ρ).toList = ρ (nth xs 0) :: (xs.toList.drop 1).map ρ := by
  obtain ⟨l⟩ := xs
  cases l with
  | nil => simp at h
  | cons x l => simp at h; simp [← h]
theorem minmax_pur {mx : Bool} {xs : Array Operand} {ts : Array TypeId} (ho : o.op = .call { callee := .builtin (if mx then .max else .min), args := xs, argTypes := ts }) (hf : Free H nx) :
    Tells (fun k => arg (nth xs 0) f H nx fun a H nx => minmax mx f k (xs.toList.drop 1) a H nx) (Pur X o f H nx) := by
  rcases nth_cases xs 0 with e | e
  · rw [e]; exact Tells.bad
  · refine Tells.bind (arg_tells hf) fun a H1 n1 ⟨g1, hA⟩ => (minmax_tells (X := X) (mx := mx) (f := f) (xs.toList.drop 1) a H1 n1 g1.free).mono fun c H' nx' ⟨g2, h2⟩ => ⟨g1.trans g2, fun I σ A hI hF => ?_⟩
    obtain ⟨v, hr, hv⟩ := h2 I σ A _ hI hF (hA I σ A (hI.back g2.toALe) hF)
    refine ⟨v, fun w => ?_, hv⟩
    obtain ⟨cs, hb⟩ := run_builtin (P := X.P) ho A w
    rw [hb]
    cases mx
    · refine value_of ?_
      unfold Builtin.min_
      rw [args_cons e A.eval]
      exact hr w
    · refine value_of ?_
      unfold Builtin.max_
      rw [args_cons e A.eval]
      exact hr w
end Go.Ev
set_option linter.unusedVariables false
set_option linter.unusedSimpArgs false
namespace Go.Ev
variable {X : Env} {o : Oper} {f : FR} {H : HT} {nx : Nat} {call : CallT}

/-! ### A slice's or text's cells -/
theorem SRel.heap {σ : Sig} {I : Imm} {w w' : World} (h : SRel σ I H nx w) (e : w'.heap = w.heap) : SRel σ I H nx w' := h.world (by rw [e]; exact Nat.le_refl _) (fun _ _ _ => by rw [e]) fun _ _ _ => by rw [e]
/-- what is told of the first cells of a value -/
def CellsIs (P : Program) (s m M : Nat) (σ : Sig) (I : Imm) (v : Value) (w : World) : Prop :=
  (∀ w', (Builtin.lenOf v).run P w' = .ok m w') ∧ ∀ n, n ≤ m → ∃ cs : Array Value, (Builtin.firstCells s n v).run P w = .ok cs w ∧ cs.size = n * s ∧ ∀ i (h : i < cs.size), CRs σ I (dig M (i + 1)) cs[i]
theorem Tells2.row {α β : Type} {R : α → β → Prop} {F : Nat → Nat → Nat → Bool → (α → β → Out) → Out} {H : HT} {b : Nat} (h : ∀ n N et op, get H b = .row n N et op → Tells2 (F n N et op) R) :
    Tells2 (fun k => rowK H b fun n N et op => F n N et op k) R := by
  intro k
  rcases rowK_tells (b := b) (H := H) (fun n N et op => F n N et op k) with hb | ⟨n, N, et, op, e, hg⟩
  · exact .inl hb
  · show isBad (rowK H b fun n N et op => F n N et op k) ∨ ∃ c d, (rowK H b fun n N et op => F n N et op k) = k c d ∧ R c d
    rw [e]; exact h n N et op hg k
theorem cells_nil {P : Program} {s : Nat} {σ : Sig} {I : Imm} {v : Value} {w : World} {p : Option Addr} {cap : Nat} (h : v = .slice p 0 cap) : CellsIs P s 0 0 σ I v w := by
  subst h
  refine ⟨fun w' => rfl, fun n hn => ⟨#[], ?_, ?_, fun i h => absurd h (by simp)⟩⟩
  · have : n = 0 := by omega
    subst this
    cases p with
    | none => rfl
    | some p =>
      show (loadCells p (0 * s)).run P w = _
      rw [Nat.zero_mul]
      have := run_loadCells (P := P) w p 0 (fun _ => undef) (fun j hj => absurd hj (by omega))
      simpa using this
  · have : n = 0 := by omega
    subst this; simp
theorem sl_nil {σ : Sig} {I : Imm} {a : Nat} {v : Value} (h : a = 1188422437713965063903159255040 ∨ a = 1743019575313815427057966907392) (hv : VR σ I a v) : ∃ p cap, v = .slice p 0 cap ∧ (a = 1188422437713965063903159255040 → p = none ∧ cap = 0) := by
  rcases h with rfl | rfl
  · have hp : CRp σ I 1188422437713965063903159255040 v := hv.toP (by decide)
    rcases hp.sl_inv rfl with ⟨_, e⟩ | ⟨b, o', n, cp, cap, e, q1, q2, q3, q4, q5, q6, _⟩
    · exact ⟨none, 0, e, fun _ => ⟨rfl, rfl⟩⟩
    · rw [mkSl_def] at q6; omega
  · have hp : CRp σ I 1743019575313815427057966907392 v := hv.toP (by decide)
    obtain ⟨ad, cap, _, e⟩ : ∃ a cap, (1743019575313815427057966907392 : Nat) = 1743019575313815427057966907392 ∧ v = .slice (some a) 0 cap := by
      unfold CRp at hp; rw [show Ev.hi 1743019575313815427057966907392 = 22 from rfl] at hp; exact hp
    exact ⟨some ad, cap, e, fun h => absurd h (by decide)⟩
theorem cellsK_tells {s a : Nat} (hf : Free H nx) : Tells2 (cellsK s a H) fun m M => M < 2 ^ (128 * (m * s + 1)) ∧ (isSl a = true → m = sln a) ∧ ∀ (I : Imm) (σ : Sig) v w, Holds I H nx → VR σ I a v → SRel σ I H nx w → CellsIs X.P s m M σ I v w := by
  show Tells2 (fun k => br (br (br (.bad 91) (k 0 0) (or' (Nat.beq a 1188422437713965063903159255040) (Nat.beq a 1743019575313815427057966907392)))
     (rowK H (blk a) fun n N _ _ => br (.bad 92) (frc (fun m => frc (fun M => k m M) (digs N (off a) (Nat.succ (Nat.mul m s)))) (sln a)) (Nat.ble (Nat.add (off a) (Nat.mul (sln a) s)) n)) (isSl a))
    (br (.bad 91) (str a H fun n S => textCells n S fun N => k n N) (Nat.beq s 1)) (isS a)) _
  refine Tells2.ite (fun hs => Tells2.ifb fun h1 => Tells2.bind2 (str_tells hf) fun n S ⟨_, hS⟩ => ?_) fun _ => Tells2.ite (fun hs => ?_) fun hns => Tells2.ifb fun hn => Tells2.pure ⟨Nat.two_pow_pos _, (fun h => by rw [h] at hns; cases hns), fun I σ v w hI hv hSR => ?_⟩
  · have h1' := beq_iff.1 h1
    subst h1'
    refine Tells2.bind1 (textCells_tells (S := S) n 0 0 (by decide)) fun N hN => ?_
    refine Tells2.pure ⟨by have := hN.1; rw [Nat.zero_add] at this; rw [Nat.mul_one]; exact this, fun h => ?_, fun I σ v w hI hv hSR => ?_⟩
    · unfold isS at hs; unfold isSl at h
      rw [or'_eq, Bool.or_eq_true, beq_iff, beq_iff] at hs
      rw [and'_eq, Bool.and_eq_true, beq_iff] at h
      omega
    obtain ⟨b, e1, e2⟩ := hS I σ v hI hv
    subst e1
    have hns : n = b.size := by rw [e2.len]; simp
    refine ⟨fun w' => by rw [hns]; rfl, fun n' hn' => ⟨(b.extract 0 n').data.map fun b => .int .u8 b.toNat, rfl, ?_, fun i hi => ?_⟩⟩
    · simp [ByteArray.data_extract]; have : b.data.size = b.size := rfl; omega
    · have hi' : i < b.data.toList.length := by
        have : b.data.size = b.size := rfl
        simp [ByteArray.data_extract] at hi; simp; omega
      have := text_cells (σ := σ) (I := I) e2 (fun i hi => hN.2.2 i (by omega) (by omega)) i hi'
      simpa [ByteArray.data_extract] using this
  · refine Tells2.row fun n N et op hg => Tells2.ifb fun hle => Tells2.frc (F := fun m k => frc (fun M => k m M) (digs N (off a) (Nat.succ (Nat.mul m s)))) (fun k => .inr ⟨_, _, rfl, digs_lt _ _ _, fun _ => rfl, fun I σ v w hI hv hSR => ?_⟩)
    obtain ⟨e, cap, hsl⟩ := isSl_inv hv hs
    have hle' : off a + sln a * s ≤ n := ble_iff.1 hle
    have hseg := hSR.seg hg hle'
    refine ⟨fun w' => by rw [hsl.val]; rfl, fun n' hn' => ?_⟩
    have hmul : n' * s ≤ sln a * s := Nat.mul_le_mul_right _ hn'
    have hseg' : SegR σ I (blk a) (off a) (n' * s) N w := fun e he j hj => hseg e he j (by omega)
    obtain ⟨vs, r1, r2, r3⟩ := run_seg (P := X.P) hseg' hsl.at_
    refine ⟨vs, by rw [hsl.val]; exact r1, r2, fun i hi => ?_⟩
    have h1 := (r3 i hi).1
    have : dig (digs N (off a) (Nat.succ (Nat.mul (sln a) s))) (i + 1) = dig N (off a + i + 1) := by
      rw [dig_digs (by show i + 1 < sln a * s + 1; omega), Nat.add_assoc]
    rw [this]; exact h1
  · rw [or'_eq, Bool.or_eq_true, beq_iff, beq_iff] at hn
    obtain ⟨p, cap, e, _⟩ := sl_nil hn hv
    exact cells_nil e

/-! ### The model's append -/
/-- what is appended -/
inductive AppArg (P : Program) (u e : TypeId) (s n : Nat) (z : Value) (x : Value) (w : World) (news : Array Value) : Prop
  | cells (d : TypeDesc) (hd : P.underlying u = some d) (hk : ∀ k, d ≠ .int k) (hl : ∀ w', (Builtin.lenOf x).run P w' = .ok n w') (hc : (Builtin.firstCells s n x).run P w = .ok news w)
  | zeros (k k' : IntKind) (hd : P.underlying u = some (.int k)) (hx : x = .int k' (n : Int)) (hn : n ≤ 16777214) (hc : news = if n * s = 0 then #[] else Builtin.zeroCells z.cells n)
theorem run_append_in {P : Program} {ts : Array TypeId} {ty t u e : TypeId} {args : Array Value} {base : Option Addr} {sLen sCap n : Nat} {x z : Value} {i : TypeInfo} {news : Array Value} {w w' : World}
    (h0 : ts[0]? = some t) (h1 : ts[1]? = some u) (a0 : args[0]? = some (.slice base sLen sCap)) (a1 : args[1]? = some x) (hu : P.underlying t = some (.slice e)) (hi : P.info? e = some i) (hz : i.zero = some z) (hby : i.bytes ≤ 8388608)
    (hA : AppArg P u e i.size n z x w news) (hroom : sLen + n ≤ sCap) (hst : (match base with | some a => (storeCells (a.add (sLen * i.size)) news.toList).run P w = .ok () w' | none => w' = w)) :
    (Builtin.append_ ts ty args).run P w = .ok (.slice base (sLen + n) sCap) w' := by
  have hzv : ∀ w, (zeroValue e).run P w = .ok z w := fun w => run_zero hi hz w
  have hso : ∀ w, (sizeOf e).run P w = .ok i.size w := fun w => by simp [sizeOf, typeInfo, hi]
  have hti : ∀ w, (typeInfo e).run P w = .ok i w := fun w => by simp [typeInfo, hi]
  cases hA with
  | cells d hd hk hl hc =>
    have hz0 : ∀ (d : TypeDesc), (∀ k, d ≠ .int k) → (match d with | .int _ => true | _ => false) = false := by intro d h; cases d <;> first | rfl | exact absurd rfl (h _)
    cases base with
    | none =>
      subst hst
      simp [Builtin.append_, h0, h1, a0, a1, run_underlying hu, run_underlying hd, hz0 d hk, hso, hl, hc, hroom]
    | some b => simp [Builtin.append_, h0, h1, a0, a1, run_underlying hu, run_underlying hd, hz0 d hk, hso, hl, hc, hroom, hst]
  | zeros k k' hd hx hn hc =>
    have hmul : n * i.bytes ≤ 16777214 * 8388608 := Nat.mul_le_mul hn hby
    have m1 : ¬ ((n : Int) < 0) := by omega
    have m3 : ¬ (281474976710656 < (n : Int) * (i.bytes : Int)) := by rw [← Int.natCast_mul]; omega
    have happ : ∀ w, (if n * i.size = 0 then (pure #[] : Sem (Array Value)) else do pure (Builtin.zeroCells (← zeroValue e).cells n)).run P w = .ok news w := fun w => by
      subst hc
      by_cases h : n * i.size = 0
      · rw [if_pos h, if_pos h]; rfl
      · rw [if_neg h, if_neg h]; simp [hzv]
    subst hx
    cases base with
    | none =>
      subst hst
      simp [Builtin.append_, h0, h1, a0, a1, run_underlying hu, run_underlying hd, hso, hti, asInt, asIntOf, wrap64 hn, m1, m3, hroom]
      have := happ w'
      split at this <;> rename_i hh <;> simp [Nat.mul_eq_zero] at hh <;> simp [hh, hzv] at this ⊢
    | some b =>
      have := happ w
      by_cases hh : n * i.size = 0
      · rw [if_pos hh] at hc; subst hc
        simp only [Array.toList_empty] at hst
        simp [Builtin.append_, h0, h1, a0, a1, run_underlying hu, run_underlying hd, hso, hti, asInt, asIntOf, wrap64 hn, m1, m3, hroom, hh, hst]
      · rw [if_neg hh] at hc; subst hc
        simp [Builtin.append_, h0, h1, a0, a1, run_underlying hu, run_underlying hd, hso, hti, asInt, asIntOf, wrap64 hn, m1, m3, hroom, hh, hzv, hst]
theorem run_append_new {P : Program} {ts : Array TypeId} {ty t u e : TypeId} {args : Array Value} {base : Option Addr} {sLen sCap n : Nat} {x z : Value} {i : TypeInfo} {olds news : Array Value} {w : World}
    (h0 : ts[0]? = some t) (h1 : ts[1]? = some u) (a0 : args[0]? = some (.slice base sLen sCap)) (a1 : args[1]? = some x) (hu : P.underlying t = some (.slice e)) (hi : P.info? e = some i) (hz : i.zero = some z) (hby : i.bytes ≤ 8388608)
    (hA : AppArg P u e i.size n z x w.drew news) (ho : (Builtin.firstCells i.size sLen (.slice base sLen sCap)).run P w.drew = .ok olds w.drew) (hgr : sCap < sLen + n) (hsm : sLen + n ≤ 16777214) :
    (Builtin.append_ ts ty args).run P w = .ok (.slice (some ⟨w.heap.size, 0, none⟩) (sLen + n) (grownCap w (sLen + n) sCap e)) (w.drew.alloc (.cells (olds ++ news ++ Builtin.zeroCells z.cells (grownCap w (sLen + n) sCap e - (sLen + n))) e)) := by
  have hzv : ∀ w, (zeroValue e).run P w = .ok z w := fun w => run_zero hi hz w
  have hso : ∀ w, (sizeOf e).run P w = .ok i.size w := fun w => by simp [sizeOf, typeInfo, hi]
  have hti : ∀ w, (typeInfo e).run P w = .ok i w := fun w => by simp [typeInfo, hi]
  have hmul : (sLen + n) * i.bytes ≤ 16777214 * 8388608 := Nat.mul_le_mul hsm hby
  have hfit := growslice_fits (old := sCap) (bytes := i.bytes) hgr (by omega)
  have hn : ¬ (sLen + n ≤ sCap) := by omega
  have h63' : ¬ (9223372036854775807 < ((sLen : Int) + (n : Int))) := by omega
  have h48' : ¬ (281474976710656 < Builtin.nextslicecap (sLen + n) sCap * i.bytes) := by omega
  cases hA with
  | cells d hd hk hl hc =>
    have hz0 : ∀ (d : TypeDesc), (∀ k, d ≠ .int k) → (match d with | .int _ => true | _ => false) = false := by intro d h; cases d <;> first | rfl | exact absurd rfl (h _)
    simp [Builtin.append_, h0, h1, a0, a1, run_underlying hu, run_underlying hd, hz0 d hk, hso, hti, hzv, hl, hc, ho, hn, h63', h48', Question.forced, Go.newRow, grownCap]
  | zeros k k' hd hx hn' hc =>
    have hmul2 : n * i.bytes ≤ 16777214 * 8388608 := Nat.mul_le_mul hn' hby
    have m1 : ¬ ((n : Int) < 0) := by omega
    have m3 : ¬ (281474976710656 < (n : Int) * (i.bytes : Int)) := by rw [← Int.natCast_mul]; omega
    subst hx
    by_cases hh : n * i.size = 0
    · rw [if_pos hh] at hc; subst hc
      simp [Builtin.append_, h0, h1, a0, a1, run_underlying hu, run_underlying hd, hso, hti, hzv, asInt, asIntOf, wrap64 hn', m1, m3, ho, hn, h63', h48', Question.forced, hh, Go.newRow, grownCap]
    · rw [if_neg hh] at hc; subst hc
      simp [Builtin.append_, h0, h1, a0, a1, run_underlying hu, run_underlying hd, hso, hti, hzv, asInt, asIntOf, wrap64 hn', m1, m3, ho, hn, h63', h48', Question.forced, hh, Go.newRow, grownCap]
end Go.Ev
set_option linter.unusedVariables false
set_option linter.unusedSimpArgs false
namespace Go.Ev
variable {X : Env} {o : Oper} {f : FR} {H : HT} {nx : Nat} {call : CallT}

/-! ### Cells laid into a row -/
theorem low_digs {M c : Nat} {j : Nat} (h : j < c) : dig ((M >>> 128) % (1 <<< (c <<< 7))) j = dig M (j + 1) := by
  rw [Nat.one_shiftLeft, Nat.shiftLeft_eq, show c * 2 ^ 7 = 128 * c by omega]
  have := dig_digs (N := M) (i := 1) (n := c) (j := j) h
  rw [digs_def] at this
  rw [show j + 1 = 1 + j by omega]; exact this
theorem low_lt (M c : Nat) : (M >>> 128) % (1 <<< (c <<< 7)) < 2 ^ (128 * c) := by
  rw [Nat.one_shiftLeft, Nat.shiftLeft_eq, show c * 2 ^ 7 = 128 * c by omega]
  exact Nat.mod_lt _ (Nat.two_pow_pos _)
theorem layRow_tells {b o' s m M : Nat} (hf : Free H nx) : Tells1 (layRow b o' s m M H) fun H' => ALe H nx H' nx ∧ ∀ (σ : Sig) (I : Imm) (w : World) (e : SE) (vs : List Value), SRel σ I H nx w → σ b = some e → vs.length = m * s →
    (∀ i (h : i < vs.length), CRs σ I (dig M (i + 1)) vs[i]) → ∃ w', (storeCells ⟨e.B, e.β + o', none⟩ vs).run X.P w = .ok () w' ∧ After σ I H nx w σ H' nx w' := by
  show Tells1 (fun k => rowK H b fun n' N e op => br (.bad 93) (frc (fun R => setRow b n' R e op H k) (puts N (Nat.succ o') (Nat.mul m s) (Nat.mod (Nat.shiftRight M 128) (Nat.shiftLeft 1 (Nat.shiftLeft (Nat.mul m s) 7))))) (Nat.ble (Nat.add o' (Nat.mul m s)) n')) _
  refine Tells1.row fun n' N et op hg => Tells1.ifb fun hle => Tells1.frc (F := fun R k => setRow b n' R et op H k) ((setRow_tells (n := n') (et := et) (op := op) hf hg).mono fun H' ⟨hale, hr⟩ => ⟨hale, fun σ I w e vs hS he hl hv => ?_⟩)
  have hle' : o' + m * s ≤ n' := ble_iff.1 hle
  obtain ⟨hr1, hr2⟩ := hr (hS.dom _ _ he).1
  have hN : ∀ j, dig (puts N (Nat.succ o') (Nat.mul m s) (Nat.mod (Nat.shiftRight M 128) (Nat.shiftLeft 1 (Nat.shiftLeft (Nat.mul m s) 7)))) (j + 1) = if o' ≤ j ∧ j < o' + m * s then dig M (j - o' + 1) else dig N (j + 1) := fun j => by
    show dig (puts N (o' + 1) (m * s) ((M >>> 128) % (1 <<< ((m * s) <<< 7)))) (j + 1) = _
    rw [dig_puts (by omega) (by omega) (low_lt M (m * s))]
    by_cases h : o' ≤ j ∧ j < o' + m * s
    · rw [if_pos h, if_pos (by omega), show j + 1 - (o' + 1) = j - o' by omega]
      exact low_digs (by omega)
    · rw [if_neg h, if_neg (by omega)]
  obtain ⟨s1, s2⟩ := hS.lay (i := o') (vs := vs) hf.1 he hg hr1 (by omega) (fun j hj => by
      rw [hN, if_pos (by omega), show o' + j - o' = j by omega]; exact hv j hj) (fun j hj hn => by rw [hN, if_neg (by omega)])
  have hrun := run_stores (P := X.P) (i := o') (vs := vs) hS he hg (by omega) (fun v hvm => by
    obtain ⟨i, hi, rfl⟩ := List.mem_iff_getElem.1 hvm
    exact (hv i hi).one)
  exact ⟨_, hrun, ⟨SExt.refl _ _ _, s1, s2, hr2 σ ⟨e, he⟩⟩⟩

/-! ### A row that has grown -/
theorem size_zero {z : Value} (n : Nat) : (Builtin.zeroCells z.cells n).size = n * z.cells.size := by simp [Builtin.zeroCells]
theorem dig_low1 (N i : Nat) : dig (low1 N) (i + 1) = dig N (i + 1) := by
  show dig ((N >>> 128) <<< 128) (i + 1) = _
  rw [dig_shl, dig_shr]
/-- digits joined: n below (from 1 on), then M's -/
theorem dig_join {n s N M i : Nat} (hN : N < 2 ^ (128 * (n * s + 1))) : dig (join n s N M) (i + 1) = if i < n * s then dig N (i + 1) else dig M (i - n * s + 1) := by
  have e : join n s N M = 2 ^ (128 * (n * s + 1)) * (M >>> 128) + N := by
    show N + ((M >>> 128) <<< 128) <<< ((n * s) <<< 7) = _
    have h2 : (2 : Nat) ^ (128 * (n * s + 1)) = 2 ^ 128 * 2 ^ (128 * (n * s)) := by rw [Nat.mul_succ, Nat.pow_add, Nat.mul_comm]
    rw [Nat.shiftLeft_eq, Nat.shiftLeft_eq, Nat.shiftLeft_eq, show n * s * 2 ^ 7 = 128 * (n * s) by omega, h2, Nat.add_comm, Nat.mul_assoc, Nat.mul_comm (M >>> 128)]
  rw [e]
  have hb : ∀ k, (2 ^ (128 * (n * s + 1)) * (M >>> 128) + N).testBit k = if k < 128 * (n * s + 1) then N.testBit k else (M >>> 128).testBit (k - 128 * (n * s + 1)) := fun k => Nat.testBit_two_pow_mul_add _ hN _
  by_cases h : i < n * s
  · rw [if_pos h]
    exact dig_ext fun k hk => by rw [hb, if_pos (by omega)]
  · rw [if_neg h, ← dig_shr M]
    refine dig_ext fun k hk => ?_
    have h3 : 128 * (i + 1) + k - 128 * (n * s + 1) = 128 * (i - n * s) + k := by omega
    rw [hb, if_neg (by omega), h3]

/-! ### Append -/
theorem appCap_ge (w : World) (need old : Nat) (e : TypeId) : need ≤ grownCap w need old e := by
  show need ≤ need + _; omega
/-- a new row out of two -/
theorem grow_tells (hX : EnvOk X) (hFo : FormOk X) {et : TypeId} {s n N m M : Nat} (hf : Free H nx) (hs : 1 ≤ s) (hN : N < 2 ^ (128 * (n * s + 1))) :
    Tells (grow et s n N m M H nx) fun c H' nx' => ALe H nx H' nx' ∧ n + m ≤ 16777214 ∧ nx' = nx + 1 ∧ NewAt (.row ((n + m) * s) (join n s N M) et true) H nx H' ∧
      ∀ (σ : Sig) (I : Imm) (e : SE) cap, σ nx = some e → n + m ≤ cap → e.s = s → cap * s = e.K → CRp σ I c (.slice (some ⟨e.B, e.β, none⟩) (n + m) cap) := by
  show Tells (fun k => newRow (Nat.mul (Nat.add n m) s) (join n s N M) et true H nx fun i H nx => slU i 0 (Nat.add n m) s H nx k) _
  refine Tells.bind (newRow_tells hf) fun i H' nx' ⟨e1, e2, hle, hn⟩ => ?_
  subst e1 e2
  refine slU_tells.mono fun c H2 n2 ⟨e1, e2, hsl⟩ => ?_
  subst e1 e2
  have hle' : (n + m) * s ≤ 16777214 := hle
  have hnm : n + m ≤ (n + m) * s := Nat.le_mul_of_pos_right _ hs
  refine ⟨hn.grow.toALe, by omega, rfl, hn, fun σ I e cap he hc h2 h3 => ?_⟩
  have := hsl σ I e cap he (by have := hn.lt; omega) hc h2 (by rw [Nat.zero_add]; exact h3)
  exact this
theorem join_cells {σ : Sig} {I : Imm} {n s m N M : Nat} {olds news rest : Array Value} (hN : N < 2 ^ (128 * (n * s + 1))) (h1 : olds.size = n * s) (h2 : news.size = m * s) (h3 : ∀ i (h : i < olds.size), CRs σ I (dig N (i + 1)) olds[i]) (h4 : ∀ i (h : i < news.size), CRs σ I (dig M (i + 1)) news[i]) :
    CellsR σ I ((n + m) * s) (join n s N M) (olds ++ news ++ rest) := by
  have hms : (n + m) * s = n * s + m * s := Nat.add_mul _ _ _
  refine ⟨by simp; omega, fun i hi => ?_⟩
  rw [dig_join hN]
  by_cases h : i < n * s
  · rw [if_pos h]
    refine ⟨olds[i]'(by omega), ?_, h3 i (by omega)⟩
    rw [Array.getElem?_append_left (by simp; omega), Array.getElem?_append_left (by omega), Array.getElem?_eq_getElem (by omega)]
  · rw [if_neg h]
    refine ⟨news[i - n * s]'(by omega), ?_, h4 _ (by omega)⟩
    rw [Array.getElem?_append_left (by simp; omega), Array.getElem?_append_right (by omega), h1, Array.getElem?_eq_getElem (by omega)]
/-- what is told of the second operand of an append -/
def ArgIs (X : Env) (u e : TypeId) (s m M : Nat) (z : Value) (b : Nat) (H : HT) (nx : Nat) : Prop := ∀ (I : Imm) (σ : Sig) (w : World) v, Holds I H nx → VR σ I b v → SRel σ I H nx w →
  ∃ news, AppArg X.P u e s m z v w news ∧ news.size = m * s ∧ ∀ i (h : i < news.size), CRs σ I (dig M (i + 1)) news[i]
end Go.Ev
set_option linter.unusedVariables false
set_option linter.unusedSimpArgs false
namespace Go.Ev
variable {X : Env} {o : Oper} {f : FR} {H : HT} {nx : Nat} {call : CallT}

theorem inPlace_tells {a s m M : Nat} (hf : Free H nx) : Tells (inPlace a s m M H nx) fun c H' nx' => ALe H nx H' nx' ∧ nx' = nx ∧ c = mkSl (blk a) (off a) (sln a + m) (scp a) ∧ sln a + m ≤ 16777214 ∧ off a ≤ 16777215 ∧
    ∀ (σ : Sig) (I : Imm) (w : World) (e : SE) (vs : List Value), SRel σ I H nx w → σ (blk a) = some e → vs.length = m * s → (∀ i (h : i < vs.length), CRs σ I (dig M (i + 1)) vs[i]) →
      ∃ w', (storeCells ⟨e.B, e.β + (off a + sln a * s), none⟩ vs).run X.P w = .ok () w' ∧ After σ I H nx w σ H' nx w' := by
  show Tells (fun k => frc (fun b => layRow b (Nat.add (off a) (Nat.mul (sln a) s)) s m M H fun H => frc (fun n => br (.bad 93) (slG b (off a) n (scp a) H nx k) (Nat.ble n 16777214)) (Nat.add (sln a) m)) (blk a)) _
  refine Tells.frc (Tells.bind1 (layRow_tells (X := X) (b := blk a) (o' := Nat.add (off a) (Nat.mul (sln a) s)) hf) fun H' ⟨hale, hl⟩ => Tells.frc (Tells.ifb fun hle => slG_tells.mono fun c H2 n2 ⟨e1, e2, e3, e4, e5⟩ => ?_))
  subst e1 e2
  exact ⟨hale, rfl, e5, e4, e3, hl⟩
/-- what an append tells -/
def AppR (X : Env) (t u : TypeId) (a b : Nat) (H : HT) (nx : Nat) (c : Nat) (H' : HT) (nx' : Nat) : Prop := ALe H nx H' nx' ∧ ∀ (I : Imm) (σ : Sig) (w : World) va vb (ts : Array TypeId) (ty : TypeId) (args : Array Value), Holds I H' nx' → SRel σ I H nx w → VR σ I a va → VR σ I b vb →
  ts[0]? = some t → ts[1]? = some u → args[0]? = some va → args[1]? = some vb → ∃ v w' σ', (Builtin.append_ ts ty args).run X.P w = .ok v w' ∧ After σ I H nx w σ' H' nx' w' ∧ VR σ' I c v
theorem SRel.kill {σ : Sig} {I : Imm} {H' : HT} {b : Nat} {w : World} (h : SRel σ I H nx w) (hnx : nx ≤ 262144) (hx : get H' b = .dead) (hs : ∀ j, j < 262144 → j ≠ b → get H' j = get H j) : SRel σ I H' nx w where
  dom := h.dom
  obj := fun b' e hb' => by
    by_cases hb : b' = b
    · subst hb; rw [hx]; trivial
    · rw [hs b' (by have := (h.dom b' e hb').1; omega) hb]; exact h.obj b' e hb'
  inj := fun b1 b2 e1 e2 h1 h2 hB n1 n2 => by
    have g : ∀ b' e, σ b' = some e → get H' b' ≠ .dead → get H b' ≠ .dead := fun b' e hb' hd => by
      by_cases hb : b' = b
      · subst hb; rw [hx] at hd; exact absurd rfl hd
      · rw [hs b' (by have := (h.dom b' e hb').1; omega) hb] at hd; exact hd
    exact h.inj b1 b2 e1 e2 h1 h2 hB (g b1 e1 h1 n1) (g b2 e2 h2 n2)
  g0 := h.g0
/-- the new row's world -/
theorem after_new {σ : Sig} {I : Imm} {H' : HT} {w : World} {n N et s : Nat} {op : Bool} {cells : Array Value} {el : TypeId} (h : SRel σ I H nx w) (hn : NewAt (.row n N et op) H nx H') (hc : CellsR σ I n N cells) :
    After σ I H nx w (upd σ nx ⟨w.heap.size, 0, cells.size, s⟩) H' (nx + 1) (w.drew.alloc (.cells cells el)) := by
  refine h.newTo (w1 := w.drew.alloc (.cells cells el)) (ob := .cells cells el) (e := ⟨w.heap.size, 0, cells.size, s⟩) ⟨rfl, rfl, rfl⟩ hn rfl fun w' hw => ?_
  refine ⟨⟨cells, el, (0, 0), hw, by simp, hc.1, .inl (Nat.le_refl _), fun i hi => ?_⟩, fun _ => rfl⟩
  obtain ⟨v, h1, h2⟩ := hc.2 i hi
  exact ⟨v, by simpa using h1, h2.mono (sle_upd (h.none (Nat.le_refl nx)))⟩
/-- what is needed of the types -/
structure AppT (X : Env) (t : TypeId) (s : Nat) (i : TypeInfo) (z : Value) : Prop where
  hu : X.P.underlying t = some (.slice (elemT X t))
  hi : X.P.info? (elemT X t) = some i
  hz : i.zero = some z
  hby : i.bytes ≤ 8388608
  hsz : i.size = s
  hzs : z.cells.size = s
  h1 : 1 ≤ s
theorem app_new {t u : TypeId} {s n m N M : Nat} {i : TypeInfo} {z : Value} (hT : AppT X t s i z) (hf : Free H nx) (hN : N < 2 ^ (128 * (n * s + 1)))
    {c nx' : Nat} {H' : HT} (hg : ALe H nx H' nx' ∧ n + m ≤ 16777214 ∧ nx' = nx + 1 ∧ NewAt (.row ((n + m) * s) (join n s N M) (elemT X t) true) H nx H' ∧
      ∀ (σ : Sig) (I : Imm) (e : SE) cap, σ nx = some e → n + m ≤ cap → e.s = s → cap * s = e.K → CRp σ I c (.slice (some ⟨e.B, e.β, none⟩) (n + m) cap))
    {I : Imm} {σ : Sig} {w : World} {vb : Value} {base : Option Addr} {cap : Nat} {ts : Array TypeId} {ty : TypeId} {args : Array Value} (hI : Holds I H' nx') (hS : SRel σ I H nx w) (hnews : ∃ news, AppArg X.P u (elemT X t) s m z vb w.drew news ∧ news.size = m * s ∧ ∀ i (h : i < news.size), CRs σ I (dig M (i + 1)) news[i]) (hgr : cap < n + m)
    (hold : ∀ w', w'.heap = w.heap → CellsIs X.P s n N σ I (.slice base n cap) w')
    (h0 : ts[0]? = some t) (h1 : ts[1]? = some u) (a0 : args[0]? = some (.slice base n cap)) (a1 : args[1]? = some vb) :
    ∃ v w' σ', (Builtin.append_ ts ty args).run X.P w = .ok v w' ∧ After σ I H nx w σ' H' nx' w' ∧ VR σ' I c v := by
  obtain ⟨hale, hsm, hnx, hn, hc⟩ := hg
  subst hnx
  obtain ⟨olds, o1, o2, o3⟩ := (hold w.drew rfl).2 n (Nat.le_refl _)
  obtain ⟨news, n1, n2, n3⟩ := hnews
  have hsz := hT.hsz
  have hrun := run_append_new (P := X.P) (ty := ty) (w := w) h0 h1 a0 a1 hT.hu hT.hi hT.hz hT.hby (by rw [hsz]; exact n1) (by rw [hsz]; exact o1) hgr hsm
  have hcs : CellsR σ I ((n + m) * s) (join n s N M) (olds ++ news ++ Builtin.zeroCells z.cells (grownCap w (n + m) cap (elemT X t) - (n + m))) := join_cells hN o2 n2 o3 n3
  have hge := appCap_ge w (n + m) cap (elemT X t)
  have hK : (olds ++ news ++ Builtin.zeroCells z.cells (grownCap w (n + m) cap (elemT X t) - (n + m))).size = grownCap w (n + m) cap (elemT X t) * s := by
    simp only [Array.size_append, size_zero, o2, n2, hT.hzs, ← Nat.add_mul]
    congr 1; omega
  have haf := after_new (s := s) (el := elemT X t) hS hn hcs
  refine ⟨_, _, _, hrun, haf, (hc _ I ⟨w.heap.size, 0, _, s⟩ _ upd_same hge rfl (by rw [hK])).toV⟩
end Go.Ev
set_option linter.unusedVariables false
set_option linter.unusedSimpArgs false
namespace Go.Ev
variable {X : Env} {o : Oper} {f : FR} {H : HT} {nx : Nat} {call : CallT}

theorem store_none {P : Program} {p : Addr} {w : World} : (storeCells p []).run P w = .ok () w := by rfl
theorem app_place {t u : TypeId} {s a b m M : Nat} {i : TypeInfo} {z : Value} (hT : AppT X t s i z) (hf : Free H nx) (hsl : isSl a = true)
    (hB : ∀ (I : Imm) (σ : Sig) (w : World) v, Holds I H nx → VR σ I b v → SRel σ I H nx w → ∃ news, AppArg X.P u (elemT X t) s m z v w news ∧ news.size = m * s ∧ ∀ i (h : i < news.size), CRs σ I (dig M (i + 1)) news[i])
    (hroom : ∀ (σ : Sig) (I : Imm) (w : World) v e cap, SRel σ I H nx w → SlInv σ a v e cap → sln a + m ≤ cap) : Tells (inPlace a s m M H nx) (AppR X t u a b H nx) := by
  refine (inPlace_tells (X := X) hf).mono fun c H' nx' ⟨hale, e1, e2, hle, hoff, hl⟩ => ⟨hale, fun I σ w va vb ts ty args hI hS hva hvb h0 h1 a0 a1 => ?_⟩
  subst e1
  obtain ⟨e, cap, hs⟩ := isSl_inv hva hsl
  obtain ⟨news, n1, n2, n3⟩ := hB I σ w vb (hI.back hale) hvb hS
  have hr := hroom σ I w va e cap hS hs
  have hsz := hT.hsz
  obtain ⟨w', q1, q2⟩ := hl σ I w e news.toList hS hs.at_ (by simpa using n2) (split_cells n3)
  have hadd : (⟨e.B, e.β + off a, none⟩ : Addr).add (sln a * i.size) = ⟨e.B, e.β + (off a + sln a * s), none⟩ := by rw [addr_add, hsz, Nat.add_assoc]
  rw [hs.val] at a0
  have hrun := run_append_in (P := X.P) (ty := ty) (w := w) (w' := w') h0 h1 a0 a1 hT.hu hT.hi hT.hz hT.hby (by rw [hsz]; exact n1) hr (by show (storeCells _ _).run X.P w = _; rw [hadd]; exact q1)
  refine ⟨_, _, _, hrun, q2, ?_⟩
  rw [e2]
  refine CRp.toV (crp_sl hs.at_ hs.blt hoff hle ?_ hr hs.known hs.opens)
  rw [scp_def]; omega
/-- a row that isn't known to have room, and has it: the same block under a new number -/
theorem app_dead {σ : Sig} {I : Imm} {H H1 H' : HT} {nx a s m n' N0 et0 et N M : Nat} {op0 : Bool} {w : World} {va : Value} {e : SE} {cap : Nat} {news : Array Value} (hf : Free H nx) (hS : SRel σ I H nx w) (hs : SlInv σ a va e cap) (hg : get H (blk a) = .row n' N0 et0 op0) (h1 : 1 ≤ s)
    (hes : e.s = s) (hK : off a + cap * s = e.K) (hroom : sln a + m ≤ cap) (hx : get H1 (blk a) = .dead) (hsame : ∀ j, j < 262144 → j ≠ blk a → get H1 j = get H j) (hafr : AFr σ nx H H1)
    (hn : NewAt (.row ((sln a + m) * s) (join (sln a) s N M) et true) H1 nx H') (hN : N < 2 ^ (128 * (sln a * s + 1))) (hold : CellsIs X.P s (sln a) N σ I va w) (hnews : news.size = m * s) (hc : ∀ i (h : i < news.size), CRs σ I (dig M (i + 1)) news[i]) :
    ∃ w', (storeCells ((⟨e.B, e.β + off a, none⟩ : Addr).add (sln a * s)) news.toList).run X.P w = .ok () w' ∧ After σ I H nx w (upd σ nx ⟨e.B, e.β + off a, e.K - off a, s⟩) H' (nx + 1) w' := by
  have hob := hS.obj _ e hs.at_
  rw [hg] at hob
  obtain ⟨⟨cells, el, fz, c1, c2, c3, c4, c5⟩, hz0⟩ := hob
  have hms : (sln a + m) * s = sln a * s + m * s := Nat.add_mul _ _ _
  have hle : (sln a + m) * s ≤ cap * s := Nat.mul_le_mul_right _ hroom
  obtain ⟨olds, o1, o2, o3⟩ := hold.2 (sln a) (Nat.le_refl _)
  have hcell : ∀ j, j < sln a * s → cells[e.β + off a + j]? = olds[j]? := by
    have hload := run_loadCells (P := X.P) w ⟨e.B, e.β + off a, none⟩ (sln a * s) (fun j => cells.getD (e.β + off a + j) undef) (fun j hj => by
      rw [addr_add, cell_of c1]
      have : e.β + off a + j < cells.size := by omega
      simp [this])
    have o1' : (loadCells ⟨e.B, e.β + off a, none⟩ (sln a * s)).run X.P w = .ok olds w := by
      rw [hs.val] at o1; exact o1
    rw [hload] at o1'
    injection o1' with e1
    intro j hj
    have hlt : e.β + off a + j < cells.size := by omega
    rw [← e1]
    simp [hlt, hj]
  refine ⟨w.setCells e.B (e.β + off a + sln a * s) news.toList, ?_, ?_⟩
  · have := run_storeCells_cells (P := X.P) e.B (e.β + off a + sln a * s) news.toList 0 w (fun j hj => by
      have hj' : j < news.size := by simpa using hj
      have hlt : e.β + off a + sln a * s + j < cells.size := by omega
      rw [Nat.add_zero, cell_of c1]
      simp [hlt]) (fun j hj => by
      have hj' : j < news.size := by simpa using hj
      rw [Nat.add_zero, frozen_of c1]
      rcases c4 with c4 | ⟨_, c4 | c4⟩ <;> simp <;> omega) (fun v hv => by
      obtain ⟨i, hi, rfl⟩ := List.mem_iff_getElem.1 hv
      have h := (split_cells hc i hi).one
      generalize news.toList[i] = v at h
      cases v <;> first | rfl | exact (h.1 _ rfl).elim | exact (h.2 _ rfl).elim)
    rw [Nat.add_zero] at this
    rw [addr_add]; exact this
  · obtain ⟨cells', d1, d2, d3, d4, d5⟩ := setCells_at news.toList (e.β + off a + sln a * s) w cells c1
    have hno := hS.none (Nat.le_refl nx)
    have hsl : SLe σ (upd σ nx ⟨e.B, e.β + off a, e.K - off a, s⟩) := sle_upd hno
    have hold' : ∀ b e', σ b = some e' → get H' b ≠ .dead → e'.B ≠ e.B := fun b e' hb hd hB => by
      have hlt := (hS.dom b e' hb).1
      rw [hn.same b hlt] at hd
      have hbne : b ≠ blk a := fun h => by rw [h, hx] at hd; exact hd rfl
      rw [hsame b (by have := hf.1; omega) hbne] at hd
      exact hbne (hS.inj b (blk a) e' e hb hs.at_ hB hd (by rw [hg]; simp))
    refine ⟨⟨hsl, fun b e' hb => ?_⟩, ⟨fun b e' hb => ?_, fun b e' hb => ?_, fun b b' e1 e2 h1 h2 hBB n1 n2 => ?_, hS.g0.next (fun b e' hb => by
      by_cases hbn : b = nx
      · subst hbn; rw [upd_same] at hb; obtain rfl := Option.some.inj hb; exact .inl ⟨_, e, hs.at_, rfl⟩
      · rw [upd_ne hbn] at hb; exact .inl ⟨b, e', hb, rfl⟩) fun z hn _ => d4 z fun h => hn _ e hs.at_ h.symm⟩, ⟨by rw [d5]; exact Nat.le_refl _, fun B hB hnn => d4 B fun h => hnn _ e hs.at_ h.symm, (setCells_keep _ _ w).1, (setCells_keep _ _ w).2⟩, fun b hb hnn => by rw [hn.same b hb]; exact hafr b hb hnn⟩
    · by_cases hbn : b = nx
      · subst hbn; rw [upd_same] at hb; obtain rfl := Option.some.inj hb
        exact .inr ⟨Nat.le_refl _, .inr ⟨_, e, hs.at_, rfl⟩⟩
      · rw [upd_ne hbn] at hb; exact .inl hb
    · rw [d5]
      by_cases hbn : b = nx
      · subst hbn; rw [upd_same] at hb; obtain rfl := Option.some.inj hb
        exact ⟨by omega, (hS.dom _ e hs.at_).2⟩
      · rw [upd_ne hbn] at hb; have := hS.dom b e' hb; exact ⟨by omega, this.2⟩
    · by_cases hbn : b = nx
      · subst hbn; rw [upd_same] at hb; obtain rfl := Option.some.inj hb
        rw [hn.at_]
        refine ⟨⟨cells', el, fz, d1, ?_, ?_, ?_, fun i hi => ?_⟩, fun hop => Bool.noConfusion hop⟩
        · show e.β + off a + (e.K - off a) ≤ cells'.size
          rw [d2]; omega
        · show (sln a + m) * s ≤ e.K - off a
          omega
        · show fz.2 ≤ fz.1 ∨ true = true ∧ (fz.2 ≤ e.β + off a ∨ e.β + off a + (e.K - off a) ≤ fz.1)
          rcases c4 with c4 | ⟨_, c4⟩
          · exact .inl c4
          · exact .inr ⟨rfl, by omega⟩
        · show ∃ v, cells'[e.β + off a + i]? = some v ∧ _
          rw [d3, dig_join hN]
          by_cases hi2 : i < sln a * s
          · rw [if_neg (by simp; omega), if_pos hi2, hcell i hi2]
            have hio : i < olds.size := by omega
            exact ⟨olds[i], by simp [hio], (o3 i hio).mono hsl⟩
          · have hin : i - sln a * s < news.size := by omega
            rw [if_pos (by simp; omega), if_neg hi2]
            refine ⟨news[i - sln a * s], ?_, (hc _ hin).mono hsl⟩
            rw [show e.β + off a + i - (e.β + off a + sln a * s) = i - sln a * s by omega]
            simp [hin]
      · rw [upd_ne hbn] at hb
        have hd := hS.dom b e' hb
        by_cases hdd : get H' b = .dead
        · rw [hdd]; trivial
        · have hne := hold' b e' hb hdd
          rw [hn.same b hd.1] at hdd ⊢
          have hbne : b ≠ blk a := fun h => by rw [h, hx] at hdd; exact hdd rfl
          rw [hsame b (by have := hf.1; omega) hbne]
          exact ((hS.obj b e' hb).world (d4 e'.B hne)).mono hsl
    · by_cases hb1 : b = nx <;> by_cases hb2 : b' = nx
      · omega
      · subst hb1; rw [upd_same] at h1; obtain rfl := Option.some.inj h1
        rw [upd_ne hb2] at h2
        exact absurd hBB.symm (hold' b' e2 h2 n2)
      · subst hb2; rw [upd_same] at h2; obtain rfl := Option.some.inj h2
        rw [upd_ne hb1] at h1
        exact absurd hBB (hold' b e1 h1 n1)
      · rw [upd_ne hb1] at h1; rw [upd_ne hb2] at h2
        have := hS.kill hf.1 hx hsame
        rw [hn.same b (hS.dom b e1 h1).1] at n1
        rw [hn.same b' (hS.dom b' e2 h2).1] at n2
        exact this.inj b b' e1 e2 h1 h2 hBB n1 n2
theorem app_tells {t u : TypeId} {s a b m M : Nat} {i : TypeInfo} {z : Value} (hX : EnvOk X) (hFo : FormOk X) (hT : AppT X t s i z) (hf : Free H nx) (ha : a = 1188422437713965063903159255040 ∨ isSl a = true)
    (hB : ∀ (I : Imm) (σ : Sig) (w : World) v, Holds I H nx → VR σ I b v → SRel σ I H nx w → ∃ news, AppArg X.P u (elemT X t) s m z v w news ∧ news.size = m * s ∧ ∀ i (h : i < news.size), CRs σ I (dig M (i + 1)) news[i]) :
    Tells (app (elemT X t) s a m M H nx) (AppR X t u a b H nx) := by
  show Tells (fun k => br (cellsK s a H fun n N =>
        br (grow (elemT X t) s n N m M H nx k)
           (br (br (grow (elemT X t) s n N m M H nx k) (inPlace a s m M H nx k) (Nat.ble (Nat.add n m) (scp a)))
              (rowK H (blk a) fun n' _ _ _ => br (.bad 89) (br (kill (blk a) H fun H => grow (elemT X t) s n N m M H nx k) (inPlace a s m M H nx k) (Nat.ble (Nat.add (off a) (Nat.mul (Nat.add n m) s)) n')) (Nat.beq (scp a) (opn s)))
              (isOpn a)) (isSl a))
      (k a H nx) (Nat.beq m 0)) _
  have hs1 := hT.h1
  refine Tells.ite (fun hm => Tells.pure ⟨(Grow.refl hf).toALe, fun I σ w va vb ts ty args hI hS hva hvb h0 h1 a0 a1 => ?_⟩) fun hm => Tells.bind2 (cellsK_tells (X := X) hf) fun n N ⟨hN, hns, hC⟩ => ?_
  · have hm' := beq_iff.1 hm
    subst hm'
    obtain ⟨news, n1, n2, n3⟩ := hB I σ w vb hI hvb hS
    have hnews : news = #[] := Array.size_eq_zero_iff.1 (by rw [n2, Nat.zero_mul])
    subst hnews
    have fin : ∀ base sLen sCap, va = .slice base sLen sCap → sLen ≤ sCap → ∃ v w' σ', (Builtin.append_ ts ty args).run X.P w = .ok v w' ∧ After σ I H nx w σ' H nx w' ∧ VR σ' I a v := fun base sLen sCap e hle => by
      rw [e] at a0
      have hrun := run_append_in (P := X.P) (ty := ty) (w := w) (w' := w) h0 h1 a0 a1 hT.hu hT.hi hT.hz hT.hby (by rw [hT.hsz]; exact n1) (by omega) (by cases base <;> rfl)
      exact ⟨_, _, σ, hrun, .grow hS (Grow.refl hf), by rw [Nat.add_zero, ← e]; exact hva⟩
    rcases ha with ha | ha
    · obtain ⟨p, cap, e, hp⟩ := sl_nil (.inl ha) hva
      exact fin _ _ _ e (Nat.zero_le _)
    · obtain ⟨e, cap, hs⟩ := isSl_inv hva ha
      exact fin _ _ _ hs.val hs.le
  · have hm' := beq_false.1 hm
    refine Tells.ite (fun hsl => Tells.ite (fun hop => Tells.row fun n' N' et' op' hg => Tells.ifb fun hsc => Tells.ite (fun hfit => ?_) fun hfit => ?_) fun hop => Tells.ite (fun hfit => ?_) fun hfit => ?_) fun hsl => ?_
    · -- room is known
      refine app_place hT hf hsl hB fun σ I w v e cap hS hs => ?_
      have hop' : 8388608 ≤ scp a := ble_iff.1 hop
      obtain ⟨q1, q2, q3⟩ := hs.opens hop'
      have hsc' : scp a = 8388608 + s := beq_iff.1 hsc
      have hes : e.s = s := by omega
      have hob := hS.obj _ e hs.at_
      rw [hg] at hob
      obtain ⟨⟨cells, el, fz, c1, c2, c3, c4, c5⟩, hz0⟩ := hob
      have hfit' : off a + (n + m) * s ≤ n' := ble_iff.1 hfit
      rw [hes] at q3
      rw [hns hsl] at hfit'
      have : (sln a + m) * s ≤ cap * s := by omega
      exact Nat.le_of_mul_le_mul_right this hs1
    · -- a row killed
      have hnsl := hns hsl
      subst hnsl
      show Tells (fun k => set H .dead (blk a) fun H => grow (elemT X t) s (sln a) N m M H nx k) _
      refine Tells.bind1 (set_tells (x := .dead) hf (by rw [hg]; exact id) (by rw [hg]; simp) (fun h => by cases h)) fun H1 ⟨hale1, hset⟩ => (grow_tells hX hFo hale1.free hs1 hN).mono fun c H' nx' hgr => ⟨hale1.trans hgr.1, fun I σ w va vb ts ty args hI hS hva hvb h0 h1 a0 a1 => ?_⟩
      obtain ⟨e, cap, hs⟩ := isSl_inv hva hsl
      obtain ⟨hx, hsame, hafr⟩ := hset (hS.dom _ _ hs.at_).1
      have hS1 := hS.kill hf.1 hx hsame
      have hIb := hI.back (hale1.trans hgr.1)
      have hop' : 8388608 ≤ scp a := ble_iff.1 hop
      obtain ⟨q1, q2, q3⟩ := hs.opens hop'
      have hsc' : scp a = 8388608 + s := beq_iff.1 hsc
      have hes : e.s = s := by omega
      rw [hes] at q3
      have hkill : After σ I H nx w σ H1 nx w := ⟨SExt.refl _ _ _, hS1, Unch.refl _ _, hafr σ ⟨e, hs.at_⟩⟩
      rw [hs.val] at a0
      by_cases hroom : sln a + m ≤ cap
      · obtain ⟨_, hsm, hnx, hn, hcc⟩ := hgr
        subst hnx
        obtain ⟨news, n1, n2, n3⟩ := hB I σ w vb hIb hvb hS
        obtain ⟨w', st1, st2⟩ := app_dead (X := X) (M := M) (et := elemT X t) hf hS hs hg hs1 hes q3 hroom hx hsame (hafr σ ⟨e, hs.at_⟩) hn hN (hC I σ va w hIb hva hS) n2 n3
        have hsz := hT.hsz
        have hrun := run_append_in (P := X.P) (ty := ty) (w := w) (w' := w') h0 h1 a0 a1 hT.hu hT.hi hT.hz hT.hby (by rw [hsz]; exact n1) hroom (by show (storeCells _ _).run X.P w = _; rw [hsz]; exact st1)
        exact ⟨_, _, _, hrun, st2, (hcc _ I ⟨e.B, e.β + off a, e.K - off a, s⟩ cap upd_same hroom rfl (by show cap * s = e.K - off a; omega)).toV⟩
      · obtain ⟨v, w', σ', r1, r2, r3⟩ := app_new (base := some ⟨e.B, e.β + off a, none⟩) (cap := cap) (ty := ty) hT hale1.free hN hgr hI hS1 (hB I σ w.drew vb hIb hvb (hS.heap rfl)) (by omega) (fun w' hw' => by have := hC I σ va w' hIb hva (hS.heap hw'); rw [hs.val] at this; exact this) h0 h1 a0 a1
        exact ⟨v, w', σ', r1, hkill.trans r2 (Nat.le_refl _) (fun b e hb => (hS.dom b e hb).1), r3⟩
    · -- room is known
      refine app_place hT hf hsl hB fun σ I w v e cap hS hs => ?_
      have hop' : scp a < 8388608 := by have := ble_false.1 hop; omega
      rw [hs.known hop', ← hns hsl]
      exact ble_iff.1 hfit
    · -- the capacity is known, and doesn't serve
      have hnsl := hns hsl
      subst hnsl
      refine (grow_tells hX hFo hf hs1 hN).mono fun c H' nx' hgr => ⟨hgr.1, fun I σ w va vb ts ty args hI hS hva hvb h0 h1 a0 a1 => ?_⟩
      obtain ⟨e, cap, hs⟩ := isSl_inv hva hsl
      have hop' : scp a < 8388608 := by have := ble_false.1 hop; omega
      have hfit' : scp a < sln a + m := ble_false.1 hfit
      have hk := hs.known hop'
      rw [hs.val] at a0
      have hIb := hI.back hgr.1
      exact app_new (base := some ⟨e.B, e.β + off a, none⟩) (cap := cap) (ty := ty) hT hf hN hgr hI hS (hB I σ w.drew vb hIb hvb (hS.heap rfl)) (by omega) (fun w' hw' => by have := hC I σ va w' hIb hva (hS.heap hw'); rw [hs.val] at this; exact this) h0 h1 a0 a1
    · -- nil
      have ha' : a = 1188422437713965063903159255040 := ha.resolve_right (by rw [hsl]; simp)
      refine (grow_tells hX hFo hf hs1 hN).mono fun c H' nx' hgr => ⟨hgr.1, fun I σ w va vb ts ty args hI hS hva hvb h0 h1 a0 a1 => ?_⟩
      obtain ⟨p, cap, e, hp⟩ := sl_nil (.inl ha') hva
      obtain ⟨rfl, rfl⟩ := hp ha'
      have hIb := hI.back hgr.1
      subst e
      have hn0 : n = 0 := by
        have h1 := (hC I σ _ w hIb hva hS).1 w
        have h2 : (Builtin.lenOf (.slice none 0 0)).run X.P w = .ok 0 w := rfl
        rw [h2] at h1; injection h1 with h1; exact h1.symm
      subst hn0
      exact app_new (base := none) (cap := 0) (ty := ty) hT hf hN hgr hI hS (hB I σ w.drew vb hIb hvb (hS.heap rfl)) (by omega) (fun w' hw' => hC I σ _ w' hIb hva (hS.heap hw')) h0 h1 a0 a1
end Go.Ev
set_option linter.unusedVariables false
set_option linter.unusedSimpArgs false
namespace Go.Ev
variable {X : Env} {o : Oper} {f : FR} {H : HT} {nx : Nat} {call : CallT}

theorem append_snd (hX : EnvOk X) (hFo : FormOk X) {xs : Array Operand} {ts : Array TypeId} (ho : o.op = .call { callee := .builtin .append, args := xs, argTypes := ts }) (hf : Free H nx) :
    Tells (eBuiltin .append xs ts X call f H nx) (Snd X o f H nx) := by
  show Tells (fun k => withT ts 0 fun t => withT ts 1 fun u => arg2 (nth xs 0) (nth xs 1) f H nx fun a b H nx => bAppend t u a b X H nx k) _
  refine Tells.withT fun t ht => Tells.withT fun u hu => snd2n hf fun hargs a b H1 n1 hf1 => ?_
  show Tells (fun k => frc (fun s => br (.bad 89) (br (cellsK s b H1 fun m M => app (elemT X t) s a m M H1 n1 k)
    (natK b fun m => frc (fun M => app (elemT X t) s a m M H1 n1 k) (rep m (znT X (elemT X t)) (zNT X (elemT X t)))) (isI (kindT X u)))
    (and' (Nat.ble 1 s) (and' (Nat.beq (kindT X t) 15) (and' (or' (Nat.beq a 1188422437713965063903159255040) (isSl a)) (and' (zokT X (elemT X t)) (Nat.ble 1 (kindT X u))))))) (szT X (elemT X t))) _
  refine Tells.frc (Tells.ifb fun hc => ?_)
  simp only [and'_eq, or'_eq, Bool.and_eq_true, Bool.or_eq_true, ble_iff, beq_iff] at hc
  obtain ⟨h1, hk, ha, hz, hku⟩ := hc
  obtain ⟨i, v, z1, z2, z3, z4, z5, z6, z7⟩ := szn hX hFo hz
  have hT : AppT X t (szT X (elemT X t)) i v := ⟨elem_slice hX hk, z1, z2, (zok_more hX hz z1 z2).2.1, by rw [z3, z4], by rw [z4], h1⟩
  have conv : ∀ {c : Nat} {H' : HT} {nx' : Nat}, AppR X t u a b H1 n1 c H' nx' → ALe H1 n1 H' nx' ∧ ∀ (I : Imm) (σ : Sig) (w : World) (A : Act), Holds I H' nx' → SRel σ I H1 n1 w → FrameR σ I f A.tmps → VR σ I a (A.eval (nth xs 0)) → VR σ I b (A.eval (nth xs 1)) →
      OpDo X.P o A w fun v w' => ∃ σ', After σ I H1 n1 w σ' H' nx' w' ∧ VR σ' I c v := fun {c H' nx'} ⟨g, h⟩ => ⟨g, fun I σ w A hI hS hF hA hB => by
    obtain ⟨a0, a1⟩ := hargs A.eval
    obtain ⟨v, w', σ', r1, r2, r3⟩ := h I σ w _ _ ts o.type (xs.map A.eval) hI hS hA hB ht hu a0 a1
    obtain ⟨cs, hb⟩ := run_builtin (P := X.P) ho A w
    exact .value (w' := w') (v := v) (by rw [hb]; exact value_of r1) ⟨σ', r2, r3⟩⟩
  refine Tells.ite (fun hint => Tells.bind1 natK_tells fun m ⟨hm1, hm2, hm⟩ => Tells.frc ((app_tells (u := u) (b := b) hX hFo hT hf1 ha fun I σ w v' hI hv hS => ?_).mono fun c H' nx' h => conv h)) fun hint => Tells.bind2 (cellsK_tells (X := X) hf1) fun m M ⟨_, _, hC⟩ => (app_tells (u := u) (b := b) hX hFo hT hf1 ha fun I σ w v' hI hv hS => ?_).mono fun c H' nx' h => conv h
  · obtain ⟨k', hk'⟩ := hm σ I v' hv
    unfold isI at hint
    rw [and'_eq, Bool.and_eq_true, ble_iff, ble_iff] at hint
    obtain ⟨k, hku', _⟩ := kind_int hX hint.1 hint.2
    have hall := rep_all (σ := σ) (I := I) (v := v) (n := m) z7 (z := v.cells) (fun _ => rfl)
    rw [z5, z6]
    have hzc : Builtin.zeroCells v.cells m = (Array.range (m * v.cells.size)).map (v.cells[· % v.cells.size]!) := rfl
    refine ⟨_, .zeros k k' hku' hk' hm1 rfl, ?_, fun j hj => ?_⟩
    · rw [z4]; split
      · rename_i h0; rw [h0]; rfl
      · rw [hzc]; exact hall.1
    · by_cases h0 : m * szT X (elemT X t) = 0
      · simp only [h0, if_true] at hj; exact absurd hj (by simp)
      · simp only [h0, if_false] at hj ⊢
        exact hall.2 j (by rw [← hzc]; exact hj)
  · have hnot : ∀ k, X.P.underlying u ≠ some (.int k) := fun k hk' => by
      have e : kindT X u = intTag k := by rw [kindT_def hX]; simp only [tyOf, hk']
      have := intTag_bd k
      unfold isI at hint
      rw [and'_eq, ble_iff.2 (by omega), ble_iff.2 (by omega)] at hint
      cases hint
    obtain ⟨d, hd⟩ := kind_some hX hku
    obtain ⟨hl, hcs⟩ := hC I σ v' w hI hv hS
    obtain ⟨cs, c1, c2, c3⟩ := hcs m (Nat.le_refl _)
    exact ⟨cs, .cells d hd (fun k e => hnot k (by rw [hd, e])) hl c1, c2, c3⟩

/-! ### Copy, clear -/
theorem lenSl_tells {a : Nat} (hf : Free H nx) : Tells1 (lenS 15 a H) fun n => ∀ (I : Imm) (σ : Sig) v, Holds I H nx → VR σ I a v → (n = 0 ∧ ∃ p cap, v = .slice p 0 cap) ∨ (isSl a = true ∧ n = sln a) := by
  show Tells1 (fun k => br (br (br (.bad 90) (k 0) (and' true (or' (Nat.beq a 1188422437713965063903159255040) (Nat.beq a 1743019575313815427057966907392)))) (frc k (sln a)) (and' true (isSl a))) (str a H fun n _ => k n) (and' false (isS a))) _
  refine Tells1.ite (fun h => absurd h (by rw [and'_eq]; simp)) fun _ => Tells1.ite (fun h => Tells1.frcK fun I σ v hI hv => .inr ⟨by rw [and'_eq] at h; simpa using h, rfl⟩) fun _ => Tells1.ifb fun h => Tells1.pure fun I σ v hI hv => .inl ?_
  rw [and'_eq, or'_eq, Bool.true_and, Bool.or_eq_true, beq_iff, beq_iff] at h
  obtain ⟨p, cap, e, _⟩ := sl_nil h hv
  exact ⟨rfl, p, cap, e⟩
theorem sel_min' (m n : Nat) : sel m n (Nat.ble n m) = min m n := by
  unfold sel
  by_cases h : n ≤ m
  · rw [ble_iff.2 h]; show n = _; omega
  · rw [ble_false.2 (by omega)]; show m = _; omega
theorem copy_snd (hX : EnvOk X) (hFo : FormOk X) {xs : Array Operand} {ts : Array TypeId} (ho : o.op = .call { callee := .builtin .copy, args := xs, argTypes := ts }) (hf : Free H nx) :
    Tells (eBuiltin .copy xs ts X call f H nx) (Snd X o f H nx) := by
  show Tells (fun k => withT ts 0 fun t => arg2 (nth xs 0) (nth xs 1) f H nx fun a b H nx => bCopy t a b X H nx k) _
  refine Tells.withT fun t ht => snd2n hf fun hargs a b H1 n1 hf1 => ?_
  show Tells (fun k => frc (fun s => br (.bad 94) (cellsK s b H1 fun m M => lenS 15 a H1 fun n => frc (fun c =>
    br (frc (fun b => layRow b (off a) s c M H1 fun H => frc (fun r => k r H n1) (intC c)) (blk a))
      (k (intC 0) H1 n1) (Nat.beq c 0)) (sel m n (Nat.ble n m))) (and' (Nat.ble 1 s) (Nat.beq (kindT X t) 15))) (szT X (elemT X t))) _
  refine Tells.frc (Tells.ifb fun hc => Tells.bind2 (cellsK_tells (X := X) hf1) fun m M ⟨_, _, hC⟩ => Tells.bind1 (lenSl_tells hf1) fun n hn => ?_)
  simp only [and'_eq, Bool.and_eq_true, ble_iff, beq_iff] at hc
  have hu := elem_slice hX hc.2
  have hso : ∀ w, (sizeOf (elemT X t)).run X.P w = .ok (szT X (elemT X t)) w := fun w => run_size' hX hc.1 w
  rw [sel_min']
  refine Tells.frc (Tells.ite (fun h0 => Tells.pure ⟨(Grow.refl hf1).toALe, fun I σ w A hI hS hF hA hB => ?_⟩) fun h0 => Tells.frc (Tells.bind1 (layRow_tells (X := X) hf1) fun H' ⟨hale, hl⟩ => Tells.frcK ⟨hale, fun I σ w A hI hS hF hA hB => ?_⟩))
  all_goals
    obtain ⟨a0, a1⟩ := hargs A.eval
    obtain ⟨cs, hb⟩ := run_builtin (P := X.P) ho A w
  · have h0' := beq_iff.1 h0
    obtain ⟨hlen, hcs⟩ := hC I σ _ w hI hB hS
    obtain ⟨cells, c1, c2, c3⟩ := hcs 0 (Nat.zero_le _)
    have hcells : cells = #[] := Array.size_eq_zero_iff.1 (by rw [c2, Nat.zero_mul])
    subst hcells
    have fin : ∀ p cap, A.eval (nth xs 0) = .slice p n cap → OpDo X.P o A w fun v w' => ∃ σ', After σ I H1 n1 w σ' H1 n1 w' ∧ VR σ' I (intC 0) v := fun p cap e => by
      refine .value (v := goInt (0 : Nat)) (w' := w) ?_ ⟨σ, .grow hS (Grow.refl hf1), (cra_int (by omega)).toVR⟩
      rw [hb]
      refine value_of ?_
      have hm : Nat.min m n = 0 := h0'
      cases p with
      | none => simp [Builtin.copy_, ht, a0, a1, e, run_underlying hu, hlen, hso, hm, c1]
      | some p => simp [Builtin.copy_, ht, a0, a1, e, run_underlying hu, hlen, hso, hm, c1, store_none]
    rcases hn I σ _ hI hA with ⟨e1, p, cap, e2⟩ | ⟨e1, e2⟩
    · subst e1; exact fin p cap e2
    · obtain ⟨e, cap, hs⟩ := isSl_inv hA e1
      subst e2; exact fin _ _ hs.val
  · have h0' := beq_false.1 h0
    rcases hn I σ _ (hI.back hale) hA with ⟨e1, p, cap, e2⟩ | ⟨e1, e2⟩
    · subst e1; omega
    · obtain ⟨e, cap, hs⟩ := isSl_inv hA e1
      subst e2
      obtain ⟨hlen, hcs⟩ := hC I σ _ w (hI.back hale) hB hS
      obtain ⟨cells, c1, c2, c3⟩ := hcs (min m (sln a)) (Nat.min_le_left _ _)
      obtain ⟨w', q1, q2⟩ := hl σ I w e cells.toList hS hs.at_ (by simpa using c2) (split_cells c3)
      have hsl := hs.nlt
      refine .value (v := goInt (min m (sln a) : Nat)) (w' := w') ?_ ⟨σ, q2, (cra_int (by omega)).toVR⟩
      rw [hb]
      refine value_of ?_
      have hm : Nat.min m (sln a) = min m (sln a) := rfl
      simp [Builtin.copy_, ht, a0, a1, hs.val, run_underlying hu, hlen, hso, hm, c1, q1]
theorem clear_snd (hX : EnvOk X) (hFo : FormOk X) {xs : Array Operand} {ts : Array TypeId} (ho : o.op = .call { callee := .builtin .clear, args := xs, argTypes := ts }) (hf : Free H nx) :
    Tells (eBuiltin .clear xs ts X call f H nx) (Snd X o f H nx) := by
  show Tells (fun k => withT ts 0 fun t => arg (nth xs 0) f H nx fun a H nx => bClear t a X H nx k) _
  refine Tells.withT fun t ht => snd1n hf fun hargs a H1 n1 hf1 => ?_
  show Tells (fun k => br (.bad 99) (br (br (.bad 97) (frc (fun b => frc (fun n => layRow b (off a) (znT X (elemT X t)) n (rep n (znT X (elemT X t)) (zNT X (elemT X t))) H1 fun H => k 1822247737828079764651510857728 H n1) (sln a)) (blk a)) (isSl a)) (k 1822247737828079764651510857728 H1 n1) (or' (Nat.beq a 1188422437713965063903159255040) (Nat.beq a 1743019575313815427057966907392))) (and' (zokT X (elemT X t)) (Nat.beq (kindT X t) 15))) _
  refine Tells.ifb fun hc => ?_
  simp only [and'_eq, Bool.and_eq_true, beq_iff] at hc
  obtain ⟨hz, hk⟩ := hc
  have hu := elem_slice hX hk
  obtain ⟨i, v, z1, z2, z3, z4, z5, z6, z7⟩ := szn hX hFo hz
  have hzv : ∀ w, (zeroValue (elemT X t)).run X.P w = .ok v w := fun w => run_zero z1 z2 w
  refine Tells.ite (fun hn => Tells.pure ⟨(Grow.refl hf1).toALe, fun I σ w A hI hS hF hA => ?_⟩) fun hn => Tells.ifb fun hsl => Tells.frc (Tells.frc (Tells.bind1 (layRow_tells (X := X) hf1) fun H' ⟨hale, hl⟩ => Tells.pure ⟨hale, fun I σ w A hI hS hF hA => ?_⟩))
  · rw [or'_eq, Bool.or_eq_true, beq_iff, beq_iff] at hn
    obtain ⟨p, cap, e, _⟩ := sl_nil hn hA
    have a0 := hargs A.eval
    obtain ⟨cs, hb⟩ := run_builtin (P := X.P) ho A w
    refine .value (v := .tuple #[]) (w' := w) ?_ ⟨σ, .grow hS (Grow.refl hf1), vr_undef⟩
    rw [hb]
    refine value_of ?_
    cases p <;> simp [Builtin.clear_, ht, a0, e, run_underlying hu]
  · obtain ⟨e, cap, hs⟩ := isSl_inv hA hsl
    have hall := rep_all (σ := σ) (I := I) (v := v) (n := sln a) z7 (z := v.cells) (fun _ => rfl)
    obtain ⟨w', q1, q2⟩ := hl σ I w e (Builtin.zeroCells v.cells (sln a)).toList hS hs.at_ (by rw [z5]; simp [Builtin.zeroCells]) (split_cells (fun j hj => by rw [z5, z6]; exact hall.2 j hj))
    have a0 := hargs A.eval
    obtain ⟨cs, hb⟩ := run_builtin (P := X.P) ho A w
    refine .value (v := .tuple #[]) (w' := w') ?_ ⟨σ, q2, vr_undef⟩
    rw [hb]
    refine value_of ?_
    by_cases h0 : sln a = 0
    · rw [h0] at q1
      have hzz : (Builtin.zeroCells v.cells 0).toList = [] := by simp [Builtin.zeroCells]
      rw [hzz] at q1
      rw [store_none] at q1; injection q1 with _ q1; subst q1
      simp [Builtin.clear_, ht, a0, hs.val, h0, run_underlying hu]
    · have : ∃ n, sln a = n + 1 := ⟨sln a - 1, by omega⟩
      obtain ⟨n, hn'⟩ := this
      rw [hn'] at q1
      simp [Builtin.clear_, ht, a0, hs.val, hn', run_underlying hu, hzv, q1]
end Go.Ev
set_option linter.unusedVariables false
set_option linter.unusedSimpArgs false
namespace Go.Ev
variable {X : Env} {o : Oper} {f : FR} {H : HT} {nx : Nat} {call : CallT}

/-! ### Channels, one goroutine -/
theorem OpDo.comm {P : Program} {o : Oper} {a : Act} {w w1 w' : World} {v : Value} {cases : Array CommCase} {blocking : Bool} {shape : CommShape} {Q : Value → World → Prop} (h : (execOp a.eval o).run P w = .ok (.comm cases blocking shape) w1)
    (hs : ∀ fr cs es, stepG P true (Conc.G fr cs) w = .comm (Conc.G fr cs) cases blocking shape w1 es → step P (Conc.solo (Conc.G fr cs) w) = .next (Conc.solo (Conc.G (fr.finish v) cs) w')) (hq : Q v w') : OpDo P o a w Q := by
  intro b ops i rest k cs ho hw
  have hg := stepG_op (P := P) (b := b) (k := k) (cs := cs) (w := w) (rest := rest) ho hw
  have h2 : ∃ es, stepG P true (Conc.G (b.at a (.inRegion ops (i :: rest) :: k)) cs) w = .comm (Conc.G (b.at a (.inRegion ops (i :: rest) :: k)) cs) cases blocking shape w1 es := by
    show ∃ es, stepG P true { frame := b.at a (.inRegion ops (i :: rest) :: k), callers := cs, status := .running, dying := none } w = _
    rw [hg]
    simp only [stepG.apply, h, Conc.G]
    simp [h]
    exact ⟨_, rfl⟩
  obtain ⟨es, h2⟩ := h2
  refine ⟨v, w', hq, .one ?_⟩
  rw [← finish_op ho]
  exact hs _ _ _ h2
theorem chan_put {σ : Sig} {I : Imm} {H H' : HT} {nx b cap n N n0 N0 : Nat} {w : World} {e : SE} {buf buf0 : Array Value} {s r s0 r0 : Nat} (h : SRel σ I H nx w) (hf : Free H nx) (he : σ b = some e) (hg : get H b = .chan cap n0 N0)
    (hcl : cap < 4294967296) (hset : b < nx → get H' b = .chan cap n N ∧ (∀ j, j < 262144 → j ≠ b → get H' j = get H j) ∧ ∀ σ, (∃ e, σ b = some e) → AFr σ nx H H') (hob : w.heap[e.B]? = some (.chan cap buf0 false s0 r0 false))
    (h1 : buf.size = n) (h2 : N < 2 ^ (128 * (n + 1))) (h3 : ∀ i (h : i < buf.size), CRa σ I (dig N (i + 1)) buf[i]) :
    After σ I H nx w σ H' nx (w.setChan e.B cap buf false s r false) := by
  obtain ⟨q1, q2, q3⟩ := hset (h.dom b e he).1
  obtain ⟨s1, s2⟩ := h.put (ob := .chan cap buf false s r false) hf.1 he (by rw [hg]; simp) q1 q2 hob fun w' hw => .inl ⟨hcl, buf, s, r, hw, h1, h2, h3⟩
  exact ⟨SExt.refl _ _ _, s1, s2, q3 σ ⟨e, he⟩⟩
theorem Tells.chanNil {R : Nat → HT → Nat → Prop} {G : K0 → Out} {m : Nat} (h : hi m = 17 → some' m = true → Tells G R) : Tells (fun k => Ev.chanNil m (G k)) R :=
  Tells.ifb fun hc => by rw [and'_eq, Bool.and_eq_true, beq_iff] at hc; exact h hc.1 hc.2
theorem sendK_tells {b cap n N v n0 N0 : Nat} (hf : Free H nx) (hg : get H b = .chan cap n0 N0) : Tells1 (sendK b cap n N v H) fun H' => valOk v = true ∧ ALe H nx H' nx ∧ ∃ N', N' = Nat.add N (Nat.shiftLeft v (Nat.shiftLeft (n + 1) 7)) ∧
    (b < nx → get H' b = .chan cap (n + 1) N' ∧ (∀ j, j < 262144 → j ≠ b → get H' j = get H j) ∧ ∀ σ, (∃ e, σ b = some e) → AFr σ nx H H') := by
  show Tells1 (fun k => br (.bad 111) (frc (fun n' => frc (fun N => set H (.chan cap n' N) b k) (Nat.add N (Nat.shiftLeft v (Nat.shiftLeft n' 7)))) (Nat.succ n)) (valOk v)) _
  refine Tells1.ifb fun hv => Tells1.frc (F := fun n' k => frc (fun N => set H (.chan cap n' N) b k) (Nat.add N (Nat.shiftLeft v (Nat.shiftLeft n' 7)))) (Tells1.frc (F := fun N k => set H (.chan cap (Nat.succ n) N) b k) ?_)
  exact (set_tells hf (by rw [hg]; exact id) (by rw [hg]; simp) (fun h => by cases h)).mono fun H' ⟨h1, h2⟩ => ⟨hv, h1, _, rfl, h2⟩
theorem recvK_tells {b cap n N n0 N0 : Nat} (hf : Free H nx) (hg : get H b = .chan cap n0 N0) : Tells2 (recvK b cap n N H) fun v H' => v = dig N 1 ∧ ALe H nx H' nx ∧
    (b < nx → get H' b = .chan cap (Nat.pred n) (Nat.shiftLeft (Nat.shiftRight N 256) 128) ∧ (∀ j, j < 262144 → j ≠ b → get H' j = get H j) ∧ ∀ σ, (∃ e, σ b = some e) → AFr σ nx H H') := by
  intro k
  have e : recvK b cap n N H k = set H (.chan cap (Nat.pred n) (Nat.shiftLeft (Nat.shiftRight N 256) 128)) b fun H => k (dig N 1) H := by
    unfold recvK
    rw [frc_eq, frc_eq, frc_eq]
  rw [e]
  rcases set_tells (x := .chan cap (Nat.pred n) (Nat.shiftLeft (Nat.shiftRight N 256) 128)) hf (by rw [hg]; exact id) (by rw [hg]; simp) (fun h => by cases h) (fun h => h) (fun H => k (dig N 1) H) with hb | ⟨H', e', h1, h2⟩
  · exact .inl hb
  · exact .inr ⟨_, H', e', rfl, h1, h2⟩
theorem recv_bound {N n : Nat} (h : N < 2 ^ (128 * (n + 1))) (hn : n ≠ 0) : Nat.shiftLeft (Nat.shiftRight N 256) 128 < 2 ^ (128 * (Nat.pred n + 1)) := by
  obtain ⟨m, rfl⟩ : ∃ m, n = m + 1 := ⟨n - 1, by omega⟩
  show (N >>> 256) <<< 128 < 2 ^ (128 * (m + 1))
  rw [Nat.shiftLeft_eq, Nat.shiftRight_eq_div_pow]
  have e1 : (2 : Nat) ^ (128 * (m + 1 + 1)) = 2 ^ 256 * 2 ^ (128 * m) := by rw [← Nat.pow_add]; congr 1; omega
  have e2 : (2 : Nat) ^ (128 * (m + 1)) = 2 ^ (128 * m) * 2 ^ 128 := by rw [← Nat.pow_add]; congr 1
  rw [e1] at h
  rw [e2]
  have : N / 2 ^ 256 < 2 ^ (128 * m) := Nat.div_lt_of_lt_mul h
  exact (Nat.mul_lt_mul_right (by decide)).2 this
theorem recv_dig (N i : Nat) : dig (Nat.shiftLeft (Nat.shiftRight N 256) 128) (i + 1) = dig N (i + 1 + 1) := by
  show dig ((N >>> 256) <<< 128) (i + 1) = _
  rw [dig_shl, show (256 : Nat) = 128 + 128 from rfl, Nat.shiftRight_add, dig_shr, dig_shr]
theorem tup3_num (a b c : Nat) : Nat.add (Nat.shiftLeft a 128) (Nat.add (Nat.shiftLeft b 256) (Nat.shiftLeft c 384)) = packL [0, a, b, c] := by
  show a <<< 128 + (b <<< 256 + c <<< 384) = _
  rw [Nat.shiftLeft_eq, Nat.shiftLeft_eq, Nat.shiftLeft_eq]
  simp only [packL]
  omega
theorem tup2_num (a b : Nat) : Nat.add (Nat.shiftLeft a 128) (Nat.shiftLeft b 256) = packL [0, a, b] := by
  show a <<< 128 + b <<< 256 = _
  rw [Nat.shiftLeft_eq, Nat.shiftLeft_eq]
  simp only [packL]
  omega
theorem tup3_tells {a b c : Nat} (hf : Free H nx) : Tells (newTup 3 (Nat.add (Nat.shiftLeft a 128) (Nat.add (Nat.shiftLeft b 256) (Nat.shiftLeft c 384))) H nx) fun c' H' nx' => Grow H nx H' nx' ∧ ∀ (I : Imm) (σ : Sig) va vb vc, Holds I H' nx' → CRa σ I a va → CRa σ I b vb → CRa σ I c vc → CRv σ I c' (.tuple #[va, vb, vc]) :=
  (newTup_tells hf).mono fun c' H' nx' ⟨g, h⟩ => ⟨g, fun I σ va vb vc hI ha hb hc => h I σ #[va, vb, vc] hI rfl fun i hi => by
    have h3 : i = 0 ∨ i = 1 ∨ i = 2 := by have : i < 3 := hi; omega
    rw [tup3_num, dig_packL _ _ (fun x hx => by
      simp only [List.mem_cons, List.not_mem_nil, or_false] at hx
      rcases hx with rfl | rfl | rfl | rfl
      · decide
      · exact ha.lt
      · exact hb.lt
      · exact hc.lt)]
    rcases h3 with rfl | rfl | rfl
    · exact ha
    · exact hb
    · exact hc⟩
theorem send_snd {c x : Operand} (ho : o.op = .send c x) (hf : Free H nx) : Tells (eSend c x X call f H nx) (Snd X o f H nx) := by
  refine snd2 hf fun cc v H1 n1 hf1 => Tells.chanNil fun h17 hs => Tells.frc (Tells.chanK fun cap n N hg hcl => Tells.ifb fun hlt => Tells.bind1 (sendK_tells hf1 hg) fun H' ⟨hv, hale, N', hN', hset⟩ => Tells.pure ⟨hale, fun I σ w A hI hS hF hA hB => ?_⟩)
  obtain ⟨e, he, hcv⟩ := chan_at hA h17 hs
  have hob := hS.obj _ e he
  rw [hg] at hob
  obtain ⟨buf, s, r, q1, q2, q4, q3⟩ := hob.chan hcl
  have hB' := valOk_cra hv hB
  have hlt128 : v < 2 ^ 128 := hB'.lt
  have haf := chan_put (buf := buf.push (A.eval x)) (s := s + 1) (r := r) hS hf1 he hg hcl hset q1 (by simp [q2]) (by rw [hN']; exact topk_lt q4 hlt128) (fun i hi => by
    rw [hN', dig_top q4 hlt128]
    by_cases hin : i < n
    · rw [if_neg (by omega), if_pos (by omega), Array.getElem_push_lt (by omega)]
      exact q3 i (by omega)
    · have : i = buf.size := by simp at hi; omega
      subst this
      rw [if_pos (by omega), Array.getElem_push_eq]
      exact hB')
  refine OpDo.comm (w1 := w) (cases := #[Conc.scase e.B (A.eval x) (.tuple #[])]) (blocking := true) (shape := .send) ?_ (fun fr cs es h => Conc.step_lone_send_room h q1 (by have := blt_iff.1 hlt; omega)) ⟨σ, haf, vr_undef⟩
  simp only [execOp, ho, hcv, pure, Sem.run]; rfl
theorem recv_snd (hX : EnvOk X) {t : TypeId} {c : Operand} {ok : Bool} (ho : o.op = .recv t c ok) (hf : Free H nx) : Tells (eRecv t c ok X call f H nx) (Snd X o f H nx) := by
  refine snd1 hf fun cc H1 n1 hf1 => Tells.chanNil fun h17 hs => Tells.ifb fun hkz => Tells.frc (Tells.chanK fun cap n N hg hcl => Tells.ite (fun h0 => Tells.bad) fun h0 => Tells.bind2 (recvK_tells hf1 hg) fun v H2 ⟨hv, hale, hset⟩ => (okK_tells (e := true) hale.free).mono fun c' H' nx' ⟨g, hok⟩ => ⟨hale.trans g.toALe, fun I σ w A hI hS hF hA => ?_⟩)
  simp only [and'_eq, Bool.and_eq_true, beq_iff] at hkz
  obtain ⟨dd, el, hu⟩ : ∃ d e, X.P.underlying t = some (.chan d e) := kind_eq hX hkz.1
  have hel : elemT X t = el := by show (X.ty t).elem = _; rw [hX.ty]; simp only [tyOf, hu]
  obtain ⟨i, z, z1, z2, _⟩ := zok_def hX hkz.2
  rw [hel] at z1
  obtain ⟨e, he, hcv⟩ := chan_at hA h17 hs
  have hob := hS.obj _ e he
  rw [hg] at hob
  obtain ⟨buf, s, r, q1, q2, q4, q3⟩ := hob.chan hcl
  have hn0 := beq_false.1 h0
  have hb0 : 0 < buf.size := by omega
  have haf := chan_put (buf := buf.extract 1 buf.size) (s := s) (r := r + 1) hS hf1 he hg hcl hset q1 (by simp [q2]) (recv_bound q4 hn0) (fun i hi => by
    rw [recv_dig]
    have hi' : i + 1 < buf.size := by simp at hi; omega
    have := q3 (i + 1) hi'
    simpa [Nat.add_comm] using this)
  have h0v : CRa σ I v buf[0] := by rw [hv]; exact q3 0 hb0
  have hgd : buf.getD 0 undef = buf[0] := by simp [Array.getD_eq_getD_getElem?, hb0]
  refine OpDo.comm (w1 := w) (cases := #[Conc.rcase e.B z]) (blocking := true) (shape := .recv ok) ?_ (fun fr cs es h => Conc.step_lone_recv_buf ok h q1 hb0) ⟨σ, haf.trans (After.grow haf.rel g) (Nat.le_refl _) (fun b e hb => (hS.dom b e hb).1), ?_⟩
  · simp only [execOp, ho, hcv, Sem.run_bind, run_underlying hu, Result.andThen_ok, run_zero z1 z2, pure, Sem.run]; rfl
  · rw [hgd]
    have := hok I σ buf[0] hI h0v
    cases ok <;> exact this

/-! ### Select, one case and a default -/
theorem sel_def (hX : EnvOk X) {cs : Array SelectCase} {b : Bool} : (∃ s, cs = #[s] ∧ b = false) ∨ eSelect cs b = no0 := by
  obtain ⟨l⟩ := cs
  unfold eSelect
  match l, b with
  | [s], false => exact .inl ⟨s, rfl, rfl⟩
  | [], false => exact .inr rfl
  | _ :: _ :: _, false => exact .inr rfl
  | [], true => exact .inr rfl
  | [_], true => exact .inr rfl
  | _ :: _ :: _, true => exact .inr rfl
theorem cra_neg {σ : Sig} {I : Imm} : CRa σ I (intC 18446744073709551615) (goInt (-1)) := CRp.toA (crp_int' (k := .i64) (by decide) (by decide) (by decide))
theorem run_select {P : Program} {s : SelectCase} {A : Act} {z : Value} {w : World} (ho : o.op = .select #[s] false) (hz : ∀ w, (zeroValue s.elem).run P w = .ok z w) :
    (execOp A.eval o).run P w = .ok (.comm #[{ chan := A.eval s.chan, send := s.send.map A.eval, zero := z }] false .select) w := by
  simp [execOp, ho, hz]
theorem res_recv {c : Nat} {z v : Value} : commResult #[Conc.rcase c z] .select ((0 : Nat) : Int) v true = .tuple #[goInt 0, .bool true, v] := by simp [commResult, Conc.rcase]
theorem res_send {c : Nat} {z v : Value} {k : Int} : commResult #[Conc.scase c v z] .select k undef false = .tuple #[goInt k, .bool false] := by simp [commResult, Conc.scase]
theorem select_snd (hX : EnvOk X) {cs : Array SelectCase} {b : Bool} (ho : o.op = .select cs b) (hf : Free H nx) : Tells (eSelect cs b X call f H nx) (Snd X o f H nx) := by
  rcases sel_def (cs := cs) (b := b) hX with ⟨s, rfl, rfl⟩ | e
  · cases hs : s.send with
    | none =>
      show Tells ((match s.send with | none => selRecv s.chan s.elem | some v => selSend s.chan v s.elem) X call f H nx) _
      rw [hs]
      refine snd1 hf fun cc H1 n1 hf1 => Tells.chanNil fun h17 hs17 => Tells.bind (zeroC_tells hf1) fun z H2 n2 ⟨g1, zv, hz, hzv⟩ => Tells.frc ?_
      refine Tells.chanK fun cap n N hg hcl => Tells.ite (fun h0 => (tup3_tells g1.free).mono fun c' H' nx' ⟨g, hok⟩ => ⟨(g1.trans g).toALe, fun I σ w A hI hS hF hA => ?_⟩) fun h0 => Tells.bind2 (recvK_tells g1.free hg) fun v H3 ⟨hv, hale, hset⟩ => (tup3_tells hale.free).mono fun c' H' nx' ⟨g, hok⟩ => ⟨(g1.toALe.trans hale).trans g.toALe, fun I σ w A hI hS hF hA => ?_⟩
      · obtain ⟨e, he, hcv⟩ := chan_at hA h17 hs17
        have hS1 := hS.grow g1
        have hob := hS1.obj _ e he
        rw [hg] at hob
        obtain ⟨buf, s', r, q1, q2, q4, q3⟩ := hob.chan hcl
        have hb0 : buf = #[] := Array.size_eq_zero_iff.1 (by rw [q2]; exact beq_iff.1 h0)
        subst hb0
        refine OpDo.comm (w1 := w) (cases := #[Conc.rcase e.B zv]) (blocking := false) (shape := .select) ?_ (fun fr cs es h => Conc.step_lone_select_default h q1) ⟨σ, .grow hS (g1.trans g), .inr (.inr (hok I σ _ _ _ hI cra_neg (cra_bool false) (hzv I σ (hI.back g.toALe))))⟩
        rw [run_select ho hz, hcv, hs]; rfl
      · obtain ⟨e, he, hcv⟩ := chan_at hA h17 hs17
        have hS1 := hS.grow g1
        have hob := hS1.obj _ e he
        rw [hg] at hob
        obtain ⟨buf, s', r, q1, q2, q4, q3⟩ := hob.chan hcl
        have hn0 := beq_false.1 h0
        have hb0 : 0 < buf.size := by omega
        have haf := chan_put (buf := buf.extract 1 buf.size) (s := s') (r := r + 1) hS1 g1.free he hg hcl hset q1 (by simp [q2]) (recv_bound q4 hn0) (fun i hi => by
          rw [recv_dig]
          have hi' : i + 1 < buf.size := by simp at hi; omega
          have := q3 (i + 1) hi'
          simpa [Nat.add_comm] using this)
        have h0v : CRa σ I v buf[0] := by rw [hv]; exact q3 0 hb0
        have hgd : buf.getD 0 undef = buf[0] := by simp [Array.getD_eq_getD_getElem?, hb0]
        have haf2 := (After.grow hS g1).trans haf g1.le fun b e hb => (hS.dom b e hb).1
        have haf3 := haf2.trans (After.grow haf2.rel g) g1.le fun b e hb => (hS.dom b e hb).1
        refine OpDo.comm (w1 := w) (cases := #[Conc.rcase e.B zv]) (blocking := false) (shape := .select) ?_ (fun fr cs es h => Conc.step_lone_sel_recv_buf (k := 0) h rfl (fun m c' hm hc' => by
          have : m < 1 := by have := (Array.getElem?_eq_some_iff.1 hc').1; simpa using this
          omega) q1 hb0) ⟨σ, haf3, ?_⟩
        · rw [run_select ho hz, hcv, hs]; rfl
        · rw [hgd]
          rw [res_recv]
          exact .inr (.inr (hok I σ (goInt 0) (.bool true) _ hI (cra_int (n := 0) (by omega)) (cra_bool true) h0v))
    | some vo =>
      show Tells ((match s.send with | none => selRecv s.chan s.elem | some v => selSend s.chan v s.elem) X call f H nx) _
      rw [hs]
      refine snd2 hf fun cc v H1 n1 hf1 => Tells.chanNil fun h17 hs17 => Tells.bind (zeroC_tells hf1) fun z H2 n2 ⟨g1, zv, hz, hzv⟩ => Tells.frc ?_
      refine Tells.chanK fun cap n N hg hcl => Tells.ite (fun hlt => Tells.bind1 (sendK_tells g1.free hg) fun H3 ⟨hv, hale, N', hN', hset⟩ => (pair_tells hale.free).mono fun c' H' nx' ⟨g, hok⟩ => ⟨(g1.toALe.trans hale).trans g.toALe, fun I σ w A hI hS hF hA hB => ?_⟩) fun hlt => (pair_tells g1.free).mono fun c' H' nx' ⟨g, hok⟩ => ⟨(g1.trans g).toALe, fun I σ w A hI hS hF hA hB => ?_⟩
      · obtain ⟨e, he, hcv⟩ := chan_at hA h17 hs17
        have hS1 := hS.grow g1
        have hob := hS1.obj _ e he
        rw [hg] at hob
        obtain ⟨buf, s', r, q1, q2, q4, q3⟩ := hob.chan hcl
        have hB' := valOk_cra hv hB
        have hlt128 : v < 2 ^ 128 := hB'.lt
        have haf := chan_put (buf := buf.push (A.eval vo)) (s := s' + 1) (r := r) hS1 g1.free he hg hcl hset q1 (by simp [q2]) (by rw [hN']; exact topk_lt q4 hlt128) (fun i hi => by
          rw [hN', dig_top q4 hlt128]
          by_cases hin : i < n
          · rw [if_neg (by omega), if_pos (by omega), Array.getElem_push_lt (by omega)]
            exact q3 i (by omega)
          · have : i = buf.size := by simp at hi; omega
            subst this
            rw [if_pos (by omega), Array.getElem_push_eq]
            exact hB')
        have haf2 := (After.grow hS g1).trans haf g1.le fun b e hb => (hS.dom b e hb).1
        have haf3 := haf2.trans (After.grow haf2.rel g) g1.le fun b e hb => (hS.dom b e hb).1
        refine OpDo.comm (w1 := w) (cases := #[Conc.scase e.B (A.eval vo) zv]) (blocking := false) (shape := .select) ?_ (fun fr cs es h => Conc.step_lone_sel_send_room (k := 0) h rfl (fun m c' hm hc' => by
          have : m < 1 := by have := (Array.getElem?_eq_some_iff.1 hc').1; simpa using this
          omega) q1 (by have := blt_iff.1 hlt; omega)) ⟨σ, haf3, ?_⟩
        · rw [run_select ho hz, hcv, hs]; rfl
        · rw [res_send]
          exact .inr (.inr (hok I σ (goInt 0) (.bool false) hI (cra_int (n := 0) (by omega)) (cra_bool false)))
      · obtain ⟨e, he, hcv⟩ := chan_at hA h17 hs17
        have hS1 := hS.grow g1
        have hob := hS1.obj _ e he
        rw [hg] at hob
        obtain ⟨buf, s', r, q1, q2, q4, q3⟩ := hob.chan hcl
        refine OpDo.comm (w1 := w) (cases := #[Conc.scase e.B (A.eval vo) zv]) (blocking := false) (shape := .select) ?_ (fun fr cs es h => Conc.step_lone_sel_default h (fun cc hcc => by
          simp at hcc; subst hcc
          exact Conc.noWay_send q1 (by have := blt_false.1 hlt; omega))) ⟨σ, .grow hS (g1.trans g), ?_⟩
        · rw [run_select ho hz, hcv, hs]; rfl
        · rw [res_send]
          exact .inr (.inr (hok I σ (goInt (-1)) (.bool false) hI cra_neg (cra_bool false)))
  · rw [e]; exact Tells.bad
end Go.Ev
set_option linter.unusedVariables false
set_option linter.unusedSimpArgs false
namespace Go.Ev
variable {X : Env} {o : Oper} {f : FR} {H : HT} {nx : Nat} {call : CallT}

/-! ### Calls -/
/-- whatever operation calls g with these arguments -/
def CallDo (P : Program) (g : FuncId) (args : Array Value) (w : World) (Q : Value → World → Prop) : Prop := ∀ (o : Oper) (a : Act), (execOp a.eval o).run P w = (callFunc g args).run P w → OpDo P o a w Q
def ArgsR (σ : Sig) (I : Imm) (F : Nat) (args : Array Value) : Prop := F < 2 ^ (128 * (args.size + 1)) ∧ (dig F 0 = 0 ∨ (dig F 0 = cntA args.size ∧ args.size ≤ 255)) ∧ ∀ i (h : i < args.size), VR σ I (dig F (i + 1)) args[i]
def CalR (X : Env) (g F : Nat) (H : HT) (nx : Nat) (c : Nat) (H' : HT) (nx' : Nat) : Prop := ALe H nx H' nx' ∧ ∀ (I : Imm) (σ : Sig) (w : World) (args : Array Value), Holds I H' nx' → SRel σ I H nx w → ArgsR σ I F args →
  CallDo X.P g args w fun v w' => ∃ σ', After σ I H nx w σ' H' nx' w' ∧ VR σ' I c v
def CallOk (X : Env) (call : CallT) : Prop := ∀ g F H nx, Free H nx → Tells (call g F H nx) (CalR X g F H nx)
theorem low1_id {N : Nat} (h : dig N 0 = 0) : low1 N = N := by
  rw [dig_def] at h
  simp only [Nat.mul_zero, Nat.shiftRight_zero] at h
  show (N >>> 128) <<< 128 = N
  rw [Nat.shiftLeft_eq, Nat.shiftRight_eq_div_pow]
  omega
/-- digits set beside one another -/
theorem dig_two {A B n i : Nat} (hA : A < 2 ^ (128 * (n + 1))) (hB : dig B 0 = 0) : dig (Nat.add A (Nat.shiftLeft B (Nat.shiftLeft n 7))) (i + 1) = if i < n then dig A (i + 1) else dig B (i - n + 1) := by
  have h := dig_join (n := n) (s := 1) (N := A) (M := B) (i := i) (by rw [Nat.mul_one]; exact hA)
  unfold join at h
  rw [low1_id hB, show Nat.mul n 1 = n from Nat.mul_one n] at h
  simpa using h
theorem two_lt {A B n m : Nat} (hA : A < 2 ^ (128 * (n + 1))) (hB : dig B 0 = 0) (hB2 : B < 2 ^ (128 * (m + 1))) : Nat.add A (Nat.shiftLeft B (Nat.shiftLeft n 7)) < 2 ^ (128 * (n + m + 1)) := by
  have e : B = (B >>> 128) * 2 ^ 128 := by
    have := low1_id hB
    have e2 : low1 B = (B >>> 128) <<< 128 := rfl
    rw [e2, Nat.shiftLeft_eq] at this
    exact this.symm
  have h2 : B >>> 128 < 2 ^ (128 * m) := by
    rw [Nat.shiftRight_eq_div_pow]
    refine Nat.div_lt_of_lt_mul ?_
    rw [← Nat.pow_add, show 128 + 128 * m = 128 * (m + 1) by omega]; exact hB2
  show A + B <<< (n <<< 7) < _
  rw [Nat.shiftLeft_eq, Nat.shiftLeft_eq, e, show n * 2 ^ 7 = 128 * n by omega, Nat.mul_assoc, ← Nat.pow_add, show 128 + 128 * n = 128 * (n + 1) by omega]
  generalize B >>> 128 = q at h2
  have h3 : (q + 1) * 2 ^ (128 * (n + 1)) ≤ 2 ^ (128 * m) * 2 ^ (128 * (n + 1)) := Nat.mul_le_mul_right _ h2
  rw [← Nat.pow_add, show 128 * m + 128 * (n + 1) = 128 * (n + m + 1) by omega, Nat.add_mul] at h3
  omega
theorem two_zero {A B n : Nat} (hA : dig A 0 = 0) (hA2 : A < 2 ^ (128 * (n + 1))) (hB : dig B 0 = 0) : dig (Nat.add A (Nat.shiftLeft B (Nat.shiftLeft n 7))) 0 = 0 := by
  have eB : B = (B >>> 128) * 2 ^ 128 := by
    have := low1_id hB
    have e2 : low1 B = (B >>> 128) <<< 128 := rfl
    rw [e2, Nat.shiftLeft_eq] at this
    exact this.symm
  have eA : A = (A >>> 128) * 2 ^ 128 := by
    have := low1_id hA
    have e2 : low1 A = (A >>> 128) <<< 128 := rfl
    rw [e2, Nat.shiftLeft_eq] at this
    exact this.symm
  rw [dig_def]
  simp only [Nat.mul_zero, Nat.shiftRight_zero]
  show (A + B <<< (n <<< 7)) % 2 ^ 128 = 0
  rw [Nat.shiftLeft_eq, eA, eB, Nat.mul_right_comm, ← Nat.add_mul]
  exact Nat.mul_mod_left _ _
theorem low1_zero (N : Nat) : dig (low1 N) 0 = 0 := by
  rw [dig_def]
  show ((N >>> 128) <<< 128) >>> (128 * 0) % _ = 0
  rw [Nat.mul_zero, Nat.shiftRight_zero, Nat.shiftLeft_eq]
  exact Nat.mul_mod_left _ _
theorem low1_le (N : Nat) : low1 N ≤ N := by
  show (N >>> 128) <<< 128 ≤ N
  rw [Nat.shiftLeft_eq, Nat.shiftRight_eq_div_pow]; exact Nat.div_mul_le_self _ _
theorem addlow {N s n : Nat} (h0 : dig N 0 = 0) (hs : s < 2 ^ 128) (hN : N < 2 ^ (128 * (n + 1))) : dig (Nat.add N s) 0 = s ∧ (∀ i, dig (Nat.add N s) (i + 1) = dig N (i + 1)) ∧ Nat.add N s < 2 ^ (128 * (n + 1)) := by
  have e : N = (N >>> 128) * 2 ^ 128 := by
    have := low1_id h0
    have e2 : low1 N = (N >>> 128) <<< 128 := rfl
    rw [e2, Nat.shiftLeft_eq] at this
    exact this.symm
  have hq : N >>> 128 < 2 ^ (128 * n) := by
    rw [Nat.shiftRight_eq_div_pow]
    refine Nat.div_lt_of_lt_mul ?_
    rw [← Nat.pow_add, show 128 + 128 * n = 128 * (n + 1) by omega]; exact hN
  generalize N >>> 128 = q at e hq
  subst e
  have hd : (q * 2 ^ 128 + s) / 2 ^ 128 = q := by rw [Nat.mul_comm, Nat.mul_add_div (by decide), Nat.div_eq_of_lt hs, Nat.add_zero]
  have hd2 : (q * 2 ^ 128) / 2 ^ 128 = q := Nat.mul_div_cancel _ (by decide)
  refine ⟨?_, fun i => ?_, ?_⟩
  · rw [dig_def]
    show (q * 2 ^ 128 + s) >>> (128 * 0) % _ = s
    rw [Nat.mul_zero, Nat.shiftRight_zero, Nat.mul_comm, Nat.mul_add_mod, Nat.mod_eq_of_lt hs]
  · rw [dig_def, dig_def]
    show (q * 2 ^ 128 + s) >>> (128 * (i + 1)) % _ = _
    rw [show 128 * (i + 1) = 128 + 128 * i by omega, Nat.shiftRight_add, Nat.shiftRight_add, Nat.shiftRight_eq_div_pow (q * 2 ^ 128 + s) 128, Nat.shiftRight_eq_div_pow (q * 2 ^ 128) 128, hd, hd2]
  · show q * 2 ^ 128 + s < _
    have h3 : (q + 1) * 2 ^ 128 ≤ 2 ^ (128 * n) * 2 ^ 128 := Nat.mul_le_mul_right _ hq
    rw [← Nat.pow_add, show 128 * n + 128 = 128 * (n + 1) by omega, Nat.add_mul, Nat.one_mul] at h3
    exact Nat.lt_of_lt_of_le (Nat.add_lt_add_left hs _) h3
theorem pack_args0 {σ : Sig} {I : Imm} {A : Act} {xs : Array Operand} {N : Nat} (h1 : N < 2 ^ (128 * (1 + xs.toList.length))) (h2 : dig N 0 = 0) (h3 : ∀ i (h : i < xs.toList.length), VR σ I (dig N (1 + i)) (A.eval xs.toList[i])) : ArgsR σ I N (xs.map A.eval) := by
  refine ⟨?_, .inl h2, fun i hi => ?_⟩
  · rw [Nat.add_comm 1] at h1
    simpa using h1
  · have hi' : i < xs.size := by simpa using hi
    have := h3 i (by simpa using hi')
    rw [Nat.add_comm 1 i] at this
    simpa using this
theorem cntA_le {n : Nat} (h : n ≤ 255) : cntA n ≤ 256 := by
  unfold cntA; cases Nat.beq n 0 <;> simp [sel] <;> omega
theorem cntA_inv {n k : Nat} (h : k = cntA n) (hk : k ≠ 256) : n = k := by
  by_cases h0 : n = 0
  · subst h0; exact absurd h hk
  · rw [h]; unfold cntA; rw [beq_false.2 h0]; rfl
theorem cntA_pos {n : Nat} (h : n ≠ 0) : cntA n = n := by
  unfold cntA; rw [beq_false.2 h]; rfl
theorem pack_args {σ : Sig} {I : Imm} {A : Act} {xs : Array Operand} {N : Nat} (h1 : N < 2 ^ (128 * (1 + xs.toList.length))) (h2 : dig N 0 = 0) (hs : xs.size ≤ 255) (h3 : ∀ i (h : i < xs.toList.length), VR σ I (dig N (1 + i)) (A.eval xs.toList[i])) : ArgsR σ I (Nat.add N (cntA xs.size)) (xs.map A.eval) := by
  obtain ⟨a1, _, a3⟩ := pack_args0 (A := A) h1 h2 h3
  obtain ⟨b1, b2, b3⟩ := addlow (s := cntA xs.size) h2 (by have := cntA_le hs; omega) a1
  exact ⟨b3, .inr ⟨by rw [b1]; simp, by simpa using hs⟩, fun i hi => by rw [b2]; exact a3 i hi⟩
theorem resolve_fn {P : Program} {x : Operand} {xs : Array Operand} {ts : Array TypeId} {g : FuncId} {a b : Array Value} (ho : o.op = .call { callee := .value x, args := xs, argTypes := ts }) {A : Act} (hx : A.eval x = .func (.func g) a b) (w : World) :
    (execOp A.eval o).run P w = (callFunc g (a ++ xs.map A.eval ++ b)).run P w := by
  simp only [execOp, ho, resolve, hx, Deferred.ofValue, Sem.run_bind, invoke, pure, Sem.run, Result.andThen_ok]
theorem callF_snd (hc : CallOk X call) {g : FuncId} {xs : Array Operand} {ts : Array TypeId} (ho : o.op = .call { callee := .value (.func g), args := xs, argTypes := ts }) (hf : Free H nx) : Tells (eCallF g xs X call f H nx) (Snd X o f H nx) := by
  show Tells (fun k => packKA f (fun N H nx => br (.bad 119) (frc (fun F => call g F H nx k) (Nat.add N (cntA xs.size))) (Nat.ble xs.size 255)) xs.toList 1 0 H nx) _
  refine Tells.bind (packK_tells xs.toList 1 0 H nx hf) fun N H1 n1 ⟨g1, h1⟩ => Tells.ifb fun h255 => Tells.frc <| (hc g _ H1 n1 g1.free).mono fun c H' nx' ⟨hale, h⟩ => ⟨g1.toALe.trans hale, fun I σ w A hI hS hF => ?_⟩
  obtain ⟨p1, p2, p3⟩ := h1 I σ A (hI.back hale) hF (by decide)
  have := h I σ w (xs.map A.eval) hI (hS.grow g1) (pack_args p1 (by rw [p2 0 (by omega)]; rfl) (ble_iff.1 h255) p3) o A (by
    have := resolve_fn (P := X.P) ho (A := A) (g := g) (a := #[]) (b := #[]) rfl w
    simpa using this)
  refine this.mono fun v w' ⟨σ', ha, hv⟩ => ⟨σ', (After.grow hS g1).trans ha g1.le fun b e hb => (hS.dom b e hb).1, hv⟩
theorem callV_snd (hc : CallOk X call) {x : Operand} {xs : Array Operand} {ts : Array TypeId} (ho : o.op = .call { callee := .value x, args := xs, argTypes := ts }) (hf : Free H nx) : Tells (eCallV x xs X call f H nx) (Snd X o f H nx) := by
  show Tells (fun k => arg x f H nx fun c H nx => packKA f (fun N H nx =>
    br (br (.bad 120)
        (cloObj (fun g n1 N1 n2 N2 => frc (fun F => call g F H nx k) (Nat.add (low1 N1) (Nat.add (Nat.shiftLeft N (Nat.shiftLeft n1 7)) (Nat.shiftLeft N2 (Nat.shiftLeft (Nat.add n1 xs.size) 7))))) (get H (lo c))) (Nat.beq (hi c) 19))
      (frc (fun g => call g N H nx k) (lo c)) (Nat.beq (hi c) 18)) xs.toList 1 0 H nx) _
  refine Tells.bind (arg_tells hf) fun c H1 n1 ⟨g1, hA⟩ => Tells.bind (packK_tells xs.toList 1 0 H1 n1 g1.free) fun N H2 n2 ⟨g2, h1⟩ => Tells.ite (fun h18 => Tells.frc ((hc (lo c) N H2 n2 g2.free).mono fun c' H' nx' ⟨hale, h⟩ => ⟨(g1.trans g2).toALe.trans hale, fun I σ w A hI hS hF => ?_⟩)) fun _ => Tells.ifb fun h19 => ?_
  · obtain ⟨p1, p2, p3⟩ := h1 I σ A (hI.back hale) hF (by decide)
    have h18' := beq_iff.1 h18
    have hp := (hA I σ A (hI.back (g2.toALe.trans hale)) hF).toP (by omega)
    unfold CRp at hp; rw [h18'] at hp
    obtain ⟨gg, hg1, hg2, hg3⟩ := hp
    have hlo : lo c = gg := by rw [lo_def, hg2]; omega
    have := h I σ w (xs.map A.eval) hI (hS.grow (g1.trans g2)) (pack_args0 p1 (by rw [p2 0 (by omega)]; rfl) p3) o A (by
      have := resolve_fn (P := X.P) ho (A := A) hg3 w
      rw [hlo]; simpa using this)
    refine this.mono fun v w' ⟨σ', ha, hv⟩ => ⟨σ', (After.grow hS (g1.trans g2)).trans ha (g1.trans g2).le fun b e hb => (hS.dom b e hb).1, hv⟩
  · intro k
    cases hg : get H2 (lo c) with
    | clo g n1' N1 n2' N2 =>
      refine ((hc g (Nat.add (low1 N1) (Nat.add (Nat.shiftLeft N (Nat.shiftLeft n1' 7)) (Nat.shiftLeft N2 (Nat.shiftLeft (Nat.add n1' xs.size) 7)))) H2 n2 g2.free).mono (R' := Snd X o f H nx) fun c' H' nx' ⟨hale, h⟩ => ⟨(g1.trans g2).toALe.trans hale, fun I σ w A hI hS hF => ?_⟩) k
      obtain ⟨p1, p2, p3⟩ := h1 I σ A (hI.back hale) hF (by decide)
      have h19' := beq_iff.1 h19
      have hs := (hA I σ A (hI.back (g2.toALe.trans hale)) hF).toS (by omega)
      rcases hs with hs | ⟨_, hlt, g', n1'', N1', n2'', N2', a, b, q1, q2, q3, q4, q5, q6, q7, q8, q9⟩
      · exact absurd h19' hs.ne.2
      have hcl := get_of_holds (hI.back hale) g2.free hlt hg trivial
      rw [q1] at hcl
      injection hcl with e1 e2 e3 e4 e5
      subst e1 e2 e3 e4 e5
      have hN0 : dig N 0 = 0 := by rw [p2 0 (by omega)]; rfl
      have hNlt : N < 2 ^ (128 * (xs.size + 1)) := by rw [Nat.add_comm 1] at p1; simpa using p1
      have q5m : ∀ i (h : i < a.size), CRi σ I (dig (low1 N1') (i + 1)) a[i] := fun i h => by rw [dig_low1]; exact q5 i h
      have q7m : low1 N1' < 2 ^ (128 * (n1'' + 1)) := Nat.lt_of_le_of_lt (low1_le _) q7
      have q0m := low1_zero N1'
      generalize low1 N1' = M1 at q5m q7m q0m h
      have hsum : Nat.add M1 (Nat.add (Nat.shiftLeft N (Nat.shiftLeft n1'' 7)) (Nat.shiftLeft N2' (Nat.shiftLeft (Nat.add n1'' xs.size) 7))) = Nat.add M1 (Nat.shiftLeft (Nat.add N (Nat.shiftLeft N2' (Nat.shiftLeft xs.size 7))) (Nat.shiftLeft n1'' 7)) := by
        show M1 + (N <<< (n1'' <<< 7) + N2' <<< ((n1'' + xs.size) <<< 7)) = M1 + (N + N2' <<< (xs.size <<< 7)) <<< (n1'' <<< 7)
        simp only [Nat.shiftLeft_eq, Nat.add_mul, Nat.mul_assoc, ← Nat.pow_add]
        congr 4
        omega
      have hz := two_zero (n := xs.size) hN0 hNlt q9
      have hl2 := two_lt (n := xs.size) (m := n2'') hNlt q9 q8
      have hargs : ArgsR σ I (Nat.add M1 (Nat.add (Nat.shiftLeft N (Nat.shiftLeft n1'' 7)) (Nat.shiftLeft N2' (Nat.shiftLeft (Nat.add n1'' xs.size) 7)))) (a ++ xs.map A.eval ++ b) := by
        rw [hsum]
        refine ⟨?_, .inl (two_zero q0m q7m hz), fun i hi => ?_⟩
        · have := two_lt (n := n1'') (m := xs.size + n2'') q7m hz hl2
          have e : (a ++ xs.map A.eval ++ b).size = n1'' + (xs.size + n2'') := by simp only [Array.size_append, Array.size_map, q3, q4]; omega
          rw [e]; exact this
        · rw [dig_two q7m hz]
          by_cases hi1 : i < n1''
          · rw [if_pos hi1]
            have ha : i < a.size := by omega
            have := q5m i ha
            rw [Array.getElem_append_left (by simp; omega), Array.getElem_append_left ha]
            exact CRs.toV (.inl this)
          · rw [if_neg hi1, dig_two hNlt q9]
            by_cases hi2 : i - n1'' < xs.size
            · rw [if_pos hi2]
              have := p3 (i - n1'') (by simpa using hi2)
              rw [Nat.add_comm 1] at this
              rw [Array.getElem_append_left (by simp; omega), Array.getElem_append_right (by omega)]
              simpa [q3] using this
            · rw [if_neg hi2]
              have hib : i - n1'' - xs.size < b.size := by simp at hi; omega
              have := q6 _ hib
              rw [Array.getElem_append_right (by simp; omega)]
              have e : i - (a ++ xs.map A.eval).size = i - n1'' - xs.size := by simp; omega
              simp only [e]
              exact CRs.toV (.inl this)
      have := h I σ w _ hI (hS.grow (g1.trans g2)) hargs o A (resolve_fn (P := X.P) ho q2 w)
      exact this.mono fun v w' ⟨σ', ha, hv⟩ => ⟨σ', (After.grow hS (g1.trans g2)).trans ha (g1.trans g2).le fun b e hb => (hS.dom b e hb).1, hv⟩
    | _ => exact .inl ⟨121, rfl⟩

/-! ### Calls through an interface -/
theorem meth_def {t : TypeId} {name : String} {g : FuncId} (hX : EnvOk X) (h : methT X t name = some g) : ∃ i m p, X.P.info? t = some i ∧ i.methods.find? (·.name == name) = some m ∧ m.path.toList = [] ∧ m.func = some (g, p) ∧ ((p = true ∧ kindT X t = 14) ∨ (p = false ∧ kindT X t ≠ 14 ∧ kindT X t ≠ 0)) := by
  unfold methT at h
  cases hi : X.P.info? t with
  | none => rw [hi] at h; cases h
  | some i =>
    rw [hi] at h
    simp only at h
    cases hm : i.methods.toList.find? (fun m => m.name == name) with
    | none => rw [hm] at h; cases h
    | some m =>
      rw [hm] at h
      simp only at h
      split at h
      · rename_i hl
        cases hfn : m.func with
        | none => rw [hfn] at h; cases h
        | some fp =>
          obtain ⟨f', p⟩ := fp
          rw [hfn] at h
          simp only at h
          split at h
          · rename_i hp
            injection h with h
            subst h
            refine ⟨i, m, p, rfl, by rw [← Array.find?_toList]; exact hm, List.length_eq_zero_iff.1 hl, hfn, ?_⟩
            simp only [Bool.or_eq_true, Bool.and_eq_true, beq_iff_eq, Bool.not_eq_true', bne_iff_ne] at hp
            rcases hp with hp | hp
            · exact .inl hp
            · exact .inr ⟨hp.1.1, hp.1.2, hp.2⟩
          · cases h
      · cases h
theorem run_method_own (hX : EnvOk X) {t : TypeId} {name : String} {g : FuncId} (h : methT X t name = some g) (v : Value) (n : Nat) (w : World) : (method (n + 1) t v name).run X.P w = .ok (g, v) w := by
  obtain ⟨i, m, p, h1, h2, h3, h4, h5⟩ := meth_def hX h
  have hti : (typeInfo t).run X.P w = .ok i w := by simp [typeInfo, h1]
  have hrec : ∀ nm, (receiverAt t (.val v) p nm).run X.P w = .ok v w := by
    intro nm
    rcases h5 with ⟨rfl, hk⟩ | ⟨rfl, hk, hk0⟩
    · obtain ⟨e, hu⟩ : ∃ e, X.P.underlying t = some (.pointer e) := kind_eq hX hk
      simp [receiverAt, run_underlying hu, Place.get]
    · have : ∃ d, X.P.underlying t = some d ∧ ∀ e, d ≠ .pointer e := by
        rw [kindT_def hX] at hk hk0
        simp only [tyOf] at hk hk0
        cases hu : X.P.underlying t with
        | none => rw [hu] at hk0; exact absurd rfl hk0
        | some d => exact ⟨d, rfl, fun e he => by rw [hu, he] at hk; exact hk rfl⟩
      obtain ⟨d, hu, hd⟩ := this
      unfold receiverAt
      simp only [Sem.run_bind, run_underlying hu, Result.andThen_ok]
      cases d <;> first | exact absurd rfl (hd _) | simp [Place.get]
  unfold method
  simp only [Sem.run_bind, hti, Result.andThen_ok, h2, h3, follow, pure, Sem.run, h4]
  simp only [Sem.run_bind, hrec, Result.andThen_ok, pure, Sem.run]
theorem invoke_snd (hX : EnvOk X) (hc : CallOk X call) {x : Operand} {name : String} {xs : Array Operand} {ts : Array TypeId} (ho : o.op = .call { callee := .invoke x name, args := xs, argTypes := ts }) (hf : Free H nx) : Tells (eInvoke x name xs X call f H nx) (Snd X o f H nx) := by
  show Tells (fun k => arg x f H nx fun c H nx => packKA f (fun N H nx =>
    br (.bad 122) (frc (fun t => match methT X t name with
        | some g => frc (fun F => call g F H nx k) (Nat.add (Nat.shiftLeft N 128) (Nat.shiftLeft (Nat.mod c 20282409603651670423947251286016) 128))
        | none => .bad 123) (Nat.pred (Nat.shiftRight c 104))) (Nat.ble 256 (hi c))) xs.toList 1 0 H nx) _
  refine Tells.bind (arg_tells hf) fun c H1 n1 ⟨g1, hA⟩ => Tells.bind (packK_tells xs.toList 1 0 H1 n1 g1.free) fun N H2 n2 ⟨g2, h1⟩ => Tells.ifb fun h256 => Tells.frc ?_
  cases hm : methT X (Nat.pred (Nat.shiftRight c 104)) name with
  | none => exact Tells.bad
  | some g =>
    refine Tells.frc ((hc g _ H2 n2 g2.free).mono fun c' H' nx' ⟨hale, h⟩ => ⟨(g1.trans g2).toALe.trans hale, fun I σ w A hI hS hF => ?_⟩)
    obtain ⟨p1, p2, p3⟩ := h1 I σ A (hI.back hale) hF (by decide)
    obtain ⟨t, v, q1, q2, q3, q4, q5⟩ := iface_inv (hA I σ A (hI.back (g2.toALe.trans hale)) hF) (ble_iff.1 h256)
    have ht : Nat.pred (Nat.shiftRight c 104) = t := by rw [shr104, q1]; rfl
    rw [ht] at hm
    have hN0 : dig N 0 = 0 := by rw [p2 0 (by omega)]; rfl
    have hNlt : N < 2 ^ (128 * (xs.size + 1)) := by rw [Nat.add_comm 1] at p1; simpa using p1
    have hr : c % tI < 2 ^ 128 := Nat.lt_of_lt_of_le (Nat.mod_lt _ (by decide)) (by decide)
    have hsum : Nat.add (Nat.shiftLeft N 128) (Nat.shiftLeft (Nat.mod c 20282409603651670423947251286016) 128) = Nat.add ((c % tI) <<< 128) (Nat.shiftLeft N (Nat.shiftLeft 1 7)) := Nat.add_comm _ _
    have hA1 : (c % tI) <<< 128 < 2 ^ (128 * (1 + 1)) := by
      rw [Nat.shiftLeft_eq]
      have : (c % tI) * 2 ^ 128 < 2 ^ 128 * 2 ^ 128 := (Nat.mul_lt_mul_right (by decide)).2 hr
      rw [← Nat.pow_add] at this; exact this
    have hargs : ArgsR σ I (Nat.add (Nat.shiftLeft N 128) (Nat.shiftLeft (Nat.mod c 20282409603651670423947251286016) 128)) (#[v] ++ xs.map A.eval) := by
      rw [hsum]
      refine ⟨?_, .inl (two_zero (by rw [dig_def]; show ((c % tI) <<< 128) >>> (128 * 0) % _ = 0; rw [Nat.mul_zero, Nat.shiftRight_zero, Nat.shiftLeft_eq]; exact Nat.mul_mod_left _ _) hA1 hN0), fun i hi => ?_⟩
      · have := two_lt (n := 1) (m := xs.size) hA1 hN0 hNlt
        have e : (#[v] ++ xs.map A.eval).size = 1 + xs.size := by simp
        rw [e]; exact this
      · rw [dig_two hA1 hN0]
        by_cases h0 : i < 1
        · rw [if_pos h0]
          have : i = 0 := by omega
          subst this
          have e0 : (#[v] ++ xs.map A.eval)[0] = v := by rw [Array.getElem_append_left (by simp)]; rfl
          rw [dig_shl, dig_small hr, e0]
          exact q4.toV
        · rw [if_neg h0]
          have hix : i - 1 < xs.size := by simp at hi; omega
          have := p3 (i - 1) (by simpa using hix)
          rw [Nat.add_comm 1 (i - 1)] at this
          rw [Array.getElem_append_right (by simp; omega)]
          simpa using this
    refine (h I σ w _ hI (hS.grow (g1.trans g2)) hargs o A ?_).mono fun v w' ⟨σ', ha, hv⟩ => ⟨σ', (After.grow hS (g1.trans g2)).trans ha (g1.trans g2).le fun b e hb => (hS.dom b e hb).1, hv⟩
    have hmt := run_method_own hX hm v (X.P.types.size + Made.depth - 1) w
    have hmd : Made.depth ≠ 0 := by decide
    have hmd2 : X.P.types.size + Made.depth - 1 + 1 = X.P.types.size + Made.depth := by omega
    rw [hmd2] at hmt
    have hpr : (program).run X.P w = .ok X.P w := rfl
    simp only [execOp, ho, resolve, Sem.run_bind, invoke, pure, Sem.run, Result.andThen_ok, q2, callMethod]
    have h0 : (#[Value.iface t v] ++ xs.map A.eval)[0]? = some (.iface t v) := by rw [Array.getElem?_append_left (by simp)]; rfl
    have hx : (#[Value.iface t v] ++ xs.map A.eval).extract 1 (#[Value.iface t v] ++ xs.map A.eval).size = xs.map A.eval := by
      refine Array.ext (by simp) fun i h1 h2 => ?_
      rw [Array.getElem_extract, Array.getElem_append_right (by simp)]
      simp
    rw [h0, hx]
    simp [hpr, hmt]
end Go.Ev
set_option linter.unusedVariables false
set_option linter.unusedSimpArgs false
namespace Go.Ev
variable {X : Env} {o : Oper} {f : FR} {H : HT} {nx : Nat} {call : CallT}

/-! ### Ranges over a map of at most one entry -/
theorem iterK_tells {b : Nat} {H : HT} : ∀ k, isBad (iterK H b k) ∨ ∃ c n N, iterK H b k = k c n N ∧ get H b = .chan c n N ∧ 4294967296 ≤ c := by
  intro k
  show isBad (chanObj (fun c n N => br (k c n N) (.bad 17) (Nat.blt c 4294967296)) (get H b)) ∨ ∃ c n N, chanObj _ (get H b) = _ ∧ _
  cases hg : get H b with
  | chan c n N =>
    by_cases h : c < 4294967296
    · refine .inl ⟨17, ?_⟩
      show br (k c n N) (.bad 17) (Nat.blt c 4294967296) = _
      rw [blt_iff.2 h]; rfl
    · refine .inr ⟨c, n, N, ?_, rfl, by omega⟩
      show br (k c n N) (.bad 17) (Nat.blt c 4294967296) = _
      rw [blt_false.2 (by omega)]; rfl
  | _ => exact .inl ⟨17, rfl⟩
theorem Tells.iterK {R : Nat → HT → Nat → Prop} {F : Nat → Nat → Nat → K0 → Out} {H : HT} {b : Nat} (h : ∀ c n N, get H b = .chan c n N → 4294967296 ≤ c → Tells (F c n N) R) :
    Tells (fun k => Ev.iterK H b fun c n N => F c n N k) R := by
  intro k
  rcases iterK_tells (b := b) (H := H) (fun c n N => F c n N k) with hb | ⟨c, n, N, e, hg, hc⟩
  · exact .inl hb
  · show isBad (Ev.iterK H b fun c n N => F c n N k) ∨ ∃ c' H' nx', (Ev.iterK H b fun c n N => F c n N k) = k c' H' nx' ∧ R c' H' nx'
    rw [e]; exact h c n N hg hc k
theorem ObjR.iter {σ : Sig} {I : Imm} {c n N : Nat} {e : SE} {w : World} (h : ObjR σ I (.chan c n N) e w) (hc : 4294967296 ≤ c) : IterR σ c n N e w := by
  rcases h with ⟨h, _⟩ | h
  · omega
  · exact h
theorem isNilM_eq {l : ML} (h : isNilM l = true) : l = .nil := by
  cases l with
  | nil => rfl
  | cons k v b l => cases h
theorem range_snd (hX : EnvOk X) {t : TypeId} {x : Operand} (ho : o.op = .range t x) (hf : Free H nx) : Tells (eRange t x X call f H nx) (Snd X o f H nx) := by
  refine snd1 hf fun m H1 n1 hf1 => Tells.ifb fun hc => Tells.mapK fun cc q l hg => ?_
  simp only [and'_eq, Bool.and_eq_true, beq_iff] at hc
  refine Tells.frc (Tells.bind (new_tells _ H1 n1 hf1) fun i H' nx' ⟨e1, e2, hnew⟩ => ptrK_tells.mono fun c H2 n2 ⟨e3, e4, hp⟩ => ?_)
  subst e1 e2 e3 e4
  refine ⟨hnew.grow.toALe, fun I σ w A hI hS hF hA => ?_⟩
  obtain ⟨kk, el, hu⟩ : ∃ k e, X.P.underlying t = some (.map k e) := kind_eq hX hc.1
  obtain ⟨e, he, hmv⟩ := map_at hA hc.2.1 hc.2.2
  have hob := hS.obj _ e he
  rw [hg] at hob
  obtain ⟨es, h1, _⟩ : MapOR σ I cc q l e w := hob
  have hlt := hnew.lt
  have hno := hS.none (Nat.le_refl i)
  refine .value (v := .pointer (some ⟨w.heap.size, 0, none⟩)) (w' := w.alloc (.mapIter (some e.B) q #[] q)) ?_ ⟨_, hS.new (e := ⟨w.heap.size, 0, 0, 0⟩) (ob := .mapIter (some e.B) q #[] q) hnew rfl fun w' hw => ?_, ?_⟩
  · simp only [execOp, ho, Instr.range, Sem.run_bind, run_underlying hu, Result.andThen_ok, hmv, MapKept.run_getObj_map h1, run_newObj_alloc, pure, Sem.run]
  · refine .inr ⟨by show 4294967296 ≤ 4294967296 + _; omega, rfl, e, q, #[], q, ?_, hw, Nat.le_refl _, .inl ⟨rfl, rfl, rfl⟩⟩
    show upd σ i _ (4294967296 + (blk m + 1) - 4294967297) = _
    rw [show 4294967296 + (blk m + 1) - 4294967297 = blk m by omega]
    exact sle_upd hno _ _ he
  · have := hp (upd σ i ⟨w.heap.size, 0, 0, 0⟩) I ⟨w.heap.size, 0, 0, 0⟩ upd_same (by omega)
    exact this.toV
theorem over_tells (hf : Free H nx) : Tells (over H nx) fun c H' nx' => Grow H nx H' nx' ∧ ∀ (I : Imm) (σ : Sig), Holds I H' nx' → VR σ I c (.tuple #[.bool false]) :=
  (newTup_tells hf).mono fun c H' nx' ⟨g, h⟩ => ⟨g, fun I σ hI => .inr (.inr (h I σ #[.bool false] hI rfl fun i hi => by
    have : i = 0 := by have : i < 1 := hi; omega
    subst this
    have e : dig (Nat.shiftLeft 237684487542793012780631851008 128) (0 + 1) = 237684487542793012780631851008 := by decide
    rw [e]
    exact CRp.toA (crp_bool false)))⟩
theorem mlr_nil {σ : Sig} {I : Imm} {es : Array MapEntry} (h : MLR σ I .nil es.toList.reverse) : es = #[] := by
  cases hq : es.toList.reverse with
  | nil => simpa using hq
  | cons a r => rw [hq] at h; exact h.elim
theorem mlr_one {σ : Sig} {I : Imm} {k v b : Nat} {es : Array MapEntry} (h : MLR σ I (.cons k v b .nil) es.toList.reverse) : ∃ e, es = #[e] ∧ EntR σ I k v b e := by
  cases hq : es.toList.reverse with
  | nil => rw [hq] at h; exact h.elim
  | cons a r =>
    rw [hq] at h
    cases r with
    | nil =>
      have : es.toList = [a] := by have := congrArg List.reverse hq; simpa using this
      exact ⟨a, by rw [← Array.toList_inj]; simpa using this, h.1⟩
    | cons c r => exact h.2.elim
theorem run_next_over {P : Program} {w : World} {r bm since last clock : Nat} {seen : Array Nat} {es : Array MapEntry} {ty : TypeId} (hr : w.heap[r]? = some (.mapIter (some bm) since seen last)) (hb : w.heap[bm]? = some (.map es clock)) (hl : since ≤ last) (h : es = #[] ∨ ∃ e, es = #[e] ∧ seen = #[e.born] ∧ e.born < since) :
    (Instr.next (.pointer (some ⟨r, 0, none⟩)) false ty).run P w = .ok (.tuple #[.bool false]) w := by
  have hold : ∀ x ∈ es.toList, x.born < since := by
    rcases h with rfl | ⟨e, rfl, _, h⟩
    · intro x hx; simp at hx
    · intro x hx; simp at hx; subst hx; exact h
  rcases run_next_at (P := P) w ty r bm since last seen es clock hr hb hold hl with ⟨_, h2⟩ | ⟨e, he, _⟩
  · exact h2
  · exfalso
    unfold leftOf at he
    rcases h with rfl | ⟨e0, rfl, rfl, _⟩
    · simp at he
    · simp at he
theorem run_next_one {P : Program} {w : World} {r bm since last clock : Nat} {e : MapEntry} {ty : TypeId} (hr : w.heap[r]? = some (.mapIter (some bm) since #[] last)) (hb : w.heap[bm]? = some (.map #[e] clock)) (hl : since ≤ last) (h : e.born < since) :
    (Instr.next (.pointer (some ⟨r, 0, none⟩)) false ty).run P w = .ok (.tuple #[.bool true, e.key, e.val]) { w with heap := w.heap.setIfInBounds r (.mapIter (some bm) since #[e.born] clock) } := by
  have e1 : (#[e] : Array MapEntry).filter (fun e => !(#[] : Array Nat).contains e.born) = #[e] := by simp
  have e2 : (#[e] : Array MapEntry).filter (fun x => decide (x.born < since)) = #[e] := by simp [h]
  have e3 : (#[e] : Array MapEntry).filter (fun x => decide (x.born ≥ since)) = #[] := by simp; omega
  simp only [Instr.next, getObj, Sem.run_bind, Sem.run, hr, hb, Result.andThen, e1, e2, e3]
  simp [choose, Sem.run, Question.forced, setObj, hr]
theorem iter_put {σ : Sig} {I : Imm} {H H' : HT} {nx b c n N n0 N0 : Nat} {w : World} {e : SE} {ob ob0 : Go.Obj} (h : SRel σ I H nx w) (hf : Free H nx) (he : σ b = some e) (hg : get H b = .chan c n0 N0)
    (hset : b < nx → get H' b = .chan c n N ∧ (∀ j, j < 262144 → j ≠ b → get H' j = get H j) ∧ ∀ σ, (∃ e, σ b = some e) → AFr σ nx H H') (hob : w.heap[e.B]? = some ob0)
    (hi : ∀ w' : World, w'.heap[e.B]? = some ob → IterR σ c n N e w') :
    After σ I H nx w σ H' nx { w with heap := w.heap.setIfInBounds e.B ob } := by
  obtain ⟨q1, q2, q3⟩ := hset (h.dom b e he).1
  obtain ⟨s1, s2⟩ := h.put (ob := ob) hf.1 he (by rw [hg]; simp) q1 q2 hob fun w' hw => .inr (hi w' hw)
  exact ⟨SExt.refl _ _ _, s1, s2, q3 σ ⟨e, he⟩⟩
theorem next_snd {x : Operand} {s : Bool} (ho : o.op = .next x s) (hf : Free H nx) : Tells (eNext x s X call f H nx) (Snd X o f H nx) := by
  refine snd1 hf fun p H1 n1 hf1 => Tells.ifb fun hc => Tells.frc (Tells.iterK fun c n N hg hci => Tells.frc (Tells.mapK fun cc q l hm => ?_))
  simp only [and'_eq, not'_eq, Bool.and_eq_true, Bool.not_eq_true', beq_iff] at hc
  obtain ⟨hs, hptr, hoff⟩ := hc
  subst hs
  have hm : get H1 (c - 4294967297) = .map cc q l := hm
  have hparts : ∀ (I : Imm) (σ : Sig) (w : World) (v : Value), SRel σ I H1 n1 w → VR σ I p v → ∃ e em since seen last es, σ (blk p) = some e ∧ v = .pointer (some ⟨e.B, 0, none⟩) ∧ e.β = 0 ∧ σ (c - 4294967297) = some em ∧ w.heap[e.B]? = some (.mapIter (some em.B) since seen last) ∧ w.heap[em.B]? = some (.map es q) ∧ MLR σ I l es.toList.reverse ∧ since ≤ last ∧ (∀ b ∈ birthsM l, b < q) ∧ ((n = 0 ∧ seen = #[] ∧ N = since) ∨ ∃ b, n = b + 1 ∧ seen = #[b] ∧ b < since ∧ N = last) := fun I σ w v hS hA => by
    obtain ⟨e, he, _, _, hv⟩ := isPtr_inv hA hptr
    have hob := hS.obj _ e he
    rw [hg] at hob
    obtain ⟨_, hβ, em, since, seen, last, h1, h2, h3, h4⟩ := hob.iter hci
    have hobm := hS.obj _ em h1
    rw [hm] at hobm
    have hobm' : MapOR σ I cc q l em w := hobm
    obtain ⟨_, _, p3, _, _, es, m1, m2⟩ := hobm'.parts
    exact ⟨e, em, since, seen, last, es, he, by rw [hv, hβ, hoff], hβ, h1, h2, m1, m2, h3, p3, h4⟩
  have hover : ∀ {F : K0 → Out}, (∀ k, F k = over H1 n1 k) → (∀ (I : Imm) (σ : Sig) (w : World) (e em : SE) (since last : Nat) (seen : Array Nat) (es : Array MapEntry), MLR σ I l es.toList.reverse → ((n = 0 ∧ seen = #[] ∧ N = since) ∨ ∃ b, n = b + 1 ∧ seen = #[b] ∧ b < since ∧ N = last) → es = #[] ∨ ∃ e, es = #[e] ∧ seen = #[e.born] ∧ e.born < since) →
      Tells F fun c' H' nx' => ALe H1 n1 H' nx' ∧ ∀ (I : Imm) (σ : Sig) (w : World) (A : Act), Holds I H' nx' → SRel σ I H1 n1 w → FrameR σ I f A.tmps → VR σ I p (A.eval x) → OpDo X.P o A w fun v w' => ∃ σ', After σ I H1 n1 w σ' H' nx' w' ∧ VR σ' I c' v := fun {F} hF hes => by
    have hFe : F = over H1 n1 := funext hF
    rw [hFe]
    refine (over_tells hf1).mono fun c' H' nx' ⟨g, hv⟩ => ⟨g.toALe, fun I σ w A hI hS hFr hA => ?_⟩
    obtain ⟨e, em, since, seen, last, es, he, hev, _, h1, h2, m1, m2, h3, _, h4⟩ := hparts I σ w _ hS hA
    refine .value (v := .tuple #[.bool false]) (w' := w) ?_ ⟨σ, After.grow hS g, hv I σ hI⟩
    have := run_next_over (P := X.P) (ty := o.type) h2 m1 h3 (hes I σ w e em since last seen es m2 h4)
    simp only [execOp, ho, hev, Sem.run_bind, this, Result.andThen_ok, pure, Sem.run]
  cases l with
  | nil => exact hover (fun k => rfl) fun I σ w e em since last seen es hm2 _ => .inl (mlr_nil hm2)
  | cons key v bo l' =>
    refine Tells.ifb fun hcond => ?_
    simp only [and'_eq, Bool.and_eq_true, blt_iff, ble_iff] at hcond
    obtain ⟨hnil, hbo, hNq⟩ := hcond
    obtain rfl := isNilM_eq hnil
    refine Tells.ite (fun hn0 => ?_) fun hn0 => Tells.ifb fun hnb => ?_
    · obtain rfl := beq_iff.1 hn0
      refine Tells.frc (Tells.bind1 (set_tells (x := .chan c (Nat.succ bo) q) hf1 (by rw [hg]; exact id) (by rw [hg]; simp) (fun h => by cases h)) fun H2 ⟨hale, hset⟩ => (tup3_tells (a := 237684487542793012780631851009) hale.free).mono fun c' H' nx' ⟨g, hok⟩ => ⟨hale.trans g.toALe, fun I σ w A hI hS hFr hA => ?_⟩)
      obtain ⟨e, em, since, seen, last, es, he, hev, hβ, h1, h2, m1, m2, h3, p3, h4⟩ := hparts I σ w _ hS hA
      obtain ⟨e0, rfl, hent⟩ := mlr_one m2
      rcases h4 with ⟨_, rfl, rfl⟩ | ⟨b, h, _⟩
      · have hborn : e0.born = bo := hent.2.2.2.2
        have hrun := run_next_one (P := X.P) (ty := o.type) h2 m1 h3 (by rw [hborn]; exact hbo)
        have hbq : bo < q := p3 bo (by simp [birthsM])
        have haf := iter_put (ob := .mapIter (some em.B) N #[e0.born] q) hS hf1 he hg hset h2 fun w' hw => ⟨hci, hβ, em, N, #[e0.born], q, h1, hw, hNq, .inr ⟨bo, rfl, by rw [hborn], hbo, rfl⟩⟩
        refine .value (v := .tuple #[.bool true, e0.key, e0.val]) ?_ ⟨σ, haf.trans (After.grow haf.rel g) (Nat.le_refl _) (fun b e hb => (hS.dom b e hb).1), .inr (.inr (hok I σ _ _ _ hI (CRp.toA (crp_bool true)) (CRp.toA hent.1) hent.2.2.2.1))⟩
        simp only [execOp, ho, hev, Sem.run_bind, hrun, Result.andThen_ok, pure, Sem.run]
      · omega
    · have hnb := beq_iff.1 hnb
      refine hover (fun k => rfl) fun I σ w e em since last seen es hm2 h4 => .inr ?_
      obtain ⟨e0, rfl, hent⟩ := mlr_one hm2
      have hborn : e0.born = bo := hent.2.2.2.2
      rcases h4 with ⟨h, _⟩ | ⟨b, h, rfl, hb, _⟩
      · omega
      · refine ⟨e0, rfl, by rw [hborn]; congr 2; omega, by omega⟩
theorem entry_snd {x : Operand} (ho : o.op = .entry x) (hf : Free H nx) : Tells (eEntry x X call f H nx) (Snd X o f H nx) := by
  refine snd1 hf fun p H1 n1 hf1 => Tells.ifb fun hc => Tells.iterK fun c n N hg hci => Tells.frc (Tells.mapK fun cc q l hm => ?_)
  rw [and'_eq, Bool.and_eq_true, beq_iff] at hc
  obtain ⟨hptr, hoff⟩ := hc
  have hm : get H1 (c - 4294967297) = .map cc q l := hm
  cases l with
  | nil => exact Tells.bad
  | cons key v bo l' =>
    refine Tells.ifb fun hcond => ?_
    simp only [and'_eq, Bool.and_eq_true, beq_iff] at hcond
    obtain ⟨hnil, hq, hn⟩ := hcond
    obtain rfl := isNilM_eq hnil
    refine (pair_tells hf1).mono fun c' H' nx' ⟨g, hok⟩ => ⟨g.toALe, fun I σ w A hI hS hFr hA => ?_⟩
    obtain ⟨e, he, _, _, hv⟩ := isPtr_inv hA hptr
    have hob := hS.obj _ e he
    rw [hg] at hob
    obtain ⟨_, hβ, em, since, seen, last, h1, h2, h3, h4⟩ := hob.iter hci
    have hobm := hS.obj _ em h1
    rw [hm] at hobm
    have hobm' : MapOR σ I cc q _ em w := hobm
    obtain ⟨_, _, p3, _, _, es, m1, m2⟩ := hobm'.parts
    obtain ⟨e0, rfl, hent⟩ := mlr_one m2
    have hborn : e0.born = bo := hent.2.2.2.2
    rcases h4 with ⟨h, _⟩ | ⟨b, hb1, rfl, _, rfl⟩
    · omega
    · have hbb : b = e0.born := by omega
      subst hbb hq
      have hev : A.eval x = .pointer (some ⟨e.B, 0, none⟩) := by rw [hv, hβ, hoff]
      have hrun := run_entry_at (P := X.P) w e.B em.B since #[] #[e0] q e0 h2 m1 (by simp) (by simp)
      refine .value (v := .tuple #[e0.key, e0.val]) (w' := w) ?_ ⟨σ, After.grow hS g, .inr (.inr (hok I σ _ _ hI (CRp.toA hent.1) hent.2.2.2.1))⟩
      simp only [execOp, ho, hev, Sem.run_bind, hrun, Result.andThen_ok, pure, Sem.run]
end Go.Ev
set_option linter.unusedVariables false
set_option linter.unusedSimpArgs false
namespace Go.Ev
variable {X : Env} {f : FR} {H : HT} {nx : Nat} {call : CallT}

theorem pur_snd {o : Oper} {G : K0 → Out} (h : Tells G (Pur X o f H nx)) : Tells G (Snd X o f H nx) := h.mono fun _ _ _ h => h.snd
theorem call_snd (hX : EnvOk X) (hFo : FormOk X) (hc : CallOk X call) {o : Oper} {c : Call} (ho : o.op = .call c) (hf : Free H nx) : Tells (eCall c X call f H nx) (Snd X o f H nx) := by
  obtain ⟨callee, xs, ts⟩ := c
  cases callee with
  | value x =>
    cases x with
    | func g => exact callF_snd hc ho hf
    | tmp t => exact callV_snd hc ho hf
    | const v => exact callV_snd hc ho hf
    | global g => exact callV_snd hc ho hf
  | invoke x name => exact invoke_snd hX hc ho hf
  | builtin b =>
    cases b with
    | append => exact append_snd (call := call) hX hFo ho hf
    | copy => exact copy_snd (call := call) hX hFo ho hf
    | delete => exact delete_snd (call := call) hX ho hf
    | len => exact len_snd (call := call) hX ho hf
    | cap => exact cap_snd (call := call) hX ho hf
    | clear => exact clear_snd (call := call) hX hFo ho hf
    | min => exact pur_snd (minmax_pur (mx := false) ho hf)
    | max => exact pur_snd (minmax_pur (mx := true) ho hf)
    | _ => exact Tells.bad
theorem opF_snd (hX : EnvOk X) (hFo : FormOk X) (hT : 3 ≤ X.P.types.size) (hc : CallOk X call) (hf : Free H nx) (o : Oper) : Tells (opF o.op X call f H nx) (Snd X o f H nx) := by
  cases ho : o.op with
  | move x => exact pur_snd (move_pur (call := call) (.inl ho) hf)
  | assign x => exact pur_snd (move_pur (call := call) (.inr ho) hf)
  | pick c a b => exact pur_snd (pick_pur (call := call) ho hf)
  | alloc t => exact alloc_snd (call := call) hX ho hf
  | box t x => exact box_snd (call := call) hX ho hf
  | build t ps => exact pur_snd (build_pur (call := call) hX hFo ho hf)
  | buildSlice t n ps => exact buildSlice_snd (call := call) hX hFo ho hf
  | insert t m k v => exact mapUpdate_snd (call := call) hX (.inr ho) hf
  | load t x => exact (load_rd (call := call) hX hFo ho hf).mono fun _ _ _ h => h.snd
  | store t x y => exact store_snd (call := call) hX ho hf
  | ready g => exact Tells.bad
  | waits g => exact Tells.bad
  | nilCheck x => exact pur_snd (nil_pur (call := call) ho hf)
  | binOp op t x y u => exact pur_snd (bin_pur (call := call) hX hT ho hf)
  | unOp op t x => exact pur_snd (un_pur (call := call) ho hf)
  | convert s d x => exact (convert_tells (call := call) hX hFo ho hf).mono fun _ _ _ h => h.snd
  | sliceToArrayPointer d x => exact Tells.bad
  | makeInterface t x => exact pur_snd (iface_pur (call := call) hX ho hf)
  | makeFunc fn a b => exact pur_snd (makeFunc_pur (call := call) ho hf)
  | makeMap t r => exact makeMap_snd (call := call) ho hf
  | makeChan t x => exact makeChan_snd (call := call) hX hFo ho hf
  | makeSlice t l c => exact makeSlice_snd (call := call) hX hFo ho hf
  | slice t x l h m => exact slice_snd (call := call) hX hFo ho hf
  | fieldAddr t x i => exact pur_snd (fieldAddr_pur (call := call) hX ho hf)
  | field t x i => exact pur_snd (field_pur (call := call) hX hFo ho hf)
  | indexAddr t x i => exact pur_snd (indexAddr_pur (call := call) hX ho hf)
  | index t x i => exact pur_snd (index_pur (call := call) hX hFo ho hf)
  | lookup t x i ok => exact lookup_snd (call := call) hX ho hf
  | mapUpdate t m k v => exact mapUpdate_snd (call := call) hX (.inl ho) hf
  | mapEntry t m k => exact mapEntry_snd (call := call) hX ho hf
  | entryStore t m s v => exact entryStore_snd (call := call) hX ho hf
  | range t x => exact range_snd (call := call) hX ho hf
  | next x s => exact next_snd (call := call) ho hf
  | entry x => exact entry_snd (call := call) ho hf
  | typeAssert x t u ok => exact pur_snd (assert_pur (call := call) hX ho hf)
  | extract x i => exact pur_snd (extract_pur (call := call) ho hf)
  | call c => exact call_snd hX hFo hc ho hf
  | go c => exact Tells.bad
  | defer c => exact Tells.bad
  | panic x => exact Tells.bad
  | send c x => exact send_snd (call := call) ho hf
  | recv t c ok => exact recv_snd (call := call) hX ho hf
  | select cs b => exact select_snd (call := call) hX ho hf
end Go.Ev
set_option linter.unusedVariables false
set_option linter.unusedSimpArgs false
namespace Go.Ev
variable {X : Env} {f : FR} {H : HT} {nx : Nat} {call : CallT}

/-! ### A result laid into its place -/
def TellsF (G : KF → Out) (R : FR → HT → Nat → Prop) : Prop := ∀ k, isBad (G k) ∨ ∃ f' H' nx', G k = k f' H' nx' ∧ R f' H' nx'
theorem TellsF.bad {R : FR → HT → Nat → Prop} {n : Nat} : TellsF (fun _ => .bad n) R := fun k => .inl ⟨n, rfl⟩
theorem TellsF.mono {R R' : FR → HT → Nat → Prop} {G : KF → Out} (h : TellsF G R) (h' : ∀ f H nx, R f H nx → R' f H nx) : TellsF G R' :=
  fun k => (h k).imp id fun ⟨f, H, nx, e, r⟩ => ⟨f, H, nx, e, h' _ _ _ r⟩
/-- the frame with a result in its place -/
def putD (f : FR) (d : Option Nat) (c : Nat) : FR := match d with | some t => put f (Nat.succ t) c | none => f
theorem fin_eq (d : Option Nat) (f : FR) (k : KF) (c : Nat) (H : HT) (nx : Nat) : fin d f k c H nx = k (putD f d c) H nx := by cases d <;> rfl
theorem TellsF.of {R : Nat → HT → Nat → Prop} {G : K0 → Out} (h : Tells G R) (d : Option Nat) : TellsF (fun k => G (fin d f k)) fun f' H' nx' => ∃ c, f' = putD f d c ∧ R c H' nx' := by
  intro k
  rcases h (fin d f k) with hb | ⟨c, H', nx', e, r⟩
  · exact .inl hb
  · exact .inr ⟨_, H', nx', e.trans (fin_eq d f k c H' nx'), c, rfl, r⟩
theorem fget_put {f : FR} {t u c : Nat} (hc : c < 2 ^ 128) : fget u (put f (Nat.succ t) c) = if u = t then c else fget u f := by
  show dig (put f (t + 1) c) (u + 1) = _
  rw [dig_put (by omega) (by omega) hc]
  by_cases h : u = t
  · subst h; simp
  · rw [if_neg h, if_neg (by omega)]; rfl
theorem getD_put {a : Act} {t u : Nat} {v : Value} (ht : t < a.tmps.size) : (a.put (some t) v).tmps.getD u undef = if u = t then v else a.tmps.getD u undef := by
  simp only [Act.put]
  by_cases h : u = t
  · subst h; simp [Array.getD_eq_getD_getElem?, ht]
  · rw [if_neg h]; simp only [Array.getD_eq_getD_getElem?]; rw [Array.getElem?_setIfInBounds_ne (fun e => h e.symm)]
theorem FrameR.put {σ : Sig} {I : Imm} {f : FR} {a : Act} {d : Option Nat} {c : Nat} {v : Value} (h : FrameR σ I f a.tmps) (hv : VR σ I c v) (hd : ∀ t, d = some t → t < a.tmps.size) : FrameR σ I (putD f d c) (a.put d v).tmps := by
  cases d with
  | none => exact h
  | some t =>
    intro u
    show VR σ I (fget u (Ev.put f (Nat.succ t) c)) _
    rw [fget_put hv.lt, getD_put (hd t rfl)]
    by_cases e : u = t
    · rw [if_pos e, if_pos e]; exact hv
    · rw [if_neg e, if_neg e]; exact h u
theorem put_size (a : Act) (d : Option Nat) (v : Value) : (a.put d v).tmps.size = a.tmps.size := by cases d <;> simp [Act.put]
theorem put_defers (a : Act) (d : Option Nat) (v : Value) : (a.put d v).defers = a.defers := by cases d <;> rfl

/-! ### An operation of a region -/
/-- operation i done: from any act and world -/
def StOp (P : Program) (ops : Array Oper) (i : Nat) (K : Act → World → Prop) (a : Act) (w : World) : Prop :=
  ∀ (b : Frame) (rest : List Nat) (k : List Item) (cs : List Frame), ∃ a' w', K a' w' ∧ Steps P (lone (b.at a (.inRegion ops (i :: rest) :: k)) cs w) (lone (b.at a' (.inRegion ops rest :: k)) cs w')
theorem StOp.did {P : Program} {ops : Array Oper} {i : Nat} {K : Act → World → Prop} {a : Act} {w : World} {o : Oper} {Q : Value → World → Prop} (ho : ops[i]? = some o) (hw : Region.wanted o (yielded ops a.tmps) = true) (h : OpDo P o a w Q) (hK : ∀ v w', Q v w' → K (a.put o.dst v) w') : StOp P ops i K a w := by
  intro b rest k cs
  obtain ⟨v, w', hq, hs⟩ := h b ops i rest k cs ho hw
  exact ⟨_, w', hK v w' hq, hs⟩
theorem StOp.skip {P : Program} {ops : Array Oper} {i : Nat} {K : Act → World → Prop} {a : Act} {w : World} {o : Oper} (ho : ops[i]? = some o) (hw : Region.wanted o (yielded ops a.tmps) = false) (hK : K (a.put o.dst undef) w) : StOp P ops i K a w := by
  intro b rest k cs
  refine ⟨_, w, hK, .one ?_⟩
  have := step_op_skip (P := P) (b := b) (a := a) (k := k) (cs := cs) (w := w) (ops := ops) (i := i) (rest := rest) (by rw [ho]; exact hw)
  rw [ho] at this
  exact this
theorem StOp.mono {P : Program} {ops : Array Oper} {i : Nat} {K K' : Act → World → Prop} {a : Act} {w : World} (h : StOp P ops i K a w) (hk : ∀ a w, K a w → K' a w) : StOp P ops i K' a w :=
  fun b rest k cs => let ⟨a', w', h1, h2⟩ := h b rest k cs; ⟨a', w', hk _ _ h1, h2⟩
/-- what a guard says in the evaluator's frame -/
def GuardR (all : List Oper) (o : Oper) (f : FR) (yes : Bool) : Prop :=
  match o.guard with
  | none => yes = true
  | some (j, want) => ∃ t, dstOf all j = t + 1 ∧ (fget t f = boolC want ∧ yes = true ∨ fget t f ≠ boolC want ∧ (fget t f = 1822247737828079764651510857728 ∨ fget t f = boolC false ∨ fget t f = boolC true) ∧ yes = false)
theorem dstOf_some {ops : Array Oper} {j t : Nat} (h : dstOf ops.toList j = t + 1) : (ops[j]?).bind (·.dst) = some t := by
  unfold dstOf at h
  cases ho : ops[j]? with
  | none => rw [show ops.toList[j]? = none by simpa using ho] at h; cases h
  | some o =>
    rw [show ops.toList[j]? = some o by simpa using ho] at h
    simp only at h
    cases hd : o.dst with
    | none => rw [hd] at h; cases h
    | some u =>
      rw [hd] at h
      have : u = t := Nat.succ.inj h
      subst this; exact hd
theorem guard_model {ops : Array Oper} {o : Oper} {f : FR} {yes : Bool} {tmps : Array Value} (h : GuardR ops.toList o f yes) (hv : ∀ j want t, o.guard = some (j, want) → dstOf ops.toList j = t + 1 → (t < tmps.size ∧ ∃ σ I, VR σ I (fget t f) (tmps.getD t undef))) : Region.wanted o (yielded ops tmps) = yes := by
  unfold GuardR at h
  unfold Region.wanted
  cases hg : o.guard with
  | none => rw [hg] at h; exact h.symm
  | some jw =>
    obtain ⟨j, want⟩ := jw
    rw [hg] at h
    obtain ⟨t, ht, hc⟩ := h
    obtain ⟨hlt, σ, I, hV⟩ := hv j want t hg ht
    have hy : yielded ops tmps j = (match tmps.getD t undef with | .bool b => some b | _ => none) := by
      unfold yielded
      rw [dstOf_some ht]
      simp [Array.getD_eq_getD_getElem?, hlt]
      cases tmps[t] <;> rfl
    simp only
    rw [hy]
    have hb : ∀ b, fget t f = boolC b → tmps.getD t undef = .bool b := fun b e => by
      rw [e] at hV
      cases b
      · exact bool_no hV rfl
      · exact bool_yes hV rfl
    rcases hc with ⟨e, rfl⟩ | ⟨hne, e, rfl⟩
    · rw [hb _ e]; simp
    · rcases e with e | e | e
      · rw [e] at hV
        have : tmps.getD t undef = undef := by
          rcases hV with h | ⟨_, h⟩ | h
          · exact absurd h (by decide)
          · exact h
          · have := ((h.toA (by decide)).toS (by decide)).toI (by decide)
            have := this.of_lt (by decide)
            unfold CRp at this
            rw [show hi 1822247737828079764651510857728 = 23 from rfl] at this
            exact this.elim
        rw [this]; cases want <;> rfl
      · rw [hb _ e]
        cases want
        · exact absurd e hne
        · rfl
      · rw [hb _ e]
        cases want
        · rfl
        · exact absurd e hne
/-- a step of the evaluator's: the operation's own result, or nothing -/
theorem stepO_tells {o : Oper} {all : List Oper} {g : OpK} {R : Nat → HT → Nat → Prop} (h : Tells (g X call f H nx) R) : TellsF (stepO o.guard all g o.dst X call f H nx) fun f' H' nx' => ∃ c, f' = putD f o.dst c ∧
    ((GuardR all o f true ∧ R c H' nx') ∨ (GuardR all o f false ∧ c = 1822247737828079764651510857728 ∧ H' = H ∧ nx' = nx)) := by
  unfold GuardR
  cases hg : o.guard with
  | none =>
    refine (TellsF.of (f := f) h o.dst).mono fun f' H' nx' ⟨c, e, r⟩ => ⟨c, e, .inl ⟨rfl, r⟩⟩
  | some jw =>
    obtain ⟨j, want⟩ := jw
    intro k
    show isBad (br (.bad 131) (br (br (.bad 131) (fin o.dst f k 1822247737828079764651510857728 H nx) (or' (Nat.beq (fget (Nat.pred (dstOf all j)) f) 1822247737828079764651510857728) (or' (Nat.beq (fget (Nat.pred (dstOf all j)) f) 237684487542793012780631851008) (Nat.beq (fget (Nat.pred (dstOf all j)) f) 237684487542793012780631851009))))
       (g X call f H nx (fin o.dst f k)) (Nat.beq (fget (Nat.pred (dstOf all j)) f) (boolC want))) (Nat.ble 1 (dstOf all j))) ∨ ∃ f' H' nx', br (.bad 131) (br (br (.bad 131) (fin o.dst f k 1822247737828079764651510857728 H nx) (or' (Nat.beq (fget (Nat.pred (dstOf all j)) f) 1822247737828079764651510857728) (or' (Nat.beq (fget (Nat.pred (dstOf all j)) f) 237684487542793012780631851008) (Nat.beq (fget (Nat.pred (dstOf all j)) f) 237684487542793012780631851009))))
       (g X call f H nx (fin o.dst f k)) (Nat.beq (fget (Nat.pred (dstOf all j)) f) (boolC want))) (Nat.ble 1 (dstOf all j)) = k f' H' nx' ∧ _
    cases h1 : Nat.ble 1 (dstOf all j) with
    | false => exact .inl ⟨131, rfl⟩
    | true =>
      obtain ⟨t, ht⟩ : ∃ t, dstOf all j = t + 1 := ⟨dstOf all j - 1, by have := ble_iff.1 h1; omega⟩
      have hp : Nat.pred (dstOf all j) = t := by rw [ht]; rfl
      rw [hp]
      cases h2 : Nat.beq (fget t f) (boolC want) with
      | true =>
        rcases TellsF.of (f := f) h o.dst k with hb | ⟨f', H', nx', e, c, e2, r⟩
        · exact .inl hb
        · exact .inr ⟨f', H', nx', e, c, e2, .inl ⟨⟨t, ht, .inl ⟨beq_iff.1 h2, rfl⟩⟩, r⟩⟩
      | false =>
        cases h3 : or' (Nat.beq (fget t f) 1822247737828079764651510857728) (or' (Nat.beq (fget t f) 237684487542793012780631851008) (Nat.beq (fget t f) 237684487542793012780631851009)) with
        | false => exact .inl ⟨131, rfl⟩
        | true =>
          refine .inr ⟨putD f o.dst 1822247737828079764651510857728, H, nx, fin_eq _ _ _ _ _ _, _, rfl, .inr ⟨⟨t, ht, .inr ⟨beq_false.1 h2, ?_, rfl⟩⟩, rfl, rfl, rfl⟩⟩
          rw [or'_eq, or'_eq, Bool.or_eq_true, Bool.or_eq_true, beq_iff, beq_iff, beq_iff] at h3
          exact h3

/-! ### A region in order -/
/-- what a stretch of operations tells -/
def RegR (X : Env) (ops : Array Oper) (n : Nat) (l : List Nat) (f : FR) (H : HT) (nx : Nat) (f' : FR) (H' : HT) (nx' : Nat) : Prop :=
  ALe H nx H' nx' ∧ ∀ (I : Imm) (σ : Sig) (w : World) (a : Act), Holds I H' nx' → SRel σ I H nx w → FrameR σ I f a.tmps → n ≤ a.tmps.size → ∀ (b : Frame) (k : List Item) (cs : List Frame),
    ∃ a' w' σ', After σ I H nx w σ' H' nx' w' ∧ FrameR σ' I f' a'.tmps ∧ a'.tmps.size = a.tmps.size ∧ a'.defers = a.defers ∧ Steps X.P (lone (b.at a (.inRegion ops l :: k)) cs w) (lone (b.at a' (.inRegion ops [] :: k)) cs w')
theorem dst_lt {ops : Array Oper} {n : Nat} (h : ∀ o ∈ ops.toList, ∀ t, o.dst = some t → t < n) {j t : Nat} (hj : dstOf ops.toList j = t + 1) : t < n := by
  have := dstOf_some hj
  cases ho : ops[j]? with
  | none => rw [ho] at this; cases this
  | some o => rw [ho] at this; exact h o (by have := Array.mem_of_getElem? ho; simpa using this) t this
theorem runOps_sound (hX : EnvOk X) (hFo : FormOk X) (hT : 3 ≤ X.P.types.size) (hc : CallOk X call) {ops : Array Oper} {n : Nat} (hn : ∀ o ∈ ops.toList, ∀ t, o.dst = some t → t < n) :
    ∀ (l : List Oper) (j : Nat) (f : FR) (H : HT) (nx : Nat), ops.toList.drop j = l → Free H nx → isBad (runOps l ops.toList X call f H nx) ∨ ∃ f' H' nx', runOps l ops.toList X call f H nx = .norm f' H' nx' ∧ RegR X ops n (List.range' j l.length) f H nx f' H' nx'
  | [], j, f, H, nx, _, hf => .inr ⟨f, H, nx, rfl, (Grow.refl hf).toALe, fun I σ w a hI hS hF hs b k cs => ⟨a, w, σ, .grow hS (Grow.refl hf), hF, rfl, rfl, Steps.refl _ _⟩⟩
  | o :: l, j, f, H, nx, hd, hf => by
    show isBad (stepO o.guard ops.toList (opF o.op) o.dst X call f H nx (runOps l ops.toList X call)) ∨ ∃ f' H' nx', stepO o.guard ops.toList (opF o.op) o.dst X call f H nx (runOps l ops.toList X call) = .norm f' H' nx' ∧ _
    have ho : ops[j]? = some o := by
      have : (ops.toList.drop j)[0]? = some o := by rw [hd]; rfl
      simpa using this
    have hd' : ops.toList.drop (j + 1) = l := by
      have := congrArg List.tail hd
      simpa using this
    have hmem : o ∈ ops.toList := by have := Array.mem_of_getElem? ho; simpa using this
    rcases stepO_tells (all := ops.toList) (o := o) (opF_snd hX hFo hT hc hf o) (runOps l ops.toList X call) with hb | ⟨f1, H1, n1, e, c, ef, hr⟩
    · exact .inl hb
    have hfree : Free H1 n1 := by
      rcases hr with ⟨_, hr⟩ | ⟨_, _, e1, e2⟩
      · exact hr.1.free
      · subst e1 e2; exact hf
    have hale : ALe H nx H1 n1 := by
      rcases hr with ⟨_, hr⟩ | ⟨_, _, e1, e2⟩
      · exact hr.1
      · subst e1 e2; exact (Grow.refl hf).toALe
    rcases runOps_sound hX hFo hT hc hn l (j + 1) f1 H1 n1 hd' hfree with hb | ⟨f', H', nx', e2, hale2, hrest⟩
    · exact .inl (by rw [e]; exact hb)
    · refine .inr ⟨f', H', nx', by rw [e]; exact e2, hale.trans hale2, fun I σ w a hI hS hF hs b k cs => ?_⟩
      have hguard : ∀ yes, GuardR ops.toList o f yes → Region.wanted o (yielded ops a.tmps) = yes := fun yes hg => guard_model hg fun jj want t _ ht => ⟨Nat.lt_of_lt_of_le (dst_lt hn ht) hs, σ, I, hF t⟩
      have hst : StOp X.P ops j (fun a1 w1 => ∃ σ1, After σ I H nx w σ1 H1 n1 w1 ∧ FrameR σ1 I f1 a1.tmps ∧ a1.tmps.size = a.tmps.size ∧ a1.defers = a.defers) a w := by
        rcases hr with ⟨hg, hr⟩ | ⟨hg, ec, e1, e2⟩
        · refine .did ho (hguard true hg) (hr.2 I σ w a (hI.back hale2) hS hF) fun v w1 ⟨σ1, ha, hv⟩ => ⟨σ1, ha, ?_, put_size _ _ _, put_defers _ _ _⟩
          rw [ef]
          exact (hF.mono ha.ext.1).put hv fun t ht => Nat.lt_of_lt_of_le (hn o hmem t ht) hs
        · subst e1 e2 ec
          refine .skip ho (hguard false hg) ⟨σ, .grow hS (Grow.refl hf), ?_, put_size _ _ _, put_defers _ _ _⟩
          rw [ef]
          exact hF.put vr_undef fun t ht => Nat.lt_of_lt_of_le (hn o hmem t ht) hs
      obtain ⟨a1, w1, ⟨σ1, ha1, hF1, hs1, hd1⟩, hsteps⟩ := hst b (List.range' (j + 1) l.length) k cs
      obtain ⟨a2, w2, σ2, ha2, hF2, hs2, hd2, hsteps2⟩ := hrest I σ1 w1 a1 hI ha1.rel hF1 (by omega) b k cs
      exact ⟨a2, w2, σ2, ha1.trans ha2 hale.le (fun b e hb => (hS.dom b e hb).1), hF2, by omega, by rw [hd2, hd1], hsteps.trans hsteps2⟩
end Go.Ev
set_option linter.unusedVariables false
set_option linter.unusedSimpArgs false
namespace Go.Ev
variable {X : Env} {f : FR} {H : HT} {nx : Nat} {call : CallT}

/-! ### Code -/
/-- as Code.wp, a loop entered at its body -/
def wpL (P : Program) (c : Code) (Q : Exit → Act → World → Prop) (a : Act) (w : World) : Prop :=
  ∀ (b : Frame) (k : List Item) (cs : List Frame), ∃ e a' w', Q e a' w' ∧ Arrives P (lone (b.at a (match c with | .loop d => .code d :: .inLoop d :: k | c => .code c :: k)) cs w) b k cs e a' w'
theorem wpL.wp {P : Program} {c : Code} {Q : Exit → Act → World → Prop} {a : Act} {w : World} (h : wpL P c Q a w) : c.wp P Q a w := by
  cases c with
  | loop d =>
    intro b k cs
    obtain ⟨e, a', w', q, r⟩ := h b k cs
    exact ⟨e, a', w', q, .of_steps (.one step_loop) r⟩
  | _ => exact h
theorem wpL_loop {P : Program} {d : Code} {Q : Exit → Act → World → Prop} {a : Act} {w : World} (h : d.wp P (Exit.then (fun a w => wpL P (.loop d) Q a w) Q) a w) : wpL P (.loop d) Q a w := by
  intro b k cs
  obtain ⟨e, a₁, w₁, hq, harr⟩ := h b (.inLoop d :: k) cs
  cases e with
  | normal =>
    obtain ⟨e₂, a₂, w₂, hq₂, harr₂⟩ := hq b k cs
    exact ⟨e₂, a₂, w₂, hq₂, .of_steps (Steps.trans harr (.one step_inLoop)) harr₂⟩
  | exit id => exact ⟨_, a₁, w₁, hq, .pass (x := .inLoop d) rfl (fun _ _ => .inl (by simp)) harr⟩
  | goto l => exact ⟨_, a₁, w₁, hq, .pass (x := .inLoop d) rfl (fun _ _ => .inl (by simp)) harr⟩
  | ret => exact ⟨_, a₁, w₁, hq, .pass (x := .inLoop d) rfl (fun _ _ => .inl (by simp)) harr⟩
  | panic ch => exact ⟨_, a₁, w₁, hq, .pass (x := .inLoop d) rfl (fun _ _ => .inl (by simp)) harr⟩
  | outgrown => exact ⟨_, a₁, w₁, hq, .pass (x := .inLoop d) rfl (fun _ _ => .inl (by simp)) harr⟩
/-- what a piece of code leaves -/
def PostC (σ : Sig) (I : Imm) (H : HT) (nx : Nat) (w : World) (n : Nat) (e : Exit) (f' : FR) (H' : HT) (nx' : Nat) : Exit → Act → World → Prop :=
  fun e' a' w' => e' = e ∧ ∃ σ', After σ I H nx w σ' H' nx' w' ∧ FrameR σ' I f' a'.tmps ∧ n ≤ a'.tmps.size ∧ a'.defers = []
def CodS (X : Env) (n : Nat) (c : Code) (f : FR) (H : HT) (nx : Nat) (e : Exit) (f' : FR) (H' : HT) (nx' : Nat) : Prop :=
  ALe H nx H' nx' ∧ ∀ (I : Imm) (σ : Sig) (w : World) (a : Act), Holds I H' nx' → SRel σ I H nx w → FrameR σ I f a.tmps → n ≤ a.tmps.size → a.defers = [] → wpL X.P c (PostC σ I H nx w n e f' H' nx') a w
def OutS (X : Env) (n : Nat) (c : Code) (f : FR) (H : HT) (nx : Nat) : Out → Prop
  | .norm f' H' nx' => CodS X n c f H nx .normal f' H' nx'
  | .ret f' H' nx' => CodS X n c f H nx .ret f' H' nx'
  | .exit i f' H' nx' => CodS X n c f H nx (.exit i) f' H' nx'
  | .bad _ => True
/-- the evaluator of code tells the truth -/
def RunOk (X : Env) (run : RunT) : Prop := ∀ g c f H nx n, codeOk n c = true → drawsOk X g c = true → Free H nx → OutS X n c f H nx (run g c f H nx)
/-- what is wanted of the regions that draw -/
def DrawOk (X : Env) (call : CallT) : Prop := ∀ (r : Nat) (ops : Array Oper) (n : Nat) (f : FR) (H : HT) (nx : Nat), drawOk X ops.toList = true → (∀ o ∈ ops.toList, ∀ t, o.dst = some t → t < n) → Free H nx →
  OutS X n (.region r ops true) f H nx (runDrawL (drawReads X ops.toList) ops.toList X call f H nx)
theorem PostC.chain {σ σ1 : Sig} {I : Imm} {H1 : HT} {n1 n : Nat} {w w1 : World} {e : Exit} {f' : FR} {H' : HT} {nx' : Nat} (hS : SRel σ I H nx w) (ha : After σ I H nx w σ1 H1 n1 w1) (hle : nx ≤ n1) {e' : Exit} {a' : Act} {w' : World} (h : PostC σ1 I H1 n1 w1 n e f' H' nx' e' a' w') : PostC σ I H nx w n e f' H' nx' e' a' w' := by
  obtain ⟨he, σ', h1, h2, h3, h4⟩ := h
  exact ⟨he, σ', ha.trans h1 hle (fun b e hb => (hS.dom b e hb).1), h2, h3, h4⟩
theorem codS_here (hf : Free H nx) {n : Nat} {c : Code} {e : Exit} (h : ∀ (P : Program) (Q : Exit → Act → World → Prop) a w, Q e a w → wpL P c Q a w) : CodS X n c f H nx e f H nx :=
  ⟨(Grow.refl hf).toALe, fun I σ w a hI hS hF hs hd => h _ _ _ _ ⟨rfl, σ, .grow hS (Grow.refl hf), hF, hs, hd⟩⟩
theorem run_region (hX : EnvOk X) (hFo : FormOk X) (hT : 3 ≤ X.P.types.size) (hc : CallOk X call) {ops : Array Oper} {n r : Nat} (hn : ∀ o ∈ ops.toList, ∀ t, o.dst = some t → t < n) (hf : Free H nx) :
    OutS X n (.region r ops false) f H nx (runOps ops.toList ops.toList X call f H nx) := by
  rcases runOps_sound hX hFo hT hc hn ops.toList 0 f H nx rfl hf with ⟨m, e⟩ | ⟨f', H', nx', e, hale, hr⟩
  · rw [e]; trivial
  · rw [e]
    refine ⟨hale, fun I σ w a hI hS hF hs hd b k cs => ?_⟩
    obtain ⟨a', w', σ', ha, hF', hs', hd', hst⟩ := hr I σ w a hI hS hF hs b k cs
    refine ⟨.normal, a', w', ⟨rfl, σ', ha, hF', by omega, by rw [hd', hd]⟩, .head step_region (Steps.trans ?_ (.one (step_region_end (ops := ops))))⟩
    have : List.range ops.size = List.range' 0 ops.toList.length := by simp [List.range_eq_range']
    rw [this]; exact hst
theorem ops_dst {ops : Array Oper} {n : Nat} (h : (ops.toList.all fun o => match o.dst with | some t => decide (t < n) | none => true) = true) : ∀ o ∈ ops.toList, ∀ t, o.dst = some t → t < n := fun o ho t ht => by
  have := List.all_eq_true.1 h o ho
  rw [ht] at this
  simpa using this
theorem runF_sound (hX : EnvOk X) (hFo : FormOk X) (hT : 3 ≤ X.P.types.size) {run : RunT} (hr : RunOk X run) (hc : CallOk X (callBy X run)) (hD : DrawOk X (callBy X run)) :
    ∀ (c : Code) (g : Nat) (f : FR) (H : HT) (nx n : Nat), codeOk n c = true → drawsOk X g c = true → Free H nx → OutS X n c f H nx (runF c X run g f H nx) := by
  intro c
  induction c with
  | skip => exact fun g f H nx n _ _ hf => codS_here hf fun P Q a w h => wp_skip h
  | label l => exact fun g f H nx n _ _ hf => codS_here hf fun P Q a w h => wp_label h
  | ret => exact fun g f H nx n _ _ hf => codS_here hf fun P Q a w h => wp_ret h
  | exit i => exact fun g f H nx n _ _ hf => codS_here hf fun P Q a w h => wp_exit h
  | goto l => exact fun g f H nx n _ _ hf => trivial
  | refuse s => exact fun g f H nx n _ _ hf => trivial
  | rangeFunc f p a b => exact fun g f H nx n _ _ hf => trivial
  | region r ops d =>
    intro g f H nx n hn hdr hf
    have hn' := ops_dst hn
    cases d with
    | false => exact run_region hX hFo hT hc hn' hf
    | true =>
      show OutS X n _ f H nx (@Option.rec (List (Nat × Nat × Nat)) (fun _ => Out) (.bad 135) (fun l => runDrawL l ops.toList X (callBy X run) f H nx) (X.dr g r))
      unfold drawsOk at hdr
      cases hx : X.dr g r with
      | none => trivial
      | some l =>
        rw [hx] at hdr
        simp only [Bool.and_eq_true, beq_iff_eq] at hdr
        rw [hdr.2]
        exact hD r ops n f H nx hdr.1 hn' hf
  | seq a b iha ihb =>
    intro g f H nx n hn hdr hf
    simp only [codeOk, drawsOk, Bool.and_eq_true] at hn hdr
    have h1 := iha g f H nx n hn.1 hdr.1 hf
    show OutS X n _ f H nx (@Out.rec (fun _ => Out) (runF b X run g) .ret .exit .bad (runF a X run g f H nx))
    cases ho : runF a X run g f H nx with
    | bad m => trivial
    | norm f1 H1 n1 =>
      rw [ho] at h1
      have h2 := ihb g f1 H1 n1 n hn.2 hdr.2 h1.1.free
      show OutS X n _ f H nx (runF b X run g f1 H1 n1)
      have key : ∀ e f' H' nx', CodS X n b f1 H1 n1 e f' H' nx' → CodS X n (.seq a b) f H nx e f' H' nx' := fun e f' H' nx' h => by
        refine ⟨h1.1.trans h.1, fun I σ w ac hI hS hF hs hd => wp_seq (wp_mono (h1.2 I σ w ac (hI.back h.1) hS hF hs hd).wp fun e' a' w' hp => ?_)⟩
        obtain ⟨rfl, σ1, ha1, hF1, hs1, hd1⟩ := hp
        exact wp_mono (h.2 I σ1 w' a' hI ha1.rel hF1 hs1 hd1).wp fun e2 a2 w2 h2 => h2.chain hS ha1 h1.1.le
      cases ho2 : runF b X run g f1 H1 n1 with
      | bad m => trivial
      | norm f' H' nx' => rw [ho2] at h2; exact key _ _ _ _ h2
      | ret f' H' nx' => rw [ho2] at h2; exact key _ _ _ _ h2
      | exit i f' H' nx' => rw [ho2] at h2; exact key _ _ _ _ h2
    | ret f1 H1 n1 =>
      rw [ho] at h1
      refine ⟨h1.1, fun I σ w ac hI hS hF hs hd => wp_seq (wp_mono (h1.2 I σ w ac hI hS hF hs hd).wp fun e' a' w' hp => ?_)⟩
      obtain ⟨rfl, hp⟩ := hp; exact ⟨rfl, hp⟩
    | exit i f1 H1 n1 =>
      rw [ho] at h1
      refine ⟨h1.1, fun I σ w ac hI hS hF hs hd => wp_seq (wp_mono (h1.2 I σ w ac hI hS hF hs hd).wp fun e' a' w' hp => ?_)⟩
      obtain ⟨rfl, hp⟩ := hp; exact ⟨rfl, hp⟩
  | cond c a b iha ihb =>
    intro g f H nx n hn hdr hf
    simp only [codeOk, drawsOk, Bool.and_eq_true] at hn hdr
    show OutS X n _ f H nx (arg c f H nx fun c H nx => boolK c (runF a X run g f H nx) (runF b X run g f H nx))
    rcases arg_tells (x := c) (f := f) hf (fun c H nx => boolK c (runF a X run g f H nx) (runF b X run g f H nx)) with ⟨m, e⟩ | ⟨cc, H1, n1, e, g1, hA⟩
    · rw [e]; trivial
    · rw [e]
      have key : ∀ (t : Bool) (d : Code), (cc = boolC t) → (if t then a else b) = d → ∀ o, OutS X n d f H1 n1 o → OutS X n (.cond c a b) f H nx o := by
        intro t d ht hd o hO
        have one : ∀ e f' H' nx', CodS X n d f H1 n1 e f' H' nx' → CodS X n (.cond c a b) f H nx e f' H' nx' := fun e f' H' nx' h => by
          refine ⟨g1.toALe.trans h.1, fun I σ w ac hI hS hF hs hdf => ?_⟩
          have hv := hA I σ ac (hI.back h.1) hF
          have hb : ac.eval c = .bool t := by
            rw [ht] at hv
            cases t
            · exact bool_no hv rfl
            · exact bool_yes hv rfl
          have hw := (h.2 I σ w ac hI (hS.grow g1) hF hs hdf).wp
          refine wp_cond hb ?_
          rw [hd]
          exact wp_mono hw fun e2 a2 w2 h2 => h2.chain hS (.grow hS g1) g1.le
        cases o with
        | bad m => trivial
        | norm f' H' nx' => exact one _ _ _ _ hO
        | ret f' H' nx' => exact one _ _ _ _ hO
        | exit i f' H' nx' => exact one _ _ _ _ hO
      show OutS X n _ f H nx (br (br (.bad 31) (runF b X run g f H1 n1) (Nat.beq cc 237684487542793012780631851008)) (runF a X run g f H1 n1) (Nat.beq cc 237684487542793012780631851009))
      cases h1 : Nat.beq cc 237684487542793012780631851009 with
      | true => exact key true a (beq_iff.1 h1) rfl _ (iha g f H1 n1 n hn.1 hdr.1 g1.free)
      | false =>
        cases h2 : Nat.beq cc 237684487542793012780631851008 with
        | true => exact key false b (beq_iff.1 h2) rfl _ (ihb g f H1 n1 n hn.2 hdr.2 g1.free)
        | false => trivial
  | block i b ih =>
    intro g f H nx n hn hdr hf
    have h1 := ih g f H nx n hn hdr hf
    show OutS X n _ f H nx (@Out.rec (fun _ => Out) .norm .ret (fun j f H nx => br (.exit j f H nx) (.norm f H nx) (Nat.beq j i)) .bad (runF b X run g f H nx))
    cases ho : runF b X run g f H nx with
    | bad m => trivial
    | norm f1 H1 n1 =>
      rw [ho] at h1
      refine ⟨h1.1, fun I σ w ac hI hS hF hs hd => wp_block (wp_mono (h1.2 I σ w ac hI hS hF hs hd).wp fun e' a' w' hp => ?_)⟩
      obtain ⟨rfl, hp⟩ := hp; exact ⟨rfl, hp⟩
    | ret f1 H1 n1 =>
      rw [ho] at h1
      refine ⟨h1.1, fun I σ w ac hI hS hF hs hd => wp_block (wp_mono (h1.2 I σ w ac hI hS hF hs hd).wp fun e' a' w' hp => ?_)⟩
      obtain ⟨rfl, hp⟩ := hp; exact ⟨rfl, hp⟩
    | exit j f1 H1 n1 =>
      rw [ho] at h1
      show OutS X n _ f H nx (br (.exit j f1 H1 n1) (.norm f1 H1 n1) (Nat.beq j i))
      cases hji : Nat.beq j i with
      | true =>
        have hji' := beq_iff.1 hji
        refine ⟨h1.1, fun I σ w ac hI hS hF hs hd => wp_block (wp_mono (h1.2 I σ w ac hI hS hF hs hd).wp fun e' a' w' hp => ?_)⟩
        obtain ⟨rfl, hp⟩ := hp
        simp only [Exit.inBlock, hji', if_true]; exact ⟨rfl, hp⟩
      | false =>
        have hji' := beq_false.1 hji
        refine ⟨h1.1, fun I σ w ac hI hS hF hs hd => wp_block (wp_mono (h1.2 I σ w ac hI hS hF hs hd).wp fun e' a' w' hp => ?_)⟩
        obtain ⟨rfl, hp⟩ := hp
        simp only [Exit.inBlock, if_neg hji']; exact ⟨rfl, hp⟩
  | loop b ih =>
    intro g f H nx n hn hdr hf
    have h1 := ih g f H nx n hn hdr hf
    show OutS X n _ f H nx (@Out.rec (fun _ => Out) (run g (.loop b)) .ret .exit .bad (runF b X run g f H nx))
    cases ho : runF b X run g f H nx with
    | bad m => trivial
    | norm f1 H1 n1 =>
      rw [ho] at h1
      have h2 := hr g (.loop b) f1 H1 n1 n hn hdr h1.1.free
      show OutS X n _ f H nx (run g (.loop b) f1 H1 n1)
      have key : ∀ e f' H' nx', CodS X n (.loop b) f1 H1 n1 e f' H' nx' → CodS X n (.loop b) f H nx e f' H' nx' := fun e f' H' nx' h => by
        refine ⟨h1.1.trans h.1, fun I σ w ac hI hS hF hs hd => wpL_loop (wp_mono (h1.2 I σ w ac (hI.back h.1) hS hF hs hd).wp fun e' a' w' hp => ?_)⟩
        obtain ⟨rfl, σ1, ha1, hF1, hs1, hd1⟩ := hp
        intro b' k cs
        obtain ⟨e2, a2, w2, q2, r2⟩ := h.2 I σ1 w' a' hI ha1.rel hF1 hs1 hd1 b' k cs
        exact ⟨e2, a2, w2, q2.chain hS ha1 h1.1.le, r2⟩
      cases ho2 : run g (.loop b) f1 H1 n1 with
      | bad m => trivial
      | norm f' H' nx' => rw [ho2] at h2; exact key _ _ _ _ h2
      | ret f' H' nx' => rw [ho2] at h2; exact key _ _ _ _ h2
      | exit i f' H' nx' => rw [ho2] at h2; exact key _ _ _ _ h2
    | ret f1 H1 n1 =>
      rw [ho] at h1
      refine ⟨h1.1, fun I σ w ac hI hS hF hs hd => wpL_loop (wp_mono (h1.2 I σ w ac hI hS hF hs hd).wp fun e' a' w' hp => ?_)⟩
      obtain ⟨rfl, hp⟩ := hp; exact ⟨rfl, hp⟩
    | exit i f1 H1 n1 =>
      rw [ho] at h1
      refine ⟨h1.1, fun I σ w ac hI hS hF hs hd => wpL_loop (wp_mono (h1.2 I σ w ac hI hS hF hs hd).wp fun e' a' w' hp => ?_)⟩
      obtain ⟨rfl, hp⟩ := hp; exact ⟨rfl, hp⟩
  | scope b ih =>
    intro g f H nx n hn hdr hf
    have h1 := ih g f H nx n hn hdr hf
    show OutS X n _ f H nx (runF b X run g f H nx)
    cases ho : runF b X run g f H nx with
    | bad m => trivial
    | norm f1 H1 n1 =>
      rw [ho] at h1
      refine ⟨h1.1, fun I σ w ac hI hS hF hs hd => wp_scope_straight (wp_mono (h1.2 I σ w ac hI hS hF hs hd).wp fun e' a' w' hp => ?_)⟩
      obtain ⟨rfl, hp⟩ := hp; exact ⟨rfl, hp⟩
    | ret f1 H1 n1 =>
      rw [ho] at h1
      refine ⟨h1.1, fun I σ w ac hI hS hF hs hd => wp_scope_straight (wp_mono (h1.2 I σ w ac hI hS hF hs hd).wp fun e' a' w' hp => ?_)⟩
      obtain ⟨rfl, hp⟩ := hp; exact ⟨rfl, hp⟩
    | exit i f1 H1 n1 =>
      rw [ho] at h1
      refine ⟨h1.1, fun I σ w ac hI hS hF hs hd => wp_scope_straight (wp_mono (h1.2 I σ w ac hI hS hF hs hd).wp fun e' a' w' hp => ?_)⟩
      obtain ⟨rfl, hp⟩ := hp; exact ⟨rfl, hp⟩
end Go.Ev
