/-
  What both sides hold: the state in plain numbers, and where each side has it. The program's side, step by step. The document's side, step by step.
-/
import Derived.Test.YtgjnadligocdkaaGreatDoorBg
set_option linter.unusedVariables false
set_option linter.unusedSimpArgs false
set_option maxRecDepth 100000
namespace Go.Proofs.YtgjnadligocdkaaGreatDoor
open Go.RowKit
theorem nd {l : List Nat} (h : l.Nodup) {i j a b : Nat} (hi : l[i]? = some a) (hj : l[j]? = some b) (hij : i ≠ j) : a ≠ b := fun e => by
  obtain ⟨h1, e1⟩ := List.getElem?_eq_some_iff.1 hi
  obtain ⟨h2, e2⟩ := List.getElem?_eq_some_iff.1 hj
  exact hij ((List.getElem_inj h).1 (by rw [e1, e2, e]))
theorem FilAt.turned {w w' : World} {F R β M st c : Nat} {A B : ByteArray} {S : Value} {Bs : List Nat} (h : FilAt w F R β M st c A B S) (t : Turned Bs w w') (h1 : F ∉ Bs) (h2 : R ∉ Bs) (h3 : M ∉ Bs) : FilAt w' F R β M st c A B S :=
  ⟨BlkR.turned h.1 t h1, h.2.1.turned t h2, h.2.2.1.keep (t.same M h.2.2.1.lt h3), h.2.2.2⟩
theorem FiqAt.turned {w w' : World} {F R β c st L l lk : Nat} {A B : ByteArray} {S : Value} {Bs : List Nat} (h : FiqAt w F R β c st L l lk A B S) (t : Turned Bs w w') (h1 : F ∉ Bs) (h2 : R ∉ Bs) (h3 : L ∉ Bs) : FiqAt w' F R β c st L l lk A B S :=
  ⟨BlkR.turned h.1 t h1, h.2.1.turned t h2, h.2.2.1, h.2.2.2.1, h.2.2.2.2.1, fun q => ⟨(h.2.2.2.2.2 q).1.turned t h3, (h.2.2.2.2.2 q).2⟩⟩
theorem PrAt.turned {w w' : World} {P R β cap last : Nat} {is : List Nat} {Bs : List Nat} (h : PrAt w P R β cap is last) (t : Turned Bs w w') (h1 : P ∉ Bs) (h2 : R ∉ Bs) : PrAt w' P R β cap is last :=
  ⟨BlkR.turned h.1 t h1, h.2.1.turned t h2, h.2.2⟩
structure Ps where
  a : Nat
  b : Nat
  x : Nat
  y : Nat
  st : Nat
  v : Nat
  W : Nat
  n : Nat
  T : Nat → Nat
  alive : Bool
  ph : Nat
  ma : Nat
  mb : Nat
def Ps.mt (s : Ps) : List Value := if s.ph < 3 then zM else metaV s.ma s.mb
def Ps.ep (s : Ps) : Value := if s.ph = 5 then .iface 125 (.int .i64 19) else .nilIface
def Ps.eq (s : Ps) : Nat := if s.ph = 5 then 19 else 0
structure Ps.Ok (s : Ps) (most : Int) : Prop where
  a : s.a < 62
  b : s.b < 62
  x : s.x < 5
  y : s.y < 5
  ea : s.a % 2 = 0
  eb : s.b % 2 = 1
  st : s.st < 3
  v1 : (s.v % 2 = 0 → s.v = s.a) ∧ (s.v % 2 = 1 → s.v = s.b)
  v2 : s.st = (if s.v = 1 then 0 else if s.v = 2 then 1 else 2)
  v3 : 1 ≤ s.v
  W : s.W < 3
  n : s.n ≤ 8
  T : ∀ i, s.T i < 18446744073709551616
  ph : 1 ≤ s.ph ∧ s.ph ≤ 5
  own : 2 ≤ s.ph → s.W = 1
  chosen : 3 ≤ s.ph → s.ma < 62 ∧ 2 ≤ s.mb ∧ s.mb ≤ 6
  room : 3 ≤ s.ph → s.ph < 5 → (s.mb : Int) ≤ most
structure Pb where
  F : Nat
  R : Nat
  β : Nat
  M : Nat
  c : Nat
  K : Nat
  P : Nat
  Q : Nat
  γ : Nat
  d : Nat
  A : Nat
  S : Value
  o : Nat
def Pb.foot (p : Pb) : List Nat := [p.F, p.R, p.M, p.K, p.P, p.Q, p.A]
structure PSt (w : World) (p : Pb) (s : Ps) (most : Int) : Prop where
  fil : FilAt w p.F p.R p.β p.M s.st p.c (metaB s.a (s.x + 2)) (metaB s.b (s.y + 2)) p.S
  lk : LkAt w p.K s.W s.n s.T
  pr : PrAt w p.P p.Q p.γ p.d (liv s.alive) 2
  wr : Blk w p.A (wrV most s.ph s.mt (.int .u64 (p.o : Int)) (.pointer none) (.slice none 0 0) s.ep).toArray
  nd : p.foot.Nodup
  o : p.o < 18446744073709551616
structure Qb where
  F : Nat
  R : Nat
  β : Nat
  c : Nat
  L : Nat
  l : Nat
  k : Nat
  K : Nat
  P : Nat
  Q : Nat
  γ : Nat
  d : Nat
  A : Nat
  S : Value
  o : Nat
def Qb.foot (q : Qb) : List Nat := [q.F, q.R, q.L, q.K, q.P, q.Q, q.A]
structure QSt (w : World) (q : Qb) (s : Ps) (most : Int) : Prop where
  fil : FiqAt w q.F q.R q.β q.c s.st q.L q.l q.k (metaB s.a (s.x + 2)) (metaB s.b (s.y + 2)) q.S
  lk : LkAt w q.K s.W s.n s.T
  pr : PrAt w q.P q.Q q.γ q.d (liv s.alive) 2
  wr : Blk w q.A (wqV most s.ph s.eq s.mt (.int .u64 (q.o : Int)) (.slice none 0 0) (.pointer none)).toArray
  nd : q.foot.Nodup
  o : q.o < 18446744073709551616
  L : q.L < w.heap.size
theorem PSt.keep {w w' : World} {p : Pb} {s : Ps} {most : Int} {Bs : List Nat} (h : PSt w p s most) (t : Turned Bs w w') (hd : ∀ x ∈ p.foot, x ∉ Bs) : PSt w' p s most := by
  have f : ∀ i x, p.foot[i]? = some x → x ∉ Bs := fun i x e => hd x (List.mem_of_getElem? e)
  exact ⟨h.fil.turned t (f 0 _ rfl) (f 1 _ rfl) (f 2 _ rfl), BlkR.turned h.lk t (f 3 _ rfl), h.pr.turned t (f 4 _ rfl) (f 5 _ rfl), BlkR.turned h.wr t (f 6 _ rfl), h.nd, h.o⟩
theorem QSt.keep {w w' : World} {p : Qb} {s : Ps} {most : Int} {Bs : List Nat} (h : QSt w p s most) (t : Turned Bs w w') (hd : ∀ x ∈ p.foot, x ∉ Bs) : QSt w' p s most := by
  have f : ∀ i x, p.foot[i]? = some x → x ∉ Bs := fun i x e => hd x (List.mem_of_getElem? e)
  exact ⟨h.fil.turned t (f 0 _ rfl) (f 1 _ rfl) (f 2 _ rfl), BlkR.turned h.lk t (f 3 _ rfl), h.pr.turned t (f 4 _ rfl) (f 5 _ rfl), BlkR.turned h.wr t (f 6 _ rfl), h.nd, h.o, Nat.lt_of_lt_of_le h.L t.size⟩
theorem PSt.lt {w : World} {p : Pb} {s : Ps} {most : Int} (h : PSt w p s most) : ∀ x ∈ p.foot, x < w.heap.size := fun x hx => by
  simp only [Pb.foot, List.mem_cons, List.not_mem_nil, or_false] at hx
  rcases hx with rfl | rfl | rfl | rfl | rfl | rfl | rfl
  · exact BlkR.lt h.fil.1
  · exact BlkR.lt h.fil.2.1
  · exact h.fil.2.2.1.lt
  · exact BlkR.lt h.lk
  · exact BlkR.lt h.pr.1
  · exact BlkR.lt h.pr.2.1
  · exact BlkR.lt h.wr
theorem QSt.lt {w : World} {p : Qb} {s : Ps} {most : Int} (h : QSt w p s most) : ∀ x ∈ p.foot, x < w.heap.size := fun x hx => by
  simp only [Qb.foot, List.mem_cons, List.not_mem_nil, or_false] at hx
  rcases hx with rfl | rfl | rfl | rfl | rfl | rfl | rfl
  · exact BlkR.lt h.fil.1
  · exact BlkR.lt h.fil.2.1
  · exact h.L
  · exact BlkR.lt h.lk
  · exact BlkR.lt h.pr.1
  · exact BlkR.lt h.pr.2.1
  · exact BlkR.lt h.wr
def PTo (w : World) (p : Pb) (s : Ps) (most : Int) (w' : World) : Prop := ∃ p', PSt w' p' s most ∧ Turned p.foot w w' ∧ p'.F = p.F ∧ p'.K = p.K ∧ p'.P = p.P ∧ p'.A = p.A ∧ ∀ x ∈ p'.foot, x ∈ p.foot ∨ w.heap.size ≤ x
def QTo (w : World) (q : Qb) (s : Ps) (most : Int) (w' : World) : Prop := ∃ q', QSt w' q' s most ∧ Turned q.foot w w' ∧ q'.F = q.F ∧ q'.K = q.K ∧ q'.P = q.P ∧ q'.A = q.A ∧ ∀ x ∈ q'.foot, x ∈ q.foot ∨ w.heap.size ≤ x
def Bt (pF pK pP pA qF qK qP qA : Nat) (w : World) (s s' : Ps) (most : Int) : Prop := ∃ p q, PSt w p s most ∧ QSt w q s' most ∧ (∀ x ∈ p.foot, x ∉ q.foot) ∧ p.F = pF ∧ p.K = pK ∧ p.P = pP ∧ p.A = pA ∧ q.F = qF ∧ q.K = qK ∧ q.P = qP ∧ q.A = qA
theorem Bt.left {pF pK pP pA qF qK qP qA : Nat} {w w' : World} {s s' t : Ps} {most : Int} {p : Pb} {q : Qb} (hq : QSt w q s' most) (hd : ∀ x ∈ p.foot, x ∉ q.foot) (hp : p.F = pF ∧ p.K = pK ∧ p.P = pP ∧ p.A = pA) (hqe : q.F = qF ∧ q.K = qK ∧ q.P = qP ∧ q.A = qA) (h : PTo w p t most w') : Bt pF pK pP pA qF qK qP qA w' t s' most := by
  obtain ⟨p', h1, h2, h3, h4, h5, h6, h7⟩ := h
  refine ⟨p', q, h1, hq.keep h2 (fun x hx hx' => hd x hx' hx), fun x hx hx' => ?_, h3.trans hp.1, h4.trans hp.2.1, h5.trans hp.2.2.1, h6.trans hp.2.2.2, hqe⟩
  rcases h7 x hx with k | k
  · exact hd x k hx'
  · have := hq.lt x hx'; omega
theorem Bt.right {pF pK pP pA qF qK qP qA : Nat} {w w' : World} {s t : Ps} {most : Int} {p : Pb} {q : Qb} (hp' : PSt w p s most) (hd : ∀ x ∈ p.foot, x ∉ q.foot) (hp : p.F = pF ∧ p.K = pK ∧ p.P = pP ∧ p.A = pA) (hqe : q.F = qF ∧ q.K = qK ∧ q.P = qP ∧ q.A = qA) (h : QTo w q t most w') : Bt pF pK pP pA qF qK qP qA w' s t most := by
  obtain ⟨q', h1, h2, h3, h4, h5, h6, h7⟩ := h
  refine ⟨p, q', hp'.keep h2 (fun x hx hx' => hd x hx hx'), h1, fun x hx hx' => ?_, hp.1, hp.2.1, hp.2.2.1, hp.2.2.2, h3.trans hqe.1, h4.trans hqe.2.1, h5.trans hqe.2.2.1, h6.trans hqe.2.2.2⟩
  rcases h7 x hx' with k | k
  · exact hd x hx k
  · have := hp'.lt x hx; omega
def Ps.take2 (s : Ps) : Ps := { s with W := if takeB s.W 2 s.alive then 2 else s.W }
def Ps.kill (s : Ps) : Ps := { s with alive := false }
def Ps.claim (s : Ps) : Ps := { s with n := clN s.n, T := clT s.n s.T }
def Ps.pub (s : Ps) (m x : Nat) : Ps := { s with T := if m < 8 then upd s.T m x else s.T }
def Ps.mput (s : Ps) (z : Nat) : Ps := { s with v := s.v + 1, a := if (s.v + 1) % 2 = 0 then s.v + 1 else s.a, x := if (s.v + 1) % 2 = 0 then z else s.x, b := if (s.v + 1) % 2 = 0 then s.b else s.v + 1, y := if (s.v + 1) % 2 = 0 then s.y else z, st := if s.v = 1 then 1 else 2 }
def Ps.b1 (s : Ps) : Ps := { s with W := if takeB s.W 1 s.alive then 1 else s.W, ph := if takeB s.W 1 s.alive then 2 else 1 }
def Ps.cm (s : Ps) : Nat := if s.a < s.b then s.b else s.a
def Ps.cl (s : Ps) : Nat := if s.a < s.b then s.y + 2 else s.x + 2
noncomputable def Ps.b2 (s : Ps) (most : Int) : Ps := { s with ma := s.cm, mb := s.cl, ph := if (s.cl : Int) ≤ most then 3 else 5 }
def Ps.b3 (s : Ps) : Ps := { s with n := swN s.alive s.n, T := swT s.alive s.n s.T, ph := 4 }
theorem own1 {W : Nat} {alive : Bool} (h : W = 1) : takeB W 2 alive = false := by
  subst h; cases alive <;> rfl
theorem Ps.Ok.take2 {s : Ps} {most : Int} (h : s.Ok most) : s.take2.Ok most := by
  refine { a := h.a, b := h.b, x := h.x, y := h.y, ea := h.ea, eb := h.eb, st := h.st, v1 := h.v1, v2 := h.v2, v3 := h.v3, W := ?_, n := h.n, T := h.T, ph := h.ph, own := fun q => ?_, chosen := h.chosen, room := h.room }
  · show (if _ then 2 else s.W) < 3
    have := h.W
    split <;> omega
  · have := h.own q
    show (if _ then 2 else s.W) = 1
    rw [own1 this]; exact this
theorem Ps.Ok.kill {s : Ps} {most : Int} (h : s.Ok most) : s.kill.Ok most :=
  { a := h.a, b := h.b, x := h.x, y := h.y, ea := h.ea, eb := h.eb, st := h.st, v1 := h.v1, v2 := h.v2, v3 := h.v3, W := h.W, n := h.n, T := h.T, ph := h.ph, own := h.own, chosen := h.chosen, room := h.room }
theorem Ps.Ok.claim {s : Ps} {most : Int} (h : s.Ok most) : s.claim.Ok most := by
  refine { a := h.a, b := h.b, x := h.x, y := h.y, ea := h.ea, eb := h.eb, st := h.st, v1 := h.v1, v2 := h.v2, v3 := h.v3, W := h.W, n := ?_, T := fun i => ?_, ph := h.ph, own := h.own, chosen := h.chosen, room := h.room }
  · show clN s.n ≤ 8
    unfold clN; split <;> omega
  · show clT s.n s.T i < _
    unfold clT; split
    · decide
    · exact h.T i
theorem Ps.Ok.pub {s : Ps} {most : Int} (h : s.Ok most) {m x : Nat} (hx : x < 18446744073709551616) : (s.pub m x).Ok most := by
  refine { a := h.a, b := h.b, x := h.x, y := h.y, ea := h.ea, eb := h.eb, st := h.st, v1 := h.v1, v2 := h.v2, v3 := h.v3, W := h.W, n := h.n, T := fun i => ?_, ph := h.ph, own := h.own, chosen := h.chosen, room := h.room }
  show (if m < 8 then upd s.T m x else s.T) i < _
  split
  · unfold upd; split
    · exact hx
    · exact h.T i
  · exact h.T i
theorem Ps.Ok.mput {s : Ps} {most : Int} (h : s.Ok most) {z : Nat} (hz : z < 5) (hv : s.v < 61) : (s.mput z).Ok most := by
  have h1 := h.a; have h2 := h.b; have h3 := h.x; have h4 := h.y; have h5 := h.ea; have h6 := h.eb; have h7 := h.v3
  refine { a := ?_, b := ?_, x := ?_, y := ?_, ea := ?_, eb := ?_, st := ?_, v1 := ?_, v2 := ?_, v3 := ?_, W := h.W, n := h.n, T := h.T, ph := h.ph, own := h.own, chosen := h.chosen, room := h.room }
  all_goals simp only [Ps.mput]
  · split <;> omega
  · split <;> omega
  · split <;> omega
  · split <;> omega
  · split <;> omega
  · split <;> omega
  · split <;> omega
  · constructor
    · intro q; rw [if_pos q]
    · intro q; rw [if_neg (by omega)]
  · by_cases q : s.v = 1
    · simp [q]
    · simp [q, show s.v ≠ 0 by omega]
  · omega
theorem Ps.Ok.b1 {s : Ps} {most : Int} (h : s.Ok most) (hp : s.ph = 1) : s.b1.Ok most := by
  refine { a := h.a, b := h.b, x := h.x, y := h.y, ea := h.ea, eb := h.eb, st := h.st, v1 := h.v1, v2 := h.v2, v3 := h.v3, W := ?_, n := h.n, T := h.T, ph := ?_, own := fun q => ?_, chosen := fun q => ?_, room := fun q => ?_ }
  · show (if _ then 1 else s.W) < 3
    have := h.W
    split <;> omega
  · show 1 ≤ (if _ then 2 else 1) ∧ (if _ then 2 else 1) ≤ 5
    split <;> decide
  · have q' : 2 ≤ (if takeB s.W 1 s.alive then 2 else 1) := q
    show (if takeB s.W 1 s.alive then 1 else s.W) = 1
    split at q'
    · rename_i e; rw [if_pos e]
    · omega
  all_goals
    have q' : 3 ≤ (if takeB s.W 1 s.alive then 2 else 1) := q
    split at q' <;> omega
theorem Ps.Ok.b2 {s : Ps} {most : Int} (h : s.Ok most) (hp : s.ph = 2) : (s.b2 most).Ok most := by
  have hc : s.cm < 62 ∧ 2 ≤ s.cl ∧ s.cl ≤ 6 := by
    have h1 := h.a; have h2 := h.b; have h3 := h.x; have h4 := h.y
    unfold Ps.cm Ps.cl
    split <;> omega
  refine { a := h.a, b := h.b, x := h.x, y := h.y, ea := h.ea, eb := h.eb, st := h.st, v1 := h.v1, v2 := h.v2, v3 := h.v3, W := h.W, n := h.n, T := h.T, ph := ?_, own := fun q => h.own (by omega), chosen := fun q => hc, room := fun q q2 => ?_ }
  · show 1 ≤ (if _ then 3 else 5) ∧ (if _ then 3 else 5) ≤ 5
    split <;> decide
  · have q' : (if (s.cl : Int) ≤ most then 3 else 5) < 5 := q2
    show (s.cl : Int) ≤ most
    split at q'
    · assumption
    · omega
theorem swT_lt {alive : Bool} {n : Nat} {T : Nat → Nat} (h : ∀ i, T i < 18446744073709551616) (i : Nat) : swT alive n T i < 18446744073709551616 := by
  unfold swT; split
  · decide
  · exact h i
theorem Ps.Ok.b3 {s : Ps} {most : Int} (h : s.Ok most) (hp : s.ph = 3) : s.b3.Ok most := by
  refine { a := h.a, b := h.b, x := h.x, y := h.y, ea := h.ea, eb := h.eb, st := h.st, v1 := h.v1, v2 := h.v2, v3 := h.v3, W := h.W, n := ?_, T := swT_lt h.T, ph := ⟨by show 1 ≤ 4; decide, by show 4 ≤ 5; decide⟩, own := fun q => h.own (by omega), chosen := fun q => h.chosen (by omega), room := fun q q2 => h.room (by omega) (by omega) }
  show swN s.alive s.n ≤ 8
  have := h.n
  unfold swN; split <;> omega
end Go.Proofs.YtgjnadligocdkaaGreatDoor
set_option linter.unusedVariables false
set_option linter.unusedSimpArgs false
set_option maxRecDepth 100000
namespace Go.Proofs.YtgjnadligocdkaaGreatDoor
open Go.RowKit
theorem nodup_new {N x : Nat} (hx : N ≤ x) : ∀ {l : List Nat} {i : Nat}, l.Nodup → (∀ y ∈ l, y < N) → (l.set i x).Nodup
  | [], _, _, _ => by simp
  | a :: l, 0, h, hl => by
    rw [List.nodup_cons] at h
    refine List.nodup_cons.2 ⟨fun q => ?_, h.2⟩
    have := hl x (List.mem_cons_of_mem _ q); omega
  | a :: l, i + 1, h, hl => by
    rw [List.nodup_cons] at h
    refine List.nodup_cons.2 ⟨fun q => ?_, nodup_new hx h.2 fun y hy => hl y (List.mem_cons_of_mem _ hy)⟩
    rcases List.mem_or_eq_of_mem_set q with q | q
    · exact h.1 q
    · have := hl a (List.mem_cons_self ..); omega
theorem out1 {l : List Nat} (h : l.Nodup) {i j a b : Nat} (hi : l[i]? = some a) (hj : l[j]? = some b) (n : i ≠ j) : a ∉ [b] := by
  simp only [List.mem_cons, List.not_mem_nil, or_false]
  exact nd h hi hj n
theorem out2 {l : List Nat} (h : l.Nodup) {i j k a b c : Nat} (hi : l[i]? = some a) (hj : l[j]? = some b) (hk : l[k]? = some c) (n : i ≠ j ∧ i ≠ k) : a ∉ [b, c] := by
  simp only [List.mem_cons, List.not_mem_nil, or_false, not_or]
  exact ⟨nd h hi hj n.1, nd h hi hk n.2⟩
theorem out3 {l : List Nat} (h : l.Nodup) {i j k m a b c d : Nat} (hi : l[i]? = some a) (hj : l[j]? = some b) (hk : l[k]? = some c) (hm : l[m]? = some d) (n : i ≠ j ∧ i ≠ k ∧ i ≠ m) : a ∉ [b, c, d] := by
  simp only [List.mem_cons, List.not_mem_nil, or_false, not_or]
  exact ⟨nd h hi hj n.1, nd h hi hk n.2.1, nd h hi hm n.2.2⟩
theorem out4 {l : List Nat} (h : l.Nodup) {i j k m o a b c d e : Nat} (hi : l[i]? = some a) (hj : l[j]? = some b) (hk : l[k]? = some c) (hm : l[m]? = some d) (ho : l[o]? = some e) (n : i ≠ j ∧ i ≠ k ∧ i ≠ m ∧ i ≠ o) : a ∉ [b, c, d, e] := by
  simp only [List.mem_cons, List.not_mem_nil, or_false, not_or]
  exact ⟨nd h hi hj n.1, nd h hi hk n.2.1, nd h hi hm n.2.2.1, nd h hi ho n.2.2.2⟩
theorem in_of {l : List Nat} {i x : Nat} (h : l[i]? = some x) : x ∈ l := List.mem_of_getElem? h
theorem sub1 {l : List Nat} {j b : Nat} (hj : l[j]? = some b) : ∀ x ∈ [b], x ∈ l := all1 (in_of hj)
theorem sub2 {l : List Nat} {j k b c : Nat} (hj : l[j]? = some b) (hk : l[k]? = some c) : ∀ x ∈ [b, c], x ∈ l := all2 (in_of hj) (in_of hk)
theorem sub3 {l : List Nat} {j k m b c d : Nat} (hj : l[j]? = some b) (hk : l[k]? = some c) (hm : l[m]? = some d) : ∀ x ∈ [b, c, d], x ∈ l := all3 (in_of hj) (in_of hk) (in_of hm)
theorem sub4 {l : List Nat} {j k m o b c d e : Nat} (hj : l[j]? = some b) (hk : l[k]? = some c) (hm : l[m]? = some d) (ho : l[o]? = some e) : ∀ x ∈ [b, c, d, e], x ∈ l := fun x hx => by
  simp only [List.mem_cons, List.not_mem_nil, or_false] at hx
  rcases hx with rfl | rfl | rfl | rfl
  · exact in_of hj
  · exact in_of hk
  · exact in_of hm
  · exact in_of ho
theorem takeQ_in {W pid : Nat} {alive : Bool} (hW : W < 3) (hp : pid = 1 ∨ pid = 2) : (W, pid, alive) ∈ takeQ := by
  have h3 : W = 0 ∨ W = 1 ∨ W = 2 := by omega
  rcases h3 with rfl | rfl | rfl <;> rcases hp with rfl | rfl <;> cases alive <;> decide
section
variable {w : World} {p : Pb} {s : Ps} {most : Int}
theorem p_take2 (h : PSt w p s most) (ok : s.Ok most) : Calls Tryz.prog 14 #[.pointer (some ⟨p.K, 0, none⟩), .int .i64 2, .pointer (some ⟨p.P, 0, none⟩)] w fun e w' => (∃ v, e = .returned v) ∧ PTo w p s.take2 most w' := by
  refine (take_any p.K p.P p.Q p.γ p.d s.W s.n 2 s.T s.alive w h.lk h.pr (nd h.nd (i := 4) (j := 3) rfl rfl (by decide)) (nd h.nd (i := 5) (j := 3) rfl rfl (by decide)) (nd h.nd (i := 5) (j := 4) rfl rfl (by decide)) (takeQ_in ok.W (.inr rfl)) ok.n).mono ?_
  rintro e w' ⟨rfl, t, k, d', pr⟩
  have o := fun {i a} (hi : p.foot[i]? = some a) (n : i ≠ 3 ∧ i ≠ 4 ∧ i ≠ 5) => out3 h.nd hi (j := 3) (k := 4) (m := 5) rfl rfl rfl n
  exact ⟨⟨_, rfl⟩, { p with d := d' }, ⟨h.fil.turned t (o (i := 0) rfl (by decide)) (o (i := 1) rfl (by decide)) (o (i := 2) rfl (by decide)), k, pr, BlkR.turned h.wr t (o (i := 6) rfl (by decide)), h.nd, h.o⟩, t.mono (sub3 (j := 3) (k := 4) (m := 5) rfl rfl rfl), rfl, rfl, rfl, rfl, fun x hx => .inl hx⟩
theorem kill_any {g : Nat} (h2 : PrK g [1, 2]) (h1 : PrK g [1]) (alive : Bool) : PrK g (liv alive) := by
  cases alive
  · exact h1
  · exact h2
theorem p_kill (h : PSt w p s most) : Calls Tryz.prog 16 #[.pointer (some ⟨p.P, 0, none⟩), .int .i64 2] w fun e w' => (∃ v, e = .returned v) ∧ PTo w p s.kill most w' := by
  refine (kill_any kill_2 kill_1 s.alive p.P p.Q p.γ p.d w h.pr (nd h.nd (i := 5) (j := 4) rfl rfl (by decide))).mono ?_
  rintro e w' ⟨v, R', rfl, β', cap', t, r, ne, pr⟩
  have o := fun {i a} (hi : p.foot[i]? = some a) (n : i ≠ 4 ∧ i ≠ 5) => out2 h.nd hi (j := 4) (k := 5) rfl rfl n
  refine ⟨⟨_, rfl⟩, { p with Q := R', γ := β', d := cap' }, ⟨h.fil.turned t (o (i := 0) rfl (by decide)) (o (i := 1) rfl (by decide)) (o (i := 2) rfl (by decide)), BlkR.turned h.lk t (o (i := 3) rfl (by decide)), pr, BlkR.turned h.wr t (o (i := 6) rfl (by decide)), ?_, h.o⟩, t.mono (sub2 (j := 4) (k := 5) rfl rfl), rfl, rfl, rfl, rfl, fun x hx => ?_⟩
  · rcases r with r | r
    · rw [r]; exact h.nd
    · exact nodup_new (i := 5) r h.nd h.lt
  · rcases List.mem_or_eq_of_mem_set (l := p.foot) (i := 5) hx with q | q
    · exact .inl q
    · subst q
      rcases r with r | r
      · exact .inl (r ▸ in_of (l := p.foot) (i := 5) rfl)
      · exact .inr r
theorem p_claim (h : PSt w p s most) (ok : s.Ok most) : Calls Tryz.prog 18 #[.pointer (some ⟨p.K, 0, none⟩), .int .i64 2] w fun e w' => (∃ u, e = .returned (.tuple #[.int .i64 (slotZ s.n), u])) ∧ PTo w p s.claim most w' := by
  refine (claim_any p.K s.W s.n s.T w h.lk ok.W ok.n).mono ?_
  rintro e w' ⟨u, rfl, t, k⟩
  have o := fun {i a} (hi : p.foot[i]? = some a) (n : i ≠ 3) => out1 h.nd hi (j := 3) rfl n
  exact ⟨⟨_, rfl⟩, p, ⟨h.fil.turned t (o (i := 0) rfl (by decide)) (o (i := 1) rfl (by decide)) (o (i := 2) rfl (by decide)), k, h.pr.turned t (o (i := 4) rfl (by decide)) (o (i := 5) rfl (by decide)), BlkR.turned h.wr t (o (i := 6) rfl (by decide)), h.nd, h.o⟩, t.mono (sub1 (j := 3) rfl), rfl, rfl, rfl, rfl, fun x hx => .inl hx⟩
theorem p_pub (h : PSt w p s most) (ok : s.Ok most) {m x : Nat} (hm : m < 8 → m < s.n) : Calls Tryz.prog 20 #[.pointer (some ⟨p.K, 0, none⟩), .int .i64 (slotZ m), .int .i64 2, .int .u64 (x : Int)] w fun e w' => (∃ v, e = .returned v) ∧ PTo w p (s.pub m x) most w' := by
  have o := fun {i a} (hi : p.foot[i]? = some a) (n : i ≠ 3) => out1 h.nd hi (j := 3) rfl n
  have fin : ∀ {w'}, Turned [p.K] w w' → LkAt w' p.K s.W s.n (s.pub m x).T → PTo w p (s.pub m x) most w' := fun t k => ⟨p, ⟨h.fil.turned t (o (i := 0) rfl (by decide)) (o (i := 1) rfl (by decide)) (o (i := 2) rfl (by decide)), k, h.pr.turned t (o (i := 4) rfl (by decide)) (o (i := 5) rfl (by decide)), BlkR.turned h.wr t (o (i := 6) rfl (by decide)), h.nd, h.o⟩, t.mono (sub1 (j := 3) rfl), rfl, rfl, rfl, rfl, fun x hx => .inl hx⟩
  by_cases q : m < 8
  · have e1 : slotZ m = (m : Int) := if_pos q
    have e2 : (s.pub m x).T = upd s.T m x := if_pos q
    rw [e1]
    rw [e2] at fin
    refine (pub_any p.K s.W s.n m x s.T w h.lk ok.W ok.n (hm q)).mono ?_
    rintro e w' ⟨v, rfl, t, k⟩
    exact ⟨⟨_, rfl⟩, fin t k⟩
  · have e1 : slotZ m = -1 := if_neg q
    have e2 : (s.pub m x).T = s.T := if_neg q
    rw [e1]
    rw [e2] at fin
    refine (pubn_any p.K s.W s.n x s.T w h.lk ok.W ok.n).mono ?_
    rintro e w' ⟨v, rfl, t, k⟩
    exact ⟨⟨_, rfl⟩, fin t k⟩
theorem mst_v (s' : Nat) : ∀ v ∈ Ev.valsM (mst s').2.2, 3 ≤ Ev.hi v ∧ Ev.hi v ≤ 12 := by
  match s' with
  | 0 => intro v hv; cases hv
  | 1 => 
    intro v hv
    have : v = Ev.boolC true := by simpa [mst, Ev.valsM] using hv
    subst this
    decide +kernel
  | n + 2 =>
    intro v hv
    have : v = Ev.boolC true := by simpa [mst, Ev.valsM] using hv
    subst this
    decide +kernel
theorem p_write (h : PSt w p s most) (ok : s.Ok most) {z : Nat} : Calls Tryz.prog 23 #[.pointer (some ⟨p.F, 0, none⟩), .int .i64 (((s.v + 1) % 2 : Nat) : Int), .string (metaB (s.v + 1) (z + 2))] w fun e w' => (∃ v, e = .returned v) ∧ PTo w p (s.mput z) most w' := by
  have hrun : wrR s.st ((s.v + 1) % 2) (s.mput z).st = true := by
    have e2 := ok.v2
    have h3 := ok.v3
    show wrR s.st ((s.v + 1) % 2) (if s.v = 1 then 1 else 2) = true
    by_cases q : s.v = 1
    · rw [if_pos q] at e2 ⊢
      rw [e2, q]; exact wr_001
    · rw [if_neg q] at e2 ⊢
      by_cases q2 : s.v = 2
      · rw [if_pos q2] at e2
        rw [e2, q2]; exact wr_112
      · rw [if_neg q2] at e2
        rw [e2]
        have : (s.v + 1) % 2 = 0 ∨ (s.v + 1) % 2 = 1 := by omega
        rcases this with q3 | q3
        · rw [q3]; exact wr_202
        · rw [q3]; exact wr_212
  refine (write_p (i := (s.v + 1) % 2) (s' := (s.mput z).st) h.fil (by omega) (mst_v _) hrun).mono ?_
  rintro e w' ⟨rfl, f, t⟩
  have o := fun {i a} (hi : p.foot[i]? = some a) (n : i ≠ 0 ∧ i ≠ 1 ∧ i ≠ 2) => out3 h.nd hi (j := 0) (k := 1) (m := 2) rfl rfl rfl n
  refine ⟨⟨_, rfl⟩, p, ⟨?_, BlkR.turned h.lk t (o (i := 3) rfl (by decide)), h.pr.turned t (o (i := 4) rfl (by decide)) (o (i := 5) rfl (by decide)), BlkR.turned h.wr t (o (i := 6) rfl (by decide)), h.nd, h.o⟩, t.mono (sub3 (j := 0) (k := 1) (m := 2) rfl rfl rfl), rfl, rfl, rfl, rfl, fun x hx => .inl hx⟩
  have eA : (if (s.v + 1) % 2 = 0 then metaB (s.v + 1) (z + 2) else metaB s.a (s.x + 2)) = metaB (s.mput z).a ((s.mput z).x + 2) := by
    by_cases q : (s.v + 1) % 2 = 0
    · simp only [Ps.mput, if_pos q]
    · simp only [Ps.mput, if_neg q]
  have eB : (if (s.v + 1) % 2 = 0 then metaB s.b (s.y + 2) else metaB (s.v + 1) (z + 2)) = metaB (s.mput z).b ((s.mput z).y + 2) := by
    by_cases q : (s.v + 1) % 2 = 0
    · simp only [Ps.mput, if_pos q]
    · simp only [Ps.mput, if_neg q]
  rw [eA, eB] at f
  exact f
end
end Go.Proofs.YtgjnadligocdkaaGreatDoor
set_option linter.unusedVariables false
set_option linter.unusedSimpArgs false
set_option maxRecDepth 100000
namespace Go.Proofs.YtgjnadligocdkaaGreatDoor
open Go.RowKit
theorem nodup_set {l : List Nat} {i x : Nat} (h : l.Nodup) (hx : ∀ j (hj : j < l.length), j ≠ i → l[j] ≠ x) : (l.set i x).Nodup := by
  unfold List.Nodup at *
  rw [List.pairwise_iff_getElem] at *
  intro a b ha hb hab
  simp only [List.length_set] at ha hb
  rw [List.getElem_set, List.getElem_set]
  split
  · rename_i e; subst e
    rw [if_neg (by omega)]
    exact fun q => hx b hb (by omega) q.symm
  · split
    · exact hx a ha (by omega)
    · exact h a b ha hb hab
theorem nodup_two {l : List Nat} {i j x y N : Nat} (h : l.Nodup) (hl : ∀ z ∈ l, z < N) (hx : l[i]? = some x ∨ N ≤ x) (hy : l[j]? = some y ∨ N ≤ y) (hxy : x ≠ y) (hij : i ≠ j) : ((l.set i x).set j y).Nodup := by
  have h1 : (l.set i x).Nodup := nodup_set h fun k hk hki q => by
    rcases hx with e | e
    · obtain ⟨h2, e2⟩ := List.getElem?_eq_some_iff.1 e
      exact hki ((List.getElem_inj h).1 (by rw [q, e2]))
    · have := hl _ (List.getElem_mem hk); omega
  refine nodup_set h1 fun k hk hkj q => ?_
  simp only [List.length_set] at hk
  rw [List.getElem_set] at q
  split at q
  · exact hxy q
  · rcases hy with e | e
    · obtain ⟨h2, e2⟩ := List.getElem?_eq_some_iff.1 e
      exact hkj ((List.getElem_inj h).1 (by rw [q, e2]))
    · have := hl _ (List.getElem_mem hk); omega
section
variable {w : World} {p : Qb} {s : Ps} {most : Int}
theorem q_take2 (h : QSt w p s most) (ok : s.Ok most) : Calls Tryz.prog 15 #[.pointer (some ⟨p.K, 0, none⟩), .int .i64 2, .pointer (some ⟨p.P, 0, none⟩)] w fun e w' => (∃ v, e = .returned v) ∧ QTo w p s.take2 most w' := by
  refine (take_rany p.K p.P p.Q p.γ p.d s.W s.n 2 s.T s.alive w h.lk h.pr (nd h.nd (i := 4) (j := 3) rfl rfl (by decide)) (nd h.nd (i := 5) (j := 3) rfl rfl (by decide)) (nd h.nd (i := 5) (j := 4) rfl rfl (by decide)) (takeQ_in ok.W (.inr rfl)) ok.n).mono ?_
  rintro e w' ⟨rfl, t, k, d', pr⟩
  have o := fun {i a} (hi : p.foot[i]? = some a) (n : i ≠ 3 ∧ i ≠ 4 ∧ i ≠ 5) => out3 h.nd hi (j := 3) (k := 4) (m := 5) rfl rfl rfl n
  exact ⟨⟨_, rfl⟩, { p with d := d' }, ⟨h.fil.turned t (o (i := 0) rfl (by decide)) (o (i := 1) rfl (by decide)) (o (i := 2) rfl (by decide)), k, pr, BlkR.turned h.wr t (o (i := 6) rfl (by decide)), h.nd, h.o, Nat.lt_of_lt_of_le h.L t.size⟩, t.mono (sub3 (j := 3) (k := 4) (m := 5) rfl rfl rfl), rfl, rfl, rfl, rfl, fun x hx => .inl hx⟩
theorem q_kill (h : QSt w p s most) : Calls Tryz.prog 17 #[.pointer (some ⟨p.P, 0, none⟩), .int .i64 2] w fun e w' => (∃ v, e = .returned v) ∧ QTo w p s.kill most w' := by
  refine (kill_any kill_r2 kill_r1 s.alive p.P p.Q p.γ p.d w h.pr (nd h.nd (i := 5) (j := 4) rfl rfl (by decide))).mono ?_
  rintro e w' ⟨v, R', rfl, β', cap', t, r, ne, pr⟩
  have o := fun {i a} (hi : p.foot[i]? = some a) (n : i ≠ 4 ∧ i ≠ 5) => out2 h.nd hi (j := 4) (k := 5) rfl rfl n
  refine ⟨⟨_, rfl⟩, { p with Q := R', γ := β', d := cap' }, ⟨h.fil.turned t (o (i := 0) rfl (by decide)) (o (i := 1) rfl (by decide)) (o (i := 2) rfl (by decide)), BlkR.turned h.lk t (o (i := 3) rfl (by decide)), pr, BlkR.turned h.wr t (o (i := 6) rfl (by decide)), ?_, h.o, Nat.lt_of_lt_of_le h.L t.size⟩, t.mono (sub2 (j := 4) (k := 5) rfl rfl), rfl, rfl, rfl, rfl, fun x hx => ?_⟩
  · rcases r with r | r
    · rw [r]; exact h.nd
    · exact nodup_new (i := 5) r h.nd h.lt
  · rcases List.mem_or_eq_of_mem_set (l := p.foot) (i := 5) hx with q | q
    · exact .inl q
    · subst q
      rcases r with r | r
      · exact .inl (r ▸ in_of (l := p.foot) (i := 5) rfl)
      · exact .inr r
theorem q_claim (h : QSt w p s most) (ok : s.Ok most) : Calls Tryz.prog 19 #[.pointer (some ⟨p.K, 0, none⟩), .int .i64 2] w fun e w' => (∃ u, e = .returned (.tuple #[.int .i64 (slotZ s.n), u])) ∧ QTo w p s.claim most w' := by
  refine (claim_rany p.K s.W s.n s.T w h.lk ok.W ok.n).mono ?_
  rintro e w' ⟨u, rfl, t, k⟩
  have o := fun {i a} (hi : p.foot[i]? = some a) (n : i ≠ 3) => out1 h.nd hi (j := 3) rfl n
  exact ⟨⟨_, rfl⟩, p, ⟨h.fil.turned t (o (i := 0) rfl (by decide)) (o (i := 1) rfl (by decide)) (o (i := 2) rfl (by decide)), k, h.pr.turned t (o (i := 4) rfl (by decide)) (o (i := 5) rfl (by decide)), BlkR.turned h.wr t (o (i := 6) rfl (by decide)), h.nd, h.o, Nat.lt_of_lt_of_le h.L t.size⟩, t.mono (sub1 (j := 3) rfl), rfl, rfl, rfl, rfl, fun x hx => .inl hx⟩
theorem q_pub (h : QSt w p s most) (ok : s.Ok most) {m x : Nat} (hm : m < 8 → m < s.n) : Calls Tryz.prog 21 #[.pointer (some ⟨p.K, 0, none⟩), .int .i64 (slotZ m), .int .i64 2, .int .u64 (x : Int)] w fun e w' => (∃ v, e = .returned v) ∧ QTo w p (s.pub m x) most w' := by
  have o := fun {i a} (hi : p.foot[i]? = some a) (n : i ≠ 3) => out1 h.nd hi (j := 3) rfl n
  have fin : ∀ {w'}, Turned [p.K] w w' → LkAt w' p.K s.W s.n (s.pub m x).T → QTo w p (s.pub m x) most w' := fun t k => ⟨p, ⟨h.fil.turned t (o (i := 0) rfl (by decide)) (o (i := 1) rfl (by decide)) (o (i := 2) rfl (by decide)), k, h.pr.turned t (o (i := 4) rfl (by decide)) (o (i := 5) rfl (by decide)), BlkR.turned h.wr t (o (i := 6) rfl (by decide)), h.nd, h.o, Nat.lt_of_lt_of_le h.L t.size⟩, t.mono (sub1 (j := 3) rfl), rfl, rfl, rfl, rfl, fun x hx => .inl hx⟩
  by_cases q : m < 8
  · have e1 : slotZ m = (m : Int) := if_pos q
    have e2 : (s.pub m x).T = upd s.T m x := if_pos q
    rw [e1]
    rw [e2] at fin
    refine (pub_rany p.K s.W s.n m x s.T w h.lk ok.W ok.n (hm q)).mono ?_
    rintro e w' ⟨v, rfl, t, k⟩
    exact ⟨⟨_, rfl⟩, fin t k⟩
  · have e1 : slotZ m = -1 := if_neg q
    have e2 : (s.pub m x).T = s.T := if_neg q
    rw [e1]
    rw [e2] at fin
    refine (pubn_rany p.K s.W s.n x s.T w h.lk ok.W ok.n).mono ?_
    rintro e w' ⟨v, rfl, t, k⟩
    exact ⟨⟨_, rfl⟩, fin t k⟩
theorem fq_write {F R β c st L l k t i : Nat} {A B : ByteArray} {S : Value} {X : ByteArray} (h : FiqAt w F R β c st L l k A B S) (hc : (st = 0 ∧ i = 0) ∨ (st = 1 ∧ i = 1) ∨ (st = 2 ∧ i < 2)) : Calls Tryz.prog 25 #[.pointer (some ⟨F, 0, none⟩), .int .i64 (i : Int), .string X] w fun e w' => ∃ R' β' c' L' l' lk', e = .returned (.int .i64 0) ∧ FiqAt w' F R' β' c' (if st = 0 then 1 else 2) L' l' lk' (if i = 0 then X else A) (if i = 0 then B else X) S ∧ (R' = R ∨ w.heap.size ≤ R') ∧ (L' = L ∨ w.heap.size ≤ L') ∧ Turned [F, R, L] w w' := by
  have sub : ∀ x ∈ [F, R], x ∈ [F, R, L] := by simp
  rcases hc with ⟨rfl, rfl⟩ | ⟨rfl, rfl⟩ | ⟨rfl, hi⟩
  · refine (write_q00 h).mono ?_
    rintro e w' ⟨R', β', c', L', l', lk', rfl, f, r1, r2, t⟩
    exact ⟨R', β', c', L', l', lk', rfl, f, r1, r2, t.mono sub⟩
  · exact write_q11 h
  · have : i = 0 ∨ i = 1 := by omega
    rcases this with rfl | rfl
    · exact write_q20 h
    · exact write_q21 h
theorem q_write (h : QSt w p s most) (ok : s.Ok most) {z : Nat} : Calls Tryz.prog 25 #[.pointer (some ⟨p.F, 0, none⟩), .int .i64 (((s.v + 1) % 2 : Nat) : Int), .string (metaB (s.v + 1) (z + 2))] w fun e w' => (∃ v, e = .returned v) ∧ QTo w p (s.mput z) most w' := by
  have e2 := ok.v2
  have h3 := ok.v3
  have hst : (if s.st = 0 then 1 else 2) = (s.mput z).st := by
    show _ = if s.v = 1 then 1 else 2
    by_cases q : s.v = 1
    · rw [if_pos q] at e2 ⊢
      rw [e2]; rfl
    · rw [if_neg q] at e2 ⊢
      rw [if_neg]
      split at e2 <;> omega
  refine (fq_write (t := 0) (i := (s.v + 1) % 2) h.fil ?_).mono ?_
  · by_cases q : s.v = 1
    · rw [if_pos q] at e2
      exact .inl ⟨e2, by omega⟩
    · rw [if_neg q] at e2
      by_cases q2 : s.v = 2
      · rw [if_pos q2] at e2
        exact .inr (.inl ⟨e2, by omega⟩)
      · rw [if_neg q2] at e2
        exact .inr (.inr ⟨e2, by omega⟩)
  rintro e w' ⟨R', β', c', L', l', lk', rfl, f, r1, r2, t⟩
  have o := fun {i a} (hi : p.foot[i]? = some a) (n : i ≠ 0 ∧ i ≠ 1 ∧ i ≠ 2) => out3 h.nd hi (j := 0) (k := 1) (m := 2) rfl rfl rfl n
  have hst0 : (s.mput z).st ≠ 0 := by
    show (if s.v = 1 then 1 else 2) ≠ 0
    split <;> decide
  rw [hst] at f
  have hne := f.2.2.2.2.2 hst0
  have r1' : p.foot[1]? = some R' ∨ w.heap.size ≤ R' := r1.imp (fun q => by rw [q]; rfl) id
  have r2' : p.foot[2]? = some L' ∨ w.heap.size ≤ L' := r2.imp (fun q => by rw [q]; rfl) id
  have hL : L' < w'.heap.size := BlkR.lt hne.1
  refine ⟨⟨_, rfl⟩, { p with R := R', β := β', c := c', L := L', l := l', k := lk' }, ⟨?_, BlkR.turned h.lk t (o (i := 3) rfl (by decide)), h.pr.turned t (o (i := 4) rfl (by decide)) (o (i := 5) rfl (by decide)), BlkR.turned h.wr t (o (i := 6) rfl (by decide)), nodup_two (l := p.foot) (i := 1) (j := 2) h.nd h.lt r1' r2' hne.2.2.2 (by decide), h.o, hL⟩, t.mono (sub3 (j := 0) (k := 1) (m := 2) rfl rfl rfl), rfl, rfl, rfl, rfl, fun x hx => ?_⟩
  · have eA : (if (s.v + 1) % 2 = 0 then metaB (s.v + 1) (z + 2) else metaB s.a (s.x + 2)) = metaB (s.mput z).a ((s.mput z).x + 2) := by
      by_cases q : (s.v + 1) % 2 = 0
      · simp only [Ps.mput, if_pos q]
      · simp only [Ps.mput, if_neg q]
    have eB : (if (s.v + 1) % 2 = 0 then metaB s.b (s.y + 2) else metaB (s.v + 1) (z + 2)) = metaB (s.mput z).b ((s.mput z).y + 2) := by
      by_cases q : (s.v + 1) % 2 = 0
      · simp only [Ps.mput, if_pos q]
      · simp only [Ps.mput, if_neg q]
    rw [eA, eB] at f
    exact f
  · rcases List.mem_or_eq_of_mem_set (l := p.foot.set 1 R') (i := 2) hx with q | q
    · rcases List.mem_or_eq_of_mem_set (l := p.foot) (i := 1) q with q | q
      · exact .inl q
      · subst q
        exact r1'.imp in_of id
    · subst q
      exact r2'.imp in_of id
end
end Go.Proofs.YtgjnadligocdkaaGreatDoor
