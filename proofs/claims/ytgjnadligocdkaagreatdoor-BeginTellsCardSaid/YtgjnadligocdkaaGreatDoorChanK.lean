/-
  PLAIN LEMMAS, NO PROGRAM: channels in one goroutine, inside a walk: a region that sends, a region that selects.
-/
import Derived.WalkKit
import Derived.Conc.LoneCalls
import Derived.Conc.LoneSelectN
set_option linter.unusedVariables false
set_option linter.unusedSimpArgs false
namespace Go.Proofs.YtgjnadligocdkaaGreatDoor
open Go.RowKit
def ChDo (P : Program) (o : Oper) (a : Act) (w : World) (Q : Value → World → Prop) : Prop :=
  ∀ (b : Frame) (ops : Array Oper) (i : Nat) (rest : List Nat) (k : List Item) (cs : List Frame), ops[i]? = some o → Region.wanted o (yielded ops a.tmps) = true →
    ∃ v w', Q v w' ∧ Steps P (lone (b.at a (.inRegion ops (i :: rest) :: k)) cs w) (lone (b.at (a.put o.dst v) (.inRegion ops rest :: k)) cs w')
theorem ch_finish {b : Frame} {a : Act} {ops : Array Oper} {i : Nat} {rest : List Nat} {k : List Item} {o : Oper} (ho : ops[i]? = some o) (v : Value) :
    (b.at a (.inRegion ops (i :: rest) :: k)).finish v = b.at (a.put o.dst v) (.inRegion ops rest :: k) := by
  rw [Frame.finish_at, ho]; rfl
theorem ChDo.value {P : Program} {o : Oper} {a : Act} {w w' : World} {v : Value} {Q : Value → World → Prop} (h : (execOp a.eval o).run P w = .ok (.value v) w') (hq : Q v w') : ChDo P o a w Q := by
  intro b ops i rest k cs ho hw
  have hg := stepG_op (P := P) (b := b) (k := k) (cs := cs) (w := w) (rest := rest) ho hw
  refine ⟨v, w', hq, .one (step_lone_go ?_)⟩
  rw [hg, ← ch_finish ho]; simp [stepG.apply, h]
theorem ChDo.comm {P : Program} {o : Oper} {a : Act} {w w1 w' : World} {v : Value} {cases : Array CommCase} {blocking : Bool} {shape : CommShape} {Q : Value → World → Prop} (h : (execOp a.eval o).run P w = .ok (.comm cases blocking shape) w1)
    (hs : ∀ fr cs es, stepG P true (Conc.G fr cs) w = .comm (Conc.G fr cs) cases blocking shape w1 es → step P (Conc.solo (Conc.G fr cs) w) = .next (Conc.solo (Conc.G (fr.finish v) cs) w')) (hq : Q v w') : ChDo P o a w Q := by
  intro b ops i rest k cs ho hw
  have hg := stepG_op (P := P) (b := b) (k := k) (cs := cs) (w := w) (rest := rest) ho hw
  have h2 : ∃ es, stepG P true (Conc.G (b.at a (.inRegion ops (i :: rest) :: k)) cs) w = .comm (Conc.G (b.at a (.inRegion ops (i :: rest) :: k)) cs) cases blocking shape w1 es := by
    show ∃ es, stepG P true { frame := b.at a (.inRegion ops (i :: rest) :: k), callers := cs, status := .running, dying := none } w = _
    rw [hg]
    simp only [stepG.apply, h, Conc.G]
    simp [h]
    exact ⟨_, rfl⟩
  obtain ⟨es, h2⟩ := h2
  refine ⟨v, w', hq, .one ?_⟩
  rw [← ch_finish ho]
  exact hs _ _ _ h2
theorem ChDo.send {P : Program} {o : Oper} {a : Act} {w : World} {c x : Operand} {B cap s r : Nat} {buf : Array Value} {v : Value} {Q : Value → World → Prop} (ho : o.op = .send c x) (hc : a.eval c = .chan (some B)) (hx : a.eval x = v)
    (hb : w.heap[B]? = some (.chan cap buf false s r false)) (hlt : buf.size < cap) (hq : Q undef (w.setChan B cap (buf.push v) false (s + 1) r false)) : ChDo P o a w Q := by
  refine ChDo.comm (w1 := w) (cases := #[Conc.scase B v (.tuple #[])]) (blocking := true) (shape := .send) ?_ (fun fr cs es h => Conc.step_lone_send_room h hb hlt) hq
  simp [execOp, ho, hc, hx, Conc.scase]
theorem ch_select {P : Program} {o : Oper} {s : SelectCase} {a : Act} {z : Value} {w : World} (ho : o.op = .select #[s] false) (hz : ∀ w, (zeroValue s.elem).run P w = .ok z w) :
    (execOp a.eval o).run P w = .ok (.comm #[{ chan := a.eval s.chan, send := s.send.map a.eval, zero := z }] false .select) w := by
  simp [execOp, ho, hz]
theorem ChDo.selNone {P : Program} {o : Oper} {a : Act} {w : World} {s : SelectCase} {z : Value} {B cap m r : Nat} {Q : Value → World → Prop} (ho : o.op = .select #[s] false) (hz : ∀ w, (zeroValue s.elem).run P w = .ok z w) (hs : s.send = none) (hc : a.eval s.chan = .chan (some B))
    (hb : w.heap[B]? = some (.chan cap #[] false m r false)) (hq : Q (.tuple #[goInt (-1), .bool false, z]) w) : ChDo P o a w Q := by
  refine ChDo.comm (w1 := w) (cases := #[Conc.rcase B z]) (blocking := false) (shape := .select) ?_ (fun fr cs es h => Conc.step_lone_select_default h hb) hq
  rw [ch_select ho hz, hc, hs]; rfl
theorem ChDo.selOne {P : Program} {o : Oper} {a : Act} {w : World} {s : SelectCase} {z v : Value} {B cap m r : Nat} {buf : List Value} {Q : Value → World → Prop} (ho : o.op = .select #[s] false) (hz : ∀ w, (zeroValue s.elem).run P w = .ok z w) (hs : s.send = none) (hc : a.eval s.chan = .chan (some B))
    (hb : w.heap[B]? = some (.chan cap (v :: buf).toArray false m r false)) (hq : Q (.tuple #[goInt 0, .bool true, v]) (w.setChan B cap buf.toArray false m (r + 1) false)) : ChDo P o a w Q := by
  have e1 : (v :: buf).toArray.extract 1 (v :: buf).toArray.size = buf.toArray := by
    apply Array.toList_inj.1
    simp [List.extract_eq_take_drop]
  have e2 : (v :: buf).toArray.getD 0 undef = v := rfl
  have hk := fun fr cs es h => Conc.step_lone_sel_recv_buf (P := P) (w := w) (w₁ := w) (blocking := false) (cases := #[Conc.rcase B z]) (fr := fr) (cs := cs) (es := es) (k := 0) h rfl (fun m c' hm hc' => by
      have : m < 1 := by have := (Array.getElem?_eq_some_iff.1 hc').1; simpa using this
      omega) hb (by simp)
  rw [e1, e2] at hk
  refine ChDo.comm (w1 := w) (cases := #[Conc.rcase B z]) (blocking := false) (shape := .select) ?_ hk ?_
  · rw [ch_select ho hz, hc, hs]; rfl
  · have e3 : commResult #[Conc.rcase B z] .select ((0 : Nat) : Int) v true = .tuple #[goInt 0, .bool true, v] := by simp [commResult, Conc.rcase]
    rw [e3]; exact hq
theorem ChDo.selSend {P : Program} {o : Oper} {a : Act} {w : World} {s : SelectCase} {x : Operand} {z v : Value} {B cap m r : Nat} {buf : Array Value} {Q : Value → World → Prop} (ho : o.op = .select #[s] false) (hz : ∀ w, (zeroValue s.elem).run P w = .ok z w) (hs : s.send = some x) (hc : a.eval s.chan = .chan (some B)) (hx : a.eval x = v)
    (hb : w.heap[B]? = some (.chan cap buf false m r false)) (hlt : buf.size < cap) (hq : Q (.tuple #[goInt 0, .bool false]) (w.setChan B cap (buf.push v) false (m + 1) r false)) : ChDo P o a w Q := by
  refine ChDo.comm (w1 := w) (cases := #[Conc.scase B v z]) (blocking := false) (shape := .select) ?_ (fun fr cs es h => Conc.step_lone_sel_send_room (k := 0) h rfl (fun m c' hm hc' => by
      have : m < 1 := by have := (Array.getElem?_eq_some_iff.1 hc').1; simpa using this
      omega) hb hlt) ?_
  · rw [ch_select ho hz, hc, hs, ← hx]; rfl
  · have e3 : ∀ k : Int, commResult #[Conc.scase B v z] .select k undef false = .tuple #[goInt k, .bool false] := fun k => by simp [commResult, Conc.scase]
    rw [e3]; exact hq
def ChRun (P : Program) (ops : Array Oper) (js : List Nat) (K : Act → World → Prop) (a : Act) (w : World) : Prop :=
  ∀ (b : Frame) (k : List Item) (cs : List Frame), ∃ a' w', K a' w' ∧ Steps P (lone (b.at a (.inRegion ops js :: k)) cs w) (lone (b.at a' (.inRegion ops [] :: k)) cs w')
theorem ChRun.nil {P : Program} {ops : Array Oper} {K : Act → World → Prop} {a : Act} {w : World} (h : K a w) : ChRun P ops [] K a w := fun b k cs => ⟨a, w, h, Steps.refl _ _⟩
theorem ChRun.cons {P : Program} {ops : Array Oper} {i : Nat} {js : List Nat} {K : Act → World → Prop} {a : Act} {w : World} {o : Oper} (ho : ops[i]? = some o) (hg : o.guard = none) (h : ChDo P o a w fun v w' => ChRun P ops js K (a.put o.dst v) w') : ChRun P ops (i :: js) K a w := by
  intro b k cs
  obtain ⟨v, w1, h1, s1⟩ := h b ops i js k cs ho (by simp [Region.wanted, hg])
  obtain ⟨a2, w2, h2, s2⟩ := h1 b k cs
  exact ⟨a2, w2, h2, s1.trans s2⟩
theorem ChRun.wp {P : Program} {id : Nat} {ops : Array Oper} {Q : Exit → Act → World → Prop} {a : Act} {w : World} (h : ChRun P ops (List.range ops.size) (Q .normal) a w) : (Code.region id ops false).wp P Q a w := by
  intro b k cs
  obtain ⟨a', w', hq, hs⟩ := h b k cs
  exact ⟨.normal, a', w', hq, Steps.trans (.one step_region) (hs.trans (.one step_region_end))⟩
end Go.Proofs.YtgjnadligocdkaaGreatDoor
