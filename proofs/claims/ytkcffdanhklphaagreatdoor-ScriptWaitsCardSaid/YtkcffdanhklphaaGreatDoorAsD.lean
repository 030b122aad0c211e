/-
  errors.As at a nil error, at an api.Errno, with a target of type *api.Errno: Go's own text of errors.As is walked (after the kit's worked example ToyasAs).
-/
import Derived.Test.YtkcffdanhklphaaGreatDoorIsD
import Derived.LaidEql
import Derived.Stop.Asserts
import Derived.RowKitTokens
set_option linter.unusedVariables false
set_option linter.unusedSimpArgs false
namespace Go.Proofs.YtkcffdanhklphaaGreatDoor
open Go.RowKit Go.Extern.Stop Go.Stop Go.Extern

theorem as_nil (t : Value) (w : World) :
    Calls Tryz.prog 40 #[.nilIface, t] w fun e w' => e = .returned (.bool false) ∧ w' = w := by
  go_enter Tryz.func40, Tryz.ntmps40
  go_wp2
  go_ret
  exact ⟨rfl, rfl⟩

theorem as_valueOfP (t : Addr) (w : World) : (ReflectliteValue.unpack (.iface 104 (.pointer (some t)))).run Tryz.prog w
    = .ok (.agg #[.pointer (some ⟨9, 104, none⟩), .pointer (some ⟨w.heap.size, 0, none⟩), .int .u64 150]) (w.alloc (.cells #[.pointer (some t)] 104)) := by kernel_rfl
theorem as_typeP (a : Addr) (w : World) : (ReflectliteValue.methodAny (ReflectliteValue.valueError "reflectlite.Value.Type" 0) (fun t _ _ _ => ReflectliteType.toType t) #[.agg #[.pointer (some ⟨9, 104, none⟩), .pointer (some a), .int .u64 150]]).run Tryz.prog w
    = .ok (.iface 76 (.agg #[.pointer (some ⟨9, 104, none⟩)])) w := by kernel_rfl
theorem as_methodKind (h : Value) (w : World) : (Go.method 707 76 (.agg #[h]) "Kind").run Tryz.prog w = .ok (521, h) w := by kernel_rfl
theorem as_kindP (w : World) : ((ReflectliteType.abiMethod fun t => (fun a : Nat => Value.int IntKind.u8 (a : Int)) <$> Rtype.kind t) #[.pointer (some ⟨9, 104, none⟩)]).run Tryz.prog w = .ok (.int .u8 22) w := by kernel_rfl
theorem as_kindE (w : World) : ((ReflectliteType.abiMethod fun t => (fun a : Nat => Value.int IntKind.u8 (a : Int)) <$> Rtype.kind t) #[.pointer (some ⟨9, 41, none⟩)]).run Tryz.prog w = .ok (.int .u8 2) w := by kernel_rfl
theorem as_rlm (z : Sem Value) (f : TypeId → Addr → Nat → Nat → Sem Value) (v : Value) :
    ReflectliteValue.method z f #[v] = (do match ← ReflectliteValue.parts v with | none => z | some (t, a, fl) => f t a fl (fl % 32)) := rfl
theorem as_partsP (a : Addr) (w : World) : (ReflectliteValue.parts (.agg #[.pointer (some ⟨9, 104, none⟩), .pointer (some a), .int .u64 150])).run Tryz.prog w = .ok (some (104, a, 150)) w := by kernel_rfl
theorem as_isNilP (a p : Addr) (W : World) (ha : W.cell? a = some (.pointer (some p))) :
    (ReflectliteValue.method (ReflectliteValue.valueError "reflectlite.Value.IsNil" 0) ReflectliteValue.isNil #[.agg #[.pointer (some ⟨9, 104, none⟩), .pointer (some a), .int .u64 150]]).run Tryz.prog W = .ok (.bool false) W := by
  rw [as_rlm]
  simp only [Sem.run_bind, as_partsP, Result.andThen]
  simp [ReflectliteValue.isNil, loadVar, isAgg, underlying, Tryz.underlying104, ha, Result.andThen]
theorem as_methodElem (h : Value) (w : World) : (Go.method 707 76 (.agg #[h]) "Elem").run Tryz.prog w = .ok (529, .agg #[h]) w := by kernel_rfl
theorem as_methodImplements (h : Value) (w : World) : (Go.method 707 76 (.agg #[h]) "Implements").run Tryz.prog w = .ok (530, .agg #[h]) w := by kernel_rfl
theorem as_methodAssignableTo (h : Value) (w : World) : (Go.method 707 76 (.agg #[h]) "AssignableTo").run Tryz.prog w = .ok (527, .agg #[h]) w := by kernel_rfl
theorem as_elemP (w : World) : (ReflectliteType.method ReflectliteType.elem #[.agg #[.pointer (some ⟨9, 104, none⟩)]]).run Tryz.prog w = .ok (.iface 76 (.agg #[.pointer (some ⟨9, 41, none⟩)])) w := by kernel_rfl
theorem as_implE (w : World) : (ReflectliteType.relation "Implements" ReflectliteType.implements_ #[.agg #[.pointer (some ⟨9, 41, none⟩)], .iface 76 (.agg #[.pointer (some ⟨9, 37, none⟩)])]).run Tryz.prog w = .ok (.bool true) w := by kernel_rfl
theorem as_typeOfE (v : Value) (w : World) : (ReflectliteType.typeOf #[.iface 41 v]).run Tryz.prog w = .ok (.iface 76 (.agg #[.pointer (some ⟨9, 41, none⟩)])) w := by kernel_rfl
theorem as_assignE (w : World) : (ReflectliteType.relation "AssignableTo" ReflectliteType.assignableTo #[.agg #[.pointer (some ⟨9, 41, none⟩)], .iface 76 (.agg #[.pointer (some ⟨9, 41, none⟩)])]).run Tryz.prog w = .ok (.bool true) w := by kernel_rfl
theorem as_valueOfE (n : Int) (w : World) : (ReflectliteValue.unpack (.iface 41 (.int .i64 n))).run Tryz.prog w
    = .ok (.agg #[.pointer (some ⟨9, 41, none⟩), .pointer (some ⟨w.heap.size, 0, none⟩), .int .u64 130]) (w.alloc (.cells #[.int .i64 n] 41)) := by kernel_rfl
theorem as_elemOfP (w : World) : (Rtype.elem? 104).run Tryz.prog w = .ok (some 41) w := by kernel_rfl
theorem as_mkE (p : Addr) (w : World) : (ReflectliteValue.mk 41 p ReflectliteValue.flagAddr).run Tryz.prog w = .ok (.agg #[.pointer (some ⟨9, 41, none⟩), .pointer (some p), .int .u64 386]) w := by kernel_rfl
theorem as_elemVP (a p : Addr) (W : World) (ha : W.cell? a = some (.pointer (some p))) :
    (ReflectliteValue.method (ReflectliteValue.valueError "reflectlite.Value.Elem" 0) ReflectliteValue.elem #[.agg #[.pointer (some ⟨9, 104, none⟩), .pointer (some a), .int .u64 150]]).run Tryz.prog W
      = .ok (.agg #[.pointer (some ⟨9, 41, none⟩), .pointer (some p), .int .u64 386]) W := by
  rw [as_rlm]
  simp only [Sem.run_bind, as_partsP, Result.andThen]
  simp [ReflectliteValue.elem, loadVar, isAgg, underlying, Tryz.underlying104, ha, Result.andThen, as_elemOfP, as_mkE]
theorem as_rls (v x : Value) : ReflectliteValue.set #[v, x] = (do
    let (some (dst, a, fl), some (src, b, _)) := (← ReflectliteValue.parts v, ← ReflectliteValue.parts x)
      | unsupported (.noEntry "extern/(internal/reflectlite.Value).Set.zeroValue")
    if fl / ReflectliteValue.flagAddr % 2 == 0 then unsupported (.noEntry "extern/(internal/reflectlite.Value).Set.unaddressable")
    let val ← loadVar src b
    if ← Rtype.directlyAssignable dst src then storeVar dst a val
    else if ← Rtype.implements dst src then
      if (← Rtype.kind src) == 20 then
        match val with
        | .nilIface => unsupported (.noEntry "extern/reflectlite: a nil value of one interface type handed on as a value of another")
        | _ => storeVar dst a val
      else storeVar dst a (.iface src val)
    else panicString ("reflectlite.Set: value of type " ++ (← Rtype.spelt src) ++ " is not assignable to type " ++ (← Rtype.spelt dst))
    pure (.tuple #[])) := rfl
theorem as_partsEa (a : Addr) (w : World) : (ReflectliteValue.parts (.agg #[.pointer (some ⟨9, 41, none⟩), .pointer (some a), .int .u64 386])).run Tryz.prog w = .ok (some (41, a, 386)) w := by kernel_rfl
theorem as_partsE (a : Addr) (w : World) : (ReflectliteValue.parts (.agg #[.pointer (some ⟨9, 41, none⟩), .pointer (some a), .int .u64 130])).run Tryz.prog w = .ok (some (41, a, 130)) w := by kernel_rfl
theorem as_directE (w : World) : (Rtype.directlyAssignable 41 41).run Tryz.prog w = .ok true w := by kernel_rfl
theorem as_setE (ta b : Addr) (n : Int) (old : Value) (W : World) (hb : W.cell? b = some (.int .i64 n)) (ht : W.cell? ta = some old) (hf : W.frozen? ta = false) :
    (ReflectliteValue.set #[.agg #[.pointer (some ⟨9, 41, none⟩), .pointer (some ta), .int .u64 386], .agg #[.pointer (some ⟨9, 41, none⟩), .pointer (some b), .int .u64 130]]).run Tryz.prog W
      = .ok (.tuple #[]) (W.setCell ta (.int .i64 n)) := by
  rw [as_rls]
  simp only [Sem.run_bind, as_partsEa, as_partsE, Result.andThen]
  simp [ReflectliteValue.flagAddr, loadVar, isAgg, underlying, Tryz.underlying41, hb, Result.andThen, as_directE, storeVar, Value.cells, storeCells, Addr.add]
  rw [run_store Tryz.prog W ta _ _ (by rfl)]
  simp [ht, hf]

/-- What the package-level variable errors.errorType holds. -/
def ErrType (w : World) : Prop := w.cell? ⟨0, 0, none⟩ = some (.iface 76 (.agg #[.pointer (some ⟨9, 37, none⟩)]))

set_option maxHeartbeats 4000000 in
set_option maxRecDepth 100000 in
theorem as_hit0 (n : Int) (t : Addr) (old : Value) (w : World) (hg : w.cell? ⟨0, 0, none⟩ = some (.iface 76 (.agg #[.pointer (some ⟨9, 37, none⟩)]))) (ht0 : w.cell? t = some old) (hf0 : w.frozen? t = false) :
    Calls Tryz.prog 40 #[.iface 41 (.int .i64 n), .iface 104 (.pointer (some t))] w fun ev w' => ev = .returned (.bool true) ∧
      w' = ((((w.alloc (.cells #[.pointer (some t)] 104)).alloc (.cells #[.pointer (some ⟨9, 104, none⟩), .pointer (some ⟨w.heap.size, 0, none⟩), .int .u64 150] 124)).alloc (.cells #[.pointer (some ⟨9, 104, none⟩), .pointer (some ⟨w.heap.size, 0, none⟩), .int .u64 150] 124)).alloc (.cells #[.int .i64 n] 41)).setCell t (.int .i64 n) := by
  have h6 := @run_callFunc_extern Tryz.prog 66 _ (fun args => ReflectliteValue.unpack (args.getD 0 (.tuple #[]))) Tryz.func66 (by kernel_rfl) (by kernel_rfl) (by kernel_rfl) (by kernel_rfl)
  have h7 := @run_callFunc_extern Tryz.prog 67 _ (ReflectliteValue.methodAny (ReflectliteValue.valueError "reflectlite.Value.Type" 0) (fun t _ _ _ => ReflectliteType.toType t)) Tryz.func67 (by kernel_rfl) (by kernel_rfl) (by kernel_rfl) (by kernel_rfl)
  have h8 := @run_callFunc_extern Tryz.prog 68 _ (ReflectliteValue.method (ReflectliteValue.valueError "reflectlite.Value.IsNil" 0) ReflectliteValue.isNil) Tryz.func68 (by kernel_rfl) (by kernel_rfl) (by kernel_rfl) (by kernel_rfl)
  have h27 := @run_callFunc_extern Tryz.prog 521 _ (ReflectliteType.abiMethod fun t => do pure (.int .u8 (← Rtype.kind t))) Tryz.func521 (by kernel_rfl) (by kernel_rfl) (by kernel_rfl) (by kernel_rfl)
  have h37 := @run_callFunc_extern Tryz.prog 529 _ (ReflectliteType.method ReflectliteType.elem) Tryz.func529 (by kernel_rfl) (by kernel_rfl) (by kernel_rfl) (by kernel_rfl)
  have h38 := @run_callFunc_extern Tryz.prog 530 _ (ReflectliteType.relation "Implements" ReflectliteType.implements_) Tryz.func530 (by kernel_rfl) (by kernel_rfl) (by kernel_rfl) (by kernel_rfl)
  have h10 := @run_callFunc_extern Tryz.prog 20 _ ReflectliteType.typeOf Tryz.func20 (by kernel_rfl) (by kernel_rfl) (by kernel_rfl) (by kernel_rfl)
  have h35 := @run_callFunc_extern Tryz.prog 527 _ (ReflectliteType.relation "AssignableTo" ReflectliteType.assignableTo) Tryz.func527 (by kernel_rfl) (by kernel_rfl) (by kernel_rfl) (by kernel_rfl)
  have h11 := @run_callFunc_extern Tryz.prog 105 _ (ReflectliteValue.method (ReflectliteValue.valueError "reflectlite.Value.Elem" 0) ReflectliteValue.elem) Tryz.func105 (by kernel_rfl) (by kernel_rfl) (by kernel_rfl) (by kernel_rfl)
  have h12 := @run_callFunc_extern Tryz.prog 106 _ ReflectliteValue.set Tryz.func106 (by kernel_rfl) (by kernel_rfl) (by kernel_rfl) (by kernel_rfl)
  have tO := as_typeOfE
  have mA := as_methodAssignableTo
  have a25 := as_assignE
  have v25 := as_valueOfE
  have f6 := as_valueOfP
  have f7 := as_typeP
  have mK := as_methodKind
  have mE := as_methodElem
  have mI := as_methodImplements
  have k27 := as_kindP
  have k25 := as_kindE
  have e27 := as_elemP
  have i25 := as_implE
  have n8 := as_isNilP ⟨w.heap.size, 0, none⟩ t ((w.alloc (.cells #[.pointer (some t)] 104)).alloc (.cells #[.pointer (some ⟨9, 104, none⟩), .pointer (some ⟨w.heap.size, 0, none⟩), .int .u64 150] 124)) (by simp)
  have hlt : 0 < w.heap.size := by
    rcases Nat.eq_zero_or_pos w.heap.size with h0 | h
    · simp [World.cell?, h0] at hg
    · exact h
  have hg2 : ((w.alloc (.cells #[.pointer (some t)] 104)).alloc (.cells #[.pointer (some ⟨9, 104, none⟩), .pointer (some ⟨w.heap.size, 0, none⟩), .int .u64 150] 124)).cell? ⟨0, 0, none⟩ = some (.iface 76 (.agg #[.pointer (some ⟨9, 37, none⟩)])) := by
    rw [World.cell?_alloc_lt _ _ ⟨0, 0, none⟩ (by simp), World.cell?_alloc_lt _ _ ⟨0, 0, none⟩ hlt]; exact hg
  have htl : t.block < w.heap.size := by
    rcases Nat.lt_or_ge t.block w.heap.size with h | h
    · exact h
    · simp [World.cell?, Array.getElem?_eq_none h] at ht0
  have el := as_elemVP ⟨w.heap.size, 0, none⟩ t (((w.alloc (.cells #[.pointer (some t)] 104)).alloc (.cells #[.pointer (some ⟨9, 104, none⟩), .pointer (some ⟨w.heap.size, 0, none⟩), .int .u64 150] 124)).alloc (.cells #[.pointer (some ⟨9, 104, none⟩), .pointer (some ⟨w.heap.size, 0, none⟩), .int .u64 150] 124)) (by rw [World.cell?_alloc_lt _ _ ⟨w.heap.size, 0, none⟩ (by simp; omega)]; simp)
  have st := as_setE t ⟨w.heap.size + 1 + 1 + 1, 0, none⟩ n old ((((w.alloc (.cells #[.pointer (some t)] 104)).alloc (.cells #[.pointer (some ⟨9, 104, none⟩), .pointer (some ⟨w.heap.size, 0, none⟩), .int .u64 150] 124)).alloc (.cells #[.pointer (some ⟨9, 104, none⟩), .pointer (some ⟨w.heap.size, 0, none⟩), .int .u64 150] 124)).alloc (.cells #[.int .i64 n] 41))
    (by rw [World.cell?_alloc_at _ _ _ _ (by simp)]; rfl)
    (by rw [World.cell?_alloc_lt _ _ t (by simp; omega), World.cell?_alloc_lt _ _ t (by simp; omega), World.cell?_alloc_lt _ _ t (by simp; omega), World.cell?_alloc_lt _ _ t htl]; exact ht0)
    (by rw [World.frozen?_alloc_old _ _ t (by simp; omega), World.frozen?_alloc_old _ _ t (by simp; omega), World.frozen?_alloc_old _ _ t (by simp; omega), World.frozen?_alloc_old _ _ t (Nat.ne_of_lt htl)]; exact hf0)
  go_enter Tryz.func40, Tryz.ntmps40
  go_wp2
  refine wp_loop_rounds 1 ?_
  rw [rounds_succ]
  go_wp2
  go_ret
  exact ⟨rfl, rfl⟩
end Go.Proofs.YtkcffdanhklphaaGreatDoor
