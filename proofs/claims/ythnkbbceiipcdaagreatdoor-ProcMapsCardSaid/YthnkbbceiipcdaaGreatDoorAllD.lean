/-
  The functions that are taken by laws, walked.
-/
import Derived.Test.YthnkbbceiipcdaaGreatDoorChecked
import Derived.WalkKit
import Derived.WalkSmall
import Derived.WalkSpells
import Derived.WalkLawsBesides
import Derived.Below
import Derived.Deep.LoopGhost
import Derived.Lib.Hide
import Derived.RegionTactic
import Derived.OwnWalk
import Derived.Laws.BytesString
import Derived.Laws.Cells
import Derived.LaidEql
import Derived.Stop.Asserts
import Derived.RowKitTokens
import Derived.WideLaws
import Derived.Test.YthnkbbceiipcdaaGreatDoorShelfD
import Derived.Shelf.AbstractIn
import Derived.Laws.BitsAllLaws
section
set_option linter.unusedVariables false
set_option linter.unusedSimpArgs false
namespace Go.Proofs.YthnkbbceiipcdaaGreatDoor
open Go.RowKit
theorem mk8 (w : World) : (Instr.makeSlice 41 (Value.int IntKind.i64 8) (Value.int IntKind.i64 8)).run Tryz.prog w = .ok (.slice (some ⟨w.heap.size, 0, none⟩) 8 8) (w.alloc (.cells #[.int .u8 0, .int .u8 0, .int .u8 0, .int .u8 0, .int .u8 0, .int .u8 0, .int .u8 0, .int .u8 0] 5)) := by kernel_rfl
/-- bytes as a text -/
def txt (ns : List Int) : ByteArray := ns.foldl (fun r n => r.push (UInt8.ofNat n.toNat)) ByteArray.empty
theorem txt_list (ns : List Int) : (txt ns).data.toList = ns.map fun n => UInt8.ofNat n.toNat := by
  have : ∀ (ns : List Int) (r : ByteArray), (ns.foldl (fun r n => r.push (UInt8.ofNat n.toNat)) r).data.toList = r.data.toList ++ ns.map fun n => UInt8.ofNat n.toNat := by
    intro ns
    induction ns with
    | nil => intro r; simp
    | cons n ns ih => intro r; rw [List.foldl_cons, ih]; simp
  have h := this ns ByteArray.empty
  unfold txt; rw [h]; simp
theorem cv8 (w : World) (a b c d e f g h : Int) : (convert 41 9 (.slice (some ⟨w.heap.size, 0, none⟩) 8 8)).run Tryz.prog (w.alloc (.cells #[.int .u8 a, .int .u8 b, .int .u8 c, .int .u8 d, .int .u8 e, .int .u8 f, .int .u8 g, .int .u8 h] 5)) =
    .ok (.string (txt [a, b, c, d, e, f, g, h])) (w.alloc (.cells #[.int .u8 a, .int .u8 b, .int .u8 c, .int .u8 d, .int .u8 e, .int .u8 f, .int .u8 g, .int .u8 h] 5)) := by
  rw [run_convert_bytes_string _ 41 9 5 _ 8 8 Tryz.underlying41 Tryz.underlying5 Tryz.underlying9]
  refine run_bytesToString _ _ 8 8 [a, b, c, d, e, f, g, h] ?_
  refine run_loadCells_list _ _ ([Value.int .u8 a, Value.int .u8 b, Value.int .u8 c, Value.int .u8 d, Value.int .u8 e, Value.int .u8 f, Value.int .u8 g, Value.int .u8 h] : List Value) fun j v hj => ?_
  rcases j with _ | _ | _ | _ | _ | _ | _ | _ | j <;> simp at hj <;> subst hj <;> simp [Addr.add]
set_option maxHeartbeats 4000000 in
set_option maxRecDepth 100000 in
theorem num_a (n : Nat) (hn : n < 18446744073709551616) (w : World) :
    Calls Tryz.prog 250 #[.int .u64 n] w fun e w' => ∃ (a b c d f g h i : Int) (W : Obj), e = .returned (.string (txt [a, b, c, d, f, g, h, i])) ∧ w' = w.alloc W ∧ n = a + 256 * b + 65536 * c + 16777216 * d + 4294967296 * f + 1099511627776 * g + 281474976710656 * h + 72057594037927936 * i ∧ ∀ x ∈ [a, b, c, d, f, g, h, i], 0 ≤ x ∧ x < 256 := by
  have mk := mk8
  have cv := cv8 w
  go_enter Tryz.func250, Tryz.ntmps250
  go_wp2
  refine wp_loop_rounds 9 ?_
  iterate 9 (rw [rounds_succ]; go_wp2)
  go_ret
  refine ⟨_, _, _, _, _, _, _, _, _, rfl, rfl, ?_, ?_⟩
  · omega
  · intro x hx
    simp only [List.mem_cons, List.not_mem_nil, or_false] at hx
    omega
set_option maxHeartbeats 4000000 in
set_option maxRecDepth 100000 in
theorem num_b (n : Nat) (hn : n < 18446744073709551616) (w : World) :
    Calls Tryz.prog 86 #[.int .u64 n] w fun e w' => ∃ (a b c d f g h i : Int) (W : Obj), e = .returned (.string (txt [a, b, c, d, f, g, h, i])) ∧ w' = w.alloc W ∧ n = a + 256 * b + 65536 * c + 16777216 * d + 4294967296 * f + 1099511627776 * g + 281474976710656 * h + 72057594037927936 * i ∧ ∀ x ∈ [a, b, c, d, f, g, h, i], 0 ≤ x ∧ x < 256 := by
  have mk := mk8
  have cv := cv8 w
  go_enter Tryz.func86, Tryz.ntmps86
  go_wp2
  refine wp_loop_rounds 9 ?_
  iterate 9 (rw [rounds_succ]; go_wp2)
  go_ret
  refine ⟨_, _, _, _, _, _, _, _, _, rfl, rfl, ?_, ?_⟩
  · omega
  · intro x hx
    simp only [List.mem_cons, List.not_mem_nil, or_false] at hx
    omega
end Go.Proofs.YthnkbbceiipcdaaGreatDoor
end
section
set_option linter.unusedVariables false
set_option linter.unusedSimpArgs false
namespace Go.Proofs.YthnkbbceiipcdaaGreatDoor
open Go.RowKit Go.Extern.Stop Go.Stop Go.Extern
theorem is_typeOfE (v : Value) (w : World) : (ReflectliteType.typeOf #[.iface 73 v]).run Tryz.prog w = .ok (.iface 189 (.agg #[.pointer (some ⟨1, 73, none⟩)])) w := by kernel_rfl
theorem is_comparableE (w : World) : (ReflectliteType.method (fun t => do Rtype.noPackHeld "Comparable" t; (fun a => Value.bool a.comparable) <$> typeInfo t) #[.agg #[.pointer (some ⟨1, 73, none⟩)]]).run Tryz.prog w = .ok (.bool true) w := by kernel_rfl
theorem errno_comp : (Tryz.prog.info? 73).map (·.comparable) = some true := by kernel_rfl

theorem run_equalIn_errno (d : Nat) (a b : Int) (w : World) : (Op.equalIn (d + 2) 38 (.iface 73 (.int .i64 a)) (.iface 73 (.int .i64 b))).run Tryz.prog w = .ok (a == b) w := by
  have hu := run_underlying (w := w) Tryz.underlying73
  have hi := run_underlying (w := w) Tryz.underlying38
  cases hc : Tryz.prog.info? 73 with
  | none => have := errno_comp; rw [hc] at this; cases this
  | some info =>
    have h1 : info.comparable = true := by have := errno_comp; rw [hc] at this; simpa using this
    have h2 : (Op.equalIn (d + 1) 73 (.int .i64 a) (.int .i64 b)).run Tryz.prog w = .ok (a == b) w := by simp [Op.equalIn, hu]
    rw [Op.equalIn]
    simp [hi, typeInfo, hc, h1, h2]
theorem run_equal_errno (a b : Int) (w : World) : (Op.equal 38 (.iface 73 (.int .i64 a)) (.iface 73 (.int .i64 b))).run Tryz.prog w = .ok (a == b) w := run_equalIn_errno 9998 a b w
theorem run_eql_errno (a b : Int) (w : World) : (binOp .eql 38 (.iface 73 (.int .i64 a)) (.iface 73 (.int .i64 b))).run Tryz.prog w = .ok (.bool (a == b)) w := by
  simp only [binOp]
  simp [run_equal_errno]
theorem run_equalIn_nil_errno (d : Nat) (b : Int) (w : World) : (Op.equalIn (d + 1) 38 .nilIface (.iface 73 (.int .i64 b))).run Tryz.prog w = .ok false w := by
  have hi := run_underlying (w := w) Tryz.underlying38
  rw [Op.equalIn]
  simp [hi]
theorem run_eql_nil_errno (b : Int) (w : World) : (binOp .eql 38 .nilIface (.iface 73 (.int .i64 b))).run Tryz.prog w = .ok (.bool false) w := by
  have h : (Op.equal 38 .nilIface (.iface 73 (.int .i64 b))).run Tryz.prog w = .ok false w := run_equalIn_nil_errno 9999 b w
  simp only [binOp]
  simp [h]
theorem ta1 (v : Value) (xT : TypeId) (w : World) : (Instr.typeAssert (.iface 73 v) xT 191 true).run Tryz.prog w = .ok (.tuple #[.nilIface, .bool false]) w := run_typeAssert_lacksB Tryz.underlying191 (by kernel_rfl) (by kernel_rfl) v xT w
theorem ta2 (v : Value) (xT : TypeId) (w : World) : (Instr.typeAssert (.iface 73 v) xT 194 true).run Tryz.prog w = .ok (.tuple #[.nilIface, .bool false]) w := run_typeAssert_lacksB Tryz.underlying194 (by kernel_rfl) (by kernel_rfl) v xT w
theorem ta3 (v : Value) (xT : TypeId) (w : World) : (Instr.typeAssert (.iface 73 v) xT 196 true).run Tryz.prog w = .ok (.tuple #[.nilIface, .bool false]) w := run_typeAssert_lacksB Tryz.underlying196 (by kernel_rfl) (by kernel_rfl) v xT w
theorem is_methodComparable (h : Value) (w : World) : (Go.method 541 189 (.agg #[h]) "Comparable").run Tryz.prog w = .ok (367, .agg #[h]) w := by kernel_rfl
set_option maxHeartbeats 4000000 in
set_option maxRecDepth 100000 in
theorem is_one (n m : Int) (w : World) :
    Calls Tryz.prog 27 #[.iface 73 (.int .i64 n), .iface 73 (.int .i64 m)] w fun e w' => e = .returned (.bool (n == m)) ∧ w' = w := by
  have h10 := @run_callFunc_extern Tryz.prog 58 _ ReflectliteType.typeOf Tryz.func58 (by kernel_rfl) (by kernel_rfl) (by kernel_rfl) (by kernel_rfl)
  have tO := is_typeOfE
  have t1 := ta1
  have t2 := ta2
  have t3 := ta3
  have E1 := run_eql_errno
  have cE := is_comparableE
  have mC := is_methodComparable
  have h403 := @run_callFunc_extern Tryz.prog 367 _ (ReflectliteType.method fun t => do Rtype.noPackHeld "Comparable" t; pure (.bool (← typeInfo t).comparable)) Tryz.func367 (by kernel_rfl) (by kernel_rfl) (by kernel_rfl) (by kernel_rfl)
  go_enter Tryz.func27, Tryz.ntmps27
  cases hnm : n == m with
  | true =>
    go_wp2
    refine wp_loop_rounds 1 ?_
    rw [rounds_succ]
    go_wp2
    go_ret
    exact ⟨rfl, rfl⟩
  | false =>
    go_wp2
    refine wp_loop_rounds 1 ?_
    rw [rounds_succ]
    go_wp2
    go_ret
    exact ⟨rfl, rfl⟩
set_option maxHeartbeats 4000000 in
set_option maxRecDepth 100000 in
theorem is_nil1 (m : Int) (w : World) : Calls Tryz.prog 27 #[.nilIface, .iface 73 (.int .i64 m)] w fun e w' => e = .returned (.bool false) ∧ w' = w := by
  have E1 := run_eql_nil_errno
  go_enter Tryz.func27, Tryz.ntmps27
  go_wp2
  go_ret
  exact ⟨rfl, rfl⟩
end Go.Proofs.YthnkbbceiipcdaaGreatDoor
end
section
set_option linter.unusedVariables false
set_option linter.unusedSimpArgs false
namespace Go.Proofs.YthnkbbceiipcdaaGreatDoor
open Go.RowKit Go.Extern.Stop Go.Stop Go.Extern

theorem as_nil (t : Value) (w : World) :
    Calls Tryz.prog 42 #[.nilIface, t] w fun e w' => e = .returned (.bool false) ∧ w' = w := by
  go_enter Tryz.func42, Tryz.ntmps42
  go_wp2
  go_ret
  exact ⟨rfl, rfl⟩

theorem as_valueOfP (t : Addr) (w : World) : (ReflectliteValue.unpack (.iface 102 (.pointer (some t)))).run Tryz.prog w
    = .ok (.agg #[.pointer (some ⟨1, 102, none⟩), .pointer (some ⟨w.heap.size, 0, none⟩), .int .u64 150]) (w.alloc (.cells #[.pointer (some t)] 102)) := by kernel_rfl
theorem as_typeP (a : Addr) (w : World) : (ReflectliteValue.methodAny (ReflectliteValue.valueError "reflectlite.Value.Type" 0) (fun t _ _ _ => ReflectliteType.toType t) #[.agg #[.pointer (some ⟨1, 102, none⟩), .pointer (some a), .int .u64 150]]).run Tryz.prog w
    = .ok (.iface 189 (.agg #[.pointer (some ⟨1, 102, none⟩)])) w := by kernel_rfl
theorem as_methodKind (h : Value) (w : World) : (Go.method 541 189 (.agg #[h]) "Kind").run Tryz.prog w = .ok (356, h) w := by kernel_rfl
theorem as_kindP (w : World) : ((ReflectliteType.abiMethod fun t => (fun a : Nat => Value.int IntKind.u8 (a : Int)) <$> Rtype.kind t) #[.pointer (some ⟨1, 102, none⟩)]).run Tryz.prog w = .ok (.int .u8 22) w := by kernel_rfl
theorem as_kindE (w : World) : ((ReflectliteType.abiMethod fun t => (fun a : Nat => Value.int IntKind.u8 (a : Int)) <$> Rtype.kind t) #[.pointer (some ⟨1, 73, none⟩)]).run Tryz.prog w = .ok (.int .u8 2) w := by kernel_rfl
theorem as_rlm (z : Sem Value) (f : TypeId → Addr → Nat → Nat → Sem Value) (v : Value) :
    ReflectliteValue.method z f #[v] = (do match ← ReflectliteValue.parts v with | none => z | some (t, a, fl) => f t a fl (fl % 32)) := rfl
theorem as_partsP (a : Addr) (w : World) : (ReflectliteValue.parts (.agg #[.pointer (some ⟨1, 102, none⟩), .pointer (some a), .int .u64 150])).run Tryz.prog w = .ok (some (102, a, 150)) w := by kernel_rfl
theorem as_isNilP (a p : Addr) (W : World) (ha : W.cell? a = some (.pointer (some p))) :
    (ReflectliteValue.method (ReflectliteValue.valueError "reflectlite.Value.IsNil" 0) ReflectliteValue.isNil #[.agg #[.pointer (some ⟨1, 102, none⟩), .pointer (some a), .int .u64 150]]).run Tryz.prog W = .ok (.bool false) W := by
  rw [as_rlm]
  simp only [Sem.run_bind, as_partsP, Result.andThen]
  simp [ReflectliteValue.isNil, loadVar, isAgg, underlying, Tryz.underlying102, ha, Result.andThen]
theorem as_methodElem (h : Value) (w : World) : (Go.method 541 189 (.agg #[h]) "Elem").run Tryz.prog w = .ok (368, .agg #[h]) w := by kernel_rfl
theorem as_methodImplements (h : Value) (w : World) : (Go.method 541 189 (.agg #[h]) "Implements").run Tryz.prog w = .ok (369, .agg #[h]) w := by kernel_rfl
theorem as_methodAssignableTo (h : Value) (w : World) : (Go.method 541 189 (.agg #[h]) "AssignableTo").run Tryz.prog w = .ok (366, .agg #[h]) w := by kernel_rfl
theorem as_elemP (w : World) : (ReflectliteType.method ReflectliteType.elem #[.agg #[.pointer (some ⟨1, 102, none⟩)]]).run Tryz.prog w = .ok (.iface 189 (.agg #[.pointer (some ⟨1, 73, none⟩)])) w := by kernel_rfl
theorem as_implE (w : World) : (ReflectliteType.relation "Implements" ReflectliteType.implements_ #[.agg #[.pointer (some ⟨1, 73, none⟩)], .iface 189 (.agg #[.pointer (some ⟨1, 38, none⟩)])]).run Tryz.prog w = .ok (.bool true) w := by kernel_rfl
theorem as_typeOfE (v : Value) (w : World) : (ReflectliteType.typeOf #[.iface 73 v]).run Tryz.prog w = .ok (.iface 189 (.agg #[.pointer (some ⟨1, 73, none⟩)])) w := by kernel_rfl
theorem as_assignE (w : World) : (ReflectliteType.relation "AssignableTo" ReflectliteType.assignableTo #[.agg #[.pointer (some ⟨1, 73, none⟩)], .iface 189 (.agg #[.pointer (some ⟨1, 73, none⟩)])]).run Tryz.prog w = .ok (.bool true) w := by kernel_rfl
theorem as_valueOfE (n : Int) (w : World) : (ReflectliteValue.unpack (.iface 73 (.int .i64 n))).run Tryz.prog w
    = .ok (.agg #[.pointer (some ⟨1, 73, none⟩), .pointer (some ⟨w.heap.size, 0, none⟩), .int .u64 130]) (w.alloc (.cells #[.int .i64 n] 73)) := by kernel_rfl
theorem as_elemOfP (w : World) : (Rtype.elem? 102).run Tryz.prog w = .ok (some 73) w := by kernel_rfl
theorem as_mkE (p : Addr) (w : World) : (ReflectliteValue.mk 73 p ReflectliteValue.flagAddr).run Tryz.prog w = .ok (.agg #[.pointer (some ⟨1, 73, none⟩), .pointer (some p), .int .u64 386]) w := by kernel_rfl
theorem as_elemVP (a p : Addr) (W : World) (ha : W.cell? a = some (.pointer (some p))) :
    (ReflectliteValue.method (ReflectliteValue.valueError "reflectlite.Value.Elem" 0) ReflectliteValue.elem #[.agg #[.pointer (some ⟨1, 102, none⟩), .pointer (some a), .int .u64 150]]).run Tryz.prog W
      = .ok (.agg #[.pointer (some ⟨1, 73, none⟩), .pointer (some p), .int .u64 386]) W := by
  rw [as_rlm]
  simp only [Sem.run_bind, as_partsP, Result.andThen]
  simp [ReflectliteValue.elem, loadVar, isAgg, underlying, Tryz.underlying102, ha, Result.andThen, as_elemOfP, as_mkE]
theorem as_rls (v x : Value) : ReflectliteValue.set #[v, x] = (do
    let (some (dst, a, fl), some (src, b, _)) := (← ReflectliteValue.parts v, ← ReflectliteValue.parts x)
      | unsupported (.noEntry "extern/(internal/reflectlite.Value).Set.zeroValue")
    if fl / ReflectliteValue.flagAddr % 2 == 0 then unsupported (.noEntry "extern/(internal/reflectlite.Value).Set.unaddressable")
    let val ← loadVar src b
    if ← Rtype.directlyAssignable dst src then storeVar dst a val
    else if ← Rtype.implements dst src then
      if (← Rtype.kind src) == 20 then
        match val with
        | .nilIface => unsupported (.noEntry "extern/reflectlite: a nil value of one interface type handed on as a value of another")
        | _ => storeVar dst a val
      else storeVar dst a (.iface src val)
    else panicString ("reflectlite.Set: value of type " ++ (← Rtype.spelt src) ++ " is not assignable to type " ++ (← Rtype.spelt dst))
    pure (.tuple #[])) := rfl
theorem as_partsEa (a : Addr) (w : World) : (ReflectliteValue.parts (.agg #[.pointer (some ⟨1, 73, none⟩), .pointer (some a), .int .u64 386])).run Tryz.prog w = .ok (some (73, a, 386)) w := by kernel_rfl
theorem as_partsE (a : Addr) (w : World) : (ReflectliteValue.parts (.agg #[.pointer (some ⟨1, 73, none⟩), .pointer (some a), .int .u64 130])).run Tryz.prog w = .ok (some (73, a, 130)) w := by kernel_rfl
theorem as_directE (w : World) : (Rtype.directlyAssignable 73 73).run Tryz.prog w = .ok true w := by kernel_rfl
theorem as_setE (ta b : Addr) (n : Int) (old : Value) (W : World) (hb : W.cell? b = some (.int .i64 n)) (ht : W.cell? ta = some old) (hf : W.frozen? ta = false) :
    (ReflectliteValue.set #[.agg #[.pointer (some ⟨1, 73, none⟩), .pointer (some ta), .int .u64 386], .agg #[.pointer (some ⟨1, 73, none⟩), .pointer (some b), .int .u64 130]]).run Tryz.prog W
      = .ok (.tuple #[]) (W.setCell ta (.int .i64 n)) := by
  rw [as_rls]
  simp only [Sem.run_bind, as_partsEa, as_partsE, Result.andThen]
  simp [ReflectliteValue.flagAddr, loadVar, isAgg, underlying, Tryz.underlying73, hb, Result.andThen, as_directE, storeVar, Value.cells, storeCells, Addr.add]
  rw [run_store Tryz.prog W ta _ _ (by rfl)]
  simp [ht, hf]

/-- What the package-level variable errors.errorType holds. -/
def ErrType (w : World) : Prop := w.cell? ⟨0, 0, none⟩ = some (.iface 189 (.agg #[.pointer (some ⟨1, 38, none⟩)]))

set_option maxHeartbeats 4000000 in
set_option maxRecDepth 100000 in
theorem as_hit0 (n : Int) (t : Addr) (old : Value) (w : World) (hg : w.cell? ⟨0, 0, none⟩ = some (.iface 189 (.agg #[.pointer (some ⟨1, 38, none⟩)]))) (ht0 : w.cell? t = some old) (hf0 : w.frozen? t = false) :
    Calls Tryz.prog 42 #[.iface 73 (.int .i64 n), .iface 102 (.pointer (some t))] w fun ev w' => ev = .returned (.bool true) ∧
      w' = ((((w.alloc (.cells #[.pointer (some t)] 102)).alloc (.cells #[.pointer (some ⟨1, 102, none⟩), .pointer (some ⟨w.heap.size, 0, none⟩), .int .u64 150] 160)).alloc (.cells #[.pointer (some ⟨1, 102, none⟩), .pointer (some ⟨w.heap.size, 0, none⟩), .int .u64 150] 160)).alloc (.cells #[.int .i64 n] 73)).setCell t (.int .i64 n) := by
  have h6 := @run_callFunc_extern Tryz.prog 74 _ (fun args => ReflectliteValue.unpack (args.getD 0 (.tuple #[]))) Tryz.func74 (by kernel_rfl) (by kernel_rfl) (by kernel_rfl) (by kernel_rfl)
  have h7 := @run_callFunc_extern Tryz.prog 75 _ (ReflectliteValue.methodAny (ReflectliteValue.valueError "reflectlite.Value.Type" 0) (fun t _ _ _ => ReflectliteType.toType t)) Tryz.func75 (by kernel_rfl) (by kernel_rfl) (by kernel_rfl) (by kernel_rfl)
  have h8 := @run_callFunc_extern Tryz.prog 76 _ (ReflectliteValue.method (ReflectliteValue.valueError "reflectlite.Value.IsNil" 0) ReflectliteValue.isNil) Tryz.func76 (by kernel_rfl) (by kernel_rfl) (by kernel_rfl) (by kernel_rfl)
  have h27 := @run_callFunc_extern Tryz.prog 356 _ (ReflectliteType.abiMethod fun t => do pure (.int .u8 (← Rtype.kind t))) Tryz.func356 (by kernel_rfl) (by kernel_rfl) (by kernel_rfl) (by kernel_rfl)
  have h37 := @run_callFunc_extern Tryz.prog 368 _ (ReflectliteType.method ReflectliteType.elem) Tryz.func368 (by kernel_rfl) (by kernel_rfl) (by kernel_rfl) (by kernel_rfl)
  have h38 := @run_callFunc_extern Tryz.prog 369 _ (ReflectliteType.relation "Implements" ReflectliteType.implements_) Tryz.func369 (by kernel_rfl) (by kernel_rfl) (by kernel_rfl) (by kernel_rfl)
  have h10 := @run_callFunc_extern Tryz.prog 58 _ ReflectliteType.typeOf Tryz.func58 (by kernel_rfl) (by kernel_rfl) (by kernel_rfl) (by kernel_rfl)
  have h35 := @run_callFunc_extern Tryz.prog 366 _ (ReflectliteType.relation "AssignableTo" ReflectliteType.assignableTo) Tryz.func366 (by kernel_rfl) (by kernel_rfl) (by kernel_rfl) (by kernel_rfl)
  have h11 := @run_callFunc_extern Tryz.prog 118 _ (ReflectliteValue.method (ReflectliteValue.valueError "reflectlite.Value.Elem" 0) ReflectliteValue.elem) Tryz.func118 (by kernel_rfl) (by kernel_rfl) (by kernel_rfl) (by kernel_rfl)
  have h12 := @run_callFunc_extern Tryz.prog 119 _ ReflectliteValue.set Tryz.func119 (by kernel_rfl) (by kernel_rfl) (by kernel_rfl) (by kernel_rfl)
  have tO := as_typeOfE
  have mA := as_methodAssignableTo
  have a25 := as_assignE
  have v25 := as_valueOfE
  have f6 := as_valueOfP
  have f7 := as_typeP
  have mK := as_methodKind
  have mE := as_methodElem
  have mI := as_methodImplements
  have k27 := as_kindP
  have k25 := as_kindE
  have e27 := as_elemP
  have i25 := as_implE
  have n8 := as_isNilP ⟨w.heap.size, 0, none⟩ t ((w.alloc (.cells #[.pointer (some t)] 102)).alloc (.cells #[.pointer (some ⟨1, 102, none⟩), .pointer (some ⟨w.heap.size, 0, none⟩), .int .u64 150] 160)) (by simp)
  have hlt : 0 < w.heap.size := by
    rcases Nat.eq_zero_or_pos w.heap.size with h0 | h
    · simp [World.cell?, h0] at hg
    · exact h
  have hg2 : ((w.alloc (.cells #[.pointer (some t)] 102)).alloc (.cells #[.pointer (some ⟨1, 102, none⟩), .pointer (some ⟨w.heap.size, 0, none⟩), .int .u64 150] 160)).cell? ⟨0, 0, none⟩ = some (.iface 189 (.agg #[.pointer (some ⟨1, 38, none⟩)])) := by
    rw [World.cell?_alloc_lt _ _ ⟨0, 0, none⟩ (by simp), World.cell?_alloc_lt _ _ ⟨0, 0, none⟩ hlt]; exact hg
  have htl : t.block < w.heap.size := by
    rcases Nat.lt_or_ge t.block w.heap.size with h | h
    · exact h
    · simp [World.cell?, Array.getElem?_eq_none h] at ht0
  have el := as_elemVP ⟨w.heap.size, 0, none⟩ t (((w.alloc (.cells #[.pointer (some t)] 102)).alloc (.cells #[.pointer (some ⟨1, 102, none⟩), .pointer (some ⟨w.heap.size, 0, none⟩), .int .u64 150] 160)).alloc (.cells #[.pointer (some ⟨1, 102, none⟩), .pointer (some ⟨w.heap.size, 0, none⟩), .int .u64 150] 160)) (by rw [World.cell?_alloc_lt _ _ ⟨w.heap.size, 0, none⟩ (by simp; omega)]; simp)
  have st := as_setE t ⟨w.heap.size + 1 + 1 + 1, 0, none⟩ n old ((((w.alloc (.cells #[.pointer (some t)] 102)).alloc (.cells #[.pointer (some ⟨1, 102, none⟩), .pointer (some ⟨w.heap.size, 0, none⟩), .int .u64 150] 160)).alloc (.cells #[.pointer (some ⟨1, 102, none⟩), .pointer (some ⟨w.heap.size, 0, none⟩), .int .u64 150] 160)).alloc (.cells #[.int .i64 n] 73))
    (by rw [World.cell?_alloc_at _ _ _ _ (by simp)]; rfl)
    (by rw [World.cell?_alloc_lt _ _ t (by simp; omega), World.cell?_alloc_lt _ _ t (by simp; omega), World.cell?_alloc_lt _ _ t (by simp; omega), World.cell?_alloc_lt _ _ t htl]; exact ht0)
    (by rw [World.frozen?_alloc_old _ _ t (by simp; omega), World.frozen?_alloc_old _ _ t (by simp; omega), World.frozen?_alloc_old _ _ t (by simp; omega), World.frozen?_alloc_old _ _ t (Nat.ne_of_lt htl)]; exact hf0)
  go_enter Tryz.func42, Tryz.ntmps42
  go_wp2
  refine wp_loop_rounds 1 ?_
  rw [rounds_succ]
  go_wp2
  go_ret
  exact ⟨rfl, rfl⟩
end Go.Proofs.YthnkbbceiipcdaaGreatDoor
end
section
set_option linter.unusedVariables false
set_option linter.unusedSimpArgs false
namespace Go.Proofs
open Go.RowKit Go.Maps Go.Sort Go.Shelf
theorem Tryz.sortsA (m : Nat) : AnyZI.SortsIn Tryz.prog Tryz.sortedA_ren Fence.wide m :=
  ⟨fun blk off cap ss W hH hblk hsz => callsIn_wide.2 (AnyM.slices_Sort_int Tryz.sortA blk off cap ss W hH hblk hsz),
   fun p cap W => callsIn_wide.2 (AnyM.slices_Sort_int_none Tryz.sortA p cap W)⟩
set_option maxHeartbeats 1000000 in
theorem Tryz.Dirty {H : Type} (B o b nn : Nat) (D0 : DataW H) (R : Value → Option (DataW H × List MemPlace)) (w : World) (hown : w.ownsMap Tryz.prog 3 R b nn D0) (hmax : Maps.size D0 ≤ maxLen) (hbytes : Maps.size D0 * 8 ≤ 140737488355328)
    (hc : w.cell? ⟨B, o + 1, none⟩ = some (.map (some b))) :
    Calls Tryz.prog 63 #[.pointer (some ⟨B, o, none⟩)] w fun e w' => ∃ (v : Value) (ss : List Int), e = .returned v ∧ ss.Perm (intKeys D0) ∧
      w'.ownsRow w.heap.size 3 1 v ss.length ((ss.mergeSort (fun x y => decide (x ≤ y))).map encZ) ∧ (v = .slice none 0 0 ↔ ss = []) ∧ Below w.heap.size w w' := by
  refine (callsIn_wide (n := 6)).1 ?_
  have hbl := hown.lt
  have hseq : SeqGives Fence.wide 2 Tryz.prog 149 #[.pointer (some ⟨w.heap.size, 0, none⟩)] encZ (fun ss => ss.Perm (intKeys D0)) (Maps.size D0) (w.alloc (.cells #[.map (some b)] 148)) :=
    AnyZI.keys_gives (ρ := Tryz.keysA_ren) { Tryz.keysA with } Fence.wide _ trivial rfl (by omega) w.heap.size b nn D0 _ (by simp) (by simp) (by
      obtain ⟨es, clock, hb, Ft, hs, hD⟩ := hown
      exact ⟨es, clock, (Below.heap_alloc _ _ b hbl).trans hb, Ft, hs, hD⟩)
  have cK : ∀ mb W, CallsIn Fence.wide 5 Tryz.prog 102 #[.map mb] W fun e w' => e = .returned (.func (.func 149) #[] #[.pointer (some ⟨W.heap.size, 0, none⟩)]) ∧ w' = W.alloc (.cells #[.map mb] 148) := fun mb W => AnyZI.keys_in Tryz.keysA Fence.wide 5 trivial rfl mb W
  have cS := AnyZI.sorted_in Tryz.sortedA Fence.wide 5 trivial trivial trivial trivial rfl (by omega) (Tryz.sortsA _) (enters_of Tryz.func105 (by kernel_rfl) rfl) 149 #[.pointer (some ⟨w.heap.size, 0, none⟩)] trivial (enters_of Tryz.func149 (by kernel_rfl) rfl) _ _ hmax hbytes _ hseq
  change CallsIn _ _ Tryz.prog 101 _ _ _ at cS
  have hfK : Fence.wide.fn 102 := trivial
  have hfS : Fence.wide.fn 101 := trivial
  refine callsIn_of_wp Tryz.func63 rfl trivial ?_ rfl
  simp only [Tryz.ntmps63, List.size_toArray, List.length_cons, List.length_nil, Nat.reduceAdd, Nat.reduceSub, Array.replicate_succ, Array.replicate_zero, List.push_toArray, List.append_toArray, List.nil_append, List.cons_append]
  gi_wp2_with (first
    | (gi_at_call 102; refine (cK _ _).mono ?_; rintro e w' ⟨rfl, rfl⟩)
    | (gi_at_call 101; refine cS.mono ?_; rintro e w' ⟨v, ss, rfl, hS, hrow, hnil, hb⟩))
  go_ret
  exact ⟨v, ss, rfl, hS, ownsRow_base_a hrow (by simp), hnil, ((Below.refl _ w).alloc (Nat.le_refl _) _).trans (hb.mono (by simp))⟩
#print axioms Tryz.Dirty
end Go.Proofs
end
section
set_option linter.unusedVariables false
set_option linter.unusedSimpArgs false
namespace Go.Proofs.YthnkbbceiipcdaaGreatDoor
open Go.RowKit
/-- from h: times 33 and the next byte -/
def sumC (l : List UInt8) (h : Nat) : Nat := l.foldl (fun h b => (h * 33 + b.toNat) % 18446744073709551616) h
theorem sum_step (s : ByteArray) (k : Nat) (h : k < s.size) :
    IntKind.u64.wrap (IntKind.u64.wrap ((sumC (s.data.toList.take k) 5381 : Nat) * 33 : Int) + IntKind.u64.wrap (s[k].toNat : Int)) = ((sumC (s.data.toList.take (k + 1)) 5381 : Nat) : Int) := by
  have hl : k < s.data.toList.length := by simpa using h
  have e : s.data.toList.take (k + 1) = s.data.toList.take k ++ [s[k]] := by
    rw [List.take_add_one, List.getElem?_eq_getElem hl]; rfl
  rw [e]
  unfold sumC
  rw [List.foldl_append]
  generalize List.foldl _ 5381 (s.data.toList.take k) = q
  simp only [List.foldl_cons, List.foldl_nil]
  have := s[k].toNat_lt
  generalize s[k].toNat = b at this ⊢
  show (IntKind.u64.wrap (IntKind.u64.wrap ((q : Int) * 33) + IntKind.u64.wrap (b : Int))) = (((q * 33 + b) % 18446744073709551616 : Nat) : Int)
  simp only [IntKind.wrap, IntKind.signed, IntKind.bits]
  simp
set_option maxHeartbeats 4000000 in
set_option maxRecDepth 100000 in
theorem sum_b (s : ByteArray) (hs : s.size ≤ 16777214) (w : World) :
    Calls Tryz.prog 88 #[.string s] w fun e w' => e = .returned (.int .u64 (sumC s.data.toList 5381 : Nat)) ∧ w' = w := by
  go_enter Tryz.func88, Tryz.ntmps88
  go_wp2
  go_loopw [3, 4] (fun h i wr => ∃ k : Nat, k ≤ s.size ∧ i = .int .i64 k ∧ h = .int .u64 (sumC (s.data.toList.take k) 5381 : Nat) ∧ wr = w) (fun h i _ => s.size - (intOf i).toNat)
  case atStart => exact ⟨0, Nat.zero_le _, rfl, by simp [sumC], rfl⟩
  case round =>
    obtain ⟨k, hk, rfl, rfl, rfl⟩ := hrel
    by_cases hlt : k < s.size
    · go_wp2
      refine ⟨⟨k + 1, by omega, rfl, by rw [sum_step s k hlt], trivial⟩, ?_⟩
      show s.size - ((k : Int) + 1).toNat < s.size - (k : Int).toNat
      omega
    · obtain rfl : k = s.size := by omega
      go_wp2
      go_ret
      rw [List.take_of_length_le (by simp)]
      exact ⟨rfl, rfl⟩
set_option maxHeartbeats 4000000 in
set_option maxRecDepth 100000 in
theorem sum_a (s : ByteArray) (hs : s.size ≤ 16777214) (w : World) :
    Calls Tryz.prog 251 #[.string s] w fun e w' => e = .returned (.int .u64 (sumC s.data.toList 5381 : Nat)) ∧ w' = w := by
  go_enter Tryz.func251, Tryz.ntmps251
  go_wp2
  go_step3
  go_wp2
  go_step3
  go_wp2
  refine wp_loop_rounds 1 ?_
  rw [rounds_succ]
  go_wp2
  go_loopg [3, 7] s.size (fun g h i wr => ∃ k : Nat, k ≤ s.size ∧ s.size - k ≤ g ∧ i = .int .i64 k ∧ h = .int .u64 (sumC (s.data.toList.take k) 5381 : Nat) ∧ wr = w)
  case atStart => exact ⟨0, Nat.zero_le _, by omega, rfl, by simp [sumC], rfl⟩
  case round =>
    obtain ⟨k, hk, hg, rfl, rfl, rfl⟩ := hrel
    by_cases hlt : k < s.size
    · go_wp2
      go_roundg (s.size - (k + 1))
      case rel => exact ⟨k + 1, by omega, by omega, rfl, by rw [sum_step s k hlt], rfl⟩
      case measure => omega
    · obtain rfl : k = s.size := by omega
      go_wp2
      rw [Exit.noGoto_ret]
      go_ret
      rw [List.take_of_length_le (by simp)]
      exact ⟨rfl, rfl⟩
end Go.Proofs.YthnkbbceiipcdaaGreatDoor
end
section
set_option linter.unusedVariables false
set_option linter.unusedSimpArgs false
namespace Go.Proofs.YthnkbbceiipcdaaGreatDoor
open Go.RowKit
/-- the first place of x, j ahead -/
def idxI (x : Int) : List Int → Nat → Int
  | [], _ => -1
  | y :: l, j => if (x == y) = true then (j : Int) else idxI x l (j + 1)
set_option maxHeartbeats 4000000 in
set_option maxRecDepth 100000 in
theorem idx_any (xs : List Int) (b off c : Nat) (x : Int) (w : World) (hn : xs.length ≤ 16777214) (hc : ∀ j (h : j < xs.length), w.cell? ⟨b, off + j, none⟩ = some (.int .i64 xs[j])) :
    Calls Tryz.prog 196 #[.slice (some ⟨b, off, none⟩) xs.length c, .int .i64 x] w fun e w' => e = .returned (.int .i64 (idxI x xs 0)) ∧ w' = w := by
  have HC := Lib.hid hc
  clear hc
  go_enter Tryz.func196, Tryz.ntmps196
  go_wp2
  go_loopw [8] (fun i wr => ∃ k : Nat, k ≤ xs.length ∧ i = .int .i64 k ∧ wr = w ∧ Hid (idxI x xs 0 = idxI x (xs.drop k) k)) (fun i _ => xs.length - (intOf i).toNat)
  case atStart => exact ⟨0, Nat.zero_le _, rfl, rfl, Lib.hid rfl⟩
  case round =>
    obtain ⟨k, hk, rfl, rfl, hI⟩ := hrel
    by_cases hlt : k < xs.length
    · have hcell := HC.out k hlt
      have hd : xs.drop k = xs[k] :: xs.drop (k + 1) := List.drop_eq_getElem_cons hlt
      cases he : (x == xs[k]) with
      | true =>
        have hR : Hid (idxI x xs 0 = (k : Int)) := Lib.hid (by rw [hI.out, hd, idxI, if_pos he])
        clear hd
        go_wp2
        go_ret
        rw [hR.out]
        exact ⟨rfl, rfl⟩
      | false =>
        have hR : Hid (idxI x xs 0 = idxI x (xs.drop (k + 1)) (k + 1)) := Lib.hid (by rw [hI.out, hd, idxI, if_neg (by simp [he])])
        clear hd
        go_wp2
        refine ⟨⟨k + 1, by omega, rfl, trivial, hR⟩, ?_⟩
        show xs.length - ((k : Int) + 1).toNat < xs.length - (k : Int).toNat
        omega
    · obtain rfl : k = xs.length := by omega
      have hR : Hid (idxI x xs 0 = -1) := Lib.hid (by rw [hI.out, List.drop_length, idxI])
      go_wp2
      go_ret
      rw [hR.out]
      exact ⟨rfl, rfl⟩
set_option maxHeartbeats 4000000 in
theorem idx_none (p : Option Addr) (c : Nat) (x : Int) (w : World) :
    Calls Tryz.prog 196 #[.slice p 0 c, .int .i64 x] w fun e w' => e = .returned (.int .i64 (-1)) ∧ w' = w := by
  go_enter Tryz.func196, Tryz.ntmps196
  go_wp2
  go_loopw [8] (fun i wr => i = .int .i64 0 ∧ wr = w) (fun _ _ => 0)
  case atStart => exact ⟨rfl, rfl⟩
  case round =>
    obtain ⟨rfl, rfl⟩ := hrel
    go_wp2
    go_ret
    exact ⟨rfl, rfl⟩
end Go.Proofs.YthnkbbceiipcdaaGreatDoor
end
section
set_option linter.unusedVariables false
set_option linter.unusedSimpArgs false
namespace Go.Proofs.YthnkbbceiipcdaaGreatDoor
open Go.RowKit
theorem wrap_u64 (n : Int) : IntKind.u64.wrap n = (((n % 18446744073709551616).toNat : Nat) : Int) := by
  simp only [IntKind.wrap, IntKind.signed, IntKind.bits]
  simp
  omega
set_option maxHeartbeats 4000000 in
set_option maxRecDepth 100000 in
theorem pnum_any (n : Int) (h1 : -9223372036854775808 ≤ n) (h2 : n ≤ 9223372036854775807) (w : World) :
    Calls Tryz.prog 248 #[.int .i64 n] w fun e w' => ∃ (a b c d f g h i : Int) (W : Obj), e = .returned (.string (txt [a, b, c, d, f, g, h, i])) ∧ w' = w.alloc W ∧ ((n % 18446744073709551616).toNat : Int) = a + 256 * b + 65536 * c + 16777216 * d + 4294967296 * f + 1099511627776 * g + 281474976710656 * h + 72057594037927936 * i ∧ ∀ x ∈ [a, b, c, d, f, g, h, i], 0 ≤ x ∧ x < 256 := by
  go_enter Tryz.func248, Tryz.ntmps248
  go_wp2_with fail
  rw [wrap_u64]
  refine (num_a (n % 18446744073709551616).toNat (by omega) w).mono ?_
  rintro e w1 ⟨a, b, c, d, f, g, h, i, W, rfl, rfl, hn, hx⟩
  go_wp2
  go_ret
  exact ⟨a, b, c, d, f, g, h, i, W, rfl, rfl, hn, hx⟩
end Go.Proofs.YthnkbbceiipcdaaGreatDoor
end
section
set_option linter.unusedVariables false
set_option linter.unusedSimpArgs false
namespace Go.Proofs.YthnkbbceiipcdaaGreatDoor
open Go.RowKit
set_option maxHeartbeats 4000000 in
set_option maxRecDepth 100000 in
theorem take_ok (B o : Nat) (s : ByteArray) (w : World) (h1 : w.cell? ⟨B, o, none⟩ = some (.string s)) (h2 : w.cell? ⟨B, o + 1, none⟩ = some .nilIface) (hf : w.frozen? ⟨B, o, none⟩ = false) (hn : 8 ≤ s.size) :
    Calls Tryz.prog 236 #[.pointer (some ⟨B, o, none⟩), .int .i64 8] w fun e w' => e = .returned (.string (s.extract 0 8)) ∧ w' = w.setCell ⟨B, o, none⟩ (.string (s.extract 8 s.size)) := by
  go_enter Tryz.func236, Tryz.ntmps236
  go_wp2
  go_ret
  exact ⟨rfl, rfl⟩
set_option maxHeartbeats 4000000 in
set_option maxRecDepth 100000 in
theorem take_short (B o : Nat) (s : ByteArray) (w : World) (h1 : w.cell? ⟨B, o, none⟩ = some (.string s)) (h2 : w.cell? ⟨B, o + 1, none⟩ = some .nilIface) (hf : w.frozen? ⟨B, o + 1, none⟩ = false) (hn : s.size < 8) :
    Calls Tryz.prog 236 #[.pointer (some ⟨B, o, none⟩), .int .i64 8] w fun e w' => e = .returned (.string ⟨#[]⟩) ∧ w' = w.setCell ⟨B, o + 1, none⟩ (.iface 73 (.int .i64 11)) := by
  go_enter Tryz.func236, Tryz.ntmps236
  go_wp2
  go_ret
  exact ⟨rfl, rfl⟩
set_option maxHeartbeats 4000000 in
set_option maxRecDepth 100000 in
theorem take_err (B o : Nat) (s : ByteArray) (t : TypeId) (v : Value) (w : World) (h1 : w.cell? ⟨B, o, none⟩ = some (.string s)) (h2 : w.cell? ⟨B, o + 1, none⟩ = some (.iface t v)) (hf : w.frozen? ⟨B, o + 1, none⟩ = false) :
    Calls Tryz.prog 236 #[.pointer (some ⟨B, o, none⟩), .int .i64 8] w fun e w' => e = .returned (.string ⟨#[]⟩) ∧ w' = w.setCell ⟨B, o + 1, none⟩ (.iface 73 (.int .i64 11)) := by
  go_enter Tryz.func236, Tryz.ntmps236
  go_wp2
  go_ret
  exact ⟨rfl, rfl⟩
/-- bytes as a number, the first one lowest -/
def packN : List UInt8 → Nat
  | [] => 0
  | b :: l => b.toNat + 256 * packN l
theorem packN_lt : ∀ l : List UInt8, packN l < 256 ^ l.length
  | [] => by simp [packN]
  | b :: l => by
    have h := packN_lt l
    have hb := b.toNat_lt
    simp only [packN, List.length_cons, Nat.pow_succ]
    omega
theorem or_byte (n b : Nat) (hn : n < 72057594037927936) (hb : b < 256) : bits .or .u64 (IntKind.u64.wrap ((n : Int) * 256)) (IntKind.u64.wrap (b : Int)) = ((b + 256 * n : Nat) : Int) := by
  have e1 : IntKind.u64.wrap ((n : Int) * 256) = ((256 * n : Nat) : Int) := by
    simp only [IntKind.wrap, IntKind.signed, IntKind.bits]
    simp
    omega
  have e2 : IntKind.u64.wrap (b : Int) = (b : Int) := by
    simp only [IntKind.wrap, IntKind.signed, IntKind.bits]
    simp
    omega
  rw [e1, e2, u64_or_nat _ _ (by omega) (by omega)]
  have := Nat.two_pow_add_eq_or_of_lt (i := 8) (b := b) (by omega) n
  rw [show (2 : Nat) ^ 8 = 256 from rfl] at this
  rw [← this]
  congr 1
  omega
theorem drop_num (t : ByteArray) (k : Nat) (h0 : 0 < k) (hk : k ≤ t.size) : packN (t.data.toList.drop (k - 1)) = t[k - 1].toNat + 256 * packN (t.data.toList.drop k) := by
  have hl : k - 1 < t.data.toList.length := by simp; omega
  rw [List.drop_eq_getElem_cons hl, show k - 1 + 1 = k by omega]
  rfl
theorem drop_lt (t : ByteArray) (ht : t.size ≤ 8) (k : Nat) (h0 : 0 < k) : packN (t.data.toList.drop k) < 72057594037927936 := by
  have h := packN_lt (t.data.toList.drop k)
  have hl : (t.data.toList.drop k).length ≤ 7 := by simp; omega
  have h2 : 256 ^ (t.data.toList.drop k).length ≤ 256 ^ 7 := Nat.pow_le_pow_right (by decide) hl
  have h3 : (256 : Nat) ^ 7 = 72057594037927936 := by decide
  omega
set_option maxHeartbeats 4000000 in
set_option maxRecDepth 100000 in
theorem num_of (t : ByteArray) (ht : t.size ≤ 8) (w1 w : World) (B o : Nat) (hc : Calls Tryz.prog 236 #[.pointer (some ⟨B, o, none⟩), .int .i64 8] w fun e w' => e = .returned (.string t) ∧ w' = w1) :
    Calls Tryz.prog 193 #[.pointer (some ⟨B, o, none⟩)] w fun e w' => e = .returned (.int .u64 (packN t.data.toList : Nat)) ∧ w' = w1 := by
  go_enter Tryz.func193, Tryz.ntmps193
  go_wp2_with fail
  refine hc.mono ?_
  rintro e wa ⟨rfl, rfl⟩
  go_wp2
  go_loopw [4, 5] (fun n i wr => ∃ k : Nat, k ≤ t.size ∧ i = .int .i64 ((k : Int) - 1) ∧ n = .int .u64 (packN (t.data.toList.drop k) : Nat) ∧ wr = wa) (fun n i _ => ((intOf i) + 1).toNat)
  case atStart => exact ⟨t.size, Nat.le_refl _, rfl, by rw [List.drop_of_length_le (by simp)]; rfl, rfl⟩
  case round =>
    obtain ⟨k, hk, rfl, rfl, rfl⟩ := hrel
    by_cases hlt : 0 < k
    · go_wp2
      refine ⟨⟨k - 1, by omega, by congr 1; omega, ?_, trivial⟩, ?_⟩
      · rw [or_byte _ _ (drop_lt t ht k hlt) (by have := t[k - 1].toNat_lt; omega), drop_num t k hlt hk]
      · show ((k : Int) - 1 - 1 + 1).toNat < ((k : Int) - 1 + 1).toNat
        omega
    · obtain rfl : k = 0 := by omega
      go_wp2
      go_ret
      exact ⟨rfl, rfl⟩
end Go.Proofs.YthnkbbceiipcdaaGreatDoor
end
