/- errors.As at a **bad target: closed facts on the model's entries for internal/reflectlite at this program's types (their form is the worked proof ToyasAs's, turned to this seat). -/
import Derived.Test.YtanjahakoadecaaDoorHCrcE
import Derived.LaidEql
import Derived.Stop.Asserts
import Derived.RowKitTokens
namespace Go.Proofs.YtanjahakoadecaaDoor.Hand
open Go.RowKit Go.Extern.Stop Go.Stop Go.Extern Go.Proofs.YtanjahakoadecaaDoorW.PrintWords Go.Proofs.YtanjahakoadecaaDoorW.PrintMore
set_option linter.unusedVariables false
set_option linter.unusedSimpArgs false

theorem rf_valueOf27 (t : Addr) (w : World) : (ReflectliteValue.unpack (.iface 66 (.pointer (some t)))).run Tryd.prog w
    = .ok (.agg #[.pointer (some ⟨1, 66, none⟩), .pointer (some ⟨w.heap.size, 0, none⟩), .int .u64 150]) (w.alloc (.cells #[.pointer (some t)] 66)) := by kernel_rfl
theorem rf_type27 (a : Addr) (w : World) : (ReflectliteValue.methodAny (ReflectliteValue.valueError "reflectlite.Value.Type" 0) (fun t _ _ _ => ReflectliteType.toType t) #[.agg #[.pointer (some ⟨1, 66, none⟩), .pointer (some a), .int .u64 150]]).run Tryd.prog w
    = .ok (.iface 104 (.agg #[.pointer (some ⟨1, 66, none⟩)])) w := by kernel_rfl
theorem rf_methodKind (h : Value) (w : World) : (Go.method 188 104 (.agg #[h]) "Kind").run Tryd.prog w = .ok (63, h) w := by kernel_rfl
theorem rf_kind27 (w : World) : ((ReflectliteType.abiMethod fun t => (fun a : Nat => Value.int IntKind.u8 (a : Int)) <$> Rtype.kind t) #[.pointer (some ⟨1, 66, none⟩)]).run Tryd.prog w = .ok (.int .u8 22) w := by kernel_rfl
theorem rf_kind25 (w : World) : ((ReflectliteType.abiMethod fun t => (fun a : Nat => Value.int IntKind.u8 (a : Int)) <$> Rtype.kind t) #[.pointer (some ⟨1, 64, none⟩)]).run Tryd.prog w = .ok (.int .u8 22) w := by kernel_rfl

theorem rlm (z : Sem Value) (f : TypeId → Addr → Nat → Nat → Sem Value) (v : Value) :
    ReflectliteValue.method z f #[v] = (do match ← ReflectliteValue.parts v with | none => z | some (t, a, fl) => f t a fl (fl % 32)) := rfl
theorem rf_parts27 (a : Addr) (w : World) : (ReflectliteValue.parts (.agg #[.pointer (some ⟨1, 66, none⟩), .pointer (some a), .int .u64 150])).run Tryd.prog w = .ok (some (66, a, 150)) w := by kernel_rfl
theorem rf_isNil27 (a p : Addr) (W : World) (ha : W.cell? a = some (.pointer (some p))) :
    (ReflectliteValue.method (ReflectliteValue.valueError "reflectlite.Value.IsNil" 0) ReflectliteValue.isNil #[.agg #[.pointer (some ⟨1, 66, none⟩), .pointer (some a), .int .u64 150]]).run Tryd.prog W = .ok (.bool false) W := by
  rw [rlm]
  simp only [Sem.run_bind, rf_parts27, Result.andThen]
  simp [ReflectliteValue.isNil, loadVar, isAgg, underlying, Tryd.underlying66, ha, Result.andThen]

theorem rf_methodElem (h : Value) (w : World) : (Go.method 188 104 (.agg #[h]) "Elem").run Tryd.prog w = .ok (75, .agg #[h]) w := by kernel_rfl
theorem rf_methodImplements (h : Value) (w : World) : (Go.method 188 104 (.agg #[h]) "Implements").run Tryd.prog w = .ok (76, .agg #[h]) w := by kernel_rfl
theorem rf_methodAssignableTo (h : Value) (w : World) : (Go.method 188 104 (.agg #[h]) "AssignableTo").run Tryd.prog w = .ok (73, .agg #[h]) w := by kernel_rfl
theorem rf_elem27 (w : World) : (ReflectliteType.method ReflectliteType.elem #[.agg #[.pointer (some ⟨1, 66, none⟩)]]).run Tryd.prog w = .ok (.iface 104 (.agg #[.pointer (some ⟨1, 64, none⟩)])) w := by kernel_rfl
theorem rf_implements25 (w : World) : (ReflectliteType.relation "Implements" ReflectliteType.implements_ #[.agg #[.pointer (some ⟨1, 64, none⟩)], .iface 104 (.agg #[.pointer (some ⟨1, 61, none⟩)])]).run Tryd.prog w = .ok (.bool true) w := by kernel_rfl
theorem rf_typeOf25 (v : Value) (w : World) : (ReflectliteType.typeOf #[.iface 64 v]).run Tryd.prog w = .ok (.iface 104 (.agg #[.pointer (some ⟨1, 64, none⟩)])) w := by kernel_rfl
theorem rf_assignable25 (w : World) : (ReflectliteType.relation "AssignableTo" ReflectliteType.assignableTo #[.agg #[.pointer (some ⟨1, 64, none⟩)], .iface 104 (.agg #[.pointer (some ⟨1, 64, none⟩)])]).run Tryd.prog w = .ok (.bool true) w := by kernel_rfl
theorem rf_valueOf25 (e : Addr) (w : World) : (ReflectliteValue.unpack (.iface 64 (.pointer (some e)))).run Tryd.prog w
    = .ok (.agg #[.pointer (some ⟨1, 64, none⟩), .pointer (some ⟨w.heap.size, 0, none⟩), .int .u64 150]) (w.alloc (.cells #[.pointer (some e)] 64)) := by kernel_rfl

theorem rf_elemOf27 (w : World) : (Rtype.elem? 66).run Tryd.prog w = .ok (some 64) w := by kernel_rfl
theorem rf_mk25 (p : Addr) (w : World) : (ReflectliteValue.mk 64 p ReflectliteValue.flagAddr).run Tryd.prog w = .ok (.agg #[.pointer (some ⟨1, 64, none⟩), .pointer (some p), .int .u64 406]) w := by kernel_rfl
theorem rf_elemV27 (a p : Addr) (W : World) (ha : W.cell? a = some (.pointer (some p))) :
    (ReflectliteValue.method (ReflectliteValue.valueError "reflectlite.Value.Elem" 0) ReflectliteValue.elem #[.agg #[.pointer (some ⟨1, 66, none⟩), .pointer (some a), .int .u64 150]]).run Tryd.prog W
      = .ok (.agg #[.pointer (some ⟨1, 64, none⟩), .pointer (some p), .int .u64 406]) W := by
  rw [rlm]
  simp only [Sem.run_bind, rf_parts27, Result.andThen]
  simp [ReflectliteValue.elem, loadVar, isAgg, underlying, Tryd.underlying66, ha, Result.andThen, rf_elemOf27, rf_mk25]
theorem rls (v x : Value) : ReflectliteValue.set #[v, x] = (do
    let (some (dst, a, fl), some (src, b, _)) := (← ReflectliteValue.parts v, ← ReflectliteValue.parts x)
      | unsupported (.noEntry "extern/(internal/reflectlite.Value).Set.zeroValue")
    if fl / ReflectliteValue.flagAddr % 2 == 0 then unsupported (.noEntry "extern/(internal/reflectlite.Value).Set.unaddressable")
    let val ← loadVar src b
    if ← Rtype.directlyAssignable dst src then storeVar dst a val
    else if ← Rtype.implements dst src then
      if (← Rtype.kind src) == 20 then
        match val with
        | .nilIface => unsupported (.noEntry "extern/reflectlite: a nil value of one interface type handed on as a value of another")
        | _ => storeVar dst a val
      else storeVar dst a (.iface src val)
    else panicString ("reflectlite.Set: value of type " ++ (← Rtype.spelt src) ++ " is not assignable to type " ++ (← Rtype.spelt dst))
    pure (.tuple #[])) := rfl
theorem rf_parts25a (a : Addr) (w : World) : (ReflectliteValue.parts (.agg #[.pointer (some ⟨1, 64, none⟩), .pointer (some a), .int .u64 406])).run Tryd.prog w = .ok (some (64, a, 406)) w := by kernel_rfl
theorem rf_parts25 (a : Addr) (w : World) : (ReflectliteValue.parts (.agg #[.pointer (some ⟨1, 64, none⟩), .pointer (some a), .int .u64 150])).run Tryd.prog w = .ok (some (64, a, 150)) w := by kernel_rfl
theorem rf_direct25 (w : World) : (Rtype.directlyAssignable 64 64).run Tryd.prog w = .ok true w := by kernel_rfl
theorem rf_size25 (w : World) : (sizeOf 64).run Tryd.prog w = .ok 1 w := by kernel_rfl
theorem rf_set25 (ta b e : Addr) (old : Value) (W : World) (hb : W.cell? b = some (.pointer (some e))) (ht : W.cell? ta = some old) (hf : W.frozen? ta = false) :
    (ReflectliteValue.set #[.agg #[.pointer (some ⟨1, 64, none⟩), .pointer (some ta), .int .u64 406], .agg #[.pointer (some ⟨1, 64, none⟩), .pointer (some b), .int .u64 150]]).run Tryd.prog W
      = .ok (.tuple #[]) (W.setCell ta (.pointer (some e))) := by
  rw [rls]
  simp only [Sem.run_bind, rf_parts25a, rf_parts25, Result.andThen]
  simp [ReflectliteValue.flagAddr, loadVar, isAgg, underlying, Tryd.underlying64, hb, Result.andThen, rf_direct25, storeVar, Value.cells, storeCells, Addr.add]
  rw [run_store Tryd.prog W ta _ _ (by rfl)]
  simp [ht, hf]

theorem rf_typeOfAt (v : Value) (w : World) : (ReflectliteType.typeOf #[.iface 79 v]).run Tryd.prog w = .ok (.iface 104 (.agg #[.pointer (some ⟨1, 79, none⟩)])) w := by kernel_rfl
theorem rf_assignableAt (w : World) : (ReflectliteType.relation "AssignableTo" ReflectliteType.assignableTo #[.agg #[.pointer (some ⟨1, 79, none⟩)], .iface 104 (.agg #[.pointer (some ⟨1, 64, none⟩)])]).run Tryd.prog w = .ok (.bool false) w := by kernel_rfl
theorem rf_noAs (v : Value) (xT : TypeId) (w : World) : (Instr.typeAssert (.iface 79 v) xT 109 true).run Tryd.prog w = .ok (.tuple #[.nilIface, .bool false]) w := run_typeAssert_lacksB Tryd.underlying109 (by kernel_rfl) (by kernel_rfl) v xT w
theorem rf_unwrap (v : Value) (xT : TypeId) (w : World) : (Instr.typeAssert (.iface 79 v) xT 112 true).run Tryd.prog w = .ok (.tuple #[.iface 79 v, .bool true]) w := run_typeAssert_hasB Tryd.underlying112 (by kernel_rfl) v xT w
end Go.Proofs.YtanjahakoadecaaDoor.Hand
