/- Texts joined into one: each with its own sentence of what is proved, and under which conditions. -/
import Derived.Test.YtanjahakoadecaaDoorHCrcF
import Derived.LaidEql
import Derived.Stop.Asserts
import Derived.RowKitTokens
import Derived.Test.YtanjahakoadecaaDoorHCrcG
/- errors.As at a **bad target: closed facts on the model's entries for internal/reflectlite at this program's types (their form is the worked proof ToyasAs's, turned to this seat). -/
namespace Go.Proofs.YtanjahakoadecaaDoor.Hand
open Go.RowKit Go.Extern.Stop Go.Stop Go.Extern Go.Proofs.YtanjahakoadecaaDoorW.PrintWords Go.Proofs.YtanjahakoadecaaDoorW.PrintMore
set_option linter.unusedVariables false
set_option linter.unusedSimpArgs false

theorem rf_valueOf27 (t : Addr) (w : World) : (ReflectliteValue.unpack (.iface 66 (.pointer (some t)))).run Tryd.prog w
    = .ok (.agg #[.pointer (some ⟨1, 66, none⟩), .pointer (some ⟨w.heap.size, 0, none⟩), .int .u64 150]) (w.alloc (.cells #[.pointer (some t)] 66)) := by kernel_rfl
theorem rf_type27 (a : Addr) (w : World) : (ReflectliteValue.methodAny (ReflectliteValue.valueError "reflectlite.Value.Type" 0) (fun t _ _ _ => ReflectliteType.toType t) #[.agg #[.pointer (some ⟨1, 66, none⟩), .pointer (some a), .int .u64 150]]).run Tryd.prog w
    = .ok (.iface 104 (.agg #[.pointer (some ⟨1, 66, none⟩)])) w := by kernel_rfl
theorem rf_methodKind (h : Value) (w : World) : (Go.method 188 104 (.agg #[h]) "Kind").run Tryd.prog w = .ok (63, h) w := by kernel_rfl
theorem rf_kind27 (w : World) : ((ReflectliteType.abiMethod fun t => (fun a : Nat => Value.int IntKind.u8 (a : Int)) <$> Rtype.kind t) #[.pointer (some ⟨1, 66, none⟩)]).run Tryd.prog w = .ok (.int .u8 22) w := by kernel_rfl
theorem rf_kind25 (w : World) : ((ReflectliteType.abiMethod fun t => (fun a : Nat => Value.int IntKind.u8 (a : Int)) <$> Rtype.kind t) #[.pointer (some ⟨1, 64, none⟩)]).run Tryd.prog w = .ok (.int .u8 22) w := by kernel_rfl

theorem rlm (z : Sem Value) (f : TypeId → Addr → Nat → Nat → Sem Value) (v : Value) :
    ReflectliteValue.method z f #[v] = (do match ← ReflectliteValue.parts v with | none => z | some (t, a, fl) => f t a fl (fl % 32)) := rfl
theorem rf_parts27 (a : Addr) (w : World) : (ReflectliteValue.parts (.agg #[.pointer (some ⟨1, 66, none⟩), .pointer (some a), .int .u64 150])).run Tryd.prog w = .ok (some (66, a, 150)) w := by kernel_rfl
theorem rf_isNil27 (a p : Addr) (W : World) (ha : W.cell? a = some (.pointer (some p))) :
    (ReflectliteValue.method (ReflectliteValue.valueError "reflectlite.Value.IsNil" 0) ReflectliteValue.isNil #[.agg #[.pointer (some ⟨1, 66, none⟩), .pointer (some a), .int .u64 150]]).run Tryd.prog W = .ok (.bool false) W := by
  rw [rlm]
  simp only [Sem.run_bind, rf_parts27, Result.andThen]
  simp [ReflectliteValue.isNil, loadVar, isAgg, underlying, Tryd.underlying66, ha, Result.andThen]

theorem rf_methodElem (h : Value) (w : World) : (Go.method 188 104 (.agg #[h]) "Elem").run Tryd.prog w = .ok (75, .agg #[h]) w := by kernel_rfl
theorem rf_methodImplements (h : Value) (w : World) : (Go.method 188 104 (.agg #[h]) "Implements").run Tryd.prog w = .ok (76, .agg #[h]) w := by kernel_rfl
theorem rf_methodAssignableTo (h : Value) (w : World) : (Go.method 188 104 (.agg #[h]) "AssignableTo").run Tryd.prog w = .ok (73, .agg #[h]) w := by kernel_rfl
theorem rf_elem27 (w : World) : (ReflectliteType.method ReflectliteType.elem #[.agg #[.pointer (some ⟨1, 66, none⟩)]]).run Tryd.prog w = .ok (.iface 104 (.agg #[.pointer (some ⟨1, 64, none⟩)])) w := by kernel_rfl
theorem rf_implements25 (w : World) : (ReflectliteType.relation "Implements" ReflectliteType.implements_ #[.agg #[.pointer (some ⟨1, 64, none⟩)], .iface 104 (.agg #[.pointer (some ⟨1, 61, none⟩)])]).run Tryd.prog w = .ok (.bool true) w := by kernel_rfl
theorem rf_typeOf25 (v : Value) (w : World) : (ReflectliteType.typeOf #[.iface 64 v]).run Tryd.prog w = .ok (.iface 104 (.agg #[.pointer (some ⟨1, 64, none⟩)])) w := by kernel_rfl
theorem rf_assignable25 (w : World) : (ReflectliteType.relation "AssignableTo" ReflectliteType.assignableTo #[.agg #[.pointer (some ⟨1, 64, none⟩)], .iface 104 (.agg #[.pointer (some ⟨1, 64, none⟩)])]).run Tryd.prog w = .ok (.bool true) w := by kernel_rfl
theorem rf_valueOf25 (e : Addr) (w : World) : (ReflectliteValue.unpack (.iface 64 (.pointer (some e)))).run Tryd.prog w
    = .ok (.agg #[.pointer (some ⟨1, 64, none⟩), .pointer (some ⟨w.heap.size, 0, none⟩), .int .u64 150]) (w.alloc (.cells #[.pointer (some e)] 64)) := by kernel_rfl

theorem rf_elemOf27 (w : World) : (Rtype.elem? 66).run Tryd.prog w = .ok (some 64) w := by kernel_rfl
theorem rf_mk25 (p : Addr) (w : World) : (ReflectliteValue.mk 64 p ReflectliteValue.flagAddr).run Tryd.prog w = .ok (.agg #[.pointer (some ⟨1, 64, none⟩), .pointer (some p), .int .u64 406]) w := by kernel_rfl
theorem rf_elemV27 (a p : Addr) (W : World) (ha : W.cell? a = some (.pointer (some p))) :
    (ReflectliteValue.method (ReflectliteValue.valueError "reflectlite.Value.Elem" 0) ReflectliteValue.elem #[.agg #[.pointer (some ⟨1, 66, none⟩), .pointer (some a), .int .u64 150]]).run Tryd.prog W
      = .ok (.agg #[.pointer (some ⟨1, 64, none⟩), .pointer (some p), .int .u64 406]) W := by
  rw [rlm]
  simp only [Sem.run_bind, rf_parts27, Result.andThen]
  simp [ReflectliteValue.elem, loadVar, isAgg, underlying, Tryd.underlying66, ha, Result.andThen, rf_elemOf27, rf_mk25]
theorem rls (v x : Value) : ReflectliteValue.set #[v, x] = (do
    let (some (dst, a, fl), some (src, b, _)) := (← ReflectliteValue.parts v, ← ReflectliteValue.parts x)
      | unsupported (.noEntry "extern/(internal/reflectlite.Value).Set.zeroValue")
    if fl / ReflectliteValue.flagAddr % 2 == 0 then unsupported (.noEntry "extern/(internal/reflectlite.Value).Set.unaddressable")
    let val ← loadVar src b
    if ← Rtype.directlyAssignable dst src then storeVar dst a val
    else if ← Rtype.implements dst src then
      if (← Rtype.kind src) == 20 then
        match val with
        | .nilIface => unsupported (.noEntry "extern/reflectlite: a nil value of one interface type handed on as a value of another")
        | _ => storeVar dst a val
      else storeVar dst a (.iface src val)
    else panicString ("reflectlite.Set: value of type " ++ (← Rtype.spelt src) ++ " is not assignable to type " ++ (← Rtype.spelt dst))
    pure (.tuple #[])) := rfl
theorem rf_parts25a (a : Addr) (w : World) : (ReflectliteValue.parts (.agg #[.pointer (some ⟨1, 64, none⟩), .pointer (some a), .int .u64 406])).run Tryd.prog w = .ok (some (64, a, 406)) w := by kernel_rfl
theorem rf_parts25 (a : Addr) (w : World) : (ReflectliteValue.parts (.agg #[.pointer (some ⟨1, 64, none⟩), .pointer (some a), .int .u64 150])).run Tryd.prog w = .ok (some (64, a, 150)) w := by kernel_rfl
theorem rf_direct25 (w : World) : (Rtype.directlyAssignable 64 64).run Tryd.prog w = .ok true w := by kernel_rfl
theorem rf_set25 (ta b e : Addr) (old : Value) (W : World) (hb : W.cell? b = some (.pointer (some e))) (ht : W.cell? ta = some old) (hf : W.frozen? ta = false) :
    (ReflectliteValue.set #[.agg #[.pointer (some ⟨1, 64, none⟩), .pointer (some ta), .int .u64 406], .agg #[.pointer (some ⟨1, 64, none⟩), .pointer (some b), .int .u64 150]]).run Tryd.prog W
      = .ok (.tuple #[]) (W.setCell ta (.pointer (some e))) := by
  rw [rls]
  simp only [Sem.run_bind, rf_parts25a, rf_parts25, Result.andThen]
  simp [ReflectliteValue.flagAddr, loadVar, isAgg, underlying, Tryd.underlying64, hb, Result.andThen, rf_direct25, storeVar, Value.cells, storeCells, Addr.add]
  rw [run_store Tryd.prog W ta _ _ (by rfl)]
  simp [ht, hf]

theorem rf_typeOfAt (v : Value) (w : World) : (ReflectliteType.typeOf #[.iface 79 v]).run Tryd.prog w = .ok (.iface 104 (.agg #[.pointer (some ⟨1, 79, none⟩)])) w := by kernel_rfl
theorem rf_assignableAt (w : World) : (ReflectliteType.relation "AssignableTo" ReflectliteType.assignableTo #[.agg #[.pointer (some ⟨1, 79, none⟩)], .iface 104 (.agg #[.pointer (some ⟨1, 64, none⟩)])]).run Tryd.prog w = .ok (.bool false) w := by kernel_rfl
theorem rf_noAs (v : Value) (xT : TypeId) (w : World) : (Instr.typeAssert (.iface 79 v) xT 109 true).run Tryd.prog w = .ok (.tuple #[.nilIface, .bool false]) w := run_typeAssert_lacksB Tryd.underlying109 (by kernel_rfl) (by kernel_rfl) v xT w
theorem rf_unwrap (v : Value) (xT : TypeId) (w : World) : (Instr.typeAssert (.iface 79 v) xT 112 true).run Tryd.prog w = .ok (.tuple #[.iface 79 v, .bool true]) w := run_typeAssert_hasB Tryd.underlying112 (by kernel_rfl) v xT w
end Go.Proofs.YtanjahakoadecaaDoor.Hand

/- errors.As at a **bad target by hand: where the error is nil; where it is an 'at' over a 'bad'. -/
namespace Go.Proofs.YtanjahakoadecaaDoor.Hand
open Go.RowKit Go.Extern.Stop Go.Stop Go.Extern Go.Proofs.YtanjahakoadecaaDoorW.PrintWords Go.Proofs.YtanjahakoadecaaDoorW.PrintMore
set_option linter.unusedVariables false
set_option linter.unusedSimpArgs false

theorem as_nil (t : Value) (w : World) : Calls Tryd.prog 22 #[.nilIface, t] w fun e w' => e = .returned (.bool false) ∧ w' = w := by
  go_enter Tryd.func22, Tryd.ntmps22
  go_wp2
  refine bodyPost_ret (results_tmp rfl _ _ _) rfl ?_
  exact ⟨rfl, rfl⟩
set_option maxRecDepth 100000 in
set_option maxHeartbeats 8000000 in
theorem as_at (left : Int) (p : Nat) (t : Addr) (old : Value) (w : World) (hg : w.cell? ⟨0, 0, none⟩ = some (.iface 104 (.agg #[.pointer (some ⟨1, 61, none⟩)]))) (ht0 : w.cell? t = some old) (hf0 : w.frozen? t = false) :
    Calls Tryd.prog 22 #[.iface 79 (.agg #[.int .i64 left, .iface 64 (.pointer (some ⟨p, 0, none⟩))]), .iface 66 (.pointer (some t))] w fun ev w' => ev = .returned (.bool true) ∧ ∃ W, Below w.heap.size w W ∧ w' = W.setCell t (.pointer (some ⟨p, 0, none⟩)) := by
  have x36 := @run_callFunc_extern Tryd.prog 36 _ (fun args => ReflectliteValue.unpack (args.getD 0 (.tuple #[]))) Tryd.func36 (by kernel_rfl) (by kernel_rfl) (by kernel_rfl) (by kernel_rfl)
  have x37 := @run_callFunc_extern Tryd.prog 37 _ (ReflectliteValue.methodAny (ReflectliteValue.valueError "reflectlite.Value.Type" 0) (fun t _ _ _ => ReflectliteType.toType t)) Tryd.func37 (by kernel_rfl) (by kernel_rfl) (by kernel_rfl) (by kernel_rfl)
  have x38 := @run_callFunc_extern Tryd.prog 38 _ (ReflectliteValue.method (ReflectliteValue.valueError "reflectlite.Value.IsNil" 0) ReflectliteValue.isNil) Tryd.func38 (by kernel_rfl) (by kernel_rfl) (by kernel_rfl) (by kernel_rfl)
  have x63 := @run_callFunc_extern Tryd.prog 63 _ (ReflectliteType.abiMethod fun t => do pure (.int .u8 (← Rtype.kind t))) Tryd.func63 (by kernel_rfl) (by kernel_rfl) (by kernel_rfl) (by kernel_rfl)
  have x75 := @run_callFunc_extern Tryd.prog 75 _ (ReflectliteType.method ReflectliteType.elem) Tryd.func75 (by kernel_rfl) (by kernel_rfl) (by kernel_rfl) (by kernel_rfl)
  have x76 := @run_callFunc_extern Tryd.prog 76 _ (ReflectliteType.relation "Implements" ReflectliteType.implements_) Tryd.func76 (by kernel_rfl) (by kernel_rfl) (by kernel_rfl) (by kernel_rfl)
  have x45 := @run_callFunc_extern Tryd.prog 45 _ ReflectliteType.typeOf Tryd.func45 (by kernel_rfl) (by kernel_rfl) (by kernel_rfl) (by kernel_rfl)
  have x73 := @run_callFunc_extern Tryd.prog 73 _ (ReflectliteType.relation "AssignableTo" ReflectliteType.assignableTo) Tryd.func73 (by kernel_rfl) (by kernel_rfl) (by kernel_rfl) (by kernel_rfl)
  have x46 := @run_callFunc_extern Tryd.prog 46 _ (ReflectliteValue.method (ReflectliteValue.valueError "reflectlite.Value.Elem" 0) ReflectliteValue.elem) Tryd.func46 (by kernel_rfl) (by kernel_rfl) (by kernel_rfl) (by kernel_rfl)
  have x47 := @run_callFunc_extern Tryd.prog 47 _ ReflectliteValue.set Tryd.func47 (by kernel_rfl) (by kernel_rfl) (by kernel_rfl) (by kernel_rfl)
  have tO := rf_typeOf25
  have tA := rf_typeOfAt
  have mA := rf_methodAssignableTo
  have a25 := rf_assignable25
  have aAt := rf_assignableAt
  have v25 := rf_valueOf25
  have f6 := rf_valueOf27
  have f7 := rf_type27
  have mK := rf_methodKind
  have mE := rf_methodElem
  have mI := rf_methodImplements
  have k27 := rf_kind27
  have k25 := rf_kind25
  have e27 := rf_elem27
  have i25 := rf_implements25
  have nA := rf_noAs
  have uW := rf_unwrap
  have n8 := rf_isNil27 ⟨w.heap.size, 0, none⟩ t ((w.alloc (.cells #[.pointer (some t)] 66)).alloc (.cells #[.pointer (some ⟨1, 66, none⟩), .pointer (some ⟨w.heap.size, 0, none⟩), .int .u64 150] 91)) (by simp)
  have hlt : 0 < w.heap.size := by
    rcases Nat.eq_zero_or_pos w.heap.size with h0 | h
    · simp [World.cell?, h0] at hg
    · exact h
  have hg2 : ((w.alloc (.cells #[.pointer (some t)] 66)).alloc (.cells #[.pointer (some ⟨1, 66, none⟩), .pointer (some ⟨w.heap.size, 0, none⟩), .int .u64 150] 91)).cell? ⟨0, 0, none⟩ = some (.iface 104 (.agg #[.pointer (some ⟨1, 61, none⟩)])) := by
    rw [World.cell?_alloc_lt _ _ ⟨0, 0, none⟩ (by simp), World.cell?_alloc_lt _ _ ⟨0, 0, none⟩ hlt]
    exact hg
  have htl : t.block < w.heap.size := World.block_lt_of_cell? w t ht0
  have bel4 : Below w.heap.size w ((((w.alloc (.cells #[.pointer (some t)] 66)).alloc (.cells #[.pointer (some ⟨1, 66, none⟩), .pointer (some ⟨w.heap.size, 0, none⟩), .int .u64 150] 91)).alloc (.cells #[.pointer (some ⟨1, 66, none⟩), .pointer (some ⟨w.heap.size, 0, none⟩), .int .u64 150] 91)).alloc (.cells #[.int .i64 left, .iface 64 (.pointer (some ⟨p, 0, none⟩))] 79)) := below_alloc (below_alloc (below_alloc (below_alloc (Below.refl _ _) _) _) _) _
  have bel5 : Below w.heap.size w (((((w.alloc (.cells #[.pointer (some t)] 66)).alloc (.cells #[.pointer (some ⟨1, 66, none⟩), .pointer (some ⟨w.heap.size, 0, none⟩), .int .u64 150] 91)).alloc (.cells #[.pointer (some ⟨1, 66, none⟩), .pointer (some ⟨w.heap.size, 0, none⟩), .int .u64 150] 91)).alloc (.cells #[.int .i64 left, .iface 64 (.pointer (some ⟨p, 0, none⟩))] 79)).alloc (.cells #[.pointer (some ⟨p, 0, none⟩)] 64)) := below_alloc bel4 _
  have c0 : ((((w.alloc (.cells #[.pointer (some t)] 66)).alloc (.cells #[.pointer (some ⟨1, 66, none⟩), .pointer (some ⟨w.heap.size, 0, none⟩), .int .u64 150] 91)).alloc (.cells #[.pointer (some ⟨1, 66, none⟩), .pointer (some ⟨w.heap.size, 0, none⟩), .int .u64 150] 91)).alloc (.cells #[.int .i64 left, .iface 64 (.pointer (some ⟨p, 0, none⟩))] 79)).cell? ⟨w.heap.size, 0, none⟩ = some (.pointer (some t)) := blk_cell (blk_alloc (blk_alloc (blk_alloc (blk_new _ _) _) _) _) 0
  have el := rf_elemV27 ⟨w.heap.size, 0, none⟩ t ((((w.alloc (.cells #[.pointer (some t)] 66)).alloc (.cells #[.pointer (some ⟨1, 66, none⟩), .pointer (some ⟨w.heap.size, 0, none⟩), .int .u64 150] 91)).alloc (.cells #[.pointer (some ⟨1, 66, none⟩), .pointer (some ⟨w.heap.size, 0, none⟩), .int .u64 150] 91)).alloc (.cells #[.int .i64 left, .iface 64 (.pointer (some ⟨p, 0, none⟩))] 79)) c0
  have e5 : ((((w.alloc (.cells #[.pointer (some t)] 66)).alloc (.cells #[.pointer (some ⟨1, 66, none⟩), .pointer (some ⟨w.heap.size, 0, none⟩), .int .u64 150] 91)).alloc (.cells #[.pointer (some ⟨1, 66, none⟩), .pointer (some ⟨w.heap.size, 0, none⟩), .int .u64 150] 91)).alloc (.cells #[.int .i64 left, .iface 64 (.pointer (some ⟨p, 0, none⟩))] 79)).heap.size = w.heap.size + 1 + 1 + 1 + 1 := by rw [World.size_alloc, World.size_alloc, World.size_alloc, World.size_alloc]
  have c5 : (((((w.alloc (.cells #[.pointer (some t)] 66)).alloc (.cells #[.pointer (some ⟨1, 66, none⟩), .pointer (some ⟨w.heap.size, 0, none⟩), .int .u64 150] 91)).alloc (.cells #[.pointer (some ⟨1, 66, none⟩), .pointer (some ⟨w.heap.size, 0, none⟩), .int .u64 150] 91)).alloc (.cells #[.int .i64 left, .iface 64 (.pointer (some ⟨p, 0, none⟩))] 79)).alloc (.cells #[.pointer (some ⟨p, 0, none⟩)] 64)).cell? ⟨w.heap.size + 1 + 1 + 1 + 1, 0, none⟩ = some (.pointer (some ⟨p, 0, none⟩)) := by
    rw [← e5]
    exact blk_cell (blk_new _ _) 0
  have ct : (((((w.alloc (.cells #[.pointer (some t)] 66)).alloc (.cells #[.pointer (some ⟨1, 66, none⟩), .pointer (some ⟨w.heap.size, 0, none⟩), .int .u64 150] 91)).alloc (.cells #[.pointer (some ⟨1, 66, none⟩), .pointer (some ⟨w.heap.size, 0, none⟩), .int .u64 150] 91)).alloc (.cells #[.int .i64 left, .iface 64 (.pointer (some ⟨p, 0, none⟩))] 79)).alloc (.cells #[.pointer (some ⟨p, 0, none⟩)] 64)).cell? t = some old := (bel5.cell htl).trans ht0
  have ft : (((((w.alloc (.cells #[.pointer (some t)] 66)).alloc (.cells #[.pointer (some ⟨1, 66, none⟩), .pointer (some ⟨w.heap.size, 0, none⟩), .int .u64 150] 91)).alloc (.cells #[.pointer (some ⟨1, 66, none⟩), .pointer (some ⟨w.heap.size, 0, none⟩), .int .u64 150] 91)).alloc (.cells #[.int .i64 left, .iface 64 (.pointer (some ⟨p, 0, none⟩))] 79)).alloc (.cells #[.pointer (some ⟨p, 0, none⟩)] 64)).frozen? t = false := by
    have hh := bel5.block t.block htl
    unfold World.frozen? at hf0 ⊢
    rw [hh]
    exact hf0
  have st := rf_set25 t ⟨w.heap.size + 1 + 1 + 1 + 1, 0, none⟩ ⟨p, 0, none⟩ old (((((w.alloc (.cells #[.pointer (some t)] 66)).alloc (.cells #[.pointer (some ⟨1, 66, none⟩), .pointer (some ⟨w.heap.size, 0, none⟩), .int .u64 150] 91)).alloc (.cells #[.pointer (some ⟨1, 66, none⟩), .pointer (some ⟨w.heap.size, 0, none⟩), .int .u64 150] 91)).alloc (.cells #[.int .i64 left, .iface 64 (.pointer (some ⟨p, 0, none⟩))] 79)).alloc (.cells #[.pointer (some ⟨p, 0, none⟩)] 64)) c5 ct ft
  have HB5 := Aside0.mk bel5
  clear bel4 bel5 c0 e5 ct ft
  go_enter Tryd.func22, Tryd.ntmps22
  go_wp2
  refine wp_loop_rounds 2 ?_
  rw [rounds_succ]
  go_wp2
  rw [rounds_succ]
  go_wp2
  refine bodyPost_ret (results_tmp rfl _ _ _) rfl ?_
  exact ⟨rfl, _, HB5.out, rfl⟩
end Go.Proofs.YtanjahakoadecaaDoor.Hand

/- crc.Take by hand: bytes that are too few; that begin otherwise; that parts finds wrong, or right. -/
namespace Go.Proofs.YtanjahakoadecaaDoor.Hand
open Go.RowKit Go.Proofs.YtanjahakoadecaaDoorW.PrintWords Go.Proofs.YtanjahakoadecaaDoorW.PrintMore Go.Proofs.YtanjahakoadecaaDoor.Num
set_option linter.unusedVariables false
set_option linter.unusedSimpArgs false

/-- The record that is none. -/
abbrev zeroRec : Value := .agg #[.int .i64 0, .int .i64 0, .int .i64 0, .int .i64 0, .int .i64 0, .slice none 0 0, .slice none 0 0, .slice none 0 0, .bool false]
/-- What stands while the result's cells are written. -/
structure Fin2 (w0 w : World) (gb : Nat) (AP AQ AR : Option Addr) (cP cQ cR : Nat) (p q r : List Int) (xs : Array Value) : Prop where
  rw : RW w0 w AP AQ AR cP cQ cR p q r
  bel : Below w0.heap.size w0 w
  res : w.heap[gb]? = some (.cells xs 34 (0, 0))
  hi : w0.heap.size ≤ gb
theorem Fin2.put {w0 w : World} {gb : Nat} {AP AQ AR : Option Addr} {cP cQ cR : Nat} {p q r : List Int} {xs : Array Value} (h : Fin2 w0 w gb AP AQ AR cP cQ cR p q r xs) (k : Nat) (v : Value) : Fin2 w0 (w.setCell ⟨gb, k, none⟩ v) gb AP AQ AR cP cQ cR p q r (xs.setIfInBounds k v) := by
  have ht : ∀ x, x ∈ 58 :: (Kd.int .u64).E → x ≠ 34 := by
    intro x hx
    rcases List.mem_singleton.1 hx
    decide
  exact ⟨⟨Kd.R_set h.rw.p h.res ht k v, Kd.R_set h.rw.q h.res ht k v, Kd.R_set h.rw.r h.res ht k v⟩, h.bel.setCell (p := ⟨gb, k, none⟩) h.hi _, set_at h.res, h.hi⟩
/-- The result's cells are those of no record. -/
structure Zr (w0 w : World) (gb : Nat) : Prop where
  bel : Below w0.heap.size w0 w
  res : w.heap[gb]? = some (.cells #[.int .i64 0, .int .i64 0, .int .i64 0, .int .i64 0, .int .i64 0, .slice none 0 0, .slice none 0 0, .slice none 0 0, .bool false] 34 (0, 0))
  hi : w0.heap.size ≤ gb
theorem Zr.put {w0 w : World} {gb : Nat} (h : Zr w0 w gb) (k : Nat) (v : Value) (hz : (#[.int .i64 0, .int .i64 0, .int .i64 0, .int .i64 0, .int .i64 0, .slice none 0 0, .slice none 0 0, .slice none 0 0, .bool false] : Array Value).setIfInBounds k v = #[.int .i64 0, .int .i64 0, .int .i64 0, .int .i64 0, .int .i64 0, .slice none 0 0, .slice none 0 0, .slice none 0 0, .bool false]) : Zr w0 (w.setCell ⟨gb, k, none⟩ v) gb :=
  ⟨h.bel.setCell (p := ⟨gb, k, none⟩) h.hi _, by rw [set_at h.res, hz], h.hi⟩
theorem Zr.later {w0 w w1 : World} {gb : Nat} (h : Zr w0 w gb) (k : Below w.heap.size w w1) : Zr w0 w1 gb := ⟨h.bel.trans (k.mono h.bel.size), blk_below h.res k, h.hi⟩
theorem RW.lower {w0 w0' w : World} {AP AQ AR : Option Addr} {cP cQ cR : Nat} {p q r : List Int} (h : RW w0 w AP AQ AR cP cQ cR p q r) (hl : w0'.heap.size ≤ w0.heap.size) : RW w0' w AP AQ AR cP cQ cR p q r :=
  ⟨Kd.R_lower h.p (by omega), Kd.R_lower h.q (by omega), Kd.R_lower h.r (by omega)⟩
set_option maxRecDepth 100000 in
theorem crc_take_short (s : ByteArray) (w : World) (h8 : s.size < 8) :
    Calls Tryd.prog 10 #[.string s] w fun e w' => e = .returned (.tuple #[zeroRec, .int .i64 5]) ∧ Below w.heap.size w w' := by
  have hsw : IntKind.i64.wrap ((s.size : Int) - 4) = (s.size : Int) - 4 := by rw [IntKind.wrap_i64]; omega
  have hl : (s.size : Int) - 4 < 4 := by omega
  go_enter Tryd.func10, Tryd.ntmps10
  go_wp2
  refine bodyPost_ret (results_ct rfl _ _ w.heap.size 34 _ (0, 0) _ rfl (blk_new w _) Tryd.underlying34 rfl (by kernel_rfl)) rfl ?_
  exact ⟨rfl, below_alloc (Below.refl _ _) _⟩
set_option maxRecDepth 100000 in
set_option maxHeartbeats 4000000 in
theorem crc_take_form (s : ByteArray) (w : World) (h8 : 8 ≤ s.size) (hs : s.size ≤ 4611686018427387904)
    (hsum : ((numF (s.extract (s.size - 4) s.size).data.toList 0 : Nat) : Int) = ((4294967295 ^^^ crcFold (s.extract 0 (s.size - 4)).data.toList 4294967295 : Nat) : Int)) (hne : ((s.extract 0 4).toList == [84, 65, 76, 89]) = false) :
    Calls Tryd.prog 10 #[.string s] w fun e w' => e = .returned (.tuple #[zeroRec, .int .i64 6]) ∧ Below w.heap.size w w' := by
  have hz1 : (s.extract (s.size - 4) s.size).size = 4 := by rw [ByteArray.size_extract]; omega
  have hz2 : (s.extract 0 (s.size - 4)).size = s.size - 4 := by rw [ByteArray.size_extract]; omega
  have h1 := fun W => crc_number (s.extract (s.size - 4) s.size) W (by omega)
  have h2 := fun W => crc_sum (s.extract 0 (s.size - 4)) W (by omega)
  have hy : (4294967295 ^^^ crcFold (s.extract 0 (s.size - 4)).data.toList 4294967295) < 4294967296 := Nat.xor_lt_two_pow (n := 32) (by decide) (crcFold_lt _ (by decide))
  generalize (numF (s.extract (s.size - 4) s.size).data.toList 0) = x at *
  generalize (4294967295 ^^^ crcFold (s.extract 0 (s.size - 4)).data.toList 4294967295) = y at *
  obtain rfl : x = y := by omega
  obtain ⟨n, hn⟩ : ∃ n, n = s.size - 4 := ⟨_, rfl⟩
  rw [← hn] at h1 h2
  have hsn : (s.size : Int) - 4 = (n : Int) := by omega
  have hsw : IntKind.i64.wrap ((s.size : Int) - 4) = (n : Int) := by rw [IntKind.wrap_i64]; omega
  have hl : (4 : Int) ≤ (n : Int) := by omega
  have hlo : (0 : Int) ≤ (n : Int) := by omega
  have hhi : (n : Int) ≤ (s.size : Int) := by omega
  have h4 : (4 : Int) ≤ (s.size : Int) := by omega
  clear hn hz1 hz2 hsum
  have H1 := Aside0.mk h1
  have H2 := Aside0.mk h2
  clear h1 h2
  go_enter Tryd.func10, Tryd.ntmps10
  go_wp2
  go_region_held3 (fun _ => True) (exact trivial)
    (first
      | ((go_at_call 20); (with_reducible refine (H1.out _).mono ?_); (rintro e w1 ⟨rfl, rfl⟩))
      | ((go_at_call 18); (with_reducible refine (H2.out _).mono ?_); (rintro e w1 ⟨rfl, rfl⟩)))
  all_goals
    have hw : IntKind.u64.wrap (x : Int) = (x : Int) := by rw [IntKind.wrap_u64]; omega
    rw [hw]
    have hbn : ((x : Int) != (x : Int)) = false := by simp
    rw [hbn]
    clear hw hbn
    go_wp2
  all_goals
    refine bodyPost_ret (results_ct rfl _ _ w.heap.size 34 _ (0, 0) _ rfl (blk_new w _) Tryd.underlying34 rfl (by kernel_rfl)) rfl ?_
    exact ⟨rfl, ((Below.refl _ w).alloc (Nat.le_refl _) _).drew⟩
set_option maxRecDepth 100000 in
set_option maxHeartbeats 4000000 in
theorem crc_take_rest (s : ByteArray) (w : World) (hg0 : w.cell? ⟨0, 0, none⟩ = some (.iface 104 (.agg #[.pointer (some ⟨1, 61, none⟩)]))) (h8 : 8 ≤ s.size) (hs : s.size ≤ 4611686018427387904)
    (hsum : ((numF (s.extract (s.size - 4) s.size).data.toList 0 : Nat) : Int) = ((4294967295 ^^^ crcFold (s.extract 0 (s.size - 4)).data.toList 4294967295 : Nat) : Int)) (hfm : ((s.extract 0 4).toList == [84, 65, 76, 89]) = true) :
    Calls Tryd.prog 10 #[.string s] w fun e w' => (∀ e0, (partsF (s.extract 4 (s.size - 4))).2.2.2 = some e0 → e = .returned (.tuple #[zeroRec, .int .i64 e0])) ∧ ((partsF (s.extract 4 (s.size - 4))).2.2.2 = none → ∃ AP cP AQ cQ AR cR, e = .returned (.tuple #[.agg #[.int .i64 (((partsF (s.extract 4 (s.size - 4))).1.1 : Nat) : Int), .int .i64 (((partsF (s.extract 4 (s.size - 4))).1.2.1 : Nat) : Int), .int .i64 (((partsF (s.extract 4 (s.size - 4))).1.2.2.1 : Nat) : Int), .int .i64 (((partsF (s.extract 4 (s.size - 4))).1.2.2.2.1 : Nat) : Int), .int .i64 (((partsF (s.extract 4 (s.size - 4))).1.2.2.2.2 : Nat) : Int), .slice AP (partsF (s.extract 4 (s.size - 4))).2.1.1.length cP, .slice AQ (partsF (s.extract 4 (s.size - 4))).2.1.2.1.length cQ, .slice AR (partsF (s.extract 4 (s.size - 4))).2.1.2.2.length cR, .bool (partsF (s.extract 4 (s.size - 4))).2.2.1], .int .i64 0]) ∧ RW w w' AP AQ AR cP cQ cR (partsF (s.extract 4 (s.size - 4))).2.1.1 (partsF (s.extract 4 (s.size - 4))).2.1.2.1 (partsF (s.extract 4 (s.size - 4))).2.1.2.2) ∧ Below w.heap.size w w' := by
  have hz1 : (s.extract (s.size - 4) s.size).size = 4 := by rw [ByteArray.size_extract]; omega
  have hz2 : (s.extract 0 (s.size - 4)).size = s.size - 4 := by rw [ByteArray.size_extract]; omega
  have h1 := fun W => crc_number (s.extract (s.size - 4) s.size) W (by omega)
  have h2 := fun W => crc_sum (s.extract 0 (s.size - 4)) W (by omega)
  have hy : (4294967295 ^^^ crcFold (s.extract 0 (s.size - 4)).data.toList 4294967295) < 4294967296 := Nat.xor_lt_two_pow (n := 32) (by decide) (crcFold_lt _ (by decide))
  generalize (numF (s.extract (s.size - 4) s.size).data.toList 0) = x at *
  generalize (4294967295 ^^^ crcFold (s.extract 0 (s.size - 4)).data.toList 4294967295) = y at *
  obtain rfl : x = y := by omega
  obtain ⟨n, hn⟩ : ∃ n, n = s.size - 4 := ⟨_, rfl⟩
  rw [← hn] at h1 h2 ⊢
  have hsn : (s.size : Int) - 4 = (n : Int) := by omega
  have hsw : IntKind.i64.wrap ((s.size : Int) - 4) = (n : Int) := by rw [IntKind.wrap_i64]; omega
  have hl : (4 : Int) ≤ (n : Int) := by omega
  have hlo : (0 : Int) ≤ (n : Int) := by omega
  have hhi : (n : Int) ≤ (s.size : Int) := by omega
  have h4 : (4 : Int) ≤ (s.size : Int) := by omega
  have hpz : (s.extract 4 n).size ≤ 4611686018427387904 := by rw [ByteArray.size_extract]; omega
  have HPA := Aside0.mk (fun W => crc_parts (s.extract 4 n) W hpz)
  generalize partsF (s.extract 4 n) = pf at *
  obtain ⟨⟨c, d, g, f, u⟩, ⟨pP, pQ, pR⟩, mb, st⟩ := pf
  dsimp only at HPA
  dsimp only
  have HG0 := Aside0.mk hg0
  clear hg0
  clear hn hz1 hz2 hsum
  have H1 := Aside0.mk h1
  have H2 := Aside0.mk h2
  clear h1 h2
  go_enter Tryd.func10, Tryd.ntmps10
  go_wp2
  go_region_held3 (fun _ => True) (exact trivial)
    (first
      | ((go_at_call 20); (with_reducible refine (H1.out _).mono ?_); (rintro e w1 ⟨rfl, rfl⟩))
      | ((go_at_call 18); (with_reducible refine (H2.out _).mono ?_); (rintro e w1 ⟨rfl, rfl⟩)))
  all_goals
    have hw : IntKind.u64.wrap (x : Int) = (x : Int) := by rw [IntKind.wrap_u64]; omega
    rw [hw]
    have hbn : ((x : Int) != (x : Int)) = false := by simp
    rw [hbn]
    clear hw hbn
    go_wp2_with ((go_at_call 21); (with_reducible refine (HPA.out _).mono ?_); (rintro e w1 ⟨AP, cP, AQ, cQ, AR, cR, ve, rfl, hrw, her, hb⟩); (have HRW := Aside0.mk hrw); (have HER := Aside0.mk her); (have HB := Aside0.mk hb); (clear hrw her hb))
  all_goals
    have hbw : Below w.heap.size w w1 := ((Below.refl _ w).alloc (Nat.le_refl _) _).drew.trans (HB.out.mono (by simp))
    have hres1 := blk_below (blk_below (blk_new w (.cells #[.int .i64 0, .int .i64 0, .int .i64 0, .int .i64 0, .int .i64 0, .slice none 0 0, .slice none 0 0, .slice none 0 0, .bool false] 34)) (below_drew (Below.refl _ _))) HB.out
    have hW3 : Below w1.heap.size w1 ((w1.alloc (.cells #[.int .i64 (c : Int), .int .i64 (d : Int), .int .i64 (g : Int), .int .i64 (f : Int), .int .i64 (u : Int), .slice AP pP.length cP, .slice AQ pQ.length cQ, .slice AR pR.length cR, .bool mb] 34)).alloc (.cells #[.pointer none] 64)) := below_alloc (below_alloc (Below.refl _ _) _) _
    have hres3 := blk_below hres1 hW3
    have hrec3 : ((w1.alloc (.cells #[.int .i64 (c : Int), .int .i64 (d : Int), .int .i64 (g : Int), .int .i64 (f : Int), .int .i64 (u : Int), .slice AP pP.length cP, .slice AQ pQ.length cQ, .slice AR pR.length cR, .bool mb] 34)).alloc (.cells #[.pointer none] 64)).heap[w1.heap.size]? = some (.cells #[.int .i64 (c : Int), .int .i64 (d : Int), .int .i64 (g : Int), .int .i64 (f : Int), .int .i64 (u : Int), .slice AP pP.length cP, .slice AQ pQ.length cQ, .slice AR pR.length cR, .bool mb] 34 (0, 0)) := blk_alloc (blk_new _ _) _
    have e0 := blk_cell hres3 0
    have e1 := blk_cell hres3 1
    have e2 := blk_cell hres3 2
    have e3 := blk_cell hres3 3
    have e4 := blk_cell hres3 4
    have e5 := blk_cell hres3 5
    have e6 := blk_cell hres3 6
    have e7 := blk_cell hres3 7
    have e8 := blk_cell hres3 8
    have fz : ∀ k, ((w1.alloc (.cells #[.int .i64 (c : Int), .int .i64 (d : Int), .int .i64 (g : Int), .int .i64 (f : Int), .int .i64 (u : Int), .slice AP pP.length cP, .slice AQ pQ.length cQ, .slice AR pR.length cR, .bool mb] 34)).alloc (.cells #[.pointer none] 64)).frozen? ⟨w.heap.size, k, none⟩ = false := fun k => blk_frozen hres3 k
    have z0 := fz 0
    have z1 := fz 1
    have z2 := fz 2
    have z3 := fz 3
    have z4 := fz 4
    have z5 := fz 5
    have z6 := fz 6
    have z7 := fz 7
    have z8 := fz 8
    have r0 := blk_cell hrec3 0
    have r1 := blk_cell hrec3 1
    have r2 := blk_cell hrec3 2
    have r3 := blk_cell hrec3 3
    have r4 := blk_cell hrec3 4
    have r5 := blk_cell hrec3 5
    have r6 := blk_cell hrec3 6
    have r7 := blk_cell hrec3 7
    have r8 := blk_cell hrec3 8
    have HRES := Aside0.mk hres3
    have HRES1 := Aside0.mk hres1
    have hpt0 := blk_new (w1.alloc (.cells #[.int .i64 (c : Int), .int .i64 (d : Int), .int .i64 (g : Int), .int .i64 (f : Int), .int .i64 (u : Int), .slice AP pP.length cP, .slice AQ pQ.length cQ, .slice AR pR.length cR, .bool mb] 34)) (.cells #[.pointer none] 64)
    rw [World.size_alloc] at hpt0
    have HPT := Aside0.mk hpt0
    clear hpt0
    have HBW := Aside0.mk (hbw.trans (hW3.mono hbw.size))
    have HW3 := Aside0.mk hW3
    clear hres3 hrec3 fz hbw hres1 hW3
    cases st with
    | none =>
      obtain rfl : ve = .nilIface := HER.out
      refine (as_nil _ _).mono ?_
      rintro ev w4 ⟨rfl, rfl⟩
      go_wp2
      have hf0 : Fin2 w _ w.heap.size AP AQ AR cP cQ cR pP pQ pR #[.int .i64 0, .int .i64 0, .int .i64 0, .int .i64 0, .int .i64 0, .slice none 0 0, .slice none 0 0, .slice none 0 0, .bool false] := ⟨(HRW.out.lower (by simp)).later HW3.out, HBW.out, HRES.out, Nat.le_refl _⟩
      have hf1 : Fin2 w _ w.heap.size AP AQ AR cP cQ cR pP pQ pR #[.int .i64 (c : Int), .int .i64 0, .int .i64 0, .int .i64 0, .int .i64 0, .slice none 0 0, .slice none 0 0, .slice none 0 0, .bool false] := hf0.put 0 (.int .i64 (c : Int))
      clear hf0
      have hf2 : Fin2 w _ w.heap.size AP AQ AR cP cQ cR pP pQ pR #[.int .i64 (c : Int), .int .i64 (d : Int), .int .i64 0, .int .i64 0, .int .i64 0, .slice none 0 0, .slice none 0 0, .slice none 0 0, .bool false] := hf1.put 1 (.int .i64 (d : Int))
      clear hf1
      have hf3 : Fin2 w _ w.heap.size AP AQ AR cP cQ cR pP pQ pR #[.int .i64 (c : Int), .int .i64 (d : Int), .int .i64 (g : Int), .int .i64 0, .int .i64 0, .slice none 0 0, .slice none 0 0, .slice none 0 0, .bool false] := hf2.put 2 (.int .i64 (g : Int))
      clear hf2
      have hf4 : Fin2 w _ w.heap.size AP AQ AR cP cQ cR pP pQ pR #[.int .i64 (c : Int), .int .i64 (d : Int), .int .i64 (g : Int), .int .i64 (f : Int), .int .i64 0, .slice none 0 0, .slice none 0 0, .slice none 0 0, .bool false] := hf3.put 3 (.int .i64 (f : Int))
      clear hf3
      have hf5 : Fin2 w _ w.heap.size AP AQ AR cP cQ cR pP pQ pR #[.int .i64 (c : Int), .int .i64 (d : Int), .int .i64 (g : Int), .int .i64 (f : Int), .int .i64 (u : Int), .slice none 0 0, .slice none 0 0, .slice none 0 0, .bool false] := hf4.put 4 (.int .i64 (u : Int))
      clear hf4
      have hf6 : Fin2 w _ w.heap.size AP AQ AR cP cQ cR pP pQ pR #[.int .i64 (c : Int), .int .i64 (d : Int), .int .i64 (g : Int), .int .i64 (f : Int), .int .i64 (u : Int), .slice AP pP.length cP, .slice none 0 0, .slice none 0 0, .bool false] := hf5.put 5 (.slice AP pP.length cP)
      clear hf5
      have hf7 : Fin2 w _ w.heap.size AP AQ AR cP cQ cR pP pQ pR #[.int .i64 (c : Int), .int .i64 (d : Int), .int .i64 (g : Int), .int .i64 (f : Int), .int .i64 (u : Int), .slice AP pP.length cP, .slice AQ pQ.length cQ, .slice none 0 0, .bool false] := hf6.put 6 (.slice AQ pQ.length cQ)
      clear hf6
      have hf8 : Fin2 w _ w.heap.size AP AQ AR cP cQ cR pP pQ pR #[.int .i64 (c : Int), .int .i64 (d : Int), .int .i64 (g : Int), .int .i64 (f : Int), .int .i64 (u : Int), .slice AP pP.length cP, .slice AQ pQ.length cQ, .slice AR pR.length cR, .bool false] := hf7.put 7 (.slice AR pR.length cR)
      clear hf7
      have hf9 : Fin2 w _ w.heap.size AP AQ AR cP cQ cR pP pQ pR #[.int .i64 (c : Int), .int .i64 (d : Int), .int .i64 (g : Int), .int .i64 (f : Int), .int .i64 (u : Int), .slice AP pP.length cP, .slice AQ pQ.length cQ, .slice AR pR.length cR, .bool mb] := hf8.put 8 (.bool mb)
      clear hf8
      refine bodyPost_ret (results_ct rfl _ _ w.heap.size 34 _ (0, 0) _ rfl hf9.res Tryd.underlying34 rfl (by kernel_rfl)) rfl ?_
      exact ⟨⟨AP, cP, AQ, cQ, AR, cR, rfl, hf9.rw⟩, hf9.bel⟩
    | some e9 =>
      obtain ⟨left, p, rfl, hp⟩ := HER.out
      have hp3 := blk_below hp HW3.out
      have hpt : p < w1.heap.size := blk_lt hp
      have qg := cell_later' (cell_later' (cell_later' HG0.out (below_drew (below_alloc (Below.refl _ _) _))) HB.out) HW3.out
      refine (as_at left p _ (.pointer none) _ qg (by simp) (by simp)).mono ?_
      rintro ev w4 ⟨rfl, W, hWb, rfl⟩
      have hpt3 : (_ : World).heap[w1.heap.size + 1]? = some (.cells #[.pointer none] 64 (0, 0)) := HPT.out
      have hptW := set1 (x := .pointer (some ⟨p, 0, none⟩)) (blk_below hpt3 hWb)
      have qtW := blk_cell hptW 0
      have hlw := blk_lt HRES1.out
      have qpW := blk_cell ((Below.heap_setCell W ⟨w1.heap.size + 1, 0, none⟩ (.pointer (some ⟨p, 0, none⟩)) p (by simp; omega)).trans (blk_below hp3 hWb)) 0
      have hrW := (Below.heap_setCell W ⟨w1.heap.size + 1, 0, none⟩ (.pointer (some ⟨p, 0, none⟩)) w.heap.size (by simp; omega)).trans (blk_below HRES.out hWb)
      have hbW : Below w.heap.size w (W.setCell ⟨w1.heap.size + 1, 0, none⟩ (.pointer (some ⟨p, 0, none⟩))) := (HBW.out.trans (hWb.mono HBW.out.size)).setCell (p := ⟨w1.heap.size + 1, 0, none⟩) (by simp; omega) _
      have hnp : p ≠ w.heap.size := by
        intro hp0
        have hq1 := blk_below hp3 hWb
        have hq2 := blk_below HRES.out hWb
        rw [hp0, hq2] at hq1
        injection hq1 with hq1
        injection hq1 with _ hq1
        exact absurd hq1 (by decide)
      have hnp' : w.heap.size ≠ p := Ne.symm hnp
      have hnt : w1.heap.size + 1 ≠ w.heap.size := by omega
      have hnt' : w.heap.size ≠ w1.heap.size + 1 := by omega
      obtain ⟨V, hV⟩ : ∃ V, V = W.setCell ⟨w1.heap.size + 1, 0, none⟩ (.pointer (some ⟨p, 0, none⟩)) := ⟨_, rfl⟩
      rw [← hV] at qtW qpW hrW hbW ⊢
      have y0 := blk_cell hrW 0
      have y1 := blk_cell hrW 1
      have y2 := blk_cell hrW 2
      have y3 := blk_cell hrW 3
      have y4 := blk_cell hrW 4
      have y5 := blk_cell hrW 5
      have y6 := blk_cell hrW 6
      have y7 := blk_cell hrW 7
      have y8 := blk_cell hrW 8
      have fz : ∀ k, V.frozen? ⟨w.heap.size, k, none⟩ = false := fun k => blk_frozen hrW k
      have x0 := fz 0
      have x1 := fz 1
      have x2 := fz 2
      have x3 := fz 3
      have x4 := fz 4
      have x5 := fz 5
      have x6 := fz 6
      have x7 := fz 7
      have x8 := fz 8
      have HRV := Aside0.mk hrW
      have HBV := Aside0.mk hbW
      clear hrW hbW hV hptW hpt3 hp3 fz e0 e1 e2 e3 e4 e5 e6 e7 e8 z0 z1 z2 z3 z4 z5 z6 z7 z8 r0 r1 r2 r3 r4 r5 r6 r7 r8 hWb
      go_wp2
      go_region
      go_wp2
      have hv0 : Zr w V w.heap.size := ⟨HBV.out, HRV.out, Nat.le_refl _⟩
      have hv1 : Zr w _ w.heap.size := hv0.put 0 (.int .i64 0) rfl
      clear hv0
      have hv2 : Zr w _ w.heap.size := hv1.put 1 (.int .i64 0) rfl
      clear hv1
      have hv3 : Zr w _ w.heap.size := hv2.put 2 (.int .i64 0) rfl
      clear hv2
      have hv4 : Zr w _ w.heap.size := hv3.put 3 (.int .i64 0) rfl
      clear hv3
      have hv5 : Zr w _ w.heap.size := hv4.put 4 (.int .i64 0) rfl
      clear hv4
      have hv6 : Zr w _ w.heap.size := hv5.put 5 (.slice none 0 0) rfl
      clear hv5
      have hv7 : Zr w _ w.heap.size := hv6.put 6 (.slice none 0 0) rfl
      clear hv6
      have hv8 : Zr w _ w.heap.size := hv7.put 7 (.slice none 0 0) rfl
      clear hv7
      have hv9 : Zr w _ w.heap.size := hv8.put 8 (.bool false) rfl
      clear hv8
      have hvd := hv9.later (below_drew (Below.refl _ _))
      refine bodyPost_ret (results_ct rfl _ _ w.heap.size 34 _ (0, 0) _ rfl hvd.res Tryd.underlying34 rfl (by kernel_rfl)) rfl ?_
      refine ⟨?_, ?_, hvd.bel⟩
      · intro e0 he0
        cases he0
        rfl
      · intro he0
        cases he0
end Go.Proofs.YtanjahakoadecaaDoor.Hand
