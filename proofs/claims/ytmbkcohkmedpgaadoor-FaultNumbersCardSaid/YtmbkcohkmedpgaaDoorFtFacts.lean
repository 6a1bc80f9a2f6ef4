/- Closed facts of reflectlite's entries at this program's types (27 *Fault, 29 **Fault, 37 Errno, 38 *Errno, 67 *errorString, 25 error, 71 rtype), and of the type assertions in errors.as and errors.is. -/
import Derived.Test.YtmbkcohkmedpgaaDoorProg
import Derived.Test.YtmbkcohkmedpgaaDoorTools2
import Derived.Test.YtmbkcohkmedpgaaDoorStr
import Derived.WalkKit
import Derived.LaidEql
import Derived.Stop.Asserts
import Derived.RowKitTokens
namespace Go.Proofs.YtmbkcohkmedpgaaDoor
open Go.RowKit Go.Extern.Stop Go.Stop Go.Extern

theorem lt_of_heap {w : World} {b : Nat} {o : Obj} (h : w.heap[b]? = some o) : b < w.heap.size := (Array.getElem?_eq_some_iff.1 h).1
theorem frozen_at {w : World} {b : Nat} {cs : Array Value} {t : TypeId} (h : w.heap[b]? = some (.cells cs t (0, 0))) (i : Nat) : w.frozen? ⟨b, i, none⟩ = false := by
  simp [World.frozen?, h]
theorem ft_valueOf29 (t : Addr) (w : World) : (ReflectliteValue.unpack (.iface 29 (.pointer (some t)))).run Tryd.prog w
    = .ok (.agg #[.pointer (some ⟨1, 29, none⟩), .pointer (some ⟨w.heap.size, 0, none⟩), .int .u64 150]) (w.alloc (.cells #[.pointer (some t)] 29)) := by kernel_rfl
theorem ft_valueOf38 (t : Addr) (w : World) : (ReflectliteValue.unpack (.iface 38 (.pointer (some t)))).run Tryd.prog w
    = .ok (.agg #[.pointer (some ⟨1, 38, none⟩), .pointer (some ⟨w.heap.size, 0, none⟩), .int .u64 150]) (w.alloc (.cells #[.pointer (some t)] 38)) := by kernel_rfl
theorem ft_valueOf27 (t : Addr) (w : World) : (ReflectliteValue.unpack (.iface 27 (.pointer (some t)))).run Tryd.prog w
    = .ok (.agg #[.pointer (some ⟨1, 27, none⟩), .pointer (some ⟨w.heap.size, 0, none⟩), .int .u64 150]) (w.alloc (.cells #[.pointer (some t)] 27)) := by kernel_rfl
theorem ft_valueOf37 (k : Int) (w : World) : (ReflectliteValue.unpack (.iface 37 (.int .i64 k))).run Tryd.prog w
    = .ok (.agg #[.pointer (some ⟨1, 37, none⟩), .pointer (some ⟨w.heap.size, 0, none⟩), .int .u64 130]) (w.alloc (.cells #[.int .i64 k] 37)) := by kernel_rfl
theorem ft_type29 (a : Addr) (w : World) : (ReflectliteValue.methodAny (ReflectliteValue.valueError "reflectlite.Value.Type" 0) (fun t _ _ _ => ReflectliteType.toType t) #[.agg #[.pointer (some ⟨1, 29, none⟩), .pointer (some a), .int .u64 150]]).run Tryd.prog w
    = .ok (.iface 71 (.agg #[.pointer (some ⟨1, 29, none⟩)])) w := by kernel_rfl
theorem ft_type38 (a : Addr) (w : World) : (ReflectliteValue.methodAny (ReflectliteValue.valueError "reflectlite.Value.Type" 0) (fun t _ _ _ => ReflectliteType.toType t) #[.agg #[.pointer (some ⟨1, 38, none⟩), .pointer (some a), .int .u64 150]]).run Tryd.prog w
    = .ok (.iface 71 (.agg #[.pointer (some ⟨1, 38, none⟩)])) w := by kernel_rfl
theorem ft_kind29 (w : World) : ((ReflectliteType.abiMethod fun t => (fun a : Nat => Value.int IntKind.u8 (a : Int)) <$> Rtype.kind t) #[.pointer (some ⟨1, 29, none⟩)]).run Tryd.prog w = .ok (.int .u8 22) w := by kernel_rfl
theorem ft_kind38 (w : World) : ((ReflectliteType.abiMethod fun t => (fun a : Nat => Value.int IntKind.u8 (a : Int)) <$> Rtype.kind t) #[.pointer (some ⟨1, 38, none⟩)]).run Tryd.prog w = .ok (.int .u8 22) w := by kernel_rfl
theorem ft_kind27 (w : World) : ((ReflectliteType.abiMethod fun t => (fun a : Nat => Value.int IntKind.u8 (a : Int)) <$> Rtype.kind t) #[.pointer (some ⟨1, 27, none⟩)]).run Tryd.prog w = .ok (.int .u8 22) w := by kernel_rfl
theorem ft_kind37 (w : World) : ((ReflectliteType.abiMethod fun t => (fun a : Nat => Value.int IntKind.u8 (a : Int)) <$> Rtype.kind t) #[.pointer (some ⟨1, 37, none⟩)]).run Tryd.prog w = .ok (.int .u8 2) w := by kernel_rfl
theorem ft_elem29 (w : World) : (ReflectliteType.method ReflectliteType.elem #[.agg #[.pointer (some ⟨1, 29, none⟩)]]).run Tryd.prog w = .ok (.iface 71 (.agg #[.pointer (some ⟨1, 27, none⟩)])) w := by kernel_rfl
theorem ft_elem38 (w : World) : (ReflectliteType.method ReflectliteType.elem #[.agg #[.pointer (some ⟨1, 38, none⟩)]]).run Tryd.prog w = .ok (.iface 71 (.agg #[.pointer (some ⟨1, 37, none⟩)])) w := by kernel_rfl
theorem ft_impl27 (w : World) : (ReflectliteType.relation "Implements" ReflectliteType.implements_ #[.agg #[.pointer (some ⟨1, 27, none⟩)], .iface 71 (.agg #[.pointer (some ⟨1, 25, none⟩)])]).run Tryd.prog w = .ok (.bool true) w := by kernel_rfl
theorem ft_impl37 (w : World) : (ReflectliteType.relation "Implements" ReflectliteType.implements_ #[.agg #[.pointer (some ⟨1, 37, none⟩)], .iface 71 (.agg #[.pointer (some ⟨1, 25, none⟩)])]).run Tryd.prog w = .ok (.bool true) w := by kernel_rfl
theorem ft_typeOf27 (v : Value) (w : World) : (ReflectliteType.typeOf #[.iface 27 v]).run Tryd.prog w = .ok (.iface 71 (.agg #[.pointer (some ⟨1, 27, none⟩)])) w := by kernel_rfl
theorem ft_typeOf37 (v : Value) (w : World) : (ReflectliteType.typeOf #[.iface 37 v]).run Tryd.prog w = .ok (.iface 71 (.agg #[.pointer (some ⟨1, 37, none⟩)])) w := by kernel_rfl
theorem ft_typeOf67 (v : Value) (w : World) : (ReflectliteType.typeOf #[.iface 67 v]).run Tryd.prog w = .ok (.iface 71 (.agg #[.pointer (some ⟨1, 67, none⟩)])) w := by kernel_rfl
theorem ft_ass27_27 (w : World) : (ReflectliteType.relation "AssignableTo" ReflectliteType.assignableTo #[.agg #[.pointer (some ⟨1, 27, none⟩)], .iface 71 (.agg #[.pointer (some ⟨1, 27, none⟩)])]).run Tryd.prog w = .ok (.bool true) w := by kernel_rfl
theorem ft_ass37_37 (w : World) : (ReflectliteType.relation "AssignableTo" ReflectliteType.assignableTo #[.agg #[.pointer (some ⟨1, 37, none⟩)], .iface 71 (.agg #[.pointer (some ⟨1, 37, none⟩)])]).run Tryd.prog w = .ok (.bool true) w := by kernel_rfl
theorem ft_ass27_37 (w : World) : (ReflectliteType.relation "AssignableTo" ReflectliteType.assignableTo #[.agg #[.pointer (some ⟨1, 27, none⟩)], .iface 71 (.agg #[.pointer (some ⟨1, 37, none⟩)])]).run Tryd.prog w = .ok (.bool false) w := by kernel_rfl
theorem ft_ass37_27 (w : World) : (ReflectliteType.relation "AssignableTo" ReflectliteType.assignableTo #[.agg #[.pointer (some ⟨1, 37, none⟩)], .iface 71 (.agg #[.pointer (some ⟨1, 27, none⟩)])]).run Tryd.prog w = .ok (.bool false) w := by kernel_rfl
theorem ft_ass67_37 (w : World) : (ReflectliteType.relation "AssignableTo" ReflectliteType.assignableTo #[.agg #[.pointer (some ⟨1, 67, none⟩)], .iface 71 (.agg #[.pointer (some ⟨1, 37, none⟩)])]).run Tryd.prog w = .ok (.bool false) w := by kernel_rfl
theorem ft_ass67_27 (w : World) : (ReflectliteType.relation "AssignableTo" ReflectliteType.assignableTo #[.agg #[.pointer (some ⟨1, 67, none⟩)], .iface 71 (.agg #[.pointer (some ⟨1, 27, none⟩)])]).run Tryd.prog w = .ok (.bool false) w := by kernel_rfl
theorem ft_as27 (v : Value) (w : World) : (Instr.typeAssert (.iface 27 v) 25 75 true).run Tryd.prog w = .ok (.tuple #[.nilIface, .bool false]) w := run_typeAssert_lacksB Tryd.underlying75 (by kernel_rfl) (by kernel_rfl) v 25 w
theorem ft_as37 (v : Value) (w : World) : (Instr.typeAssert (.iface 37 v) 25 75 true).run Tryd.prog w = .ok (.tuple #[.nilIface, .bool false]) w := run_typeAssert_lacksB Tryd.underlying75 (by kernel_rfl) (by kernel_rfl) v 25 w
theorem ft_as67 (v : Value) (w : World) : (Instr.typeAssert (.iface 67 v) 25 75 true).run Tryd.prog w = .ok (.tuple #[.nilIface, .bool false]) w := run_typeAssert_lacksB Tryd.underlying75 (by kernel_rfl) (by kernel_rfl) v 25 w
theorem ft_is27 (v : Value) (w : World) : (Instr.typeAssert (.iface 27 v) 25 83 true).run Tryd.prog w = .ok (.tuple #[.nilIface, .bool false]) w := run_typeAssert_lacksB Tryd.underlying83 (by kernel_rfl) (by kernel_rfl) v 25 w
theorem ft_is37 (v : Value) (w : World) : (Instr.typeAssert (.iface 37 v) 25 83 true).run Tryd.prog w = .ok (.tuple #[.nilIface, .bool false]) w := run_typeAssert_lacksB Tryd.underlying83 (by kernel_rfl) (by kernel_rfl) v 25 w
theorem ft_is67 (v : Value) (w : World) : (Instr.typeAssert (.iface 67 v) 25 83 true).run Tryd.prog w = .ok (.tuple #[.nilIface, .bool false]) w := run_typeAssert_lacksB Tryd.underlying83 (by kernel_rfl) (by kernel_rfl) v 25 w
theorem ft_unw27 (v : Value) (w : World) : (Instr.typeAssert (.iface 27 v) 25 78 true).run Tryd.prog w = .ok (.tuple #[.iface 27 v, .bool true]) w := run_typeAssert_hasB Tryd.underlying78 (by kernel_rfl) v 25 w
theorem ft_unw37 (v : Value) (w : World) : (Instr.typeAssert (.iface 37 v) 25 78 true).run Tryd.prog w = .ok (.tuple #[.nilIface, .bool false]) w := run_typeAssert_lacksB Tryd.underlying78 (by kernel_rfl) (by kernel_rfl) v 25 w
theorem ft_unw67 (v : Value) (w : World) : (Instr.typeAssert (.iface 67 v) 25 78 true).run Tryd.prog w = .ok (.tuple #[.nilIface, .bool false]) w := run_typeAssert_lacksB Tryd.underlying78 (by kernel_rfl) (by kernel_rfl) v 25 w
theorem ft_unws37 (v : Value) (w : World) : (Instr.typeAssert (.iface 37 v) 25 79 true).run Tryd.prog w = .ok (.tuple #[.nilIface, .bool false]) w := run_typeAssert_lacksB Tryd.underlying79 (by kernel_rfl) (by kernel_rfl) v 25 w
theorem ft_unws67 (v : Value) (w : World) : (Instr.typeAssert (.iface 67 v) 25 79 true).run Tryd.prog w = .ok (.tuple #[.nilIface, .bool false]) w := run_typeAssert_lacksB Tryd.underlying79 (by kernel_rfl) (by kernel_rfl) v 25 w

theorem rlm (z : Sem Value) (f : TypeId → Addr → Nat → Nat → Sem Value) (v : Value) :
    ReflectliteValue.method z f #[v] = (do match ← ReflectliteValue.parts v with | none => z | some (t, a, fl) => f t a fl (fl % 32)) := rfl
theorem ft_parts29 (a : Addr) (w : World) : (ReflectliteValue.parts (.agg #[.pointer (some ⟨1, 29, none⟩), .pointer (some a), .int .u64 150])).run Tryd.prog w = .ok (some (29, a, 150)) w := by kernel_rfl
theorem ft_parts38 (a : Addr) (w : World) : (ReflectliteValue.parts (.agg #[.pointer (some ⟨1, 38, none⟩), .pointer (some a), .int .u64 150])).run Tryd.prog w = .ok (some (38, a, 150)) w := by kernel_rfl
theorem ft_isNil29 (a p : Addr) (W : World) (ha : W.cell? a = some (.pointer (some p))) :
    (ReflectliteValue.method (ReflectliteValue.valueError "reflectlite.Value.IsNil" 0) ReflectliteValue.isNil #[.agg #[.pointer (some ⟨1, 29, none⟩), .pointer (some a), .int .u64 150]]).run Tryd.prog W = .ok (.bool false) W := by
  rw [rlm]
  simp only [Sem.run_bind, ft_parts29, Result.andThen]
  simp [ReflectliteValue.isNil, loadVar, isAgg, underlying, Tryd.underlying29, ha, Result.andThen]
theorem ft_isNil38 (a p : Addr) (W : World) (ha : W.cell? a = some (.pointer (some p))) :
    (ReflectliteValue.method (ReflectliteValue.valueError "reflectlite.Value.IsNil" 0) ReflectliteValue.isNil #[.agg #[.pointer (some ⟨1, 38, none⟩), .pointer (some a), .int .u64 150]]).run Tryd.prog W = .ok (.bool false) W := by
  rw [rlm]
  simp only [Sem.run_bind, ft_parts38, Result.andThen]
  simp [ReflectliteValue.isNil, loadVar, isAgg, underlying, Tryd.underlying38, ha, Result.andThen]
theorem ft_elemOf29 (w : World) : (Rtype.elem? 29).run Tryd.prog w = .ok (some 27) w := by kernel_rfl
theorem ft_elemOf38 (w : World) : (Rtype.elem? 38).run Tryd.prog w = .ok (some 37) w := by kernel_rfl
theorem ft_mk27 (p : Addr) (w : World) : (ReflectliteValue.mk 27 p ReflectliteValue.flagAddr).run Tryd.prog w = .ok (.agg #[.pointer (some ⟨1, 27, none⟩), .pointer (some p), .int .u64 406]) w := by kernel_rfl
theorem ft_mk37 (p : Addr) (w : World) : (ReflectliteValue.mk 37 p ReflectliteValue.flagAddr).run Tryd.prog w = .ok (.agg #[.pointer (some ⟨1, 37, none⟩), .pointer (some p), .int .u64 386]) w := by kernel_rfl
theorem ft_elemV29 (a p : Addr) (W : World) (ha : W.cell? a = some (.pointer (some p))) :
    (ReflectliteValue.method (ReflectliteValue.valueError "reflectlite.Value.Elem" 0) ReflectliteValue.elem #[.agg #[.pointer (some ⟨1, 29, none⟩), .pointer (some a), .int .u64 150]]).run Tryd.prog W
      = .ok (.agg #[.pointer (some ⟨1, 27, none⟩), .pointer (some p), .int .u64 406]) W := by
  rw [rlm]
  simp only [Sem.run_bind, ft_parts29, Result.andThen]
  simp [ReflectliteValue.elem, loadVar, isAgg, underlying, Tryd.underlying29, ha, Result.andThen, ft_elemOf29, ft_mk27]
theorem ft_elemV38 (a p : Addr) (W : World) (ha : W.cell? a = some (.pointer (some p))) :
    (ReflectliteValue.method (ReflectliteValue.valueError "reflectlite.Value.Elem" 0) ReflectliteValue.elem #[.agg #[.pointer (some ⟨1, 38, none⟩), .pointer (some a), .int .u64 150]]).run Tryd.prog W
      = .ok (.agg #[.pointer (some ⟨1, 37, none⟩), .pointer (some p), .int .u64 386]) W := by
  rw [rlm]
  simp only [Sem.run_bind, ft_parts38, Result.andThen]
  simp [ReflectliteValue.elem, loadVar, isAgg, underlying, Tryd.underlying38, ha, Result.andThen, ft_elemOf38, ft_mk37]
theorem rls (v x : Value) : ReflectliteValue.set #[v, x] = (do
    let (some (dst, a, fl), some (src, b, _)) := (← ReflectliteValue.parts v, ← ReflectliteValue.parts x)
      | unsupported (.noEntry "extern/(internal/reflectlite.Value).Set.zeroValue")
    if fl / ReflectliteValue.flagAddr % 2 == 0 then unsupported (.noEntry "extern/(internal/reflectlite.Value).Set.unaddressable")
    let val ← loadVar src b
    if ← Rtype.directlyAssignable dst src then storeVar dst a val
    else if ← Rtype.implements dst src then
      if (← Rtype.kind src) == 20 then
        match val with
        | .nilIface => unsupported (.noEntry "extern/reflectlite: a nil value of one interface type handed on as a value of another")
        | _ => storeVar dst a val
      else storeVar dst a (.iface src val)
    else panicString ("reflectlite.Set: value of type " ++ (← Rtype.spelt src) ++ " is not assignable to type " ++ (← Rtype.spelt dst))
    pure (.tuple #[])) := rfl
theorem ft_parts27a (a : Addr) (w : World) : (ReflectliteValue.parts (.agg #[.pointer (some ⟨1, 27, none⟩), .pointer (some a), .int .u64 406])).run Tryd.prog w = .ok (some (27, a, 406)) w := by kernel_rfl
theorem ft_parts27 (a : Addr) (w : World) : (ReflectliteValue.parts (.agg #[.pointer (some ⟨1, 27, none⟩), .pointer (some a), .int .u64 150])).run Tryd.prog w = .ok (some (27, a, 150)) w := by kernel_rfl
theorem ft_parts37a (a : Addr) (w : World) : (ReflectliteValue.parts (.agg #[.pointer (some ⟨1, 37, none⟩), .pointer (some a), .int .u64 386])).run Tryd.prog w = .ok (some (37, a, 386)) w := by kernel_rfl
theorem ft_parts37 (a : Addr) (w : World) : (ReflectliteValue.parts (.agg #[.pointer (some ⟨1, 37, none⟩), .pointer (some a), .int .u64 130])).run Tryd.prog w = .ok (some (37, a, 130)) w := by kernel_rfl
theorem ft_direct27 (w : World) : (Rtype.directlyAssignable 27 27).run Tryd.prog w = .ok true w := by kernel_rfl
theorem ft_direct37 (w : World) : (Rtype.directlyAssignable 37 37).run Tryd.prog w = .ok true w := by kernel_rfl
theorem ft_set27 (ta b : Addr) (e : Option Addr) (old : Value) (W : World) (hb : W.cell? b = some (.pointer e)) (ht : W.cell? ta = some old) (hf : W.frozen? ta = false) :
    (ReflectliteValue.set #[.agg #[.pointer (some ⟨1, 27, none⟩), .pointer (some ta), .int .u64 406], .agg #[.pointer (some ⟨1, 27, none⟩), .pointer (some b), .int .u64 150]]).run Tryd.prog W
      = .ok (.tuple #[]) (W.setCell ta (.pointer e)) := by
  rw [rls]
  simp only [Sem.run_bind, ft_parts27a, ft_parts27, Result.andThen]
  simp [ReflectliteValue.flagAddr, loadVar, isAgg, underlying, Tryd.underlying27, hb, Result.andThen, ft_direct27, storeVar, Value.cells, storeCells, Addr.add]
  rw [run_store Tryd.prog W ta _ _ (by rfl)]
  simp [ht, hf]
theorem ft_set37 (ta b : Addr) (e : Int) (old : Value) (W : World) (hb : W.cell? b = some (.int .i64 e)) (ht : W.cell? ta = some old) (hf : W.frozen? ta = false) :
    (ReflectliteValue.set #[.agg #[.pointer (some ⟨1, 37, none⟩), .pointer (some ta), .int .u64 386], .agg #[.pointer (some ⟨1, 37, none⟩), .pointer (some b), .int .u64 130]]).run Tryd.prog W
      = .ok (.tuple #[]) (W.setCell ta (.int .i64 e)) := by
  rw [rls]
  simp only [Sem.run_bind, ft_parts37a, ft_parts37, Result.andThen]
  simp [ReflectliteValue.flagAddr, loadVar, isAgg, underlying, Tryd.underlying37, hb, Result.andThen, ft_direct37, storeVar, Value.cells, storeCells, Addr.add]
  rw [run_store Tryd.prog W ta _ _ (by rfl)]
  simp [ht, hf]
end Go.Proofs.YtmbkcohkmedpgaaDoor
