/-
  errors.As at a *Errno, and api.Code. By an AI agent. (Turned from the worked example ToyasAs.)
-/
import Derived.Test.YtkgieciamophkaaDoorErrs
import Derived.WalkKit
namespace Go.Proofs.YtkgieciamophkaaDoor
open Go.RowKit Go.Extern.Stop Go.Stop Go.Extern

theorem as_none (t : Value) (w : World) :
    Calls Tryd.prog 48 #[.nilIface, t] w fun e w' => e = .returned (.bool false) ∧ w' = w := by
  go_enter Tryd.func48, Tryd.ntmps48
  go_wp2
  go_ret
  exact ⟨rfl, rfl⟩
theorem as_valueOfP (t : Addr) (w : World) : (ReflectliteValue.unpack (.iface 99 (.pointer (some t)))).run Tryd.prog w
    = .ok (.agg #[.pointer (some ⟨5, 99, none⟩), .pointer (some ⟨w.heap.size, 0, none⟩), .int .u64 150]) (w.alloc (.cells #[.pointer (some t)] 99)) := by kernel_rfl
theorem as_typeP (a : Addr) (w : World) : (ReflectliteValue.methodAny (ReflectliteValue.valueError "reflectlite.Value.Type" 0) (fun t _ _ _ => ReflectliteType.toType t) #[.agg #[.pointer (some ⟨5, 99, none⟩), .pointer (some a), .int .u64 150]]).run Tryd.prog w
    = .ok (.iface 124 (.agg #[.pointer (some ⟨5, 99, none⟩)])) w := by kernel_rfl
theorem as_methodKind (h : Value) (w : World) : (Go.method 279 124 (.agg #[h]) "Kind").run Tryd.prog w = .ok (75, h) w := by kernel_rfl
theorem as_kindP (w : World) : ((ReflectliteType.abiMethod fun t => (fun a : Nat => Value.int IntKind.u8 (a : Int)) <$> Rtype.kind t) #[.pointer (some ⟨5, 99, none⟩)]).run Tryd.prog w = .ok (.int .u8 22) w := by kernel_rfl
theorem as_kindE (w : World) : ((ReflectliteType.abiMethod fun t => (fun a : Nat => Value.int IntKind.u8 (a : Int)) <$> Rtype.kind t) #[.pointer (some ⟨5, 58, none⟩)]).run Tryd.prog w = .ok (.int .u8 2) w := by kernel_rfl
theorem as_rlm (z : Sem Value) (f : TypeId → Addr → Nat → Nat → Sem Value) (v : Value) :
    ReflectliteValue.method z f #[v] = (do match ← ReflectliteValue.parts v with | none => z | some (t, a, fl) => f t a fl (fl % 32)) := rfl
theorem as_partsP (a : Addr) (w : World) : (ReflectliteValue.parts (.agg #[.pointer (some ⟨5, 99, none⟩), .pointer (some a), .int .u64 150])).run Tryd.prog w = .ok (some (99, a, 150)) w := by kernel_rfl
theorem as_isNilP (a p : Addr) (W : World) (ha : W.cell? a = some (.pointer (some p))) :
    (ReflectliteValue.method (ReflectliteValue.valueError "reflectlite.Value.IsNil" 0) ReflectliteValue.isNil #[.agg #[.pointer (some ⟨5, 99, none⟩), .pointer (some a), .int .u64 150]]).run Tryd.prog W = .ok (.bool false) W := by
  rw [as_rlm]
  simp only [Sem.run_bind, as_partsP, Result.andThen]
  simp [ReflectliteValue.isNil, loadVar, isAgg, underlying, Tryd.underlying99, ha, Result.andThen]
theorem as_methodElem (h : Value) (w : World) : (Go.method 279 124 (.agg #[h]) "Elem").run Tryd.prog w = .ok (101, .agg #[h]) w := by kernel_rfl
theorem as_methodImplements (h : Value) (w : World) : (Go.method 279 124 (.agg #[h]) "Implements").run Tryd.prog w = .ok (102, .agg #[h]) w := by kernel_rfl
theorem as_methodAssignableTo (h : Value) (w : World) : (Go.method 279 124 (.agg #[h]) "AssignableTo").run Tryd.prog w = .ok (99, .agg #[h]) w := by kernel_rfl
theorem as_elemP (w : World) : (ReflectliteType.method ReflectliteType.elem #[.agg #[.pointer (some ⟨5, 99, none⟩)]]).run Tryd.prog w = .ok (.iface 124 (.agg #[.pointer (some ⟨5, 58, none⟩)])) w := by kernel_rfl
theorem as_implementsE (w : World) : (ReflectliteType.relation "Implements" ReflectliteType.implements_ #[.agg #[.pointer (some ⟨5, 58, none⟩)], .iface 124 (.agg #[.pointer (some ⟨5, 28, none⟩)])]).run Tryd.prog w = .ok (.bool true) w := by kernel_rfl
theorem as_typeOfE (v : Value) (w : World) : (ReflectliteType.typeOf #[.iface 58 v]).run Tryd.prog w = .ok (.iface 124 (.agg #[.pointer (some ⟨5, 58, none⟩)])) w := by kernel_rfl
theorem as_typeOfW (v : Value) (w : World) : (ReflectliteType.typeOf #[.iface 120 v]).run Tryd.prog w = .ok (.iface 124 (.agg #[.pointer (some ⟨5, 120, none⟩)])) w := by kernel_rfl
theorem as_assignableE (w : World) : (ReflectliteType.relation "AssignableTo" ReflectliteType.assignableTo #[.agg #[.pointer (some ⟨5, 58, none⟩)], .iface 124 (.agg #[.pointer (some ⟨5, 58, none⟩)])]).run Tryd.prog w = .ok (.bool true) w := by kernel_rfl
theorem as_assignableW (w : World) : (ReflectliteType.relation "AssignableTo" ReflectliteType.assignableTo #[.agg #[.pointer (some ⟨5, 120, none⟩)], .iface 124 (.agg #[.pointer (some ⟨5, 58, none⟩)])]).run Tryd.prog w = .ok (.bool false) w := by kernel_rfl
theorem as_valueOfE (k : Int) (w : World) : (ReflectliteValue.unpack (.iface 58 (.int .i64 k))).run Tryd.prog w
    = .ok (.agg #[.pointer (some ⟨5, 58, none⟩), .pointer (some ⟨w.heap.size, 0, none⟩), .int .u64 130]) (w.alloc (.cells #[.int .i64 k] 58)) := by kernel_rfl
theorem as_elemOfP (w : World) : (Rtype.elem? 99).run Tryd.prog w = .ok (some 58) w := by kernel_rfl
theorem as_mkE (p : Addr) (w : World) : (ReflectliteValue.mk 58 p ReflectliteValue.flagAddr).run Tryd.prog w = .ok (.agg #[.pointer (some ⟨5, 58, none⟩), .pointer (some p), .int .u64 386]) w := by kernel_rfl
theorem as_elemV (a p : Addr) (W : World) (ha : W.cell? a = some (.pointer (some p))) :
    (ReflectliteValue.method (ReflectliteValue.valueError "reflectlite.Value.Elem" 0) ReflectliteValue.elem #[.agg #[.pointer (some ⟨5, 99, none⟩), .pointer (some a), .int .u64 150]]).run Tryd.prog W
      = .ok (.agg #[.pointer (some ⟨5, 58, none⟩), .pointer (some p), .int .u64 386]) W := by
  rw [as_rlm]
  simp only [Sem.run_bind, as_partsP, Result.andThen]
  simp [ReflectliteValue.elem, loadVar, isAgg, underlying, Tryd.underlying99, ha, Result.andThen, as_elemOfP, as_mkE]
theorem as_rls (v x : Value) : ReflectliteValue.set #[v, x] = (do
    let (some (dst, a, fl), some (src, b, _)) := (← ReflectliteValue.parts v, ← ReflectliteValue.parts x)
      | unsupported (.noEntry "extern/(internal/reflectlite.Value).Set.zeroValue")
    if fl / ReflectliteValue.flagAddr % 2 == 0 then unsupported (.noEntry "extern/(internal/reflectlite.Value).Set.unaddressable")
    let val ← loadVar src b
    if ← Rtype.directlyAssignable dst src then storeVar dst a val
    else if ← Rtype.implements dst src then
      if (← Rtype.kind src) == 20 then
        match val with
        | .nilIface => unsupported (.noEntry "extern/reflectlite: a nil value of one interface type handed on as a value of another")
        | _ => storeVar dst a val
      else storeVar dst a (.iface src val)
    else panicString ("reflectlite.Set: value of type " ++ (← Rtype.spelt src) ++ " is not assignable to type " ++ (← Rtype.spelt dst))
    pure (.tuple #[])) := rfl
theorem as_partsEa (a : Addr) (w : World) : (ReflectliteValue.parts (.agg #[.pointer (some ⟨5, 58, none⟩), .pointer (some a), .int .u64 386])).run Tryd.prog w = .ok (some (58, a, 386)) w := by kernel_rfl
theorem as_partsE (a : Addr) (w : World) : (ReflectliteValue.parts (.agg #[.pointer (some ⟨5, 58, none⟩), .pointer (some a), .int .u64 130])).run Tryd.prog w = .ok (some (58, a, 130)) w := by kernel_rfl
theorem as_directE (w : World) : (Rtype.directlyAssignable 58 58).run Tryd.prog w = .ok true w := by kernel_rfl
theorem as_setE (ta b : Addr) (k : Int) (old : Value) (W : World) (hb : W.cell? b = some (.int .i64 k)) (ht : W.cell? ta = some old) (hf : W.frozen? ta = false) :
    (ReflectliteValue.set #[.agg #[.pointer (some ⟨5, 58, none⟩), .pointer (some ta), .int .u64 386], .agg #[.pointer (some ⟨5, 58, none⟩), .pointer (some b), .int .u64 130]]).run Tryd.prog W
      = .ok (.tuple #[]) (W.setCell ta (.int .i64 k)) := by
  rw [as_rls]
  simp only [Sem.run_bind, as_partsEa, as_partsE, Result.andThen]
  simp [ReflectliteValue.flagAddr, loadVar, isAgg, underlying, Tryd.underlying58, hb, Result.andThen, as_directE, storeVar, Value.cells, storeCells, Addr.add]
  rw [run_store Tryd.prog W ta _ _ (by rfl)]
  simp [ht, hf]
theorem as_methUnwrap (p : Addr) (W : World) : (Go.method 279 120 (.pointer (some p)) "Unwrap").run Tryd.prog W = .ok (97, .pointer (some p)) W := by kernel_rfl
theorem unwrap_any (e : Nat) (v : Value) (w : World) (h : w.cell? ⟨e, 1, none⟩ = some v) : Calls Tryd.prog 97 #[.pointer (some ⟨e, 0, none⟩)] w fun ev w' => ev = .returned v ∧ w = w' := by
  go_enter Tryd.func97, Tryd.ntmps97
  go_wp2
  go_ret
  exact ⟨rfl, rfl⟩
end Go.Proofs.YtkgieciamophkaaDoor
