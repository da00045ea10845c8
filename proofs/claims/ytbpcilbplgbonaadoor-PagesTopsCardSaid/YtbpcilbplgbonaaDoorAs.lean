/- errors.As, asked for a wrong{..} (a struct of one number): its contracts over this program (the shape of the worked proof Toyas, turned to a struct that is no pointer). -/
import Derived.Test.YtbpcilbplgbonaaDoorChecked
import Derived.WalkKit
import Derived.LaidEql
import Derived.Stop.Asserts
import Derived.RowKitTokens
namespace Go.Proofs.YtbpcilbplgbonaaDoor
open Go.RowKit Go.Extern.Stop Go.Stop Go.Extern
set_option linter.unusedVariables false
set_option linter.unusedSimpArgs false
/-- No error. -/
theorem as_nil (t : Value) (w : World) : Calls Tryd.prog 29 #[.nilIface, t] w fun e w' => e = .returned (.bool false) ∧ w' = w := by
  go_enter Tryd.func29, Tryd.ntmps29
  go_wp2
  go_ret
  exact ⟨rfl, rfl⟩
abbrev hT : Value := .pointer (some ⟨1, 66, none⟩)
abbrev hP : Value := .pointer (some ⟨1, 68, none⟩)
theorem as_valueOfP (t : Addr) (w : World) : (ReflectliteValue.unpack (.iface 68 (.pointer (some t)))).run Tryd.prog w
    = .ok (.agg #[hP, .pointer (some ⟨w.heap.size, 0, none⟩), .int .u64 150]) (w.alloc (.cells #[.pointer (some t)] 68)) := by kernel_rfl
theorem as_typeP (a : Addr) (w : World) : (ReflectliteValue.methodAny (ReflectliteValue.valueError "reflectlite.Value.Type" 0) (fun t _ _ _ => ReflectliteType.toType t) #[.agg #[hP, .pointer (some a), .int .u64 150]]).run Tryd.prog w
    = .ok (.iface 87 (.agg #[hP])) w := by kernel_rfl
theorem as_methodKind (h : Value) (w : World) : (Go.method 229 87 (.agg #[h]) "Kind").run Tryd.prog w = .ok (54, h) w := by kernel_rfl
theorem as_kindP (w : World) : ((ReflectliteType.abiMethod fun t => (fun a : Nat => Value.int IntKind.u8 (a : Int)) <$> Rtype.kind t) #[hP]).run Tryd.prog w = .ok (.int .u8 22) w := by kernel_rfl
theorem as_kindT (w : World) : ((ReflectliteType.abiMethod fun t => (fun a : Nat => Value.int IntKind.u8 (a : Int)) <$> Rtype.kind t) #[hT]).run Tryd.prog w = .ok (.int .u8 25) w := by kernel_rfl
theorem as_rlm (z : Sem Value) (f : TypeId → Addr → Nat → Nat → Sem Value) (v : Value) :
    ReflectliteValue.method z f #[v] = (do match ← ReflectliteValue.parts v with | none => z | some (t, a, fl) => f t a fl (fl % 32)) := rfl
theorem as_partsP (a : Addr) (w : World) : (ReflectliteValue.parts (.agg #[hP, .pointer (some a), .int .u64 150])).run Tryd.prog w = .ok (some (68, a, 150)) w := by kernel_rfl
theorem as_isNil (a p : Addr) (W : World) (ha : W.cell? a = some (.pointer (some p))) :
    (ReflectliteValue.method (ReflectliteValue.valueError "reflectlite.Value.IsNil" 0) ReflectliteValue.isNil #[.agg #[hP, .pointer (some a), .int .u64 150]]).run Tryd.prog W = .ok (.bool false) W := by
  rw [as_rlm]
  simp only [Sem.run_bind, as_partsP, Result.andThen]
  simp [ReflectliteValue.isNil, loadVar, isAgg, underlying, Tryd.underlying68, ha, Result.andThen]
theorem as_methodElem (h : Value) (w : World) : (Go.method 229 87 (.agg #[h]) "Elem").run Tryd.prog w = .ok (64, .agg #[h]) w := by kernel_rfl
theorem as_methodImplements (h : Value) (w : World) : (Go.method 229 87 (.agg #[h]) "Implements").run Tryd.prog w = .ok (65, .agg #[h]) w := by kernel_rfl
theorem as_methodAssignable (h : Value) (w : World) : (Go.method 229 87 (.agg #[h]) "AssignableTo").run Tryd.prog w = .ok (62, .agg #[h]) w := by kernel_rfl
theorem as_elemP (w : World) : (ReflectliteType.method ReflectliteType.elem #[.agg #[hP]]).run Tryd.prog w = .ok (.iface 87 (.agg #[hT])) w := by kernel_rfl
theorem as_implements (w : World) : (ReflectliteType.relation "Implements" ReflectliteType.implements_ #[.agg #[hT], .iface 87 (.agg #[.pointer (some ⟨1, 51, none⟩)])]).run Tryd.prog w = .ok (.bool true) w := by kernel_rfl
theorem as_typeOf (v : Value) (w : World) : (ReflectliteType.typeOf #[.iface 66 v]).run Tryd.prog w = .ok (.iface 87 (.agg #[hT])) w := by kernel_rfl
theorem as_assignable (w : World) : (ReflectliteType.relation "AssignableTo" ReflectliteType.assignableTo #[.agg #[hT], .iface 87 (.agg #[hT])]).run Tryd.prog w = .ok (.bool true) w := by kernel_rfl
theorem as_valueOfT (c : Int) (w : World) : (ReflectliteValue.unpack (.iface 66 (.agg #[.int .i64 c]))).run Tryd.prog w
    = .ok (.agg #[hT, .pointer (some ⟨w.heap.size, 0, none⟩), .int .u64 153]) (w.alloc (.cells #[.int .i64 c] 66)) := by kernel_rfl
theorem as_elemOf (w : World) : (Rtype.elem? 68).run Tryd.prog w = .ok (some 66) w := by kernel_rfl
theorem as_mk (p : Addr) (w : World) : (ReflectliteValue.mk 66 p ReflectliteValue.flagAddr).run Tryd.prog w = .ok (.agg #[hT, .pointer (some p), .int .u64 409]) w := by kernel_rfl
theorem as_elemV (a p : Addr) (W : World) (ha : W.cell? a = some (.pointer (some p))) :
    (ReflectliteValue.method (ReflectliteValue.valueError "reflectlite.Value.Elem" 0) ReflectliteValue.elem #[.agg #[hP, .pointer (some a), .int .u64 150]]).run Tryd.prog W
      = .ok (.agg #[hT, .pointer (some p), .int .u64 409]) W := by
  rw [as_rlm]
  simp only [Sem.run_bind, as_partsP, Result.andThen]
  simp [ReflectliteValue.elem, loadVar, isAgg, underlying, Tryd.underlying68, ha, Result.andThen, as_elemOf, as_mk]
theorem as_rls (v x : Value) : ReflectliteValue.set #[v, x] = (do
    let (some (dst, a, fl), some (src, b, _)) := (← ReflectliteValue.parts v, ← ReflectliteValue.parts x)
      | unsupported (.noEntry "extern/(internal/reflectlite.Value).Set.zeroValue")
    if fl / ReflectliteValue.flagAddr % 2 == 0 then unsupported (.noEntry "extern/(internal/reflectlite.Value).Set.unaddressable")
    let val ← loadVar src b
    if ← Rtype.directlyAssignable dst src then storeVar dst a val
    else if ← Rtype.implements dst src then
      if (← Rtype.kind src) == 20 then
        match val with
        | .nilIface => unsupported (.noEntry "extern/reflectlite: a nil value of one interface type handed on as a value of another")
        | _ => storeVar dst a val
      else storeVar dst a (.iface src val)
    else panicString ("reflectlite.Set: value of type " ++ (← Rtype.spelt src) ++ " is not assignable to type " ++ (← Rtype.spelt dst))
    pure (.tuple #[])) := rfl
theorem as_partsA (a : Addr) (w : World) : (ReflectliteValue.parts (.agg #[hT, .pointer (some a), .int .u64 409])).run Tryd.prog w = .ok (some (66, a, 409)) w := by kernel_rfl
theorem as_partsT (a : Addr) (w : World) : (ReflectliteValue.parts (.agg #[hT, .pointer (some a), .int .u64 153])).run Tryd.prog w = .ok (some (66, a, 153)) w := by kernel_rfl
theorem as_direct (w : World) : (Rtype.directlyAssignable 66 66).run Tryd.prog w = .ok true w := by kernel_rfl
theorem as_size (w : World) : (sizeOf 66).run Tryd.prog w = .ok 1 w := by kernel_rfl
theorem as_load (b : Addr) (c : Int) (W : World) (hb : W.cell? b = some (.int .i64 c)) : (loadVar 66 b).run Tryd.prog W = .ok (.agg #[.int .i64 c]) W := by
  have hb' : W.cell? (b.add 0) = some (.int .i64 c) := by simpa [Addr.add] using hb
  simp [loadVar, isAgg, underlying, Tryd.underlying66, as_size, loadCells, loadCellsFrom, Result.andThen, hb, hb']
theorem as_store (ta : Addr) (c : Int) (old : Value) (W : World) (ht : W.cell? ta = some old) (hf : W.frozen? ta = false) : (storeVar 66 ta (.agg #[.int .i64 c])).run Tryd.prog W = .ok () (W.setCell ta (.int .i64 c)) := by
  simp [storeVar, as_size, Value.cells, storeCells, Result.andThen, Addr.add]
  rw [run_store Tryd.prog W ta _ _ (by rfl)]
  simp [ht, hf]
theorem as_set (ta b : Addr) (c : Int) (old : Value) (W : World) (hb : W.cell? b = some (.int .i64 c)) (ht : W.cell? ta = some old) (hf : W.frozen? ta = false) :
    (ReflectliteValue.set #[.agg #[hT, .pointer (some ta), .int .u64 409], .agg #[hT, .pointer (some b), .int .u64 153]]).run Tryd.prog W
      = .ok (.tuple #[]) (W.setCell ta (.int .i64 c)) := by
  rw [as_rls]
  simp only [Sem.run_bind, as_partsA, as_partsT, Result.andThen]
  simp only [ReflectliteValue.flagAddr, Sem.run_bind, as_load b c W hb, as_direct, Result.andThen]
  simp [Result.andThen, as_load b c W hb, as_direct, as_store ta c old W ht hf]
end Go.Proofs.YtbpcilbplgbonaaDoor
