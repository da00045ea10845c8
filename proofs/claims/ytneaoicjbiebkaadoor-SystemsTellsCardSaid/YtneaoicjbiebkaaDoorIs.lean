/- errors.Is, asked of a sentinel of errors.New's make: its contracts over this program (the shape of the worked proof Sentry, turned to this program's numbers). -/
import Derived.Test.YtneaoicjbiebkaaDoorChecked
import Derived.WalkKit
import Derived.LaidEql
import Derived.Stop.Asserts
import Derived.RowKitTokens
namespace Go.Proofs.YtneaoicjbiebkaaDoor
open Go.RowKit Go.Extern.Stop Go.Stop Go.Extern
theorem isTypeOf_ (v : Value) (w : World) : (Extern.ReflectliteType.typeOf #[.iface 84 v]).run Tryd.prog w = .ok (.iface 75 (.agg #[.pointer (some ⟨2, 84, none⟩)])) w := by kernel_rfl
theorem isComparable_ (w : World) : (callFunc 53 #[.agg #[.pointer (some ⟨2, 84, none⟩)]]).run Tryd.prog w = .ok (.value (.bool true)) w := by kernel_rfl
theorem isMethod_ (v : Value) (w : World) : (Go.method 222 75 v "Comparable").run Tryd.prog w = .ok (53, v) w := by kernel_rfl
theorem isComp_ : (Tryd.prog.info? 84).map (·.comparable) = some true := by kernel_rfl
theorem isSize_ : (Tryd.prog.info? 110).map (·.size) = some 1 := by kernel_rfl
theorem noIs_ (v : Value) (xT : TypeId) (w : World) : (Instr.typeAssert (.iface 84 v) xT 77 true).run Tryd.prog w = .ok (.tuple #[.nilIface, .bool false]) w := run_typeAssert_lacksB Tryd.underlying77 (by kernel_rfl) (by kernel_rfl) v xT w
theorem noUnwrap_ (v : Value) (xT : TypeId) (w : World) : (Instr.typeAssert (.iface 84 v) xT 80 true).run Tryd.prog w = .ok (.tuple #[.nilIface, .bool false]) w := run_typeAssert_lacksB Tryd.underlying80 (by kernel_rfl) (by kernel_rfl) v xT w
theorem noUnwraps_ (v : Value) (xT : TypeId) (w : World) : (Instr.typeAssert (.iface 84 v) xT 81 true).run Tryd.prog w = .ok (.tuple #[.nilIface, .bool false]) w := run_typeAssert_lacksB Tryd.underlying81 (by kernel_rfl) (by kernel_rfl) v xT w
set_option maxHeartbeats 2000000 in
set_option maxRecDepth 100000 in
/-- A sentinel is itself. -/
theorem is_same (a : Addr) (w : World) :
    Calls Tryd.prog 28 #[.iface 84 (.pointer (some a)), .iface 84 (.pointer (some a))] w fun e w' => e = .returned (.bool true) ∧ w' = w := by
  obtain ⟨i, hi, hcmp⟩ := Option.map_eq_some_iff.1 isComp_
  obtain ⟨j, hj, hjs⟩ := Option.map_eq_some_iff.1 isSize_
  have h8 := @run_callFunc_extern Tryd.prog 31 _ Extern.ReflectliteType.typeOf Tryd.func31 (by kernel_rfl) (by kernel_rfl) (by kernel_rfl) (by kernel_rfl)
  have tT := isTypeOf_
  have cT := isComparable_
  have mR := isMethod_
  have heq := run_eql_iface_ptr_same (P := Tryd.prog) w a Tryd.underlying51 Tryd.underlying84 hi hcmp hj
  go_enter Tryd.func28, Tryd.ntmps28
  go_wp2
  refine wp_loop_rounds 1 ?_
  rw [rounds_succ]
  go_wp2
  go_ret
  exact ⟨rfl, rfl⟩
set_option maxHeartbeats 2000000 in
set_option maxRecDepth 100000 in
/-- Another sentinel is another. -/
theorem is_other (a b : Addr) (ca cb : Array Value) (ta tb : TypeId) (w : World) (hne : a ≠ b) (ha : w.heap[a.block]? = some (.cells ca ta (0, 0))) (hb : w.heap[b.block]? = some (.cells cb tb (0, 0))) :
    Calls Tryd.prog 28 #[.iface 84 (.pointer (some a)), .iface 84 (.pointer (some b))] w fun e w' => e = .returned (.bool false) ∧ w' = w := by
  obtain ⟨i, hi, hcmp⟩ := Option.map_eq_some_iff.1 isComp_
  obtain ⟨j, hj, hjs⟩ := Option.map_eq_some_iff.1 isSize_
  have h8 := @run_callFunc_extern Tryd.prog 31 _ Extern.ReflectliteType.typeOf Tryd.func31 (by kernel_rfl) (by kernel_rfl) (by kernel_rfl) (by kernel_rfl)
  have tT := isTypeOf_
  have cT := isComparable_
  have mR := isMethod_
  have nE := noIs_
  have uE := noUnwrap_
  have vE := noUnwraps_
  have heq := run_eql_iface_ptr_other (P := Tryd.prog) w Tryd.underlying51 Tryd.underlying84 hi hcmp hj (by rw [hjs]; decide) hne ha hb
  go_enter Tryd.func28, Tryd.ntmps28
  go_wp2
  refine wp_loop_rounds 1 ?_
  rw [rounds_succ]
  go_wp2
  go_ret
  exact ⟨rfl, rfl⟩
end Go.Proofs.YtneaoicjbiebkaaDoor
