/- errors.As, asked for a wrong{..}, of an error that is one. -/
import Derived.Test.YtbpcilbplgbonaaDoorAs
namespace Go.Proofs.YtbpcilbplgbonaaDoor
open Go.RowKit Go.Extern.Stop Go.Stop Go.Extern
set_option linter.unusedVariables false
set_option linter.unusedSimpArgs false
abbrev asW (t : Addr) (c : Int) (w : World) : World := (((w.alloc (.cells #[.pointer (some t)] 68)).alloc (.cells #[hP, .pointer (some ⟨w.heap.size, 0, none⟩), .int .u64 150] 76)).alloc (.cells #[hP, .pointer (some ⟨w.heap.size, 0, none⟩), .int .u64 150] 76)).alloc (.cells #[.int .i64 c] 66)
set_option maxHeartbeats 8000000 in
set_option maxRecDepth 100000 in
theorem as_hit (c : Int) (t : Addr) (old : Value) (w : World) (hg : w.cell? ⟨0, 0, none⟩ = some (.iface 87 (.agg #[.pointer (some ⟨1, 51, none⟩)]))) (ht0 : w.cell? t = some old) (hf0 : w.frozen? t = false) :
    Calls Tryd.prog 29 #[.iface 66 (.agg #[.int .i64 c]), .iface 68 (.pointer (some t))] w fun ev w' => ev = .returned (.bool true) ∧ w' = (asW t c w).setCell t (.int .i64 c) := by
  have h6 := @run_callFunc_extern Tryd.prog 32 _ (fun args => ReflectliteValue.unpack (args.getD 0 (.tuple #[]))) Tryd.func32 (by kernel_rfl) (by kernel_rfl) (by kernel_rfl) (by kernel_rfl)
  have h7 := @run_callFunc_extern Tryd.prog 33 _ (ReflectliteValue.methodAny (ReflectliteValue.valueError "reflectlite.Value.Type" 0) (fun t _ _ _ => ReflectliteType.toType t)) Tryd.func33 (by kernel_rfl) (by kernel_rfl) (by kernel_rfl) (by kernel_rfl)
  have h8 := @run_callFunc_extern Tryd.prog 34 _ (ReflectliteValue.method (ReflectliteValue.valueError "reflectlite.Value.IsNil" 0) ReflectliteValue.isNil) Tryd.func34 (by kernel_rfl) (by kernel_rfl) (by kernel_rfl) (by kernel_rfl)
  have h27 := @run_callFunc_extern Tryd.prog 54 _ (ReflectliteType.abiMethod fun t => do pure (.int .u8 (← Rtype.kind t))) Tryd.func54 (by kernel_rfl) (by kernel_rfl) (by kernel_rfl) (by kernel_rfl)
  have h37 := @run_callFunc_extern Tryd.prog 64 _ (ReflectliteType.method ReflectliteType.elem) Tryd.func64 (by kernel_rfl) (by kernel_rfl) (by kernel_rfl) (by kernel_rfl)
  have h38 := @run_callFunc_extern Tryd.prog 65 _ (ReflectliteType.relation "Implements" ReflectliteType.implements_) Tryd.func65 (by kernel_rfl) (by kernel_rfl) (by kernel_rfl) (by kernel_rfl)
  have h10 := @run_callFunc_extern Tryd.prog 37 _ ReflectliteType.typeOf Tryd.func37 (by kernel_rfl) (by kernel_rfl) (by kernel_rfl) (by kernel_rfl)
  have h35 := @run_callFunc_extern Tryd.prog 62 _ (ReflectliteType.relation "AssignableTo" ReflectliteType.assignableTo) Tryd.func62 (by kernel_rfl) (by kernel_rfl) (by kernel_rfl) (by kernel_rfl)
  have h11 := @run_callFunc_extern Tryd.prog 38 _ (ReflectliteValue.method (ReflectliteValue.valueError "reflectlite.Value.Elem" 0) ReflectliteValue.elem) Tryd.func38 (by kernel_rfl) (by kernel_rfl) (by kernel_rfl) (by kernel_rfl)
  have h12 := @run_callFunc_extern Tryd.prog 39 _ ReflectliteValue.set Tryd.func39 (by kernel_rfl) (by kernel_rfl) (by kernel_rfl) (by kernel_rfl)
  have tO := as_typeOf
  have mA := as_methodAssignable
  have a25 := as_assignable
  have v25 := as_valueOfT
  have f6 := as_valueOfP
  have f7 := as_typeP
  have mK := as_methodKind
  have mE := as_methodElem
  have mI := as_methodImplements
  have k27 := as_kindP
  have k25 := as_kindT
  have e27 := as_elemP
  have i25 := as_implements
  obtain ⟨w1, hw1⟩ : ∃ w1, w.alloc (.cells #[.pointer (some t)] 68) = w1 := ⟨_, rfl⟩
  have n8 := as_isNil ⟨w.heap.size, 0, none⟩ t (w1.alloc (.cells #[hP, .pointer (some ⟨w.heap.size, 0, none⟩), .int .u64 150] 76)) (by rw [← hw1]; simp)
  have hlt : 0 < w.heap.size := by
    rcases Nat.eq_zero_or_pos w.heap.size with h0 | h
    · simp [World.cell?, h0] at hg
    · exact h
  subst hw1
  have hg2 : ((w.alloc (.cells #[.pointer (some t)] 68)).alloc (.cells #[hP, .pointer (some ⟨w.heap.size, 0, none⟩), .int .u64 150] 76)).cell? ⟨0, 0, none⟩ = some (.iface 87 (.agg #[.pointer (some ⟨1, 51, none⟩)])) := by
    rw [World.cell?_alloc_lt _ _ ⟨0, 0, none⟩ (by simp), World.cell?_alloc_lt _ _ ⟨0, 0, none⟩ hlt]; exact hg
  have htl : t.block < w.heap.size := by
    rcases Nat.lt_or_ge t.block w.heap.size with h | h
    · exact h
    · simp [World.cell?, Array.getElem?_eq_none h] at ht0
  have el := as_elemV ⟨w.heap.size, 0, none⟩ t (((w.alloc (.cells #[.pointer (some t)] 68)).alloc (.cells #[hP, .pointer (some ⟨w.heap.size, 0, none⟩), .int .u64 150] 76)).alloc (.cells #[hP, .pointer (some ⟨w.heap.size, 0, none⟩), .int .u64 150] 76)) (by rw [World.cell?_alloc_lt _ _ ⟨w.heap.size, 0, none⟩ (by simp; omega), World.cell?_alloc_lt _ _ ⟨w.heap.size, 0, none⟩ (by simp), World.cell?_alloc_at _ _ _ _ (by simp)]; rfl)
  have st := as_set t ⟨w.heap.size + 1 + 1 + 1, 0, none⟩ c old (asW t c w)
    (by rw [World.cell?_alloc_at _ _ _ _ (by simp)]; rfl)
    (by rw [World.cell?_alloc_lt _ _ t (by simp; omega), World.cell?_alloc_lt _ _ t (by simp; omega), World.cell?_alloc_lt _ _ t (by simp; omega), World.cell?_alloc_lt _ _ t htl]; exact ht0)
    (by rw [World.frozen?_alloc_old _ _ t (by simp; omega), World.frozen?_alloc_old _ _ t (by simp; omega), World.frozen?_alloc_old _ _ t (by simp; omega), World.frozen?_alloc_old _ _ t (Nat.ne_of_lt htl)]; exact hf0)
  go_enter Tryd.func29, Tryd.ntmps29
  go_wp2
  refine wp_loop_rounds 1 ?_
  rw [rounds_succ]
  go_wp2
  go_ret
  exact ⟨rfl, rfl⟩
end Go.Proofs.YtbpcilbplgbonaaDoor
