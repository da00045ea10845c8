import Derived.Test.YtneaoicjbiebkaaDoorIter
import Derived.Maps.OwnIn
import Derived.Maps.Views
namespace Go.Proofs.YtneaoicjbiebkaaDoor.Q
open Go.Maps Go.RowKit Go.Proofs.YtneaoicjbiebkaaDoorW.PrintWords Go.Proofs.YtneaoicjbiebkaaDoorW.PrintLast Go.Shelf
attribute [local go_sem] Oper.semAt_some
set_option linter.unusedVariables false
set_option linter.unusedSimpArgs false
set_option maxHeartbeats 1000000 in
set_option maxRecDepth 100000 in
theorem systems_call (x y z : Value) (f : Int) (w : World) : Calls Tryd.prog 30 #[.agg #[x, y, z], .int .i64 f] w fun e w' => e = .returned (.func (.func 33) #[] #[.pointer (some ⟨w.heap.size, 0, none⟩), .pointer (some ⟨w.heap.size + 1, 0, none⟩)]) ∧ w' = (w.alloc (.cells #[x, y, z] 46)).alloc (.cells #[.int .i64 f] 3) := by
  have hu46 := Tryd.underlying46
  go_enter Tryd.func30, Tryd.ntmps30
  go_wp2
  go_ret
  exact ⟨rfl, rfl⟩
/-- A look-up in a map of one's own, whatever its elements are. -/
theorem lookup_any {F : Fence} {nF : Nat} {H : Type} {P : Program} (w : World) {ops : Array Oper} {rest : List Oper} {o : Oper} {a : Act} {Q : Exit → Act → World → Prop}
    (hg : o.guard = none) (m x : Operand) (t : TypeId) (hop : o.op = Op.lookup t m x false)
    (k e : TypeId) (K : Keyed P k) (ht : P.underlying t = some (.map k e)) (R : Value → Option (DataW H × List MemPlace)) {z : Value} (hz : (zeroValue e).run P w = .ok z w) (zd : DataW H) (zp : List MemPlace) (hzd : R z = some (zd, zp)) (b n : Nat) (D : DataW H)
    (hm : a.eval m = .map (some b)) (hown : w.ownsMap P k R b n D) (key : Value) (kl : Lit) (hx : a.eval x = key) (hkey : keyOf P k key = some kl)
    (hK : ∀ v ps, R v = some (D.atKey kl zd, ps) → wpListIn F nF P ops Q rest (a.put o.dst v) w) :
    wpListIn F nF P ops Q (o :: rest) a w := by
  refine wpListIn_plain hg fun K' hK' => ?_
  obtain ⟨v, ps, hrun, hv⟩ := hown.lookup K ht hz hzd hkey
  unfold Oper.wpIn
  refine ⟨by simp [Oper.about, hop], ?_⟩
  rw [Oper.semAt_plain F _ _ (by rw [hop]; intro c hc'; cases hc')]
  simp [execOp, hop, hm, hx, hrun, Result.andThen]
  exact hK' _ _ (hK v ps hv)
/-- A way as the map holds it: four numbers. -/
abbrev Way := Int × Int × Int × Int
def wayV (x : Way) : Value := .agg #[.int .i64 x.1, .int .i64 x.2.1, .int .i64 x.2.2.1, .int .i64 x.2.2.2]
def wayD (x : Way) : DataW Unit := .agg [.lit (.int .i64 x.1), .lit (.int .i64 x.2.1), .lit (.int .i64 x.2.2.1), .lit (.int .i64 x.2.2.2)]
open Classical in
noncomputable def wayR (v : Value) : Option (DataW Unit × List MemPlace) := if h : ∃ x : Way, v = wayV x then some (wayD h.choose, []) else none
theorem wayV_inj {x y : Way} (h : wayV x = wayV y) : x = y := by
  obtain ⟨a, b, c, d⟩ := x
  obtain ⟨a', b', c', d'⟩ := y
  simp [wayV] at h
  simp [h]
theorem wayD_inj {x y : Way} (h : wayD x = wayD y) : x = y := by
  obtain ⟨a, b, c, d⟩ := x
  obtain ⟨a', b', c', d'⟩ := y
  simp [wayD] at h
  simp [h]
theorem wayR_mk (x : Way) : wayR (wayV x) = some (wayD x, []) := by
  have h : ∃ y : Way, wayV x = wayV y := ⟨x, rfl⟩
  unfold wayR
  rw [dif_pos h, ← wayV_inj h.choose_spec]
theorem wayR_inv {v : Value} {x : Way} {ps : List MemPlace} (h : wayR v = some (wayD x, ps)) : v = wayV x := by
  unfold wayR at h
  by_cases c : ∃ y : Way, v = wayV y
  · rw [dif_pos c] at h
    have e := wayD_inj (congrArg Prod.fst (Option.some.inj h))
    rw [← e]; exact c.choose_spec
  · rw [dif_neg c] at h; cases h
theorem field59_1 (a b c d : Int) (W : World) : (Instr.field 59 (.agg #[.int .i64 a, .int .i64 b, .int .i64 c, .int .i64 d]) 1).run Tryd.prog W = .ok (.int .i64 d) W := by kernel_rfl
theorem field59_0 (a b c d : Int) (W : World) : (Instr.field 59 (.agg #[.int .i64 a, .int .i64 b, .int .i64 c, .int .i64 d]) 0).run Tryd.prog W = .ok (.agg #[.int .i64 a, .int .i64 b, .int .i64 c]) W := by kernel_rfl
/-- The map lies at a block; at each number it holds a way (where none is told: the zero one). -/
def Ways (W : World) (b n : Nat) (g : Int → Way) : Prop := ∃ D : DataW Unit, W.ownsMap Tryd.prog 3 wayR b n D ∧ ∀ i, D.atKey (.int .i64 i) (wayD (0, 0, 0, 0)) = wayD (g i)
theorem Ways.below {W W1 : World} {B b n : Nat} {g : Int → Way} (h : Ways W b n g) (hb : Below B W W1) (hl : b < B) : Ways W1 b n g := by
  obtain ⟨D, ⟨es, clock, h0, F, hs, rfl⟩, hg⟩ := h
  exact ⟨_, ⟨es, clock, (hb.block b hl).trans h0, F, hs, rfl⟩, hg⟩
theorem Ways.lt {W : World} {b n : Nat} {g : Int → Way} (h : Ways W b n g) : b < W.heap.size := by
  obtain ⟨D, ⟨es, clock, h0, F, hs, rfl⟩, hg⟩ := h
  exact blk_lt h0
theorem Ways.run {W : World} {b n : Nat} {g : Int → Way} (h : Ways W b n g) {i : Int} (hi : (Lit.int .i64 i).wf = true) : (Instr.lookup 47 (.map (some b)) (.int .i64 i) false).run Tryd.prog W = .ok (wayV (g i)) W := by
  obtain ⟨D, h0, hg⟩ := h
  obtain ⟨v, ps, hrun, hv⟩ := h0.lookup (Maps.int_keyed Tryd.underlying3) Tryd.underlying47 (Tryd.zeroValue59 _) (wayR_mk (0, 0, 0, 0)) (Maps.keyOf_int_mk Tryd.underlying3 hi)
  rw [hg i] at hv
  rw [wayR_inv hv] at hrun
  exact hrun
theorem Ways.put {W W1 : World} {b n : Nat} {g : Int → Way} (i : Int) (x : Way) {D : DataW Unit} (hm : IsMap D) (hg : ∀ i, D.atKey (.int .i64 i) (wayD (0, 0, 0, 0)) = wayD (g i)) (h : W1.ownsMap Tryd.prog 3 wayR b (n + 1) (D.put (.int .i64 i) (wayD x))) : Ways W1 b (n + 1) (fun j => if j = i then x else g j) := by
  refine ⟨_, h, fun j => ?_⟩
  by_cases e : j = i
  · subst e
    show _ = wayD (if j = j then x else g j)
    rw [if_pos rfl]; exact atKey_put_same hm (by first | decide | rfl | exact ⟨_, _, rfl⟩ | simp [WideAt.IsKeyLit]) _ _
  · show _ = wayD (if j = i then x else g j)
    rw [if_neg e, ← hg j]; exact atKey_put_other (by simpa using e) _ _
end Go.Proofs.YtneaoicjbiebkaaDoor.Q
