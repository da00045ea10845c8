/- Hand texts, laid as one (merge23.py). No conditions. -/
import Derived.RangeFuncNested
import Derived.Scope
import Derived.OrdersIn
import Derived.OwnWalkIn
import Derived.Test.YtocjbedacnlaaaaGreatDoorWApart
import Derived.Test.YtocjbedacnlaaaaGreatDoorWWords
import Derived.RangeFuncLeaves
import Derived.Maps.AppendAt
import Derived.WalkKit
import Derived.Test.YtocjbedacnlaaaaGreatDoorHandA
import Derived.Test.YtocjbedacnlaaaaGreatDoorQ6
import Derived.Deep.RegionHeld3
import Derived.RangeFuncBound
import Derived.RangeFuncCalls
import Derived.Shelf.Abstract
import Derived.Shelf.RegionOpen
import Derived.TacticsInMore
import Derived.LoopNIn
import Derived.LoopIn
import Derived.IntWalk
import Derived.RangeFuncBox
import Derived.Test.YtocjbedacnlaaaaGreatDoorQ12
import Derived.WalkSpells
import Derived.Deep.DeepMust
/- A range over a function whose iterator keeps cells of its own: the caller's invariant speaks of what lay ahead of the loop alone; whatever lies behind that is the iterator's, and the round leaves it. No program in sight. -/
namespace Go.Proofs
open Go.RowKit
variable {F : Fence} {n : Nat} {P : Program} {w : World}
/-- What abides every turn of whatever lies at or behind a place. -/
def ByBelow {β : Type} (B : Nat) (J : β → World → Prop) : Prop := ∀ s W W', J s W → Below B W W' → J s W'
theorem ByBelow.mono {β : Type} {B C : Nat} {J : β → World → Prop} (h : ByBelow B J) (hc : B ≤ C) : ByBelow C J := fun s W W' hs hb => h s W W' hs (hb.mono hc)
theorem below_putObj {B l : Nat} (W : World) (o : Obj) (h : B ≤ l) : Below B W (W.putObj l o) :=
  ⟨rfl, rfl, rfl, by simp, fun k hk => World.putObj_heap_other (by omega)⟩
/-- The contract of an iterator that may turn whatever lies at or behind the place where the loop began. -/
def SeqStopsC {α : Type} (F : Fence) (n : Nat) (P : Program) (g : Nat) (lb : Array Value) (encs : α → Array Value) (Kp : Nat → World → World → Prop) (S Sp : List α → Prop) (Ok : List α → α → Prop) (w : World) : Prop :=
  ∀ (l : Nat) (J Jx : List α → World → Prop) (W : World), Below w.heap.size w W → ByBelow W.heap.size J → ByBelow W.heap.size Jx →
    (∀ pre x V, J pre V → Ok pre x → YieldAt F (n - 1) P l (encs x) V fun e V' =>
      (e = .returned (.bool true) ∧ J (pre ++ [x]) V' ∧ Kp W.heap.size V V') ∨ (e = .returned (.bool false) ∧ Jx (pre ++ [x]) V')) →
    J [] W →
    CallsIn F n P g (#[.func (.yield l) #[] #[]] ++ lb) W fun e W' => (∃ v, e = .returned v) ∧ ((∃ xs, S xs ∧ J xs W') ∨ (∃ pre, Sp pre ∧ Jx pre W'))
/-- The two blocks of the loop's own lie as they lay. -/
def Booked (B : Nat) (W W' : World) : Prop := W'.heap[B]? = W.heap[B]? ∧ W'.heap[B + 1]? = W.heap[B + 1]?
/-- How a round may be left: on, or by a return. -/
def postC {α : Type} (B : Nat) (Kp : Nat → World → World → Prop) (I Ix : List α → World → Prop) (xs : List α) (W : World) : Exit → Act → World → Prop
  | .normal, _, W' => Booked B W W' ∧ Kp (B + 2) W W' ∧ I xs W'
  | .ret, _, W' => Booked B W W' ∧ Ix xs W'
  | .exit _, _, _ => False
  | .goto _, _, _ => False
  | .panic _, _, _ => False
  | .outgrown, _, _ => False
end Go.Proofs
namespace Go
section
variable {F : Fence} {n : Nat} {P : Program} {b : Frame} {a : Act} {k : List Item} {cs : List Frame} {w : World} {Q : Exit → Act → World → Prop}
theorem stepR_scope_ {c : Code} : step P (lone (b.atR a (.code (.scope c) :: k)) cs w) = .next (lone (b.atR a (.code c :: .inScope c :: k)) cs w) := step_lone_go (by simp [stepG, stepG.exec, Frame.atR])
theorem stepR_inScope_ {c : Code} : step P (lone (b.atR a (.inScope c :: k)) cs w) = .next (lone (b.atR a k) cs w) := step_lone_go (by simp [stepG, stepG.exec, Frame.atR])
/-- A scope that no goto leaves, within a fence. -/
theorem wpIn_scope_ {c : Code} (h : c.wpIn F n P (Exit.noGoto Q) a w) : (Code.scope c).wpIn F n P Q a w := by
  intro b k cs hro hb hr
  have h0 : (lone (b.atR a (.code (.scope c) :: k)) cs w).fenced P F := fenced_calm hb hr rfl
  obtain ⟨e, a₁, w₁, hq, harr⟩ := h b (.inScope c :: k) cs hro hb hr
  cases e with
  | normal => exact ⟨.normal, a₁, w₁, hq, .head h0 stepR_scope_ (StepsIn.trans harr (.one (fenced_calm hb hr rfl) stepR_inScope_))⟩
  | exit id =>
    have hx : exitTo id (.inScope c :: k) = exitTo id k := by simp [exitTo]
    exact ⟨_, a₁, w₁, hq, fun k' hk => .head h0 stepR_scope_ (harr.1 k' (by rw [hx]; exact hk)),
      fun hr' hk => let ⟨k₁, g1, g2⟩ := harr.2 hr' (by rw [hx]; exact hk); ⟨k₁, g1, .head h0 stepR_scope_ g2⟩⟩
  | goto l => exact hq.elim
  | ret => exact ⟨_, a₁, w₁, hq, .of_steps (.one h0 stepR_scope_) harr⟩
  | panic ch => exact ⟨_, a₁, w₁, hq, .of_steps (.one h0 stepR_scope_) harr⟩
  | outgrown => exact ⟨_, a₁, w₁, hq, .of_steps (.one h0 stepR_scope_) harr⟩
end
end Go
/- Inside a fence, in a round too: in a region that draws its order an operation whose value is the same in every world that meets a condition S may be taken first. No program in sight. -/
set_option linter.unusedVariables false
namespace Go.Proofs
section
variable {F : Fence} {n : Nat} {P : Program} {ops : Array Oper} {Q : Exit → Act → World → Prop} {md : Region.Mode} {S : World → Prop}
/-- No operation is a defer statement, none a select. -/
def plainOps (ops : Array Oper) : Bool := ops.all fun o => match o.op with | .defer _ => false | .select .. => false | _ => true
theorem plainOps_spec (h : plainOps ops = true) {j : Nat} {o : Oper} (ho : ops[j]? = some o) : (∀ c, o.op ≠ .defer c) ∧ (∀ cs b, o.op ≠ .select cs b) := by
  have := Array.all_eq_true_iff_forall_mem.1 h o (Array.mem_of_getElem? ho)
  constructor
  · intro c e; simp [e] at this
  · intro c b e; simp [e] at this
/-- In each world that meets S the operation is about to call nothing, leaves v and does nothing else. -/
def Still (P : Program) (ops : Array Oper) (S : World → Prop) (o : Oper) (v : Value) (a : Act) : Prop :=
  (Region.wanted o (yielded ops a.tmps) = true ∧ ∀ w, S w → o.about P w a.eval = none ∧ (execOp a.eval o).run P w = .ok (.value v) w) ∨
  (Region.wanted o (yielded ops a.tmps) = false ∧ v = undef ∧ ∀ w, S w → o.about P w a.eval = none)
theorem Still.moved {o oj : Oper} {v u : Value} {a : Act} (hs : ∀ cs b, o.op ≠ .select cs b) (h3 : ∀ d, oj.dst = some d → d ∉ o.looksAt ops) (h : Still P ops S o v a) : Still P ops S o v (a.put oj.dst u) := by
  unfold Still at *
  rw [wanted_put o a oj.dst u h3, execOp_put o hs a oj.dst u h3]
  simpa only [about_put o _ a oj.dst u h3] using h
theorem Still.deferred {o : Oper} {v : Value} {a : Act} {d : Deferred} (h : Still P ops S o v a) : Still P ops S o v { a with defers := d :: a.defers } := h
theorem Still.here {i : Nat} {o : Oper} {v : Value} {a : Act} (hi : ops[i]? = some o) (hd : ∀ c, o.op ≠ .defer c) (hy : Still P ops S o v a) {K : Act → World → Prop} {w : World} (hS : S w) (h : K (a.put o.dst v) w) : wpOpIn F n P ops Q i K a w := by
  unfold wpOpIn
  simp only [hi]
  rcases hy with ⟨hw, hv⟩ | ⟨hw, rfl, hv⟩
  · obtain ⟨h1, h2⟩ := hv w hS
    simp only [hw, if_true, Oper.wpIn, Oper.semAt_plain F _ _ hd, h2, Oper.uponIn]
    exact ⟨fun f hf => (by rw [h1] at hf; cases hf), h⟩
  · simp only [hw, Bool.false_eq_true, if_false]
    exact ⟨fun f hf => (by rw [hv w hS] at hf; cases hf), h⟩
theorem Still.past {j : Nat} {oi oj : Oper} {v : Value} (hj : ops[j]? = some oj) (hap : oi.apart ops oj = true) (hsi : ∀ cs b, oi.op ≠ .select cs b) (hsj : ∀ cs b, oj.op ≠ .select cs b) (hdj : ∀ c, oj.op ≠ .defer c)
    (hQ : ∀ c a w, Q (.panic c) (a.put oi.dst v) w → Q (.panic c) a w) {K : Act → World → Prop} {a : Act} {w : World} (hy : Still P ops S oi v a) (h : wpOpIn F n P ops Q j K (a.put oi.dst v) w) :
    wpOpIn F n P ops Q j (fun a' w' => Still P ops S oi v a' ∧ K (a'.put oi.dst v) w') a w := by
  obtain ⟨h1, h2, h3⟩ := Oper.apart_spec hap
  have fin : ∀ (a : Act) (u : Value) (w : World), Still P ops S oi v a → K ((a.put oi.dst v).put oj.dst u) w → Still P ops S oi v (a.put oj.dst u) ∧ K ((a.put oj.dst u).put oi.dst v) w :=
    fun a u w hy hk => ⟨hy.moved hsi h3, by rw [← Act.put_comm a v u h2]; exact hk⟩
  unfold wpOpIn at *
  simp only [hj, wanted_put oj a oi.dst v h1, about_put oj w a oi.dst v h1] at *
  split
  · rename_i hw
    simp only [hw, if_true, Oper.wpIn, about_put oj w a oi.dst v h1, Oper.semAt_plain F _ _ hdj, execOp_put oj hsj a oi.dst v h1] at h ⊢
    refine ⟨h.1, ?_⟩
    replace h := h.2
    generalize (execOp a.eval oj).run P w = r at *
    rcases r with ⟨x, w'⟩ | ⟨x, w'⟩
    · cases x <;> simp only [Oper.uponIn] at h ⊢
      case value u => exact fin a u w' hy h
      case skip => exact fin a _ w' hy h
      case defer d => exact fin _ _ w' hy.deferred (by rw [← Act.put_defers]; exact h)
      case enter f args =>
        refine ⟨h.1, CallsIn.mono h.2 fun e w2 he => ?_⟩
        cases e with
        | returned u => exact fin a u w2 hy he
        | panicked c => exact hQ _ _ _ he
        | outgrown => exact he
      case row row args => exact ⟨h.1, RowsIn.mono h.2 fun u w2 he => fin a u w2 hy he⟩
      case round l f tmps assign body =>
        refine ⟨h.1, RoundIn.mono h.2 fun e w2 he => ?_⟩
        cases e with
        | returned u => exact fin a u w2 hy he
        | panicked c => exact hQ _ _ _ he
        | outgrown => exact he
    · cases x <;> simp only [Oper.uponIn] at h ⊢
      case panic u => exact hQ _ _ _ h
  · rename_i hw
    simp only [hw] at h
    exact ⟨h.1, fin a _ w hy h.2⟩
/-- Whatever order is drawn, S holds behind each operation. -/
def wpAnyS (F : Fence) (n : Nat) (P : Program) (md : Region.Mode) (ops : Array Oper) (Q : Exit → Act → World → Prop) (S : World → Prop) : Nat → Array Bool → Act → World → Prop
  | 0, listed, a, w => Region.ready md ops listed = [] ∧ Q .normal a w
  | fuel + 1, listed, a, w => (Region.ready md ops listed = [] → Q .normal a w) ∧ ∀ i ∈ Region.ready md ops listed, wpOpIn F n P ops Q i (fun a' w' => S w' ∧ wpAnyS F n P md ops Q S fuel (listed.setIfInBounds i true) a' w') a w
theorem wpAnyS.any : ∀ (fuel : Nat) (listed : Array Bool) (a : Act) (w : World), wpAnyS F n P md ops Q S fuel listed a w → wpAnyIn F n P md ops Q fuel listed a w
  | 0, _, _, _, h => h
  | fuel + 1, _, _, _, h => ⟨h.1, fun i hi => wpOpIn_mono (fun a' w' h' => wpAnyS.any fuel _ a' w' h'.2) (h.2 i hi)⟩
/-- The same, where the post says nothing of use of a panic: none comes. -/
def NormalOnly (Q : Exit → Act → World → Prop) : Exit → Act → World → Prop
  | .normal, a, w => Q .normal a w
  | _, _, _ => False
theorem normalOnly_go {Q : Exit → Act → World → Prop} {a : Act} {w : World} (h : Q .normal a w) : NormalOnly Q .normal a w := h
end
end Go.Proofs
/- As HeldIn, but S is not asked behind one operation, the last one (number m: a store into a cell that the region loads). No program in sight. -/
set_option linter.unusedVariables false
namespace Go.Proofs
section
variable {F : Fence} {n : Nat} {P : Program} {ops : Array Oper} {Q : Exit → Act → World → Prop} {md : Region.Mode} {S : World → Prop} {m : Nat}
/-- Whatever order is drawn, S holds behind each operation. -/
def wpAnyF (F : Fence) (n : Nat) (P : Program) (md : Region.Mode) (ops : Array Oper) (Q : Exit → Act → World → Prop) (S : World → Prop) (m : Nat) : Nat → Array Bool → Act → World → Prop
  | 0, listed, a, w => Region.ready md ops listed = [] ∧ Q .normal a w
  | fuel + 1, listed, a, w => (Region.ready md ops listed = [] → Q .normal a w) ∧ ∀ i ∈ Region.ready md ops listed, wpOpIn F n P ops Q i (fun a' w' => (i = m ∨ S w') ∧ wpAnyF F n P md ops Q S m fuel (listed.setIfInBounds i true) a' w') a w
theorem wpAnyF.any : ∀ (fuel : Nat) (listed : Array Bool) (a : Act) (w : World), wpAnyF F n P md ops Q S m fuel listed a w → wpAnyIn F n P md ops Q fuel listed a w
  | 0, _, _, _, h => h
  | fuel + 1, _, _, _, h => ⟨h.1, fun i hi => wpOpIn_mono (fun a' w' h' => wpAnyF.any fuel _ a' w' h'.2) (h.2 i hi)⟩
theorem wpAnyF_first {i : Nat} {oi : Oper} {v : Value} (hlast : ∀ om, ops[m]? = some om → ∃ e ∈ om.after, Region.binds md e = true ∧ e.on = i) (hi : ops[i]? = some oi) (hp : plainOps ops = true) (hQ : ∀ c a w, Q (.panic c) (a.put oi.dst v) w → Q (.panic c) a w) :
    ∀ (fuel : Nat) (listed : Array Bool) (a : Act) (w : World), (∀ j oj, ops[j]? = some oj → j ≠ i → listed.getD j true = false → (∀ e ∈ oj.after, Region.binds md e = true → e.on ≠ i) → oi.apart ops oj = true) →
      i ∈ Region.ready md ops listed → Still P ops S oi v a → S w → wpAnyF F n P md ops Q S m fuel (listed.setIfInBounds i true) (a.put oi.dst v) w → wpAnyF F n P md ops Q S m (fuel + 1) listed a w := by
  intro fuel
  induction fuel with
  | zero =>
    intro listed a w _ hr hy hS H
    refine ⟨fun h => (by rw [h] at hr; cases hr), fun j hj => ?_⟩
    by_cases hji : j = i
    · subst hji; exact hy.here hi (plainOps_spec hp hi).1 hS ⟨.inr hS, H⟩
    · have := ready_mono hj hji
      rw [H.1] at this; cases this
  | succ fuel ih =>
    intro listed a w hfree hr hy hS H
    refine ⟨fun h => (by rw [h] at hr; cases hr), fun j hj => ?_⟩
    by_cases hji : j = i
    · subst hji; exact hy.here hi (plainOps_spec hp hi).1 hS ⟨.inr hS, H⟩
    · have h1 := H.2 j (ready_mono hj hji)
      obtain ⟨hjun, oj, hoj, hall⟩ := mem_ready.1 hj
      have hnot : ∀ e ∈ oj.after, Region.binds md e = true → e.on ≠ i := fun e he hb heq => by
        have g1 := hall e he hb
        have g0 := (mem_ready.1 hr).1
        rw [heq] at g1
        rcases Nat.lt_or_ge i listed.size with h' | h'
        · simp [h'] at g0 g1; rw [g0] at g1; cases g1
        · simp [Array.getElem?_eq_none h'] at g1
      have h2 := Still.past hoj (hfree j oj hoj hji hjun hnot) (plainOps_spec hp hi).2 (plainOps_spec hp hoj).2 (plainOps_spec hp hoj).1 hQ hy h1
      have hjm : j ≠ m := fun e => by
        subst e
        obtain ⟨e, he, hb, heq⟩ := hlast oj hoj
        exact hnot e he hb heq
      refine wpOpIn_mono (fun a' w' h3 => ⟨.inr (h3.2.1.resolve_left hjm), ih (listed.setIfInBounds j true) a' w' (fun k ok hk hki hun hno => hfree k ok hk hki ?_ hno) (ready_mono hr (Ne.symm hji)) h3.1 (h3.2.1.resolve_left hjm) ?_⟩) h2
      · by_cases hjk : j = k
        · subst hjk; exact hjun
        · rw [getD_set_ne true hjk] at hun; exact hun
      · rw [Array.setIfInBounds_comm _ _ hji]; exact h3.2.2
/-- Does operation m stand behind operation i? -/
def lastB (md : Region.Mode) (ops : Array Oper) (m i : Nat) : Bool := match ops[m]? with | some om => om.after.any fun e => Region.binds md e && e.on == i | none => true
theorem lastB_spec {i : Nat} (h : lastB md ops m i = true) : ∀ om, ops[m]? = some om → ∃ e ∈ om.after, Region.binds md e = true ∧ e.on = i := by
  intro om ho
  unfold lastB at h
  rw [ho] at h
  obtain ⟨j, hj, h2⟩ := Array.any_eq_true.1 h
  simp only [Bool.and_eq_true, beq_iff_eq] at h2
  exact ⟨_, Array.getElem_mem hj, h2.1, h2.2⟩
/-- Number i is taken first. -/
theorem wpAnyF_take (i : Nat) {oi : Oper} {v : Value} {fuel : Nat} {listed : Array Bool} {a : Act} {w : World} (hlast : lastB md ops m i = true) (hi : ops[i]? = some oi) (hp : plainOps ops = true) (hf : Region.free md ops listed i = true)
    (hr : (Region.ready md ops listed).contains i = true) (hQ : ∀ c a w, Q (.panic c) (a.put oi.dst v) w → Q (.panic c) a w) (hS : S w) (hw : Region.wanted oi (yielded ops a.tmps) = true) (hb : ∀ w, oi.about P w a.eval = none) (hy : ∀ w, S w → (execOp a.eval oi).run P w = .ok (.value v) w)
    (h : wpAnyF F n P md ops Q S m fuel (listed.setIfInBounds i true) (a.put oi.dst v) w) : wpAnyF F n P md ops Q S m (fuel + 1) listed a w :=
  wpAnyF_first (lastB_spec hlast) hi hp hQ fuel listed a w (Region.free_spec hi hf) (by simpa using hr) (.inl ⟨hw, fun w hs => ⟨hb w, hy w hs⟩⟩) hS h
/-- One operation alone may come up. -/
theorem wpAnyF_one (i : Nat) {oi : Oper} {fuel : Nat} {listed : Array Bool} {a : Act} {w : World} (hr : Region.ready md ops listed = [i]) (hi : ops[i]? = some oi) (hw : Region.wanted oi (yielded ops a.tmps) = true)
    (h : oi.wpIn F n P a w (fun a' w' => (i = m ∨ S w') ∧ wpAnyF F n P md ops Q S m fuel (listed.setIfInBounds i true) a' w') Q) : wpAnyF F n P md ops Q S m (fuel + 1) listed a w := by
  refine ⟨fun h0 => (by rw [hr] at h0; cases h0), fun j hj => ?_⟩
  rw [hr] at hj
  obtain rfl := List.mem_singleton.1 hj
  unfold wpOpIn
  simp only [hi, hw, if_true]
  exact h
theorem wpAnyF_done {listed : Array Bool} {a : Act} {w : World} (hr : Region.ready md ops listed = []) (h : Q .normal a w) : ∀ fuel, wpAnyF F n P md ops Q S m fuel listed a w
  | 0 => ⟨hr, h⟩
  | _ + 1 => ⟨fun _ => h, by rw [hr]; simp⟩
/-- The same, the slot and what it leaves told outright. -/
theorem wpAnyF_takeN (i : Nat) (d : Option Tmp) {oi : Oper} {v : Value} {fuel : Nat} {listed : Array Bool} {a a' : Act} {w : World} (hlast : lastB md ops m i = true) (hi : ops[i]? = some oi) (hd : oi.dst = d) (hp : plainOps ops = true) (hf : Region.free md ops listed i = true)
    (hr : (Region.ready md ops listed).contains i = true) (hQ : ∀ c a w, Q (.panic c) (a.put oi.dst v) w → Q (.panic c) a w) (hS : S w) (hw : Region.wanted oi (yielded ops a.tmps) = true) (hb : ∀ w, oi.about P w a.eval = none) (hy : ∀ w, S w → (execOp a.eval oi).run P w = .ok (.value v) w) (ha : a.put d v = a')
    (h : wpAnyF F n P md ops Q S m fuel (listed.setIfInBounds i true) a' w) : wpAnyF F n P md ops Q S m (fuel + 1) listed a w :=
  wpAnyF_take i hlast hi hp hf hr hQ hS hw hb hy (by rw [hd, ha]; exact h)
theorem wpIn_region_FN (S : World → Prop) (m : Nat) {id : Nat} {a : Act} {w : World} (hm : P.follows .mixedOrders = true) (hS : S w.drew)
    (h : wpAnyF F n P .any ops (NormalOnly Q) S m ops.size (Array.replicate ops.size false) a w.drew) : (Code.region id ops true).wpIn F n P Q a w := by
  refine wpIn_mono (wpIn_region_any (Q := NormalOnly Q) hm (wpAnyF.any _ _ _ _ h)) ?_
  intro e a' w' hq
  cases e <;> first | exact hq | exact hq.elim
end
end Go.Proofs
/- append(v, x) within a fence, where x's inner rows are of its own. No program in sight. -/
namespace Go.Proofs.YtocjbedacnlaaaaGreatDoor.Q
open Go.RowKit Go.Proofs.YtocjbedacnlaaaaGreatDoorW.PrintWords
set_option linter.unusedVariables false
set_option linter.unusedSimpArgs false
/-- append(v, x) within a fence, x's inner rows of its own. -/
theorem opIn_append_S {α : Type} {F : Fence} {n : Nat} {P : Program} {o : Oper} {a : Act} {K : Act → World → Prop} {Q : Exit → Act → World → Prop} (d : Kd α) {w0 W : World} (base : Nat) (s x : Operand) (t e : TypeId) (z : Value) (bytes : Nat)
    (ho : o.op = .call { callee := .builtin .append, args := #[s, x], argTypes := #[t, t] })
    (ht : P.underlying t = some (.slice e)) (hinfo : (P.info? e).map (fun i => (i.zero, i.size, i.bytes)) = some (some z, d.sz, bytes)) (hz : z.cells.size = d.sz) (hs0 : 0 < d.sz) (hb0 : 0 < bytes)
    (v : Value) (xs : List α) (p : α) (cs : List Value) (ok okp : Nat → Prop) (hs : a.eval s = v) (hx : a.eval x = .slice (some ⟨W.heap.size, 0, none⟩) 1 1) (hp : d.M W base okp p cs) (hokp : ∀ k, okp k → ok k ∧ some k ≠ v.ownBlock) (hfresh : ∀ k, W.heap.size ≤ k → ok k)
    (HO : Kd.S d e W base (fun k => ok k ∧ ¬ okp k) v xs) (HB : Below base w0 W) (hbase : base ≤ W.heap.size) (hl : (xs.length + 1) * bytes ≤ 140737488355328)
    (h : ∀ v1 w1, Kd.S d e w1 base ok v1 (xs ++ [p]) → Below base w0 w1 → W.grownBy w1 v.ownBlock → K (a.put o.dst v1) w1) :
    o.wpIn F n P a (W.alloc (.cells cs.toArray e)) K Q := by
  obtain ⟨f, hf, hR⟩ := Kd.S_tag HO xs.length okp (fun _ hk h2 => h2.2 hk)
  have hR' := Kd.R_mono (ok' := ok) hR (fun _ hk => hk.1)
  obtain ⟨h0, inner, hown, hr⟩ := hR'
  rw [List.length_zipIdx] at hown
  obtain ⟨i0, hi, hzz⟩ := Option.map_eq_some_iff.1 hinfo
  simp only [Prod.mk.injEq] at hzz
  obtain ⟨hz0, hz1, hz2⟩ := hzz
  have hpl := d.K_len (d.K_of_M hp)
  have hlen : xs.length + 1 ≤ 140737488355328 := Nat.le_trans (Nat.le_mul_of_pos_right _ hb0) hl
  obtain ⟨v1, w1, hrun, hown1, hg, -, hat⟩ := run_append_own_at (P := P) (W.alloc (.cells cs.toArray e)) base t o.type e i0 z d.sz bytes ht hi hz0 hz1 hz2 hz hs0 v xs.length inner (hown.alloc _) ⟨W.heap.size, 0, none⟩ 1 1 cs
    (by rw [hpl]; simp) (by simpa using World.news_of_block (cs := cs.toArray) (t := e) (fr := (0, 0)) (heap_alloc_new W (.cells cs.toArray e))) (d.K_one (d.K_of_M hp)) (by simp only [maxLen]; omega) hl (by simp; omega)
  have hg1 : W.grownBy w1 v.ownBlock := World.grownBy.trans (World.grownBy_alloc W _ _) hg
  have hat1 : v1.ownBlock = v.ownBlock ∨ ∃ b, v1.ownBlock = some b ∧ W.heap.size ≤ b := by
    rcases hat with hat | hat
    · exact .inl hat
    · exact .inr ⟨_, hat, by simp⟩
  have hS : Kd.S d e w1 base ok v1 (xs ++ [p]) := by
    refine ⟨f, ?_⟩
    rw [Kd.zip_snoc]
    refine Kd.R_appended (d := Kd.tag f d) (p := (p, xs.length)) h0 hr (d.M_mono (fun k hk => ⟨hk, hf k hk⟩) hp) hokp hfresh ?_ hg1 hat1
    rw [List.length_zipIdx]; exact hown1
  have hB1 : Below base w0 w1 := (HB.alloc hbase _).grown hg (by simp; omega) (own_base hown)
  unfold Oper.wpIn
  refine ⟨?_, ?_⟩
  · simp [Oper.about, ho, resolve, Target.leads, Sem.run_pure]
  · rw [Oper.semAt_plain F _ _ (by rw [ho]; intro c hc'; cases hc')]
    simp [execOp, ho, resolve, invoke, builtin, hs, hx, hrun, Result.andThen]
    exact h v1 w1 hS hB1 hg1
/-- The same, at the operation. -/
theorem wpListIn_append_S {α : Type} {F : Fence} {n : Nat} {P : Program} {ops : Array Oper} {rest : List Oper} {o : Oper} {a : Act} {Q : Exit → Act → World → Prop} (hgd : o.guard = none) (d : Kd α) {w0 W : World} (base : Nat) (s x : Operand) (t e : TypeId) (z : Value) (bytes : Nat)
    (ho : o.op = .call { callee := .builtin .append, args := #[s, x], argTypes := #[t, t] })
    (ht : P.underlying t = some (.slice e)) (hinfo : (P.info? e).map (fun i => (i.zero, i.size, i.bytes)) = some (some z, d.sz, bytes)) (hz : z.cells.size = d.sz) (hs0 : 0 < d.sz) (hb0 : 0 < bytes)
    (v : Value) (xs : List α) (p : α) (cs : List Value) (ok okp : Nat → Prop) (hs : a.eval s = v) (hx : a.eval x = .slice (some ⟨W.heap.size, 0, none⟩) 1 1) (hp : d.M W base okp p cs) (hokp : ∀ k, okp k → ok k ∧ some k ≠ v.ownBlock) (hfresh : ∀ k, W.heap.size ≤ k → ok k)
    (HO : Kd.S d e W base (fun k => ok k ∧ ¬ okp k) v xs) (HB : Below base w0 W) (hbase : base ≤ W.heap.size) (hl : (xs.length + 1) * bytes ≤ 140737488355328)
    (h : ∀ v1 w1, Kd.S d e w1 base ok v1 (xs ++ [p]) → Below base w0 w1 → W.grownBy w1 v.ownBlock → wpListIn F n P ops Q rest (a.put o.dst v1) w1) :
    wpListIn F n P ops Q (o :: rest) a (W.alloc (.cells cs.toArray e)) :=
  wpListIn_plain hgd fun K hK => opIn_append_S d base s x t e z bytes ho ht hinfo hz hs0 hb0 v xs p cs ok okp hs hx hp hokp hfresh HO HB hbase hl fun v1 w1 h1 h2 h3 => hK _ _ (h v1 w1 h1 h2 h3)
end Go.Proofs.YtocjbedacnlaaaaGreatDoor.Q
/- A voice's beamer: which events may be beamed, how many bars they have, in which beat they stand. The walks. No conditions. -/
namespace Go.Proofs.YtocjbedacnlaaaaGreatDoor.Q
open Go.RowKit Go.Shelf Go.Proofs.YtocjbedacnlaaaaGreatDoorW.PrintWords
set_option linter.unusedVariables false
set_option linter.unusedSimpArgs false
/-- A beamer in memory. -/
def Beamer (W : World) (g : Nat) (l : List S41) (bs ss : List S72) : Prop :=
  ∃ A0 c0 Ab cb As cs, W.heap[g]? = some (.cells #[.slice A0 l.length c0, .slice Ab bs.length cb, .slice As ss.length cs] 90 (0, 0)) ∧ Kd.C k41 W A0 l.length l ∧ Kd.C k72 W Ab bs.length bs ∧ Kd.C k72 W As ss.length ss
theorem Beamer.below {W W' : World} {g : Nat} {l : List S41} {bs ss : List S72} (h : Beamer W g l bs ss) (hb : Below W.heap.size W W') : Beamer W' g l bs ss := by
  obtain ⟨A0, c0, Ab, cb, As, cs, h1, h2, h3, h4⟩ := h
  exact ⟨A0, c0, Ab, cb, As, cs, blk_below h1 hb, Kd.C_below h2 hb, Kd.C_below h3 hb, Kd.C_below h4 hb⟩
/-- May an event be beamed? -/
def mayE (x : S41) : Bool := (x.f0 == 1) && decide (3 ≤ x.f3.f0)
set_option maxHeartbeats 2000000 in
set_option maxRecDepth 100000 in
theorem may_calls (g : Nat) (l : List S41) (bs ss : List S72) (i : Nat) (w : World) (h : Beamer w g l bs ss) (hi : i < l.length) :
    Calls Tryz.prog 67 #[.pointer (some ⟨g, 0, none⟩), .int .i64 (i : Int)] w fun e w' => e = .returned (.bool (mayE (l.getD i z41))) ∧ w = w' := by
  have hu90 := Tryz.underlying90
  have hu32 := Tryz.underlying32
  have hu41 := Tryz.underlying41
  have hu39 := Tryz.underlying39
  obtain ⟨A0, c0, Ab, cb, As, cs, h1, h2, h3, h4⟩ := h
  have m0 : w.cell? ⟨g, 0, none⟩ = some (.slice A0 l.length c0) := (blk_cell h1 0).trans rfl
  obtain ⟨ad, A1, e1, A2, e2, A7, e7, rfl, hx0, hx1, hx2, hx3, _⟩ := at_T41 h2 (i : Int) (by omega) (by omega)
  rw [Int.toNat_natCast] at hx0 hx3
  have hg : rd_T41 l (i : Int) = l.getD i z41 := by simp [rd_T41]
  rw [hg] at hx0 hx3
  generalize l.getD i z41 = x at hx0 hx3 ⊢
  clear h1 h2 h3 h4 hx1 hx2 hg
  unfold mayE
  cases hk : (x.f0 == 1) with
  | true =>
    rw [Bool.true_and]
    generalize hd : decide (3 ≤ x.f3.f0) = d
    go_enter Tryz.func67, Tryz.ntmps67
    go_wp2
    go_ret
    exact ⟨rfl, rfl⟩
  | false =>
    rw [Bool.false_and]
    go_enter Tryz.func67, Tryz.ntmps67
    go_wp2
    go_ret
    exact ⟨rfl, rfl⟩
set_option maxHeartbeats 2000000 in
set_option maxRecDepth 100000 in
theorem bars_calls (g : Nat) (l : List S41) (bs ss : List S72) (i : Nat) (w : World) (h : Beamer w g l bs ss) (hi : i < l.length) (hb0 : 0 ≤ (l.getD i z41).f3.f0) (hb1 : (l.getD i z41).f3.f0 ≤ 6) :
    Calls Tryz.prog 28 #[.pointer (some ⟨g, 0, none⟩), .int .i64 (i : Int)] w fun e w' => e = .returned (.int .i64 ((l.getD i z41).f3.f0 - 3 + 1)) ∧ w = w' := by
  have hu90 := Tryz.underlying90
  have hu32 := Tryz.underlying32
  have hu41 := Tryz.underlying41
  have hu39 := Tryz.underlying39
  obtain ⟨A0, c0, Ab, cb, As, cs, h1, h2, h3, h4⟩ := h
  have m0 : w.cell? ⟨g, 0, none⟩ = some (.slice A0 l.length c0) := (blk_cell h1 0).trans rfl
  obtain ⟨ad, A1, e1, A2, e2, A7, e7, rfl, hx0, hx1, hx2, hx3, _⟩ := at_T41 h2 (i : Int) (by omega) (by omega)
  rw [Int.toNat_natCast] at hx3
  have hg : rd_T41 l (i : Int) = l.getD i z41 := by simp [rd_T41]
  rw [hg] at hx3
  generalize l.getD i z41 = x at hx3 hb0 hb1 ⊢
  clear h1 h2 h3 h4 hx0 hx1 hx2 hg
  go_enter Tryz.func28, Tryz.ntmps28
  go_wp2
  go_ret
  exact ⟨rfl, rfl⟩
/-- Is a beat behind a place? -/
def behB (s x : S72) : Bool := decide (0 < cmpI x.f0 x.f1 s.f0 s.f1)
set_option maxHeartbeats 4000000 in
set_option maxRecDepth 100000 in
theorem behind_w (g pb pi : Nat) (l : List S41) (bs ss : List S72) (i : Nat) (x : S72) (w : World) (h : Beamer w g l bs ss) (hb : w.heap[pb]? = some (.cells #[.pointer (some ⟨g, 0, none⟩)] 62 (0, 0))) (hp : w.heap[pi]? = some (.cells #[.int .i64 (i : Int)] 3 (0, 0))) (hi : i < ss.length) :
    Calls Tryz.prog 89 #[.agg #[.int .i64 x.f0, .int .i64 x.f1], .pointer (some ⟨pb, 0, none⟩), .pointer (some ⟨pi, 0, none⟩)] w fun e w' => e = .returned (.bool (behB (ss.getD i z72) x)) ∧ Below w.heap.size w w' := by
  have hu90 := Tryz.underlying90
  have hu72 := Tryz.underlying72
  have hu50 := Tryz.underlying50
  obtain ⟨A0, c0, Ab, cb, As, cs, h1, h2, h3, h4⟩ := h
  have hB := below_alloc (Below.refl w.heap.size w) (.cells #[.int .i64 x.f0, .int .i64 x.f1] 72)
  have HB := Aside0.mk hB
  have hN := blk_new w (.cells #[.int .i64 x.f0, .int .i64 x.f1] 72)
  obtain ⟨ad, rfl, hs0, hs1⟩ := at_T72 (Kd.C_below h4 hB) (i : Int) (by omega) (by omega)
  rw [Int.toNat_natCast] at hs0 hs1
  have hg : rd_T72 ss (i : Int) = ss.getD i z72 := by simp [rd_T72]
  rw [hg] at hs0 hs1
  generalize ss.getD i z72 = s at hs0 hs1 ⊢
  have HC := Aside0.mk (fun W => ratio_Compare.calls x.f0 x.f1 s.f0 s.f1 _ W rfl)
  unfold behB
  generalize hk : cmpI x.f0 x.f1 s.f0 s.f1 = c at HC ⊢
  generalize hd : decide (0 < c) = d
  have n0 : (w.alloc (.cells #[.int .i64 x.f0, .int .i64 x.f1] 72)).cell? ⟨w.heap.size, 0, none⟩ = some (.int .i64 x.f0) := (blk_cell hN 0).trans rfl
  have n1 : (w.alloc (.cells #[.int .i64 x.f0, .int .i64 x.f1] 72)).cell? ⟨w.heap.size, 1, none⟩ = some (.int .i64 x.f1) := (blk_cell hN 1).trans rfl
  have b0 : (w.alloc (.cells #[.int .i64 x.f0, .int .i64 x.f1] 72)).cell? ⟨pb, 0, none⟩ = some (.pointer (some ⟨g, 0, none⟩)) := (blk_cell (blk_alloc hb _) 0).trans rfl
  have p0 : (w.alloc (.cells #[.int .i64 x.f0, .int .i64 x.f1] 72)).cell? ⟨pi, 0, none⟩ = some (.int .i64 (i : Int)) := (blk_cell (blk_alloc hp _) 0).trans rfl
  have g2 : (w.alloc (.cells #[.int .i64 x.f0, .int .i64 x.f1] 72)).cell? ⟨g, 2, none⟩ = some (.slice (some ad) ss.length cs) := (blk_cell (blk_alloc h1 _) 2).trans rfl
  clear h1 h2 h3 h4 hB hN hb hp hg hk
  go_enter Tryz.func89, Tryz.ntmps89
  go_wp2
  go_region_held3 (fun w' => w'.cell? ⟨w.heap.size, 0, none⟩ = some (.int .i64 x.f0) ∧ w'.cell? ⟨w.heap.size, 1, none⟩ = some (.int .i64 x.f1) ∧ w'.cell? ⟨pb, 0, none⟩ = some (.pointer (some ⟨g, 0, none⟩)) ∧ w'.cell? ⟨pi, 0, none⟩ = some (.int .i64 (i : Int)) ∧ w'.cell? ⟨g, 2, none⟩ = some (.slice (some ad) ss.length cs) ∧ w'.cell? (ad.add (i * 2)) = some (.int .i64 s.f0) ∧ w'.cell? ⟨(ad.add (i * 2)).block, (ad.add (i * 2)).off + 1, none⟩ = some (.int .i64 s.f1)) (first | (exact ⟨n0, n1, b0, p0, g2, hs0, hs1⟩) | (exact ⟨q0, q1, q2, q3, q4, q5, q6⟩) | go_keep) (((with_reducible refine (HC.out _).mono ?_); rintro e w8 ⟨rfl, hb8⟩; have HB8 := Aside0.mk (below_step (by first | exact HB.out | exact below_drew1 HB.out | exact pw_below_drewN HB.out _) hb8); have q0 := (hb8.cell (cell_lt n0)).trans n0; have q1 := (hb8.cell (cell_lt n1)).trans n1; have q2 := (hb8.cell (cell_lt b0)).trans b0; have q3 := (hb8.cell (cell_lt p0)).trans p0; have q4 := (hb8.cell (cell_lt g2)).trans g2; have q5 := (hb8.cell (cell_lt hs0)).trans hs0; have q6 := (hb8.cell (cell_lt hs1)).trans hs1))
  go_wp2
  go_ret
  exact ⟨rfl, by first | exact HB8.out | exact below_drew1 HB8.out | exact pw_below_drewN HB8.out _⟩
theorem idxF_or2 {α : Type} (p : α → Bool) (l : List α) : idxF p l = -1 ∨ (0 ≤ idxF p l ∧ idxF p l < l.length) := by
  unfold idxF
  cases h : l.findIdx? p with
  | none => exact .inl rfl
  | some i =>
    rw [List.findIdx?_eq_some_iff_getElem] at h
    obtain ⟨h1, _, _⟩ := h
    exact .inr ⟨by simp, by simp; omega⟩
/-- The beat in which a place stands. -/
def beatN (bs : List S72) (s : S72) : Int := if 0 ≤ idxF (behB s) bs then idxF (behB s) bs - 1 else (bs.length : Int) - 1
set_option maxHeartbeats 4000000 in
set_option maxRecDepth 100000 in
theorem beat_calls (g : Nat) (l : List S41) (bs ss : List S72) (i : Nat) (w : World) (h : Beamer w g l bs ss) (hi : i < ss.length) (hbs : bs.length ≤ 1000000) :
    Calls Tryz.prog 68 #[.pointer (some ⟨g, 0, none⟩), .int .i64 (i : Int)] w fun e w' => e = .returned (.int .i64 (beatN bs (ss.getD i z72))) ∧ Below w.heap.size w w' := by
  have hu90 := Tryz.underlying90
  have hu50 := Tryz.underlying50
  have hB0 := below_alloc (below_alloc (Below.refl w.heap.size w) (.cells #[.pointer (some ⟨g, 0, none⟩)] 62)) (.cells #[.int .i64 (i : Int)] 3)
  have HB0 := Aside0.mk hB0
  have hb1 := blk_alloc (blk_new w (.cells #[.pointer (some ⟨g, 0, none⟩)] 62)) (.cells #[.int .i64 (i : Int)] 3)
  have hp1 := blk_new (w.alloc (.cells #[.pointer (some ⟨g, 0, none⟩)] 62)) (.cells #[.int .i64 (i : Int)] 3)
  rw [World.size_alloc] at hp1
  have hh := h.below hB0
  obtain ⟨A0, c0, Ab, cb, As, cs, h1, h2, h3, h4⟩ := id hh
  have HP1 := Aside0.mk hp1
  have Hb1 := Aside0.mk hb1
  have H1 := Aside0.mk h1
  have HI := Aside0.mk (idxR_calls 89 #[.pointer (some ⟨w.heap.size, 0, none⟩), .pointer (some ⟨w.heap.size + 1, 0, none⟩)] (enters_of Tryz.func89 (by kernel_rfl) rfl) (behB (ss.getD i z72)) Ab cb bs _
    (fun W x hb => behind_w g w.heap.size (w.heap.size + 1) l bs ss i x W (hh.below hb) (blk_below hb1 hb) (blk_below hp1 hb) hi) h3)
  have hor := idxF_or2 (behB (ss.getD i z72)) bs
  unfold beatN
  generalize idxF (behB (ss.getD i z72)) bs = n at HI hor ⊢
  have m0 : ((w.alloc (.cells #[.pointer (some ⟨g, 0, none⟩)] 62)).alloc (.cells #[.int .i64 (i : Int)] 3)).cell? ⟨w.heap.size, 0, none⟩ = some (.pointer (some ⟨g, 0, none⟩)) := (blk_cell hb1 0).trans rfl
  have m1 : ((w.alloc (.cells #[.pointer (some ⟨g, 0, none⟩)] 62)).alloc (.cells #[.int .i64 (i : Int)] 3)).cell? ⟨g, 1, none⟩ = some (.slice Ab bs.length cb) := (blk_cell h1 1).trans rfl
  clear hb1 hp1 h1 h2 h3 h4 hh h hB0
  by_cases hn : 0 ≤ n
  · rw [if_pos hn]
    have hd : decide (0 ≤ n) = true := decide_eq_true hn
    have hn2 : n ≤ 1000000 := by omega
    clear hor
    go_enter Tryz.func68, Tryz.ntmps68
    go_wp2_with (first | (go_at_call 90; ((with_reducible refine HI.out.mono ?_); rintro e w1 ⟨rfl, hb⟩; have HB1 := Aside0.mk (below_step HB0.out hb); clear hb)))
    go_ret
    exact ⟨rfl, HB1.out⟩
  · rw [if_neg hn]
    have hd : decide (0 ≤ n) = false := decide_eq_false hn
    clear hor
    go_enter Tryz.func68, Tryz.ntmps68
    go_wp2_with (first | (go_at_call 90; ((with_reducible refine HI.out.mono ?_); rintro e w1 ⟨rfl, hb⟩; have HB1 := Aside0.mk (below_step HB0.out hb); have k0 : w1.cell? ⟨w.heap.size, 0, none⟩ = some (.pointer (some ⟨g, 0, none⟩)) := (blk_cell (blk_below Hb1.out hb) 0).trans rfl; have k1 : w1.cell? ⟨g, 1, none⟩ = some (.slice Ab bs.length cb) := (blk_cell (blk_below H1.out hb) 1).trans rfl; clear hb m0 m1)))
    go_ret
    exact ⟨rfl, HB1.out⟩
end Go.Proofs.YtocjbedacnlaaaaGreatDoor.Q
/- The number behind the last event of those that go on from one. The walk. No conditions. -/
namespace Go.Proofs.YtocjbedacnlaaaaGreatDoor.Q
open Go.RowKit Go.Shelf Go.Proofs.YtocjbedacnlaaaaGreatDoorW.PrintWords
set_option linter.unusedVariables false
set_option linter.unusedSimpArgs false
/-- Does an event go on from one that is ahead? -/
def onE (l : List S41) (bs ss : List S72) (f i : Nat) : Bool := mayE (l.getD i z41) && (beatN bs (ss.getD i z72) == beatN bs (ss.getD f z72))
def goE (l : List S41) (bs ss : List S72) (f : Nat) : Nat → Nat → Nat
  | 0, i => i
  | d + 1, i => if onE l bs ss f i = true then goE l bs ss f d (i + 1) else i
/-- The number behind the last event of those that go on from one. -/
def endN (l : List S41) (bs ss : List S72) (f : Nat) : Nat := goE l bs ss f (l.length - f) f
theorem goE_bd (l : List S41) (bs ss : List S72) (f : Nat) : ∀ d i, i ≤ goE l bs ss f d i ∧ goE l bs ss f d i ≤ i + d
  | 0, i => ⟨Nat.le_refl _, by simp [goE]⟩
  | d + 1, i => by
    unfold goE
    split
    · have := goE_bd l bs ss f d (i + 1); omega
    · omega
theorem endN_bd {l : List S41} {bs ss : List S72} {f : Nat} (h : f ≤ l.length) : f ≤ endN l bs ss f ∧ endN l bs ss f ≤ l.length := by
  have := goE_bd l bs ss f (l.length - f) f
  unfold endN; omega
theorem ret_n {a b : Nat} (h : a = b) : Ending.returned (.int .i64 (a : Int)) = .returned (.int .i64 (b : Int)) := by rw [h]
set_option maxHeartbeats 4000000 in
set_option maxRecDepth 100000 in
theorem end_calls (g : Nat) (l : List S41) (bs ss : List S72) (f : Nat) (w : World) (h : Beamer w g l bs ss) (hf : f < l.length) (hl : l.length ≤ 1000000) (hs : ss.length = l.length) (hbs : bs.length ≤ 1000000) :
    Calls Tryz.prog 50 #[.pointer (some ⟨g, 0, none⟩), .int .i64 (f : Int)] w fun e w' => e = .returned (.int .i64 (endN l bs ss f : Int)) ∧ Below w.heap.size w w' := by
  have hu90 := Tryz.underlying90
  have hu32 := Tryz.underlying32
  obtain ⟨E, hE⟩ : ∃ E, endN l bs ss f = E := ⟨_, rfl⟩
  rw [hE]
  unfold endN at hE
  have HE := Aside0.mk hE
  have H := Aside0.mk h
  have HS := Aside0.mk hs
  have hfl : (f : Int) < (l.length : Int) := by omega
  clear hE h hs
  go_enter Tryz.func50, Tryz.ntmps50
  go_wp2
  go_loopw [5] (fun i wr => ∃ k : Nat, f ≤ k ∧ k ≤ l.length ∧ i = .int .i64 k ∧ Aside0 (goE l bs ss f (l.length - k) k = E) ∧ Aside0 (Below w.heap.size w wr)) (fun i _ => l.length - (intOf i).toNat)
  case atStart => exact ⟨f, Nat.le_refl _, by omega, rfl, HE, ⟨Below.refl _ _⟩⟩
  case round =>
    obtain ⟨k, hk0, hk, rfl, HG, HB⟩ := hrel
    have hM := H.out.below HB.out
    have HM := Aside0.mk hM
    obtain ⟨A0, c0, Ab, cb, As, cs, h1, _⟩ := hM
    have m0 : wr.cell? ⟨g, 0, none⟩ = some (.slice A0 l.length c0) := (blk_cell h1 0).trans rfl
    have H1 := Aside0.mk h1
    clear h1
    have w2 : IntKind.i64.wrap ((k : Int) + 1) = ((k + 1 : Nat) : Int) := by rw [IntWalk.i64_in _ (by omega)]; omega
    by_cases hlt : k < l.length
    · have hd : decide (k < l.length) = true := by simpa using hlt
      have HX := Aside0.mk (may_calls g l bs ss k wr HM.out hlt)
      have hstep : goE l bs ss f (l.length - k) k = if onE l bs ss f k = true then goE l bs ss f (l.length - (k + 1)) (k + 1) else k := by
        obtain ⟨d, hd⟩ : ∃ d, l.length - k = d + 1 := ⟨l.length - k - 1, by omega⟩
        rw [hd, show l.length - (k + 1) = d by omega]
        rfl
      have HT := Aside0.mk (hstep.symm.trans HG.out)
      have hon : onE l bs ss f k = (mayE (l.getD k z41) && (beatN bs (ss.getD k z72) == beatN bs (ss.getD f z72))) := rfl
      have HON := Aside0.mk hon
      clear hstep hon
      cases hm : mayE (l.getD k z41) with
      | false =>
        rw [hm] at HX HON
        clear hm
        go_wp2_with (first | (go_at_call 67; ((with_reducible refine HX.out.mono ?_); rintro e w1 ⟨rfl, rfl⟩)))
        go_ret
        have h1 := HT.out
        rw [HON.out, Bool.false_and, if_neg (by simp)] at h1
        exact ⟨ret_n h1, HB.out⟩
      | true =>
        rw [hm] at HX HON
        clear hm
        have HY := Aside0.mk (beat_calls g l bs ss k wr HM.out (by have := HS.out; omega) hbs)
        have HZ := Aside0.mk (fun W hb => beat_calls g l bs ss f W (HM.out.below hb) (by have := HS.out; omega) hbs)
        generalize beatN bs (ss.getD k z72) = b1 at HY HON
        generalize beatN bs (ss.getD f z72) = b2 at HZ HON
        cases hq : (b1 == b2) with
        | true =>
          rw [hq] at HON
          have hq2 : (b1 != b2) = false := by simp at hq; simp [hq]
          go_wp2_with (first | (go_at_call 67; ((with_reducible refine HX.out.mono ?_); rintro e w1 ⟨rfl, rfl⟩)) | (go_at_call 68; ((with_reducible refine HY.out.mono ?_); rintro e w3 ⟨rfl, hb3⟩; have Hb3 := Aside0.mk hb3; have HB3 := Aside0.mk (below_step HB.out hb3); clear hb3)) | (go_at_call 68; ((with_reducible refine (HZ.out _ Hb3.out).mono ?_); rintro e w4 ⟨rfl, hb4⟩; have HB4 := Aside0.mk (below_step HB3.out hb4); clear hb4)))
          go_roundw
          case rel =>
            have h1 := HT.out
            rw [HON.out, Bool.true_and, if_pos rfl] at h1
            exact ⟨k + 1, by omega, hlt, by go_num, ⟨h1⟩, HB4⟩
          case measure => simp [intOf]; omega
        | false =>
          rw [hq] at HON
          have hq2 : (b1 != b2) = true := by simp at hq; simp [hq]
          go_wp2_with (first | (go_at_call 67; ((with_reducible refine HX.out.mono ?_); rintro e w1 ⟨rfl, rfl⟩)) | (go_at_call 68; ((with_reducible refine HY.out.mono ?_); rintro e w3 ⟨rfl, hb3⟩; have Hb3 := Aside0.mk hb3; have HB3 := Aside0.mk (below_step HB.out hb3); clear hb3)) | (go_at_call 68; ((with_reducible refine (HZ.out _ Hb3.out).mono ?_); rintro e w4 ⟨rfl, hb4⟩; have HB4 := Aside0.mk (below_step HB3.out hb4); clear hb4)))
          go_ret
          have h1 := HT.out
          rw [HON.out, Bool.true_and, if_neg (by simp)] at h1
          exact ⟨ret_n h1, HB4.out⟩
    · have hd : decide (k < l.length) = false := by simpa using hlt
      have HH : Aside0 (k = l.length) := ⟨by omega⟩
      go_wp2
      go_ret
      have h1 := HG.out
      have h2 := HH.out
      subst h2
      rw [Nat.sub_self] at h1
      exact ⟨ret_n h1, HB.out⟩
end Go.Proofs.YtocjbedacnlaaaaGreatDoor.Q
/- The iterator over the events that go on. The walk. No conditions. -/
namespace Go.Proofs.YtocjbedacnlaaaaGreatDoor.Q
open Go.RowKit Go.Shelf Go.Proofs.YtocjbedacnlaaaaGreatDoorW.PrintWords Go.Proofs.YtocjbedacnlaaaaGreatDoorW.PrintLast Go.Proofs.YtocjbedacnlaaaaGreatDoorW.PrintMore
attribute [local go_sem] Oper.semAt_some max2_int max_two
set_option linter.unusedVariables false
set_option linter.unusedSimpArgs false
theorem noGoto_n (Q : Exit → Act → World → Prop) (a : Act) (w : World) : Exit.noGoto Q .normal a w = Q .normal a w := rfl
/-- The groups from an event on: those of two events or more. -/
def grpG (l : List S41) (bs ss : List S72) : Nat → Nat → List (Nat × Nat)
  | 0, _ => []
  | d + 1, i => if i < l.length then (if i + 1 < endN l bs ss i then [(i, endN l bs ss i)] else []) ++ grpG l bs ss d (max (endN l bs ss i) (i + 1)) else []
def grpL (l : List S41) (bs ss : List S72) : List (Nat × Nat) := grpG l bs ss l.length 0
/-- A group: two events or more. -/
abbrev Gr (n : Nat) : Type := {x : Nat × Nat // x.1 + 1 < x.2 ∧ x.2 ≤ n}
abbrev encG {n : Nat} (x : Gr n) : Array Value := #[.int .i64 (x.1.1 : Int), .int .i64 (x.1.2 : Int)]
set_option maxHeartbeats 1000000 in
set_option maxRecDepth 100000 in
theorem groups_call (g : Nat) (w : World) : Calls Tryz.prog 29 #[.pointer (some ⟨g, 0, none⟩)] w fun e w' => e = .returned (.func (.func 49) #[] #[.pointer (some ⟨w.heap.size, 0, none⟩)]) ∧ w' = w.alloc (.cells #[.pointer (some ⟨g, 0, none⟩)] 62) := by
  go_enter Tryz.func29, Tryz.ntmps29
  go_wp2
  go_ret
  exact ⟨rfl, rfl⟩
set_option maxHeartbeats 4000000 in
set_option maxRecDepth 100000 in
theorem groups_stops (n : Nat) (hn : 1 ≤ n) (Bm g : Nat) (l : List S41) (bs ss : List S72) (w : World) (Kp : World → World → Prop) (hKt : ∀ {X Y Z : World}, Kp X Y → Kp Y Z → Kp X Z) (hKa : ∀ {X Y : World}, Below X.heap.size X Y → Kp X Y)
    (hD : ∀ Y, Kp w Y → Y.heap[Bm]? = some (.cells #[.pointer (some ⟨g, 0, none⟩)] 62 (0, 0)) ∧ Beamer Y g l bs ss)
    (hl : l.length ≤ 1000000) (hs : ss.length = l.length) (hbs : bs.length ≤ 1000000) :
    SeqStopsK Fence.wide n Tryz.prog 49 #[.pointer (some ⟨Bm, 0, none⟩)] (encG (n := l.length)) Kp (fun xs => xs.map Subtype.val = grpL l bs ss) (fun pre => True) l.length w := by
  intro L J Jx W hW hJ hJx hY h0
  have hu90 := Tryz.underlying90
  have hu32 := Tryz.underlying32
  have HD := Aside0.mk hD
  have HY := Aside0.mk hY
  have HJ := Aside0.mk hJ
  have KW : Aside0 (Kp w W) := ⟨hKa hW⟩
  clear hD hY
  refine callsIn_of_wp Tryz.func49 rfl trivial ?_ rfl
  simp only [Tryz.ntmps49, List.size_toArray, List.length_cons, List.length_nil, Nat.reduceAdd, Nat.reduceSub, Array.replicate_succ, Array.replicate_zero, List.push_toArray, List.append_toArray, List.nil_append, List.cons_append]
  refine wpIn_scope_ ?_
  gi_wp2
  refine wpIn_label ?_
  gi_wp2
  gi_loopw [3] (fun i wr => ∃ (k d : Nat) (pre : List (Gr l.length)), k ≤ l.length ∧ i = .int .i64 k ∧ pre.length ≤ k ∧ l.length - k ≤ d ∧ Aside0 (pre.map Subtype.val ++ grpG l bs ss d k = grpL l bs ss) ∧ J pre wr ∧ Aside0 (Kp w wr)) (fun i _ => l.length - (intOf i).toNat)
  case atStart => exact ⟨0, l.length, [], Nat.zero_le _, rfl, Nat.le_refl _, by omega, ⟨rfl⟩, h0, KW⟩
  case round =>
    obtain ⟨k, d, pre, hk, rfl, hpl, hdl, HG, hJs, HK⟩ := hrel
    obtain ⟨hbm, hM⟩ := HD.out wr HK.out
    have HM := Aside0.mk hM
    obtain ⟨A0, c0, Ab, cb, As, cs, h1, _⟩ := hM
    have m0 : wr.cell? ⟨Bm, 0, none⟩ = some (.pointer (some ⟨g, 0, none⟩)) := (blk_cell hbm 0).trans rfl
    have m1 : wr.cell? ⟨g, 0, none⟩ = some (.slice A0 l.length c0) := (blk_cell h1 0).trans rfl
    clear h1 hbm
    by_cases hlt : k < l.length
    · have hd : decide (k < l.length) = true := by simpa using hlt
      obtain ⟨d, rfl⟩ : ∃ d', d = d' + 1 := ⟨d - 1, by omega⟩
      obtain ⟨k1, hk1⟩ : ∃ k1 : Nat, k1 = k + 1 := ⟨_, rfl⟩
      have w2 : IntKind.i64.wrap ((k : Int) + 1) = (k1 : Int) := by rw [IntKind.wrap_i64]; omega
      have HE := Aside0.mk (end_calls g l bs ss k wr HM.out hlt hl hs hbs)
      have hb := endN_bd (l := l) (bs := bs) (ss := ss) (f := k) (by omega)
      have hst : grpG l bs ss (d + 1) k = (if k1 < endN l bs ss k then [(k, endN l bs ss k)] else []) ++ grpG l bs ss d (max (endN l bs ss k) k1) := by
        subst hk1
        show (if k < l.length then _ else _) = _
        rw [if_pos hlt]
      have HST := Aside0.mk hst
      generalize endN l bs ss k = TT at HE hb HST
      have HK1 := Aside0.mk hk1
      have hkk : k1 ≤ l.length := by omega
      have hkd : l.length - k1 ≤ d := by omega
      clear hst hk1
      gi_wp2
      refine ⟨trivial, ?_⟩
      refine (callsIn_wide.2 HE.out).mono ?_
      rintro e w3 ⟨rfl, hb3⟩
      have HK3 : Aside0 (Kp w w3) := ⟨hKt HK.out (hKa hb3)⟩
      have hJ3 : J pre w3 := HJ.out _ wr _ none hJs (grown_of_below hb3 none) (by simp)
      clear m0 m1 hb3
      by_cases hto : k1 < TT
      · have hto1 : decide (k1 < TT) = true := by simpa using hto
        have hto2 : decide ((k1 : Int) < (TT : Int)) = true := by simp; omega
        have hto3 : ¬ ((TT : Int) < (k1 : Int)) := by omega
        have hto4 : ¬ (TT < k1) := by omega
        obtain ⟨fn, tmps, assign, body, hy, hRR⟩ := HY.out pre ⟨(k, TT), by have := HK1.out; exact ⟨by omega, by omega⟩⟩ w3 hJ3 (by omega)
        dsimp only [encG] at hy
        gi_wp2
        refine hRR.mono ?_
        rintro e w5 (⟨rfl, hJ5, hk5⟩ | ⟨rfl, hJx5⟩)
        · gi_wp2
          go_roundw
          case rel =>
            have e1 := HK1.out
            refine ⟨TT, d, pre ++ [⟨(k, TT), by have := HK1.out; exact ⟨by omega, by omega⟩⟩], by omega, (by first | rfl | (congr 1; omega)), by simp; omega, by omega, ⟨?_⟩, hJ5, ⟨hKt HK3.out hk5⟩⟩
            have h1 := HG.out
            rw [HST.out, if_pos hto, show max TT k1 = TT by omega] at h1
            rw [← h1]; simp
          case measure => have := HK1.out; simp [intOf]; omega
        · gi_wp2
          rw [noGoto_n]
          go_end0
          exact ⟨⟨_, rfl⟩, .inr ⟨_, trivial, hJx5⟩⟩
      · have hto1 : decide (k1 < TT) = false := by simpa using hto
        have hto2 : decide ((k1 : Int) < (TT : Int)) = false := by simp; omega
        have hto5 : max (TT : Int) (k1 : Int) = (k1 : Int) := by omega
        have HTO := Aside0.mk hto
        by_cases htk : TT < k1
        · have hto6 : (TT : Int) < (k1 : Int) := by omega
          gi_wp2
          refine ⟨fun _ h => (by cases h), ?_⟩
          gi_wp2
          go_roundw
          case rel =>
            have e1 := HK1.out
            refine ⟨k1, d, pre, hkk, rfl, by omega, hkd, ⟨?_⟩, hJ3, HK3⟩
            have h1 := HG.out
            rw [HST.out, if_neg HTO.out, List.nil_append, show max TT k1 = k1 by have := HTO.out; omega] at h1
            exact h1
          case measure => have := HK1.out; simp [intOf]; omega
        · obtain rfl : TT = k1 := by omega
          gi_wp2
          refine ⟨fun _ h => (by cases h), ?_⟩
          gi_wp2
          go_roundw
          case rel =>
            have e1 := HK1.out
            refine ⟨TT, d, pre, hkk, by first | rfl | simp, by omega, hkd, ⟨?_⟩, hJ3, HK3⟩
            have h1 := HG.out
            rw [HST.out, if_neg HTO.out, List.nil_append, show max TT TT = TT by omega] at h1
            exact h1
          case measure => have := HK1.out; simp [intOf]; omega
    · have hd : decide (k < l.length) = false := by simpa using hlt
      have HH : Aside0 (l.length ≤ k) := ⟨by omega⟩
      gi_wp2
      rw [noGoto_n]
      go_end0
      refine ⟨⟨_, rfl⟩, .inl ⟨_, ?_, hJs⟩⟩
      have h1 := HG.out
      have h2 := HH.out
      rw [show grpG l bs ss d k = [] from by cases d with | zero => rfl | succ d => show (if k < l.length then _ else _) = _; rw [if_neg (by omega)], List.append_nil] at h1
      exact h1
end Go.Proofs.YtocjbedacnlaaaaGreatDoor.Q
/- A voice's beamer is made: the walk. No conditions. -/
namespace Go.Proofs.YtocjbedacnlaaaaGreatDoor.Q
open Go.RowKit Go.Shelf Go.Proofs.YtocjbedacnlaaaaGreatDoorW.PrintWords
set_option linter.unusedVariables false
set_option linter.unusedSimpArgs false
theorem C_two {W : World} {b : Nat} {x y : Int} {t : TypeId} (h : W.heap[b]? = some (.cells #[.int .i64 x, .int .i64 y] t (0, 0))) : Kd.C (Kd.int .i64) W (some ⟨b, 0, none⟩) [x, y].length [x, y] := by
  refine Kd.C_of_reads (enc := Value.int .i64) (d := (0 : Int)) (h1 := fun _ => rfl) ⟨rfl, by simp, fun _ => ⟨_, rfl, fun j hj => ?_⟩⟩
  simp only [List.length_cons, List.length_nil] at hj
  rw [Addr.add_mid, Nat.zero_add]
  match j, hj with
  | 0, _ => exact (blk_cell h 0).trans rfl
  | 1, _ => exact (blk_cell h 1).trans rfl
theorem wrap01 : wrap64 (0 + 1) = 1 ∧ wrap64 (1 + 1) = 2 := by unfold wrap64; omega
def unlE (x y : Int) : Option Int := if x = 0 then (if y = 0 then none else some y) else some x
theorem unless_f (k : Nat) (x y : Int) : beam_unless.f (k + 3) [x, y] = some (unlE x y) := by
  unfold beam_unless.f unlE
  unfold beam_unless.l0
  rw [if_pos (by simp), if_pos (by simp), if_pos (by simp)]
  by_cases h : x = 0
  · rw [if_pos (by simp [rd, h]), if_pos h, wrap01.1]
    unfold beam_unless.l0
    rw [if_pos (by simp), if_pos (by simp), if_pos (by simp)]
    by_cases h2 : y = 0
    · rw [if_pos (by simp [rd, h2]), if_pos h2, wrap01.2]
      unfold beam_unless.l0
      rw [if_neg (by simp)]
    · rw [if_neg (by simp [rd, h2]), if_neg h2]; rfl
  · rw [if_neg (by simp [rd, h]), if_neg h]; rfl
theorem unless_calls (x y : Int) (b : Nat) (W : World) (h : W.heap[b]? = some (.cells #[.int .i64 x, .int .i64 y] 24 (0, 0))) :
    Calls Tryz.prog 46 #[.slice (some ⟨b, 0, none⟩) 2 2] W fun e W' => e = .returned (errW (unlE x y)) ∧ Below W.heap.size W W' := by
  refine (beam_unless.calls 3 (some ⟨b, 0, none⟩) 2 [x, y] _ W (C_two h) (by simp) (unless_f 0 x y)).mono ?_
  rintro e w' ⟨rfl, ⟨n, rfl⟩⟩
  exact ⟨rfl, pw_below_drewN (Below.refl _ _) _⟩
set_option maxHeartbeats 4000000 in
set_option maxRecDepth 100000 in
theorem of_1 (num den : Int) (Ag : Option Addr) (cg ng : Nat) (A0 : Option Addr) (c0 : Nat) (l : List S41) (bs ss : List S72) (e1 e2 : Int) (t1 t2 t3 m1 m2 m3 c : Int) (w : World) (hl : Kd.C k41 w A0 l.length l)
    (hB : ∀ W, Below w.heap.size w W → Calls Tryz.prog 18 #[.agg #[.int .i64 num, .int .i64 den, .slice Ag ng cg]] W fun e W' => ∃ v0_ : Value, e = .returned (.tuple #[v0_, .int .i64 e1]) ∧ Kd.R k72 72 W' W.heap.size (fun _ => True) v0_ bs ∧ Below W.heap.size W W')
    (hS : ∀ W, Below w.heap.size w W → Calls Tryz.prog 19 #[.agg #[.slice A0 l.length c0]] W fun e W' => ∃ v0_ : Value, e = .returned (.tuple #[v0_, .int .i64 e2]) ∧ Kd.R k72 72 W' W.heap.size (fun _ => True) v0_ ss ∧ Below W.heap.size W W')
    (hc : e1 ≠ 0) :
    Calls Tryz.prog 27 #[.agg #[.int .i64 num, .int .i64 den, .slice Ag ng cg], .agg #[.slice A0 l.length c0]] w fun e w' => e = .returned (.tuple #[.pointer none, .iface 60 (.agg #[.int .i64 e1])]) ∧ Below w.heap.size w w' := by
  have hu29 := Tryz.underlying29
  have hu32 := Tryz.underlying32
  have hu60 := Tryz.underlying60
  have hu64 := Tryz.underlying64
  have hu72 := Tryz.underlying72
  have hu90 := Tryz.underlying90
  have hu112 := Tryz.underlying112
  have HB := Aside0.mk hB
  have HS := Aside0.mk hS
  have HL0 := Aside0.mk hl
  have HB0 := Aside0.mk (below_alloc (below_alloc (Below.refl w.heap.size w) (.cells #[.int .i64 num, .int .i64 den, .slice Ag ng cg] 29)) (.cells #[.slice A0 l.length c0] 32))
  have HM0 := Aside0.mk (blk_alloc (blk_new w (.cells #[.int .i64 num, .int .i64 den, .slice Ag ng cg] 29)) (.cells #[.slice A0 l.length c0] 32))
  have hv0 := blk_new (w.alloc (.cells #[.int .i64 num, .int .i64 den, .slice Ag ng cg] 29)) (.cells #[.slice A0 l.length c0] 32)
  rw [World.size_alloc] at hv0
  have HV0 := Aside0.mk hv0
  have HUN := Aside0.mk (fun b W h => unless_calls e1 e2 b W h)
  rw [show unlE e1 e2 = some e1 from by unfold unlE; rw [if_neg hc], errW_some] at HUN
  clear hv0 hB hS hl hc
  go_enter Tryz.func27, Tryz.ntmps27
  go_wp2_with (first
    | (go_at_call 18; ((with_reducible refine (HB.out _ HB0.out).mono ?_); rintro e w1 ⟨vb, rfl, hRb, hb1⟩; obtain ⟨Ab, cb, rfl⟩ := Kd.R_slice hRb; have HRb := Aside0.mk (Kd.R_reads' hRb).2.2; have HM1 := Aside0.mk (blk_below HM0.out hb1); have HV1 := Aside0.mk (blk_below HV0.out hb1); have HB1 := Aside0.mk (below_step HB0.out hb1); have zz1 := HB1.out.size; have a1_0 : w1.cell? ⟨w.heap.size, 0, none⟩ = some (.int .i64 num) := (blk_cell HM1.out 0).trans rfl; have a1_1 : w1.cell? ⟨w.heap.size, 1, none⟩ = some (.int .i64 den) := (blk_cell HM1.out 1).trans rfl; have a1_2 : w1.cell? ⟨w.heap.size, 2, none⟩ = some (.slice Ag ng cg) := (blk_cell HM1.out 2).trans rfl; have b1_0 : w1.cell? ⟨w.heap.size + 1, 0, none⟩ = some (.slice A0 l.length c0) := (blk_cell HV1.out 0).trans rfl; clear hRb hb1))
    | (go_at_call 19; ((with_reducible refine (HS.out _ HB1.out).mono ?_); rintro e w2 ⟨vs, rfl, hRs, hb2⟩; obtain ⟨As, cs, rfl⟩ := Kd.R_slice hRs; have HRs := Aside0.mk (Kd.R_reads' hRs).2.2; have HRb2 := Aside0.mk (Kd.C_below HRb.out hb2); have HM2 := Aside0.mk (blk_below HM1.out hb2); have HV2 := Aside0.mk (blk_below HV1.out hb2); have HB2 := Aside0.mk (below_step HB1.out hb2); have zz2 := HB2.out.size; have a2_0 : w2.cell? ⟨w.heap.size, 0, none⟩ = some (.int .i64 num) := (blk_cell HM2.out 0).trans rfl; have a2_1 : w2.cell? ⟨w.heap.size, 1, none⟩ = some (.int .i64 den) := (blk_cell HM2.out 1).trans rfl; have a2_2 : w2.cell? ⟨w.heap.size, 2, none⟩ = some (.slice Ag ng cg) := (blk_cell HM2.out 2).trans rfl; have b2_0 : w2.cell? ⟨w.heap.size + 1, 0, none⟩ = some (.slice A0 l.length c0) := (blk_cell HV2.out 0).trans rfl; clear hRs hb2 a1_0 a1_1 a1_2 b1_0 zz1; have HN2 := Aside0.mk (blk_new w2 (.cells #[.int .i64 e1, .int .i64 e2] 24)); have HB2' := Aside0.mk (below_alloc HB2.out (.cells #[.int .i64 e1, .int .i64 e2] 24)); have HM2' := Aside0.mk (blk_alloc HM2.out (.cells #[.int .i64 e1, .int .i64 e2] 24)); have HV2' := Aside0.mk (blk_alloc HV2.out (.cells #[.int .i64 e1, .int .i64 e2] 24))))
    | (go_at_call 46; ((with_reducible refine (HUN.out _ _ HN2.out).mono ?_); rintro e w3 ⟨rfl, hb3⟩; have HRb3 := Aside0.mk (Kd.C_below (Kd.C_below HRb2.out (below_alloc (Below.refl _ _) (.cells #[.int .i64 e1, .int .i64 e2] 24))) hb3); have HRs3 := Aside0.mk (Kd.C_below (Kd.C_below HRs.out (below_alloc (Below.refl _ _) (.cells #[.int .i64 e1, .int .i64 e2] 24))) hb3); have HM3 := Aside0.mk (blk_below HM2'.out hb3); have HV3 := Aside0.mk (blk_below HV2'.out hb3); have HB3 := Aside0.mk (below_step HB2'.out hb3); have zz3 := HB3.out.size; have a3_0 : w3.cell? ⟨w.heap.size, 0, none⟩ = some (.int .i64 num) := (blk_cell HM3.out 0).trans rfl; have a3_1 : w3.cell? ⟨w.heap.size, 1, none⟩ = some (.int .i64 den) := (blk_cell HM3.out 1).trans rfl; have a3_2 : w3.cell? ⟨w.heap.size, 2, none⟩ = some (.slice Ag ng cg) := (blk_cell HM3.out 2).trans rfl; have b3_0 : w3.cell? ⟨w.heap.size + 1, 0, none⟩ = some (.slice A0 l.length c0) := (blk_cell HV3.out 0).trans rfl; clear hb3 a2_0 a2_1 a2_2 b2_0 zz2)))
  go_ret2
  exact ⟨rfl, HB3.out⟩
set_option maxHeartbeats 4000000 in
set_option maxRecDepth 100000 in
theorem of_2 (num den : Int) (Ag : Option Addr) (cg ng : Nat) (A0 : Option Addr) (c0 : Nat) (l : List S41) (bs ss : List S72) (e2 : Int) (t1 t2 t3 m1 m2 m3 c : Int) (w : World) (hl : Kd.C k41 w A0 l.length l)
    (hB : ∀ W, Below w.heap.size w W → Calls Tryz.prog 18 #[.agg #[.int .i64 num, .int .i64 den, .slice Ag ng cg]] W fun e W' => ∃ v0_ : Value, e = .returned (.tuple #[v0_, .int .i64 0]) ∧ Kd.R k72 72 W' W.heap.size (fun _ => True) v0_ bs ∧ Below W.heap.size W W')
    (hS : ∀ W, Below w.heap.size w W → Calls Tryz.prog 19 #[.agg #[.slice A0 l.length c0]] W fun e W' => ∃ v0_ : Value, e = .returned (.tuple #[v0_, .int .i64 e2]) ∧ Kd.R k72 72 W' W.heap.size (fun _ => True) v0_ ss ∧ Below W.heap.size W W')
    (hc : e2 ≠ 0) :
    Calls Tryz.prog 27 #[.agg #[.int .i64 num, .int .i64 den, .slice Ag ng cg], .agg #[.slice A0 l.length c0]] w fun e w' => e = .returned (.tuple #[.pointer none, .iface 60 (.agg #[.int .i64 e2])]) ∧ Below w.heap.size w w' := by
  have hu29 := Tryz.underlying29
  have hu32 := Tryz.underlying32
  have hu60 := Tryz.underlying60
  have hu64 := Tryz.underlying64
  have hu72 := Tryz.underlying72
  have hu90 := Tryz.underlying90
  have hu112 := Tryz.underlying112
  have HB := Aside0.mk hB
  have HS := Aside0.mk hS
  have HL0 := Aside0.mk hl
  have HB0 := Aside0.mk (below_alloc (below_alloc (Below.refl w.heap.size w) (.cells #[.int .i64 num, .int .i64 den, .slice Ag ng cg] 29)) (.cells #[.slice A0 l.length c0] 32))
  have HM0 := Aside0.mk (blk_alloc (blk_new w (.cells #[.int .i64 num, .int .i64 den, .slice Ag ng cg] 29)) (.cells #[.slice A0 l.length c0] 32))
  have hv0 := blk_new (w.alloc (.cells #[.int .i64 num, .int .i64 den, .slice Ag ng cg] 29)) (.cells #[.slice A0 l.length c0] 32)
  rw [World.size_alloc] at hv0
  have HV0 := Aside0.mk hv0
  have HUN := Aside0.mk (fun b W h => unless_calls 0 e2 b W h)
  rw [show unlE 0 e2 = some e2 from by unfold unlE; rw [if_pos rfl, if_neg hc], errW_some] at HUN
  clear hv0 hB hS hl hc
  go_enter Tryz.func27, Tryz.ntmps27
  go_wp2_with (first
    | (go_at_call 18; ((with_reducible refine (HB.out _ HB0.out).mono ?_); rintro e w1 ⟨vb, rfl, hRb, hb1⟩; obtain ⟨Ab, cb, rfl⟩ := Kd.R_slice hRb; have HRb := Aside0.mk (Kd.R_reads' hRb).2.2; have HM1 := Aside0.mk (blk_below HM0.out hb1); have HV1 := Aside0.mk (blk_below HV0.out hb1); have HB1 := Aside0.mk (below_step HB0.out hb1); have zz1 := HB1.out.size; have a1_0 : w1.cell? ⟨w.heap.size, 0, none⟩ = some (.int .i64 num) := (blk_cell HM1.out 0).trans rfl; have a1_1 : w1.cell? ⟨w.heap.size, 1, none⟩ = some (.int .i64 den) := (blk_cell HM1.out 1).trans rfl; have a1_2 : w1.cell? ⟨w.heap.size, 2, none⟩ = some (.slice Ag ng cg) := (blk_cell HM1.out 2).trans rfl; have b1_0 : w1.cell? ⟨w.heap.size + 1, 0, none⟩ = some (.slice A0 l.length c0) := (blk_cell HV1.out 0).trans rfl; clear hRb hb1))
    | (go_at_call 19; ((with_reducible refine (HS.out _ HB1.out).mono ?_); rintro e w2 ⟨vs, rfl, hRs, hb2⟩; obtain ⟨As, cs, rfl⟩ := Kd.R_slice hRs; have HRs := Aside0.mk (Kd.R_reads' hRs).2.2; have HRb2 := Aside0.mk (Kd.C_below HRb.out hb2); have HM2 := Aside0.mk (blk_below HM1.out hb2); have HV2 := Aside0.mk (blk_below HV1.out hb2); have HB2 := Aside0.mk (below_step HB1.out hb2); have zz2 := HB2.out.size; have a2_0 : w2.cell? ⟨w.heap.size, 0, none⟩ = some (.int .i64 num) := (blk_cell HM2.out 0).trans rfl; have a2_1 : w2.cell? ⟨w.heap.size, 1, none⟩ = some (.int .i64 den) := (blk_cell HM2.out 1).trans rfl; have a2_2 : w2.cell? ⟨w.heap.size, 2, none⟩ = some (.slice Ag ng cg) := (blk_cell HM2.out 2).trans rfl; have b2_0 : w2.cell? ⟨w.heap.size + 1, 0, none⟩ = some (.slice A0 l.length c0) := (blk_cell HV2.out 0).trans rfl; clear hRs hb2 a1_0 a1_1 a1_2 b1_0 zz1; have HN2 := Aside0.mk (blk_new w2 (.cells #[.int .i64 0, .int .i64 e2] 24)); have HB2' := Aside0.mk (below_alloc HB2.out (.cells #[.int .i64 0, .int .i64 e2] 24)); have HM2' := Aside0.mk (blk_alloc HM2.out (.cells #[.int .i64 0, .int .i64 e2] 24)); have HV2' := Aside0.mk (blk_alloc HV2.out (.cells #[.int .i64 0, .int .i64 e2] 24))))
    | (go_at_call 46; ((with_reducible refine (HUN.out _ _ HN2.out).mono ?_); rintro e w3 ⟨rfl, hb3⟩; have HRb3 := Aside0.mk (Kd.C_below (Kd.C_below HRb2.out (below_alloc (Below.refl _ _) (.cells #[.int .i64 0, .int .i64 e2] 24))) hb3); have HRs3 := Aside0.mk (Kd.C_below (Kd.C_below HRs.out (below_alloc (Below.refl _ _) (.cells #[.int .i64 0, .int .i64 e2] 24))) hb3); have HM3 := Aside0.mk (blk_below HM2'.out hb3); have HV3 := Aside0.mk (blk_below HV2'.out hb3); have HB3 := Aside0.mk (below_step HB2'.out hb3); have zz3 := HB3.out.size; have a3_0 : w3.cell? ⟨w.heap.size, 0, none⟩ = some (.int .i64 num) := (blk_cell HM3.out 0).trans rfl; have a3_1 : w3.cell? ⟨w.heap.size, 1, none⟩ = some (.int .i64 den) := (blk_cell HM3.out 1).trans rfl; have a3_2 : w3.cell? ⟨w.heap.size, 2, none⟩ = some (.slice Ag ng cg) := (blk_cell HM3.out 2).trans rfl; have b3_0 : w3.cell? ⟨w.heap.size + 1, 0, none⟩ = some (.slice A0 l.length c0) := (blk_cell HV3.out 0).trans rfl; clear hb3 a2_0 a2_1 a2_2 b2_0 zz2)))
  go_ret2
  exact ⟨rfl, HB3.out⟩
set_option maxHeartbeats 4000000 in
set_option maxRecDepth 100000 in
theorem of_3 (num den : Int) (Ag : Option Addr) (cg ng : Nat) (A0 : Option Addr) (c0 : Nat) (l : List S41) (bs ss : List S72)  (t1 t2 t3 m1 m2 m3 c : Int) (w : World) (hl : Kd.C k41 w A0 l.length l)
    (hB : ∀ W, Below w.heap.size w W → Calls Tryz.prog 18 #[.agg #[.int .i64 num, .int .i64 den, .slice Ag ng cg]] W fun e W' => ∃ v0_ : Value, e = .returned (.tuple #[v0_, .int .i64 0]) ∧ Kd.R k72 72 W' W.heap.size (fun _ => True) v0_ bs ∧ Below W.heap.size W W')
    (hS : ∀ W, Below w.heap.size w W → Calls Tryz.prog 19 #[.agg #[.slice A0 l.length c0]] W fun e W' => ∃ v0_ : Value, e = .returned (.tuple #[v0_, .int .i64 0]) ∧ Kd.R k72 72 W' W.heap.size (fun _ => True) v0_ ss ∧ Below W.heap.size W W')
    (hL : ∀ W, Below w.heap.size w W → Calls Tryz.prog 47 #[.agg #[.slice A0 l.length c0]] W fun e W' => e = .returned (.tuple #[.agg #[.int .i64 t1, .int .i64 t2], .int .i64 t3]) ∧ Below W.heap.size W W')
    (hM : ∀ W, Below w.heap.size w W → Calls Tryz.prog 48 #[.agg #[.int .i64 num, .int .i64 den, .slice Ag ng cg]] W fun e W' => e = .returned (.tuple #[.agg #[.int .i64 m1, .int .i64 m2], .int .i64 m3]) ∧ Below W.heap.size W W')
    (hC : ∀ W, Calls Tryz.prog 42 #[.agg #[.int .i64 t1, .int .i64 t2], .agg #[.int .i64 m1, .int .i64 m2]] W fun e W' => e = .returned (.int .i64 c) ∧ Below W.heap.size W W')
    (hc : 0 < c) :
    Calls Tryz.prog 27 #[.agg #[.int .i64 num, .int .i64 den, .slice Ag ng cg], .agg #[.slice A0 l.length c0]] w fun e w' => e = .returned (.tuple #[.pointer none, .iface 60 (.agg #[.int .i64 230])]) ∧ Below w.heap.size w w' := by
  have hu29 := Tryz.underlying29
  have hu32 := Tryz.underlying32
  have hu60 := Tryz.underlying60
  have hu64 := Tryz.underlying64
  have hu72 := Tryz.underlying72
  have hu90 := Tryz.underlying90
  have hu112 := Tryz.underlying112
  have HB := Aside0.mk hB
  have HS := Aside0.mk hS
  have HL0 := Aside0.mk hl
  have HL := Aside0.mk hL
  have HMM := Aside0.mk hM
  have HC := Aside0.mk hC
  have HB0 := Aside0.mk (below_alloc (below_alloc (Below.refl w.heap.size w) (.cells #[.int .i64 num, .int .i64 den, .slice Ag ng cg] 29)) (.cells #[.slice A0 l.length c0] 32))
  have HM0 := Aside0.mk (blk_alloc (blk_new w (.cells #[.int .i64 num, .int .i64 den, .slice Ag ng cg] 29)) (.cells #[.slice A0 l.length c0] 32))
  have hv0 := blk_new (w.alloc (.cells #[.int .i64 num, .int .i64 den, .slice Ag ng cg] 29)) (.cells #[.slice A0 l.length c0] 32)
  rw [World.size_alloc] at hv0
  have HV0 := Aside0.mk hv0
  have HUN := Aside0.mk (fun b W h => unless_calls 0 0 b W h)
  rw [show unlE 0 0 = none from rfl, errW_none] at HUN
  have hd : decide (0 < c) = true := decide_eq_true hc
  clear hv0 hB hS hl hc hL hM hC
  go_enter Tryz.func27, Tryz.ntmps27
  go_wp2_with (first
    | (go_at_call 18; ((with_reducible refine (HB.out _ HB0.out).mono ?_); rintro e w1 ⟨vb, rfl, hRb, hb1⟩; obtain ⟨Ab, cb, rfl⟩ := Kd.R_slice hRb; have HRb := Aside0.mk (Kd.R_reads' hRb).2.2; have HM1 := Aside0.mk (blk_below HM0.out hb1); have HV1 := Aside0.mk (blk_below HV0.out hb1); have HB1 := Aside0.mk (below_step HB0.out hb1); have zz1 := HB1.out.size; have a1_0 : w1.cell? ⟨w.heap.size, 0, none⟩ = some (.int .i64 num) := (blk_cell HM1.out 0).trans rfl; have a1_1 : w1.cell? ⟨w.heap.size, 1, none⟩ = some (.int .i64 den) := (blk_cell HM1.out 1).trans rfl; have a1_2 : w1.cell? ⟨w.heap.size, 2, none⟩ = some (.slice Ag ng cg) := (blk_cell HM1.out 2).trans rfl; have b1_0 : w1.cell? ⟨w.heap.size + 1, 0, none⟩ = some (.slice A0 l.length c0) := (blk_cell HV1.out 0).trans rfl; clear hRb hb1))
    | (go_at_call 19; ((with_reducible refine (HS.out _ HB1.out).mono ?_); rintro e w2 ⟨vs, rfl, hRs, hb2⟩; obtain ⟨As, cs, rfl⟩ := Kd.R_slice hRs; have HRs := Aside0.mk (Kd.R_reads' hRs).2.2; have HRb2 := Aside0.mk (Kd.C_below HRb.out hb2); have HM2 := Aside0.mk (blk_below HM1.out hb2); have HV2 := Aside0.mk (blk_below HV1.out hb2); have HB2 := Aside0.mk (below_step HB1.out hb2); have zz2 := HB2.out.size; have a2_0 : w2.cell? ⟨w.heap.size, 0, none⟩ = some (.int .i64 num) := (blk_cell HM2.out 0).trans rfl; have a2_1 : w2.cell? ⟨w.heap.size, 1, none⟩ = some (.int .i64 den) := (blk_cell HM2.out 1).trans rfl; have a2_2 : w2.cell? ⟨w.heap.size, 2, none⟩ = some (.slice Ag ng cg) := (blk_cell HM2.out 2).trans rfl; have b2_0 : w2.cell? ⟨w.heap.size + 1, 0, none⟩ = some (.slice A0 l.length c0) := (blk_cell HV2.out 0).trans rfl; clear hRs hb2 a1_0 a1_1 a1_2 b1_0 zz1; have HN2 := Aside0.mk (blk_new w2 (.cells #[.int .i64 0, .int .i64 0] 24)); have HB2' := Aside0.mk (below_alloc HB2.out (.cells #[.int .i64 0, .int .i64 0] 24)); have HM2' := Aside0.mk (blk_alloc HM2.out (.cells #[.int .i64 0, .int .i64 0] 24)); have HV2' := Aside0.mk (blk_alloc HV2.out (.cells #[.int .i64 0, .int .i64 0] 24))))
    | (go_at_call 46; ((with_reducible refine (HUN.out _ _ HN2.out).mono ?_); rintro e w3 ⟨rfl, hb3⟩; have HRb3 := Aside0.mk (Kd.C_below (Kd.C_below HRb2.out (below_alloc (Below.refl _ _) (.cells #[.int .i64 0, .int .i64 0] 24))) hb3); have HRs3 := Aside0.mk (Kd.C_below (Kd.C_below HRs.out (below_alloc (Below.refl _ _) (.cells #[.int .i64 0, .int .i64 0] 24))) hb3); have HM3 := Aside0.mk (blk_below HM2'.out hb3); have HV3 := Aside0.mk (blk_below HV2'.out hb3); have HB3 := Aside0.mk (below_step HB2'.out hb3); have zz3 := HB3.out.size; have a3_0 : w3.cell? ⟨w.heap.size, 0, none⟩ = some (.int .i64 num) := (blk_cell HM3.out 0).trans rfl; have a3_1 : w3.cell? ⟨w.heap.size, 1, none⟩ = some (.int .i64 den) := (blk_cell HM3.out 1).trans rfl; have a3_2 : w3.cell? ⟨w.heap.size, 2, none⟩ = some (.slice Ag ng cg) := (blk_cell HM3.out 2).trans rfl; have b3_0 : w3.cell? ⟨w.heap.size + 1, 0, none⟩ = some (.slice A0 l.length c0) := (blk_cell HV3.out 0).trans rfl; clear hb3 a2_0 a2_1 a2_2 b2_0 zz2))
    | (go_at_call 47; ((with_reducible refine (HL.out _ HB3.out).mono ?_); rintro e w4 ⟨rfl, hb4⟩; have HRb4 := Aside0.mk (Kd.C_below HRb3.out hb4); have HRs4 := Aside0.mk (Kd.C_below HRs3.out hb4); have HM4 := Aside0.mk (blk_below HM3.out hb4); have HV4 := Aside0.mk (blk_below HV3.out hb4); have HB4 := Aside0.mk (below_step HB3.out hb4); have zz4 := HB4.out.size; have a4_0 : w4.cell? ⟨w.heap.size, 0, none⟩ = some (.int .i64 num) := (blk_cell HM4.out 0).trans rfl; have a4_1 : w4.cell? ⟨w.heap.size, 1, none⟩ = some (.int .i64 den) := (blk_cell HM4.out 1).trans rfl; have a4_2 : w4.cell? ⟨w.heap.size, 2, none⟩ = some (.slice Ag ng cg) := (blk_cell HM4.out 2).trans rfl; have b4_0 : w4.cell? ⟨w.heap.size + 1, 0, none⟩ = some (.slice A0 l.length c0) := (blk_cell HV4.out 0).trans rfl; clear hb4 a3_0 a3_1 a3_2 b3_0 zz3; have HN4 := Aside0.mk (blk_new w4 (.cells #[.int .i64 t1, .int .i64 t2] 72)); have HB4' := Aside0.mk (below_alloc HB4.out (.cells #[.int .i64 t1, .int .i64 t2] 72)); have HM4' := Aside0.mk (blk_alloc HM4.out (.cells #[.int .i64 t1, .int .i64 t2] 72)); have HV4' := Aside0.mk (blk_alloc HV4.out (.cells #[.int .i64 t1, .int .i64 t2] 72)); have yy1 : w.heap.size < w4.heap.size := (blk_lt HM4.out); have yy2 : w.heap.size + 1 < w4.heap.size := (blk_lt HV4.out)))
    | (go_at_call 48; ((with_reducible refine (HMM.out _ HB4'.out).mono ?_); rintro e w5 ⟨rfl, hb5⟩; have HRb5 := Aside0.mk (Kd.C_below (Kd.C_below HRb4.out (below_alloc (Below.refl _ _) (.cells #[.int .i64 t1, .int .i64 t2] 72))) hb5); have HRs5 := Aside0.mk (Kd.C_below (Kd.C_below HRs4.out (below_alloc (Below.refl _ _) (.cells #[.int .i64 t1, .int .i64 t2] 72))) hb5); have HN5 := Aside0.mk (blk_below HN4.out hb5); have n5_0 : w5.cell? ⟨w4.heap.size, 0, none⟩ = some (.int .i64 t1) := (blk_cell HN5.out 0).trans rfl; have n5_1 : w5.cell? ⟨w4.heap.size, 1, none⟩ = some (.int .i64 t2) := (blk_cell HN5.out 1).trans rfl; have yy3 : w4.heap.size < w5.heap.size := (blk_lt HN5.out); have HM5 := Aside0.mk (blk_below HM4'.out hb5); have HV5 := Aside0.mk (blk_below HV4'.out hb5); have HB5 := Aside0.mk (below_step HB4'.out hb5); have zz5 := HB5.out.size; have a5_0 : w5.cell? ⟨w.heap.size, 0, none⟩ = some (.int .i64 num) := (blk_cell HM5.out 0).trans rfl; have a5_1 : w5.cell? ⟨w.heap.size, 1, none⟩ = some (.int .i64 den) := (blk_cell HM5.out 1).trans rfl; have a5_2 : w5.cell? ⟨w.heap.size, 2, none⟩ = some (.slice Ag ng cg) := (blk_cell HM5.out 2).trans rfl; have b5_0 : w5.cell? ⟨w.heap.size + 1, 0, none⟩ = some (.slice A0 l.length c0) := (blk_cell HV5.out 0).trans rfl; clear hb5 a4_0 a4_1 a4_2 b4_0 zz4; have HB5' := Aside0.mk (below_alloc HB5.out (.cells #[.int .i64 m1, .int .i64 m2] 72)); have HM5' := Aside0.mk (blk_alloc HM5.out (.cells #[.int .i64 m1, .int .i64 m2] 72)); have HV5' := Aside0.mk (blk_alloc HV5.out (.cells #[.int .i64 m1, .int .i64 m2] 72))))
    | (go_at_call 42; ((with_reducible refine (HC.out _).mono ?_); rintro e w6 ⟨rfl, hb6⟩; have HRb6 := Aside0.mk (Kd.C_below (Kd.C_below HRb5.out (below_alloc (Below.refl _ _) (.cells #[.int .i64 m1, .int .i64 m2] 72))) hb6); have HRs6 := Aside0.mk (Kd.C_below (Kd.C_below HRs5.out (below_alloc (Below.refl _ _) (.cells #[.int .i64 m1, .int .i64 m2] 72))) hb6); have HM6 := Aside0.mk (blk_below HM5'.out hb6); have HV6 := Aside0.mk (blk_below HV5'.out hb6); have HB6 := Aside0.mk (below_step HB5'.out hb6); have zz6 := HB6.out.size; have a6_0 : w6.cell? ⟨w.heap.size, 0, none⟩ = some (.int .i64 num) := (blk_cell HM6.out 0).trans rfl; have a6_1 : w6.cell? ⟨w.heap.size, 1, none⟩ = some (.int .i64 den) := (blk_cell HM6.out 1).trans rfl; have a6_2 : w6.cell? ⟨w.heap.size, 2, none⟩ = some (.slice Ag ng cg) := (blk_cell HM6.out 2).trans rfl; have b6_0 : w6.cell? ⟨w.heap.size + 1, 0, none⟩ = some (.slice A0 l.length c0) := (blk_cell HV6.out 0).trans rfl; clear hb6 a5_0 a5_1 a5_2 b5_0 zz5 n5_0 n5_1)))
  go_ret2
  exact ⟨rfl, HB6.out⟩
set_option maxHeartbeats 4000000 in
set_option maxRecDepth 100000 in
theorem of_4 (num den : Int) (Ag : Option Addr) (cg ng : Nat) (A0 : Option Addr) (c0 : Nat) (l : List S41) (bs ss : List S72)  (t1 t2 t3 m1 m2 m3 c : Int) (w : World) (hl : Kd.C k41 w A0 l.length l)
    (hB : ∀ W, Below w.heap.size w W → Calls Tryz.prog 18 #[.agg #[.int .i64 num, .int .i64 den, .slice Ag ng cg]] W fun e W' => ∃ v0_ : Value, e = .returned (.tuple #[v0_, .int .i64 0]) ∧ Kd.R k72 72 W' W.heap.size (fun _ => True) v0_ bs ∧ Below W.heap.size W W')
    (hS : ∀ W, Below w.heap.size w W → Calls Tryz.prog 19 #[.agg #[.slice A0 l.length c0]] W fun e W' => ∃ v0_ : Value, e = .returned (.tuple #[v0_, .int .i64 0]) ∧ Kd.R k72 72 W' W.heap.size (fun _ => True) v0_ ss ∧ Below W.heap.size W W')
    (hL : ∀ W, Below w.heap.size w W → Calls Tryz.prog 47 #[.agg #[.slice A0 l.length c0]] W fun e W' => e = .returned (.tuple #[.agg #[.int .i64 t1, .int .i64 t2], .int .i64 t3]) ∧ Below W.heap.size W W')
    (hM : ∀ W, Below w.heap.size w W → Calls Tryz.prog 48 #[.agg #[.int .i64 num, .int .i64 den, .slice Ag ng cg]] W fun e W' => e = .returned (.tuple #[.agg #[.int .i64 m1, .int .i64 m2], .int .i64 m3]) ∧ Below W.heap.size W W')
    (hC : ∀ W, Calls Tryz.prog 42 #[.agg #[.int .i64 t1, .int .i64 t2], .agg #[.int .i64 m1, .int .i64 m2]] W fun e W' => e = .returned (.int .i64 c) ∧ Below W.heap.size W W')
    (hc : ¬ 0 < c) :
    Calls Tryz.prog 27 #[.agg #[.int .i64 num, .int .i64 den, .slice Ag ng cg], .agg #[.slice A0 l.length c0]] w fun e w' => ∃ g, e = .returned (.tuple #[.pointer (some ⟨g, 0, none⟩), .nilIface]) ∧ w.heap.size ≤ g ∧ Beamer w' g l bs ss ∧ Below w.heap.size w w' := by
  have hu29 := Tryz.underlying29
  have hu32 := Tryz.underlying32
  have hu60 := Tryz.underlying60
  have hu64 := Tryz.underlying64
  have hu72 := Tryz.underlying72
  have hu90 := Tryz.underlying90
  have hu112 := Tryz.underlying112
  have HB := Aside0.mk hB
  have HS := Aside0.mk hS
  have HL0 := Aside0.mk hl
  have HL := Aside0.mk hL
  have HMM := Aside0.mk hM
  have HC := Aside0.mk hC
  have HB0 := Aside0.mk (below_alloc (below_alloc (Below.refl w.heap.size w) (.cells #[.int .i64 num, .int .i64 den, .slice Ag ng cg] 29)) (.cells #[.slice A0 l.length c0] 32))
  have HM0 := Aside0.mk (blk_alloc (blk_new w (.cells #[.int .i64 num, .int .i64 den, .slice Ag ng cg] 29)) (.cells #[.slice A0 l.length c0] 32))
  have hv0 := blk_new (w.alloc (.cells #[.int .i64 num, .int .i64 den, .slice Ag ng cg] 29)) (.cells #[.slice A0 l.length c0] 32)
  rw [World.size_alloc] at hv0
  have HV0 := Aside0.mk hv0
  have HUN := Aside0.mk (fun b W h => unless_calls 0 0 b W h)
  rw [show unlE 0 0 = none from rfl, errW_none] at HUN
  have hd : decide (0 < c) = false := decide_eq_false hc
  clear hv0 hB hS hl hc hL hM hC
  go_enter Tryz.func27, Tryz.ntmps27
  go_wp2_with (first
    | (go_at_call 18; ((with_reducible refine (HB.out _ HB0.out).mono ?_); rintro e w1 ⟨vb, rfl, hRb, hb1⟩; obtain ⟨Ab, cb, rfl⟩ := Kd.R_slice hRb; have HRb := Aside0.mk (Kd.R_reads' hRb).2.2; have HM1 := Aside0.mk (blk_below HM0.out hb1); have HV1 := Aside0.mk (blk_below HV0.out hb1); have HB1 := Aside0.mk (below_step HB0.out hb1); have zz1 := HB1.out.size; have a1_0 : w1.cell? ⟨w.heap.size, 0, none⟩ = some (.int .i64 num) := (blk_cell HM1.out 0).trans rfl; have a1_1 : w1.cell? ⟨w.heap.size, 1, none⟩ = some (.int .i64 den) := (blk_cell HM1.out 1).trans rfl; have a1_2 : w1.cell? ⟨w.heap.size, 2, none⟩ = some (.slice Ag ng cg) := (blk_cell HM1.out 2).trans rfl; have b1_0 : w1.cell? ⟨w.heap.size + 1, 0, none⟩ = some (.slice A0 l.length c0) := (blk_cell HV1.out 0).trans rfl; clear hRb hb1))
    | (go_at_call 19; ((with_reducible refine (HS.out _ HB1.out).mono ?_); rintro e w2 ⟨vs, rfl, hRs, hb2⟩; obtain ⟨As, cs, rfl⟩ := Kd.R_slice hRs; have HRs := Aside0.mk (Kd.R_reads' hRs).2.2; have HRb2 := Aside0.mk (Kd.C_below HRb.out hb2); have HM2 := Aside0.mk (blk_below HM1.out hb2); have HV2 := Aside0.mk (blk_below HV1.out hb2); have HB2 := Aside0.mk (below_step HB1.out hb2); have zz2 := HB2.out.size; have a2_0 : w2.cell? ⟨w.heap.size, 0, none⟩ = some (.int .i64 num) := (blk_cell HM2.out 0).trans rfl; have a2_1 : w2.cell? ⟨w.heap.size, 1, none⟩ = some (.int .i64 den) := (blk_cell HM2.out 1).trans rfl; have a2_2 : w2.cell? ⟨w.heap.size, 2, none⟩ = some (.slice Ag ng cg) := (blk_cell HM2.out 2).trans rfl; have b2_0 : w2.cell? ⟨w.heap.size + 1, 0, none⟩ = some (.slice A0 l.length c0) := (blk_cell HV2.out 0).trans rfl; clear hRs hb2 a1_0 a1_1 a1_2 b1_0 zz1; have HN2 := Aside0.mk (blk_new w2 (.cells #[.int .i64 0, .int .i64 0] 24)); have HB2' := Aside0.mk (below_alloc HB2.out (.cells #[.int .i64 0, .int .i64 0] 24)); have HM2' := Aside0.mk (blk_alloc HM2.out (.cells #[.int .i64 0, .int .i64 0] 24)); have HV2' := Aside0.mk (blk_alloc HV2.out (.cells #[.int .i64 0, .int .i64 0] 24))))
    | (go_at_call 46; ((with_reducible refine (HUN.out _ _ HN2.out).mono ?_); rintro e w3 ⟨rfl, hb3⟩; have HRb3 := Aside0.mk (Kd.C_below (Kd.C_below HRb2.out (below_alloc (Below.refl _ _) (.cells #[.int .i64 0, .int .i64 0] 24))) hb3); have HRs3 := Aside0.mk (Kd.C_below (Kd.C_below HRs.out (below_alloc (Below.refl _ _) (.cells #[.int .i64 0, .int .i64 0] 24))) hb3); have HM3 := Aside0.mk (blk_below HM2'.out hb3); have HV3 := Aside0.mk (blk_below HV2'.out hb3); have HB3 := Aside0.mk (below_step HB2'.out hb3); have zz3 := HB3.out.size; have a3_0 : w3.cell? ⟨w.heap.size, 0, none⟩ = some (.int .i64 num) := (blk_cell HM3.out 0).trans rfl; have a3_1 : w3.cell? ⟨w.heap.size, 1, none⟩ = some (.int .i64 den) := (blk_cell HM3.out 1).trans rfl; have a3_2 : w3.cell? ⟨w.heap.size, 2, none⟩ = some (.slice Ag ng cg) := (blk_cell HM3.out 2).trans rfl; have b3_0 : w3.cell? ⟨w.heap.size + 1, 0, none⟩ = some (.slice A0 l.length c0) := (blk_cell HV3.out 0).trans rfl; clear hb3 a2_0 a2_1 a2_2 b2_0 zz2))
    | (go_at_call 47; ((with_reducible refine (HL.out _ HB3.out).mono ?_); rintro e w4 ⟨rfl, hb4⟩; have HRb4 := Aside0.mk (Kd.C_below HRb3.out hb4); have HRs4 := Aside0.mk (Kd.C_below HRs3.out hb4); have HM4 := Aside0.mk (blk_below HM3.out hb4); have HV4 := Aside0.mk (blk_below HV3.out hb4); have HB4 := Aside0.mk (below_step HB3.out hb4); have zz4 := HB4.out.size; have a4_0 : w4.cell? ⟨w.heap.size, 0, none⟩ = some (.int .i64 num) := (blk_cell HM4.out 0).trans rfl; have a4_1 : w4.cell? ⟨w.heap.size, 1, none⟩ = some (.int .i64 den) := (blk_cell HM4.out 1).trans rfl; have a4_2 : w4.cell? ⟨w.heap.size, 2, none⟩ = some (.slice Ag ng cg) := (blk_cell HM4.out 2).trans rfl; have b4_0 : w4.cell? ⟨w.heap.size + 1, 0, none⟩ = some (.slice A0 l.length c0) := (blk_cell HV4.out 0).trans rfl; clear hb4 a3_0 a3_1 a3_2 b3_0 zz3; have HN4 := Aside0.mk (blk_new w4 (.cells #[.int .i64 t1, .int .i64 t2] 72)); have HB4' := Aside0.mk (below_alloc HB4.out (.cells #[.int .i64 t1, .int .i64 t2] 72)); have HM4' := Aside0.mk (blk_alloc HM4.out (.cells #[.int .i64 t1, .int .i64 t2] 72)); have HV4' := Aside0.mk (blk_alloc HV4.out (.cells #[.int .i64 t1, .int .i64 t2] 72)); have yy1 : w.heap.size < w4.heap.size := (blk_lt HM4.out); have yy2 : w.heap.size + 1 < w4.heap.size := (blk_lt HV4.out)))
    | (go_at_call 48; ((with_reducible refine (HMM.out _ HB4'.out).mono ?_); rintro e w5 ⟨rfl, hb5⟩; have HRb5 := Aside0.mk (Kd.C_below (Kd.C_below HRb4.out (below_alloc (Below.refl _ _) (.cells #[.int .i64 t1, .int .i64 t2] 72))) hb5); have HRs5 := Aside0.mk (Kd.C_below (Kd.C_below HRs4.out (below_alloc (Below.refl _ _) (.cells #[.int .i64 t1, .int .i64 t2] 72))) hb5); have HN5 := Aside0.mk (blk_below HN4.out hb5); have n5_0 : w5.cell? ⟨w4.heap.size, 0, none⟩ = some (.int .i64 t1) := (blk_cell HN5.out 0).trans rfl; have n5_1 : w5.cell? ⟨w4.heap.size, 1, none⟩ = some (.int .i64 t2) := (blk_cell HN5.out 1).trans rfl; have yy3 : w4.heap.size < w5.heap.size := (blk_lt HN5.out); have HM5 := Aside0.mk (blk_below HM4'.out hb5); have HV5 := Aside0.mk (blk_below HV4'.out hb5); have HB5 := Aside0.mk (below_step HB4'.out hb5); have zz5 := HB5.out.size; have a5_0 : w5.cell? ⟨w.heap.size, 0, none⟩ = some (.int .i64 num) := (blk_cell HM5.out 0).trans rfl; have a5_1 : w5.cell? ⟨w.heap.size, 1, none⟩ = some (.int .i64 den) := (blk_cell HM5.out 1).trans rfl; have a5_2 : w5.cell? ⟨w.heap.size, 2, none⟩ = some (.slice Ag ng cg) := (blk_cell HM5.out 2).trans rfl; have b5_0 : w5.cell? ⟨w.heap.size + 1, 0, none⟩ = some (.slice A0 l.length c0) := (blk_cell HV5.out 0).trans rfl; clear hb5 a4_0 a4_1 a4_2 b4_0 zz4; have HB5' := Aside0.mk (below_alloc HB5.out (.cells #[.int .i64 m1, .int .i64 m2] 72)); have HM5' := Aside0.mk (blk_alloc HM5.out (.cells #[.int .i64 m1, .int .i64 m2] 72)); have HV5' := Aside0.mk (blk_alloc HV5.out (.cells #[.int .i64 m1, .int .i64 m2] 72))))
    | (go_at_call 42; ((with_reducible refine (HC.out _).mono ?_); rintro e w6 ⟨rfl, hb6⟩; have HRb6 := Aside0.mk (Kd.C_below (Kd.C_below HRb5.out (below_alloc (Below.refl _ _) (.cells #[.int .i64 m1, .int .i64 m2] 72))) hb6); have HRs6 := Aside0.mk (Kd.C_below (Kd.C_below HRs5.out (below_alloc (Below.refl _ _) (.cells #[.int .i64 m1, .int .i64 m2] 72))) hb6); have HM6 := Aside0.mk (blk_below HM5'.out hb6); have HV6 := Aside0.mk (blk_below HV5'.out hb6); have HB6 := Aside0.mk (below_step HB5'.out hb6); have zz6 := HB6.out.size; have a6_0 : w6.cell? ⟨w.heap.size, 0, none⟩ = some (.int .i64 num) := (blk_cell HM6.out 0).trans rfl; have a6_1 : w6.cell? ⟨w.heap.size, 1, none⟩ = some (.int .i64 den) := (blk_cell HM6.out 1).trans rfl; have a6_2 : w6.cell? ⟨w.heap.size, 2, none⟩ = some (.slice Ag ng cg) := (blk_cell HM6.out 2).trans rfl; have b6_0 : w6.cell? ⟨w.heap.size + 1, 0, none⟩ = some (.slice A0 l.length c0) := (blk_cell HV6.out 0).trans rfl; clear hb6 a5_0 a5_1 a5_2 b5_0 zz5 n5_0 n5_1)))
  go_ret2
  have HB7 := below_alloc (Below.refl w6.heap.size w6) (.cells #[.slice A0 l.length c0, .slice Ab bs.length cb, .slice As ss.length cs] 90)
  exact ⟨w6.heap.size, rfl, HB6.out.size, ⟨A0, c0, Ab, cb, As, cs, blk_new w6 _, Kd.C_below (Kd.C_below HL0.out HB6.out) HB7, Kd.C_below HRb6.out HB7, Kd.C_below HRs6.out HB7⟩, below_step HB6.out HB7⟩
end Go.Proofs.YtocjbedacnlaaaaGreatDoor.Q
/- A voice's beams: the walk. No conditions. -/
namespace Go.Proofs.YtocjbedacnlaaaaGreatDoor.Q
open Go.RowKit Go.Shelf Go.Proofs.YtocjbedacnlaaaaGreatDoorW.PrintWords Go.Proofs.YtocjbedacnlaaaaGreatDoorW.PrintLast
theorem sto_func (P : Program) (w : World) (a : Addr) (m : Mode) (fn : Fn) (x y : Array Value) : (store a (.func fn x y) m).run P w = stored P w a (.func fn x y) m := run_store P w a _ m rfl
attribute [local go_sem] Oper.semAt_some sto_func
set_option linter.unusedVariables false
set_option linter.unusedSimpArgs false
/-- All as it lay, below a place, but for one block. -/
def KG (N0 Bo : Nat) (X Y : World) : Prop := Y.os = X.os ∧ Y.tape = X.tape ∧ Y.output = X.output ∧ X.heap.size ≤ Y.heap.size ∧ ∀ i, i < X.heap.size → i < N0 → i ≠ Bo → Y.heap[i]? = X.heap[i]?
theorem KG.trans {N0 Bo : Nat} {X Y Z : World} (h : KG N0 Bo X Y) (g : KG N0 Bo Y Z) : KG N0 Bo X Z :=
  ⟨g.1.trans h.1, g.2.1.trans h.2.1, g.2.2.1.trans h.2.2.1, Nat.le_trans h.2.2.2.1 g.2.2.2.1, fun i hi h1 h2 => (g.2.2.2.2 i (by have := h.2.2.2.1; omega) h1 h2).trans (h.2.2.2.2 i hi h1 h2)⟩
theorem KG.refl {N0 Bo : Nat} (X : World) : KG N0 Bo X X := ⟨rfl, rfl, rfl, Nat.le_refl _, fun _ _ _ _ => rfl⟩
theorem KG.of_below {N0 Bo : Nat} {X Y : World} (h : Below X.heap.size X Y) : KG N0 Bo X Y := ⟨h.os, h.tape, h.output, h.size, fun i hi _ _ => h.block i hi⟩
theorem KG.of_grown {N0 Bo : Nat} {X Y : World} {row : Option Nat} (h : X.grownBy Y row) (hr : ∀ r, row = some r → N0 ≤ r ∨ r = Bo) : KG N0 Bo X Y :=
  ⟨h.os, h.tape, h.output, h.size, fun i hi h1 h2 => h.block i hi (fun e => by rcases hr i e.symm with h3 | h3 <;> omega)⟩
theorem info49b : (Tryz.prog.info? 49).map (fun i => (i.zero, i.size, i.bytes)) = some (some (.agg #[.int .i64 0, .int .i64 0, .slice none 0 0]), 3, 40) := by kernel_rfl
/-- A group as a beam. -/
def beamS (l : List S41) (x : Nat × Nat) : S49 := ⟨(x.1 : Int), (x.2 : Int) - 1, (List.range (x.2 - x.1)).map fun j => (l.getD (x.1 + j) z41).f3.f0 - 3 + 1⟩
/-- The bars of the first so many events. -/
def lvK (l : List S41) (f k : Nat) : List Int := (List.range (k - f)).map fun j => (l.getD (f + j) z41).f3.f0 - 3 + 1
theorem lvK_succ (l : List S41) (f k : Nat) (h : f ≤ k) : lvK l f (k + 1) = lvK l f k ++ [(l.getD k z41).f3.f0 - 3 + 1] := by
  unfold lvK
  rw [show k + 1 - f = (k - f) + 1 by omega, List.range_succ, List.map_append, List.map_singleton, show f + (k - f) = k by omega]
theorem lvK_len (l : List S41) (f k : Nat) : (lvK l f k).length = k - f := by simp [lvK]
abbrev GroupsPost (w : World) (r1 : List S49) (r2 : Int) : Ending → World → Prop := fun e w' => ∃ v0_ : Value, e = .returned (.tuple #[v0_, .int .i64 r2]) ∧ Kd.S k49 49 w' w.heap.size (fun _ => True) v0_ r1 ∧ Below w.heap.size w w'
theorem ret13 {w X : World} {D : Nat} {r1 : List S49} {r2 : Int} {u : Value} (tmps : Array Value) (h4 : tmps[4]?.getD undef = u) (h5 : tmps[5]?.getD undef = .int .i64 r2) (hD : w.heap.size ≤ D) (hX : X.heap[D]? = some (.deferred (some []))) (hR : Kd.S k49 49 X w.heap.size (fun k => k ≠ D) u r1) (hB : Below w.heap.size w X) :
    bodyPostM Fence.wide 6 Tryz.prog Tryz.f13 (GroupsPost w r1 r2) .ret { tmps := tmps, defers := [{ target := .collected D, args := #[] }] } X := by
  refine ⟨by simp, .inl ⟨_, _, rfl, run_takeDeferred hX, ?_⟩⟩
  refine ⟨.tuple #[u, .int .i64 r2], ?_, _, rfl, Kd.S_mono (Kd.S_move hR (fun k hk => World.putObj_heap_other hk)) (fun _ _ => trivial), hB.trans (below_putObj X (.deferred none) hD)⟩
  simp [results, h4, h5, go_sem]
set_option maxHeartbeats 8000000 in
set_option maxRecDepth 100000 in
theorem groups_ok_ (num den : Int) (Ag : Option Addr) (cg ng : Nat) (A0 : Option Addr) (c0 : Nat) (l : List S41) (bs ss : List S72) (w : World)
    (hOf : ∀ W, Below w.heap.size w W → Calls Tryz.prog 27 #[.agg #[.int .i64 num, .int .i64 den, .slice Ag ng cg], .agg #[.slice A0 l.length c0]] W fun e w' => ∃ g, e = .returned (.tuple #[.pointer (some ⟨g, 0, none⟩), .nilIface]) ∧ W.heap.size ≤ g ∧ Beamer w' g l bs ss ∧ Below W.heap.size W w')
    (hl : l.length ≤ 1000000) (hs : ss.length = l.length) (hbs : bs.length ≤ 1000000) (hb : ∀ i, i < l.length → 0 ≤ (l.getD i z41).f3.f0 ∧ (l.getD i z41).f3.f0 ≤ 6) :
    Calls Tryz.prog 13 #[.agg #[.int .i64 num, .int .i64 den, .slice Ag ng cg], .agg #[.slice A0 l.length c0]] w (GroupsPost w ((grpL l bs ss).map (beamS l)) 0) := by
  have hu29 := Tryz.underlying29
  have hu32 := Tryz.underlying32
  have hu33 := Tryz.underlying33
  have hu49 := Tryz.underlying49
  have HOf := Aside0.mk hOf
  have HBS := Aside0.mk hb
  have HSS := Aside0.mk hs
  have HB0 := Aside0.mk (below_alloc (below_alloc (Below.refl w.heap.size w) (.cells #[.int .i64 num, .int .i64 den, .slice Ag ng cg] 29)) (.cells #[.slice A0 l.length c0] 32))
  clear hOf hb hs
  refine (callsIn_wide (n := 6)).1 ?_
  refine callsIn_of_wp_marks Tryz.func13 rfl trivial ?_ rfl
  simp only [Tryz.ntmps13, List.size_toArray, List.length_cons, List.length_nil, Nat.reduceAdd, Nat.reduceSub, Array.replicate_succ, Array.replicate_zero, List.push_toArray, List.append_toArray, List.nil_append, List.cons_append]
  gi_wp2
  refine ⟨trivial, ?_⟩
  refine (callsIn_wide.2 (HOf.out _ HB0.out)).mono ?_
  rintro e w1 ⟨g, rfl, hg0, hM1, hb1⟩
  have HM1 := Aside0.mk hM1
  have HB1 := Aside0.mk (below_step HB0.out hb1)
  clear hM1 hb1 hg0
  gi_wp2
  refine ⟨trivial, ?_⟩
  refine (callsIn_wide.2 (groups_call g _)).mono ?_
  rintro e w2 ⟨rfl, hw2⟩
  have hBb : w2.heap[w1.heap.size]? = some (.cells #[.func (.func 28) #[.pointer (some ⟨g, 0, none⟩)] #[]] 67 (0, 0)) := by
    rw [hw2]; exact blk_alloc (blk_alloc (blk_new w1 _) _) _
  have hBo : Boxed w2 (w1.heap.size + 1) 33 (.slice none 0 0) := by
    have h := blk_new (w1.alloc (.cells #[.func (.func 28) #[.pointer (some ⟨g, 0, none⟩)] #[]] 67)) (.cells #[.slice none 0 0] 33)
    rw [World.size_alloc] at h
    rw [hw2]; exact blk_alloc h _
  have hBm : w2.heap[w1.heap.size + 1 + 1]? = some (.cells #[.pointer (some ⟨g, 0, none⟩)] 62 (0, 0)) := by
    have h := blk_new ((w1.alloc (.cells #[.func (.func 28) #[.pointer (some ⟨g, 0, none⟩)] #[]] 67)).alloc (.cells #[.slice none 0 0] 33)) (.cells #[.pointer (some ⟨g, 0, none⟩)] 62)
    rw [World.size_alloc, World.size_alloc] at h
    rw [hw2]; exact h
  have hz2 : w2.heap.size = w1.heap.size + 3 := by rw [hw2]; simp
  have hb2 : Below w1.heap.size w1 w2 := by rw [hw2]; exact below_alloc (below_alloc (below_alloc (Below.refl _ _) _) _) _
  simp only [World.size_alloc]
  clear hw2
  gi_wp2
  have eg28 : ∀ args w, (callFunc 28 args).run Tryz.prog w = .ok (.enter 28 args) w := enters_of Tryz.func28 (by kernel_rfl) rfl
  obtain ⟨N0, hN0⟩ : ∃ N, w2.heap.size = N := ⟨_, rfl⟩
  have HD : ∀ Y, KG N0 (w1.heap.size + 1) w2 Y → Y.heap[w1.heap.size + 1 + 1]? = some (.cells #[.pointer (some ⟨g, 0, none⟩)] 62 (0, 0)) ∧ Y.heap[w1.heap.size]? = some (.cells #[.func (.func 28) #[.pointer (some ⟨g, 0, none⟩)] #[]] 67 (0, 0)) ∧ Beamer Y g l bs ss ∧ Below w.heap.size w Y := by
    intro Y hY
    have hbY : Below w1.heap.size w1 Y := ⟨hY.1.trans hb2.os, hY.2.1.trans hb2.tape, hY.2.2.1.trans hb2.output, Nat.le_trans hb2.size hY.2.2.2.1, fun i hi => (hY.2.2.2.2 i (by omega) (by omega) (by omega)).trans (hb2.block i hi)⟩
    exact ⟨(hY.2.2.2.2 _ (by omega) (by omega) (by omega)).trans hBm, (hY.2.2.2.2 _ (by omega) (by omega) (by omega)).trans hBb, HM1.out.below hbY, below_step HB1.out hbY⟩
  have HDD := Aside0.mk HD
  refine wpIn_rangeFunc_ownH (α := Gr l.length) rfl (by omega) (gf := 49) (lb := #[.pointer (some ⟨w1.heap.size + 1 + 1, 0, none⟩)]) rfl trivial (enters_of Tryz.func49 (by kernel_rfl) rfl)
    (groups_stops 5 (by omega) (w1.heap.size + 1 + 1) g l bs ss w2 (KG N0 (w1.heap.size + 1)) KG.trans KG.of_below (fun Y hY => ⟨(HDD.out Y hY).1, (HDD.out Y hY).2.2.1⟩) hl HSS.out hbs)
    KG.trans ?hKb (Below.refl _ _) (fun _ => rfl)
    (fun pre W => (∃ u, Boxed W (w1.heap.size + 1) 33 u ∧ Kd.S k49 49 W w.heap.size (fun k => N0 ≤ k) u (pre.map fun x => beamS l x.1)) ∧ KG N0 (w1.heap.size + 1) w2 W)
    (fun _ _ _ => False) ?hI (fun _ _ _ _ _ hs _ _ => hs) ⟨⟨_, hBo, Kd.S_nil _ _ _ _ _⟩, KG.refl _⟩
    (fun x a' W => a' = { tmps := #[Value.agg #[Value.int IntKind.i64 num, Value.int IntKind.i64 den, Value.slice Ag ng cg], Value.agg #[Value.slice A0 l.length c0], .pointer (some ⟨w.heap.size, 0, none⟩), .pointer (some ⟨w.heap.size + 1, 0, none⟩), .slice none 0 0, .int .i64 0, .pointer (some ⟨g, 0, none⟩), .nilIface, .pointer (some ⟨w1.heap.size, 0, none⟩), .pointer (some ⟨w1.heap.size + 1, 0, none⟩), .int .i64 (x.1.1 : Int), .int .i64 (x.1.2 : Int), undef, undef, .tuple #[.pointer (some ⟨g, 0, none⟩), .nilIface], .agg #[.int .i64 num, .int .i64 den, .slice Ag ng cg], .agg #[.slice A0 l.length c0], .tuple #[.pointer (some ⟨g, 0, none⟩), .nilIface], .pointer (some ⟨g, 0, none⟩), .nilIface, .nilIface, .bool false, undef, undef, .pointer (some ⟨g, 0, none⟩), .func (.func 28) #[.pointer (some ⟨g, 0, none⟩)] #[], .pointer (some ⟨g, 0, none⟩), .func (.func 49) #[] #[.pointer (some ⟨w1.heap.size + 1 + 1, 0, none⟩)], .int .i64 (x.1.1 : Int), .int .i64 (x.1.2 : Int), undef, undef, undef, undef, undef, undef, undef, undef, undef, undef, undef, undef, undef, undef, undef, undef, undef, undef, undef, undef, undef, undef, undef], defers := [] }) ?hAx ?assign ?body ?done ?stop
  case hKb =>
    intro W L o o' hL _ _ _
    exact ⟨rfl, rfl, rfl, by simp, fun i hi h1 h2 => World.putObj_heap_other (by omega)⟩
  case hI =>
    rintro pre X Y row ⟨⟨u, hv, hS⟩, hK⟩ hg hr
    refine ⟨⟨u, hv.kept hg (fun e => ?_), ?_⟩, hK.trans (KG.of_grown hg (fun r e => .inl (by have := (hr r e).1; omega)))⟩
    · have := (hr _ e.symm).1; omega
    · refine Kd.S_mono (Kd.S_move (Kd.S_bound hS) (fun k hk => ?_)) (fun k hk => hk.1)
      obtain ⟨h1, h2, h3, q, hq, cells, h4⟩ := hk
      refine hg.block k h3 (fun e => ?_)
      obtain ⟨_, o, ho, hoc⟩ := hr k e.symm
      rw [h4] at ho; cases ho; cases hoc
  case hAx =>
    rintro x a' s X Y row h hg hr
    exact h
  case assign =>
    rintro L pre x W K hi hK
    simp only [encG]
    gi_wp2
    exact hK _ _ ((KeepsOthers.refl W).from _) (KG.refl W) hi rfl
  case body =>
    rintro L pre x a' W hL ⟨r, hr⟩ ⟨⟨u, hv, hrow⟩, hK⟩ rfl hlt
    obtain ⟨⟨f, tt⟩, hx1, hx2⟩ := x
    dsimp only at *
    obtain ⟨d1, d2, d3, d4⟩ := HDD.out W hK
    have D2 := Aside0.mk d2
    have D3 := Aside0.mk d3
    have D4 := Aside0.mk d4
    have HV := Aside0.mk hv
    have HROW := Aside0.mk hrow
    have HK := Aside0.mk hK
    have hsz := hK.2.2.2.1
    have w9 : IntKind.i64.wrap ((tt : Int) - 1) = (tt : Int) - 1 := by rw [IntKind.wrap_i64]; omega
    clear d1 d2 d3 d4 hv hrow hK HD hBb hBo hBm hr
    have hX0 := blk_new W (.cells #[.int .i64 (f : Int), .int .i64 ((tt : Int) - 1), .slice none 0 0] 49)
    have HX0 := Aside0.mk hX0
    have HB9 := Aside0.mk (below_alloc (Below.refl W.heap.size W) (.cells #[.int .i64 (f : Int), .int .i64 ((tt : Int) - 1), .slice none 0 0] 49))
    clear hX0
    gi_wp2
    gi_loopw [13] (fun i wr => ∃ (k : Nat) (v : Value), f ≤ k ∧ k ≤ tt ∧ i = .int .i64 k ∧ Aside0 (wr.heap[W.heap.size]? = some (.cells #[.int .i64 (f : Int), .int .i64 ((tt : Int) - 1), v] 49 (0, 0))) ∧ Aside0 (Kd.S (Kd.int .i64) 3 wr W.heap.size (fun k => k ≠ W.heap.size) v (lvK l f k)) ∧ Aside0 (Below W.heap.size W wr)) (fun i _ => tt - (intOf i).toNat)
    case atStart => exact ⟨f, _, Nat.le_refl _, by omega, rfl, HX0, ⟨by unfold lvK; rw [Nat.sub_self]; exact Kd.S_nil _ _ _ _ _⟩, HB9⟩
    case round =>
      obtain ⟨k, v, hk0, hk1, rfl, HX, HS, HBr⟩ := hrel
      by_cases hlt2 : k < tt
      · have hd : decide (k < tt) = true := by simpa using hlt2
        have hd2 : (k : Int) < (tt : Int) := by omega
        have w10 : IntKind.i64.wrap ((k : Int) + 1) = ((k + 1 : Nat) : Int) := by rw [IntKind.wrap_i64]; omega
        obtain ⟨Av, cv, rfl⟩ := Kd.S_slice HS.out
        have hbr := HBr.out
        have hBbr := (hbr.block _ (blk_lt D2.out)).trans D2.out
        obtain ⟨S, hSd⟩ : ∃ S : World → Prop, Aside0 (S = fun W' => W'.cell? ⟨W.heap.size, 2, none⟩ = some (.slice Av (lvK l f k).length cv) ∧ W'.cell? ⟨w1.heap.size, 0, none⟩ = some (.func (.func 28) #[.pointer (some ⟨g, 0, none⟩)] #[])) := ⟨_, ⟨rfl⟩⟩
        have hSS : ∀ W' : World, W'.heap[W.heap.size]? = some (.cells #[.int .i64 (f : Int), .int .i64 ((tt : Int) - 1), .slice Av (lvK l f k).length cv] 49 (0, 0)) → W'.heap[w1.heap.size]? = some (.cells #[.func (.func 28) #[.pointer (some ⟨g, 0, none⟩)] #[]] 67 (0, 0)) → S W' := by
          intro W' h1 h2
          rw [hSd.out]
          exact ⟨(blk_cell h1 2).trans rfl, (blk_cell h2 0).trans rfl⟩
        have hbar := bars_calls g l bs ss k wr.drew (D3.out.below hbr.drew) (by omega) (HBS.out k (by omega)).1 (HBS.out k (by omega)).2
        have HBAR := Aside0.mk hbar
        have hlv := lvK_succ l f k hk0
        generalize (l.getD k z41).f3.f0 - 3 + 1 = bv at hlv HBAR hbar
        have HLV := Aside0.mk hlv
        have hln := lvK_len l f k
        have HLN := Aside0.mk hln
        clear hbar hlv hln
        gi_wp2
        refine wpIn_region_FN S 8 (by kernel_rfl) (hSS _ HX.out hBbr) ?_
        have s0 := hSS wr.drew HX.out hBbr
        refine wpAnyF_takeN 0 (some 40) (a' := ?na0) (v := ?v0) (by kernel_rfl) rfl rfl (by kernel_rfl) (by kernel_rfl) (by kernel_rfl) (fun _ _ _ h => h) s0 (by kernel_rfl) (fun _ => rfl) ?hy0 ?nh0 ?rest0
        case hy0 =>
          intro W' h
          rw [hSd.out] at h
          obtain ⟨z0, z1⟩ := h
          go_simp
          first | done | with_reducible rfl | trace_state
        case nh0 => (simp only [Act.put, List.setIfInBounds_toArray, List.set_cons_zero, List.set_cons_succ]; rfl)
        refine wpAnyF_takeN 1 (some 41) (a' := ?na1) (v := ?v1) (by kernel_rfl) rfl rfl (by kernel_rfl) (by kernel_rfl) (by kernel_rfl) (fun _ _ _ h => h) s0 (by kernel_rfl) (fun _ => rfl) ?hy1 ?nh1 ?rest1
        case hy1 =>
          intro W' h
          rw [hSd.out] at h
          obtain ⟨z0, z1⟩ := h
          go_simp
          first | done | with_reducible rfl | trace_state
        case nh1 => (simp only [Act.put, List.setIfInBounds_toArray, List.set_cons_zero, List.set_cons_succ]; rfl)
        refine wpAnyF_takeN 2 (some 42) (a' := ?na2) (v := ?v2) (by kernel_rfl) rfl rfl (by kernel_rfl) (by kernel_rfl) (by kernel_rfl) (fun _ _ _ h => h) s0 (by kernel_rfl) (fun _ => rfl) ?hy2 ?nh2 ?rest2
        case hy2 =>
          intro W' h
          rw [hSd.out] at h
          obtain ⟨z0, z1⟩ := h
          go_simp
          first | done | with_reducible rfl | trace_state
        case nh2 => (simp only [Act.put, List.setIfInBounds_toArray, List.set_cons_zero, List.set_cons_succ]; rfl)
        refine wpAnyF_takeN 3 (some 43) (a' := ?na3) (v := ?v3) (by kernel_rfl) rfl rfl (by kernel_rfl) (by kernel_rfl) (by kernel_rfl) (fun _ _ _ h => h) s0 (by kernel_rfl) (fun _ => rfl) ?hy3 ?nh3 ?rest3
        case hy3 =>
          intro W' h
          rw [hSd.out] at h
          obtain ⟨z0, z1⟩ := h
          go_simp
          first | done | with_reducible rfl | trace_state
        case nh3 => (simp only [Act.put, List.setIfInBounds_toArray, List.set_cons_zero, List.set_cons_succ]; rfl)
        refine wpAnyF_one 4 (by kernel_rfl) rfl (by kernel_rfl) ?_
        go_simp
        refine ⟨trivial, ?_⟩
        refine (callsIn_wide.2 HBAR.out).mono ?_
        rintro e w4 ⟨rfl, rfl⟩
        refine ⟨hSS _ HX.out hBbr, ?_⟩
        refine wpAnyF_one 5 (by kernel_rfl) rfl (by kernel_rfl) ?_
        go_simp
        refine ⟨hSS _ (blk_alloc (blk_drew HX.out) _) (blk_alloc (blk_drew hBbr) _), ?_⟩
        refine wpAnyF_one 6 (by kernel_rfl) rfl (by kernel_rfl) ?_
        have hxl := blk_lt HX.out
        have hS' : Kd.S (Kd.int .i64) 3 wr.drew W.heap.size (fun j => j ≠ W.heap.size) (.slice Av (lvK l f k).length cv) (lvK l f k) := Kd.S_drew HS.out
        have hln := HLN.out
        refine opIn_append_S (Kd.int .i64) (w0 := W) W.heap.size (.tmp 41) (.tmp 45) 22 3 (.int .i64 0) 8 rfl Tryz.underlying22 info3 rfl (by decide) (by omega) (.slice Av (lvK l f k).length cv) (lvK l f k) bv [.int .i64 bv] (fun j => j ≠ W.heap.size) (fun _ => False) rfl rfl rfl (fun _ h => h.elim) (fun j hj => by have : wr.heap.size ≤ j := hj; omega) (Kd.S_mono hS' (fun _ h => ⟨h, fun h => h⟩)) hbr.drew hbr.size (by omega) ?_
        intro v1 w5 hS5 hB5 hg5
        have X5 := blk_grown (blk_drew HX.out) hg5 (Kd.S_ne hS' (blk_drew HX.out) (by decide))
        have B5 := blk_grown (blk_drew hBbr) hg5 (Kd.S_ne hS' (blk_drew hBbr) (by decide))
        obtain ⟨A5, c5, rfl⟩ := Kd.S_slice hS5
        obtain ⟨n5, hn5⟩ : ∃ n, (lvK l f k ++ [bv]).length = n := ⟨_, rfl⟩
        rw [hn5] at hS5 ⊢
        clear hn5
        refine ⟨.inr (hSS _ X5 B5), ?_⟩
        go_simp
        refine wpAnyF_one 7 (by kernel_rfl) rfl (by kernel_rfl) ?_
        go_simp
        refine ⟨hSS _ X5 B5, ?_⟩
        refine wpAnyF_one 8 (by kernel_rfl) rfl (by kernel_rfl) ?_
        have y2 : w5.cell? ⟨W.heap.size, 2, none⟩ = some (.slice Av (lvK l f k).length cv) := (blk_cell X5 2).trans rfl
        have yf := blk_frozen X5 2
        have HS5 := Aside0.mk hS5
        have HB5 := Aside0.mk hB5
        have HX5 := Aside0.mk X5
        clear hS5 hB5 X5 B5 hg5 hS' hln s0 hSS hSd
        go_simp
        refine wpAnyF_done (by kernel_rfl) (normalOnly_go ?_) _
        have HBW : Aside0 (W.heap.size < w5.heap.size) := ⟨blk_lt HX5.out⟩
        gi_wp2
        go_roundw
        case rel =>
          refine ⟨k + 1, _, by omega, by omega, by go_num, ⟨blk_put HX5.out 2 _ rfl⟩, ⟨?_⟩, ⟨HB5.out.setCell (p := ⟨W.heap.size, 2, none⟩) (Nat.le_refl _) _⟩⟩
          rw [HLV.out]
          exact Kd.S_far (p := ⟨W.heap.size, 2, none⟩) HS5.out (fun j hj => hj) _
        case measure => simp [intOf]; omega
      · obtain rfl : k = tt := by omega
        have hd : decide (k < k) = false := by simp
        have hd2 : ¬ ((k : Int) < (k : Int)) := by omega
        obtain ⟨Av, cv, rfl⟩ := Kd.S_slice HS.out
        obtain ⟨Au, cu, rfl⟩ := Kd.S_slice HROW.out
        obtain ⟨np, hnp⟩ : ∃ n, (pre.map fun x => beamS l x.1).length = n := ⟨_, rfl⟩
        rw [hnp] at HV HROW
        have HPL : Aside0 ((pre.map fun x => beamS l x.1).length ≤ 1000000) := ⟨by rw [List.length_map]; omega⟩
        clear hnp
        have hbr := HBr.out
        have hvr : Boxed wr (w1.heap.size + 1) 33 _ := (hbr.block _ HV.out.lt).trans HV.out
        have o0 := hvr.cell
        have of0 := hvr.frozen
        have x0 : wr.cell? ⟨W.heap.size, 0, none⟩ = some (.int .i64 (f : Int)) := (blk_cell HX.out 0).trans rfl
        have x1 : wr.cell? ⟨W.heap.size, 1, none⟩ = some (.int .i64 ((k : Int) - 1)) := (blk_cell HX.out 1).trans rfl
        have x2 : wr.cell? ⟨W.heap.size, 2, none⟩ = some (.slice Av (lvK l f k).length cv) := (blk_cell HX.out 2).trans rfl
        have hRl : Kd.R (Kd.int .i64) 3 wr w.heap.size (fun j => W.heap.size ≤ j) (.slice Av (lvK l f k).length cv) (lvK l f k) := Kd.R_lower (Kd.S_R (Kd.S_mono (Kd.S_bound HS.out) (fun j hj => hj.2.1))) (by have := D4.out.size; omega)
        have hO : Kd.S k49 49 wr w.heap.size (fun j => N0 ≤ j ∧ ¬ W.heap.size ≤ j) (.slice Au np cu) (pre.map fun x => beamS l x.1) := Kd.S_below (Kd.S_mono (Kd.S_bound HROW.out) (fun j hj => ⟨hj.1, by have := hj.2.2.1; omega⟩)) hbr
        have HRL := Aside0.mk hRl
        have HO := Aside0.mk hO
        have HVR := Aside0.mk hvr
        have HLT := Aside0.mk (Kd.S_lt HROW.out)
        have HBW := Aside0.mk (D4.out.trans (hbr.mono D4.out.size))
        have hwz := HBW.out.size
        have hwz2 := hbr.size
        clear hRl hO hvr hbr
        gi_wp2_with (first
          | (gi_at_builtin; go_must (refine wpListIn_append_S rfl k49 (w0 := w) w.heap.size _ _ 33 49 (.agg #[.int .i64 0, .int .i64 0, .slice none 0 0]) 40 rfl Tryz.underlying33 info49b rfl (by decide) (by omega) (.slice Au np cu) (pre.map fun x => beamS l x.1) (beamS l (f, k)) [.int .i64 (f : Int), .int .i64 ((k : Int) - 1), .slice Av (lvK l f k).length cv] (fun j => N0 ≤ j) (fun j => W.heap.size ≤ j) rfl rfl (k49_mkM wr w.heap.size _ (beamS l (f, k)) HRL.out) (fun j hj => ⟨by omega, fun e => by have := HLT.out j e.symm; omega⟩) (fun j hj => by omega) HO.out HBW.out (by omega) (by have := HPL.out; omega) ?_; intro v1 w5 hS5 hB5 hg5; obtain ⟨A5, c5, rfl⟩ := Kd.S_slice hS5; obtain ⟨n5, hn5⟩ : ∃ n, ((pre.map fun x => beamS l x.1) ++ [beamS l (f, k)]).length = n := ⟨_, rfl⟩; rw [hn5] at hS5 ⊢; clear hn5; have hv5 : Boxed w5 (w1.heap.size + 1) 33 _ := HVR.out.kept hg5 (Kd.S_ne HO.out HVR.out (by decide)); have HS5 := Aside0.mk hS5; have HB5 := Aside0.mk hB5; have HG5 := Aside0.mk hg5; have HV5 := Aside0.mk hv5; have o5 := hv5.cell; have of5 := hv5.frozen; clear hS5 hB5 hg5 hv5 o0 of0 x0 x1 x2)))
        have hgk : KG N0 (w1.heap.size + 1) W (w5.setCell ⟨w1.heap.size + 1, 0, none⟩ (.slice A5 n5 c5)) := by
          refine ((KG.of_below HBr.out).trans (KG.of_grown HG5.out (fun r e => .inl ((Kd.S_R HO.out).1 r e).1))).trans ?_
          exact ⟨rfl, rfl, rfl, by simp, fun i hi h1 h2 => Below.heap_setCell w5 _ _ i h2⟩
        refine ⟨?_, hgk, ⟨⟨_, HV5.out.set _, ?_⟩, HK.out.trans hgk⟩⟩
        · refine KeepsOthers.from ?_ _
          refine KeepsOthers.trans (KeepsOthers.trans (B := wr) ⟨HBr.out.size, fun j o hj _ => (HBr.out.block j (Array.getElem?_eq_some_iff.1 hj).1).trans hj⟩ (KeepsOthers.of_grownBy HG5.out ?_)) (KeepsOthers.setCell _ _ _)
          intro j o e ho
          obtain ⟨cells, h4⟩ : ∃ cells, wr.heap[j]? = some (.cells cells 49 (0, 0)) := by
            rcases (Kd.S_R HO.out).2 with ⟨inner, ⟨_, hown⟩, _⟩
            rcases hown with ⟨e1, _⟩ | ⟨g', cap, cur, e1, _, h3, _⟩
            · rw [e1] at e; simp [Value.ownBlock] at e
            · rw [e1] at e; simp [Value.ownBlock] at e; subst e; exact ⟨cur, h3⟩
          rw [h4] at ho; cases ho; rfl
        · have hun : List.map (fun x : Gr l.length => beamS l x.1) (pre ++ [⟨(f, k), hx1, hx2⟩]) = List.map (fun x : Gr l.length => beamS l x.1) pre ++ [beamS l (f, k)] := by rw [List.map_append]; rfl
          refine Eq.mpr (congrArg (fun ys => Kd.S k49 49 _ w.heap.size (fun j => N0 ≤ j) _ ys) (show _ = List.map (fun x : Gr l.length => beamS l x.1) (pre ++ [⟨(f, k), hx1, hx2⟩]) by simp)) ?_
          rw [hun]
          exact Kd.S_far (p := ⟨w1.heap.size + 1, 0, none⟩) HS5.out (fun j hj => by show j ≠ w1.heap.size + 1; omega) _
  case done =>
    rintro D ys W hD hys ⟨⟨u, hv, hrow⟩, hK⟩ hDef
    have hBW := (HDD.out W hK).2.2.2
    have HROW := Aside0.mk (Kd.S_bound hrow)
    have hyl : (ys.map fun x => beamS l x.1) = (grpL l bs ss).map (beamS l) := by rw [← hys, List.map_map]; rfl
    rw [hyl] at HROW
    obtain ⟨Au, cu, rfl⟩ := Kd.S_slice HROW.out
    obtain ⟨nu, hnu⟩ : ∃ n, ((grpL l bs ss).map (beamS l)).length = n := ⟨_, rfl⟩
    have hD' : w.heap.size ≤ D := by have := HB1.out.size; omega
    have HBW := Aside0.mk hBW
    have HDEF := Aside0.mk hDef
    have o0 := hv.cell
    have of0 := hv.frozen
    rw [hnu] at HROW o0
    clear hrow hBW hDef
    gi_wp2
    exact ret13 (u := .slice Au nu cu) _ (by rfl) (by rfl) hD' HDEF.out (by exact Kd.S_mono HROW.out (fun k hk e => by
      obtain ⟨_, _, h3, q, hq, cells, h4⟩ := hk
      rw [e, HDEF.out] at h4; cases h4)) HBW.out
  case stop =>
    rintro D c pre W _ _ h _
    exact h.elim
end Go.Proofs.YtocjbedacnlaaaaGreatDoor.Q
/- A voice's beams: there are none. No conditions. -/
namespace Go.Proofs.YtocjbedacnlaaaaGreatDoor.Q
open Go.RowKit Go.Shelf Go.Proofs.YtocjbedacnlaaaaGreatDoorW.PrintWords Go.Proofs.YtocjbedacnlaaaaGreatDoorW.PrintLast
set_option linter.unusedVariables false
set_option linter.unusedSimpArgs false
theorem ret13e {w X : World} {r1 : List S49} {r2 : Int} {u : Value} (tmps : Array Value) (h4 : tmps[4]?.getD undef = u) (h5 : tmps[5]?.getD undef = .int .i64 r2) (hR : Kd.S k49 49 X w.heap.size (fun _ => True) u r1) (hB : Below w.heap.size w X) :
    bodyPostM Fence.wide 6 Tryz.prog Tryz.f13 (GroupsPost w r1 r2) .ret { tmps := tmps, defers := [] } X := by
  refine ⟨.tuple #[u, .int .i64 r2], ?_, _, rfl, hR, hB⟩
  simp [results, h4, h5, go_sem]
set_option maxHeartbeats 4000000 in
set_option maxRecDepth 100000 in
theorem groups_err (num den : Int) (Ag : Option Addr) (cg ng : Nat) (A0 : Option Addr) (c0 nl : Nat) (c : Int) (w : World) (hSE : SentsE w)
    (hOf : ∀ W, Below w.heap.size w W → Calls Tryz.prog 27 #[.agg #[.int .i64 num, .int .i64 den, .slice Ag ng cg], .agg #[.slice A0 nl c0]] W fun e w' => e = .returned (.tuple #[.pointer none, .iface 60 (.agg #[.int .i64 c])]) ∧ Below W.heap.size W w') :
    Calls Tryz.prog 13 #[.agg #[.int .i64 num, .int .i64 den, .slice Ag ng cg], .agg #[.slice A0 nl c0]] w (GroupsPost w [] c) := by
  have hu29 := Tryz.underlying29
  have hu32 := Tryz.underlying32
  have hu33 := Tryz.underlying33
  have hu49 := Tryz.underlying49
  have HOf := Aside0.mk hOf
  have HSE := Aside0.mk hSE
  have HB0 := Aside0.mk (below_alloc (below_alloc (Below.refl w.heap.size w) (.cells #[.int .i64 num, .int .i64 den, .slice Ag ng cg] 29)) (.cells #[.slice A0 nl c0] 32))
  clear hOf hSE
  refine (callsIn_wide (n := 6)).1 ?_
  refine callsIn_of_wp_marks Tryz.func13 rfl trivial ?_ rfl
  simp only [Tryz.ntmps13, List.size_toArray, List.length_cons, List.length_nil, Nat.reduceAdd, Nat.reduceSub, Array.replicate_succ, Array.replicate_zero, List.push_toArray, List.append_toArray, List.nil_append, List.cons_append]
  gi_wp2
  refine ⟨trivial, ?_⟩
  refine (callsIn_wide.2 (HOf.out _ HB0.out)).mono ?_
  rintro e w1 ⟨rfl, hb1⟩
  have HB1 := Aside0.mk (below_step HB0.out hb1)
  clear hb1
  have hT := told_some c w1 (HSE.out.below HB1.out)
  rw [errW_some] at hT
  have HT := Aside0.mk hT
  clear hT
  gi_wp2
  refine ⟨trivial, ?_⟩
  refine (callsIn_wide.2 HT.out).mono ?_
  rintro e w3 ⟨rfl, hb3⟩
  gi_wp2
  exact ret13e _ (by rfl) (by rfl) (Kd.S_nil _ _ _ _ _) (HB1.out.trans (hb3.mono HB1.out.size))
end Go.Proofs.YtocjbedacnlaaaaGreatDoor.Q
