/- Inside a fence, in a round too: in a region that draws its order an operation whose value is the same in every world that meets a condition S may be taken first. No program in sight. -/
import Derived.OrdersIn
import Derived.OwnWalkIn
set_option linter.unusedVariables false
namespace Go.Proofs
section
variable {F : Fence} {n : Nat} {P : Program} {ops : Array Oper} {Q : Exit → Act → World → Prop} {md : Region.Mode} {S : World → Prop}
/-- No operation is a defer statement, none a select. -/
def plainOps (ops : Array Oper) : Bool := ops.all fun o => match o.op with | .defer _ => false | .select .. => false | _ => true
theorem plainOps_spec (h : plainOps ops = true) {j : Nat} {o : Oper} (ho : ops[j]? = some o) : (∀ c, o.op ≠ .defer c) ∧ (∀ cs b, o.op ≠ .select cs b) := by
  have := Array.all_eq_true_iff_forall_mem.1 h o (Array.mem_of_getElem? ho)
  constructor
  · intro c e; simp [e] at this
  · intro c b e; simp [e] at this
/-- In each world that meets S the operation is about to call nothing, leaves v and does nothing else. -/
def Still (P : Program) (ops : Array Oper) (S : World → Prop) (o : Oper) (v : Value) (a : Act) : Prop :=
  (Region.wanted o (yielded ops a.tmps) = true ∧ ∀ w, S w → o.about P w a.eval = none ∧ (execOp a.eval o).run P w = .ok (.value v) w) ∨
  (Region.wanted o (yielded ops a.tmps) = false ∧ v = undef ∧ ∀ w, S w → o.about P w a.eval = none)
theorem Still.moved {o oj : Oper} {v u : Value} {a : Act} (hs : ∀ cs b, o.op ≠ .select cs b) (h3 : ∀ d, oj.dst = some d → d ∉ o.looksAt ops) (h : Still P ops S o v a) : Still P ops S o v (a.put oj.dst u) := by
  unfold Still at *
  rw [wanted_put o a oj.dst u h3, execOp_put o hs a oj.dst u h3]
  simpa only [about_put o _ a oj.dst u h3] using h
theorem Still.deferred {o : Oper} {v : Value} {a : Act} {d : Deferred} (h : Still P ops S o v a) : Still P ops S o v { a with defers := d :: a.defers } := h
theorem Still.here {i : Nat} {o : Oper} {v : Value} {a : Act} (hi : ops[i]? = some o) (hd : ∀ c, o.op ≠ .defer c) (hy : Still P ops S o v a) {K : Act → World → Prop} {w : World} (hS : S w) (h : K (a.put o.dst v) w) : wpOpIn F n P ops Q i K a w := by
  unfold wpOpIn
  simp only [hi]
  rcases hy with ⟨hw, hv⟩ | ⟨hw, rfl, hv⟩
  · obtain ⟨h1, h2⟩ := hv w hS
    simp only [hw, if_true, Oper.wpIn, Oper.semAt_plain F _ _ hd, h2, Oper.uponIn]
    exact ⟨fun f hf => (by rw [h1] at hf; cases hf), h⟩
  · simp only [hw, Bool.false_eq_true, if_false]
    exact ⟨fun f hf => (by rw [hv w hS] at hf; cases hf), h⟩
theorem Still.past {j : Nat} {oi oj : Oper} {v : Value} (hj : ops[j]? = some oj) (hap : oi.apart ops oj = true) (hsi : ∀ cs b, oi.op ≠ .select cs b) (hsj : ∀ cs b, oj.op ≠ .select cs b) (hdj : ∀ c, oj.op ≠ .defer c)
    (hQ : ∀ c a w, Q (.panic c) (a.put oi.dst v) w → Q (.panic c) a w) {K : Act → World → Prop} {a : Act} {w : World} (hy : Still P ops S oi v a) (h : wpOpIn F n P ops Q j K (a.put oi.dst v) w) :
    wpOpIn F n P ops Q j (fun a' w' => Still P ops S oi v a' ∧ K (a'.put oi.dst v) w') a w := by
  obtain ⟨h1, h2, h3⟩ := Oper.apart_spec hap
  have fin : ∀ (a : Act) (u : Value) (w : World), Still P ops S oi v a → K ((a.put oi.dst v).put oj.dst u) w → Still P ops S oi v (a.put oj.dst u) ∧ K ((a.put oj.dst u).put oi.dst v) w :=
    fun a u w hy hk => ⟨hy.moved hsi h3, by rw [← Act.put_comm a v u h2]; exact hk⟩
  unfold wpOpIn at *
  simp only [hj, wanted_put oj a oi.dst v h1, about_put oj w a oi.dst v h1] at *
  split
  · rename_i hw
    simp only [hw, if_true, Oper.wpIn, about_put oj w a oi.dst v h1, Oper.semAt_plain F _ _ hdj, execOp_put oj hsj a oi.dst v h1] at h ⊢
    refine ⟨h.1, ?_⟩
    replace h := h.2
    generalize (execOp a.eval oj).run P w = r at *
    rcases r with ⟨x, w'⟩ | ⟨x, w'⟩
    · cases x <;> simp only [Oper.uponIn] at h ⊢
      case value u => exact fin a u w' hy h
      case skip => exact fin a _ w' hy h
      case defer d => exact fin _ _ w' hy.deferred (by rw [← Act.put_defers]; exact h)
      case enter f args =>
        refine ⟨h.1, CallsIn.mono h.2 fun e w2 he => ?_⟩
        cases e with
        | returned u => exact fin a u w2 hy he
        | panicked c => exact hQ _ _ _ he
        | outgrown => exact he
      case row row args => exact ⟨h.1, RowsIn.mono h.2 fun u w2 he => fin a u w2 hy he⟩
      case round l f tmps assign body =>
        refine ⟨h.1, RoundIn.mono h.2 fun e w2 he => ?_⟩
        cases e with
        | returned u => exact fin a u w2 hy he
        | panicked c => exact hQ _ _ _ he
        | outgrown => exact he
    · cases x <;> simp only [Oper.uponIn] at h ⊢
      case panic u => exact hQ _ _ _ h
  · rename_i hw
    simp only [hw] at h
    exact ⟨h.1, fin a _ w hy h.2⟩
/-- Whatever order is drawn, S holds behind each operation. -/
def wpAnyS (F : Fence) (n : Nat) (P : Program) (md : Region.Mode) (ops : Array Oper) (Q : Exit → Act → World → Prop) (S : World → Prop) : Nat → Array Bool → Act → World → Prop
  | 0, listed, a, w => Region.ready md ops listed = [] ∧ Q .normal a w
  | fuel + 1, listed, a, w => (Region.ready md ops listed = [] → Q .normal a w) ∧ ∀ i ∈ Region.ready md ops listed, wpOpIn F n P ops Q i (fun a' w' => S w' ∧ wpAnyS F n P md ops Q S fuel (listed.setIfInBounds i true) a' w') a w
theorem wpAnyS.any : ∀ (fuel : Nat) (listed : Array Bool) (a : Act) (w : World), wpAnyS F n P md ops Q S fuel listed a w → wpAnyIn F n P md ops Q fuel listed a w
  | 0, _, _, _, h => h
  | fuel + 1, _, _, _, h => ⟨h.1, fun i hi => wpOpIn_mono (fun a' w' h' => wpAnyS.any fuel _ a' w' h'.2) (h.2 i hi)⟩
theorem wpAnyS_first {i : Nat} {oi : Oper} {v : Value} (hi : ops[i]? = some oi) (hp : plainOps ops = true) (hQ : ∀ c a w, Q (.panic c) (a.put oi.dst v) w → Q (.panic c) a w) :
    ∀ (fuel : Nat) (listed : Array Bool) (a : Act) (w : World), (∀ j oj, ops[j]? = some oj → j ≠ i → listed.getD j true = false → (∀ e ∈ oj.after, Region.binds md e = true → e.on ≠ i) → oi.apart ops oj = true) →
      i ∈ Region.ready md ops listed → Still P ops S oi v a → S w → wpAnyS F n P md ops Q S fuel (listed.setIfInBounds i true) (a.put oi.dst v) w → wpAnyS F n P md ops Q S (fuel + 1) listed a w := by
  intro fuel
  induction fuel with
  | zero =>
    intro listed a w _ hr hy hS H
    refine ⟨fun h => (by rw [h] at hr; cases hr), fun j hj => ?_⟩
    by_cases hji : j = i
    · subst hji; exact hy.here hi (plainOps_spec hp hi).1 hS ⟨hS, H⟩
    · have := ready_mono hj hji
      rw [H.1] at this; cases this
  | succ fuel ih =>
    intro listed a w hfree hr hy hS H
    refine ⟨fun h => (by rw [h] at hr; cases hr), fun j hj => ?_⟩
    by_cases hji : j = i
    · subst hji; exact hy.here hi (plainOps_spec hp hi).1 hS ⟨hS, H⟩
    · have h1 := H.2 j (ready_mono hj hji)
      obtain ⟨hjun, oj, hoj, hall⟩ := mem_ready.1 hj
      have hnot : ∀ e ∈ oj.after, Region.binds md e = true → e.on ≠ i := fun e he hb heq => by
        have g1 := hall e he hb
        have g0 := (mem_ready.1 hr).1
        rw [heq] at g1
        rcases Nat.lt_or_ge i listed.size with h' | h'
        · simp [h'] at g0 g1; rw [g0] at g1; cases g1
        · simp [Array.getElem?_eq_none h'] at g1
      have h2 := Still.past hoj (hfree j oj hoj hji hjun hnot) (plainOps_spec hp hi).2 (plainOps_spec hp hoj).2 (plainOps_spec hp hoj).1 hQ hy h1
      refine wpOpIn_mono (fun a' w' h3 => ⟨h3.2.1, ih (listed.setIfInBounds j true) a' w' (fun k ok hk hki hun hno => hfree k ok hk hki ?_ hno) (ready_mono hr (Ne.symm hji)) h3.1 h3.2.1 ?_⟩) h2
      · by_cases hjk : j = k
        · subst hjk; exact hjun
        · rw [getD_set_ne true hjk] at hun; exact hun
      · rw [Array.setIfInBounds_comm _ _ hji]; exact h3.2.2
/-- Number i is taken first. -/
theorem wpAnyS_take (i : Nat) {oi : Oper} {v : Value} {fuel : Nat} {listed : Array Bool} {a : Act} {w : World} (hi : ops[i]? = some oi) (hp : plainOps ops = true) (hf : Region.free md ops listed i = true)
    (hr : (Region.ready md ops listed).contains i = true) (hQ : ∀ c a w, Q (.panic c) (a.put oi.dst v) w → Q (.panic c) a w) (hS : S w) (hw : Region.wanted oi (yielded ops a.tmps) = true) (hb : ∀ w, oi.about P w a.eval = none) (hy : ∀ w, S w → (execOp a.eval oi).run P w = .ok (.value v) w)
    (h : wpAnyS F n P md ops Q S fuel (listed.setIfInBounds i true) (a.put oi.dst v) w) : wpAnyS F n P md ops Q S (fuel + 1) listed a w :=
  wpAnyS_first hi hp hQ fuel listed a w (Region.free_spec hi hf) (by simpa using hr) (.inl ⟨hw, fun w hs => ⟨hb w, hy w hs⟩⟩) hS h
/-- Number i, whose guard is off, is passed over first. -/
theorem wpAnyS_skip (i : Nat) {oi : Oper} {fuel : Nat} {listed : Array Bool} {a : Act} {w : World} (hi : ops[i]? = some oi) (hp : plainOps ops = true) (hf : Region.free md ops listed i = true)
    (hr : (Region.ready md ops listed).contains i = true) (hQ : ∀ c a w, Q (.panic c) (a.put oi.dst undef) w → Q (.panic c) a w) (hS : S w) (hw : Region.wanted oi (yielded ops a.tmps) = false) (hb : ∀ w, oi.about P w a.eval = none)
    (h : wpAnyS F n P md ops Q S fuel (listed.setIfInBounds i true) (a.put oi.dst undef) w) : wpAnyS F n P md ops Q S (fuel + 1) listed a w :=
  wpAnyS_first hi hp hQ fuel listed a w (Region.free_spec hi hf) (by simpa using hr) (.inr ⟨hw, rfl, fun w hs => hb w⟩) hS h
/-- One operation alone may come up. -/
theorem wpAnyS_one (i : Nat) {oi : Oper} {fuel : Nat} {listed : Array Bool} {a : Act} {w : World} (hr : Region.ready md ops listed = [i]) (hi : ops[i]? = some oi) (hw : Region.wanted oi (yielded ops a.tmps) = true)
    (h : oi.wpIn F n P a w (fun a' w' => S w' ∧ wpAnyS F n P md ops Q S fuel (listed.setIfInBounds i true) a' w') Q) : wpAnyS F n P md ops Q S (fuel + 1) listed a w := by
  refine ⟨fun h0 => (by rw [hr] at h0; cases h0), fun j hj => ?_⟩
  rw [hr] at hj
  obtain rfl := List.mem_singleton.1 hj
  unfold wpOpIn
  simp only [hi, hw, if_true]
  exact h
/-- Whichever of two comes up. -/
theorem wpAnyS_two (i j : Nat) {oi oj : Oper} {fuel : Nat} {listed : Array Bool} {a : Act} {w : World} (hr : Region.ready md ops listed = [i, j]) (hi : ops[i]? = some oi) (hj : ops[j]? = some oj) (hwi : Region.wanted oi (yielded ops a.tmps) = true) (hwj : Region.wanted oj (yielded ops a.tmps) = true)
    (h : oi.wpIn F n P a w (fun a' w' => S w' ∧ wpAnyS F n P md ops Q S fuel (listed.setIfInBounds i true) a' w') Q) (g : oj.wpIn F n P a w (fun a' w' => S w' ∧ wpAnyS F n P md ops Q S fuel (listed.setIfInBounds j true) a' w') Q) : wpAnyS F n P md ops Q S (fuel + 1) listed a w := by
  refine ⟨fun h0 => (by rw [hr] at h0; cases h0), fun k hk => ?_⟩
  rw [hr] at hk
  rcases List.mem_cons.1 hk with rfl | hk
  · unfold wpOpIn; simp only [hi, hwi, if_true]; exact h
  · obtain rfl := List.mem_singleton.1 hk
    unfold wpOpIn; simp only [hj, hwj, if_true]; exact g
theorem wpAnyS_done {listed : Array Bool} {a : Act} {w : World} (hr : Region.ready md ops listed = []) (h : Q .normal a w) : ∀ fuel, wpAnyS F n P md ops Q S fuel listed a w
  | 0 => ⟨hr, h⟩
  | _ + 1 => ⟨fun _ => h, by rw [hr]; simp⟩
theorem wpAnyS_norm {fuel : Nat} {listed : Array Bool} {a a' : Act} {w : World} (h : a = a') (H : wpAnyS F n P md ops Q S fuel listed a' w) : wpAnyS F n P md ops Q S fuel listed a w := h ▸ H
theorem wpAnyS_end {listed : Array Bool} {a a' : Act} {w : World} (hr : Region.ready md ops listed = []) (ha : a = a') (h : Q .normal a' w) : ∀ fuel, wpAnyS F n P md ops Q S fuel listed a w := wpAnyS_done hr (ha ▸ h)
/-- The same, the slot and what it leaves told outright. -/
theorem wpAnyS_takeN (i : Nat) (d : Option Tmp) {oi : Oper} {v : Value} {fuel : Nat} {listed : Array Bool} {a a' : Act} {w : World} (hi : ops[i]? = some oi) (hd : oi.dst = d) (hp : plainOps ops = true) (hf : Region.free md ops listed i = true)
    (hr : (Region.ready md ops listed).contains i = true) (hQ : ∀ c a w, Q (.panic c) (a.put oi.dst v) w → Q (.panic c) a w) (hS : S w) (hw : Region.wanted oi (yielded ops a.tmps) = true) (hb : ∀ w, oi.about P w a.eval = none) (hy : ∀ w, S w → (execOp a.eval oi).run P w = .ok (.value v) w) (ha : a.put d v = a')
    (h : wpAnyS F n P md ops Q S fuel (listed.setIfInBounds i true) a' w) : wpAnyS F n P md ops Q S (fuel + 1) listed a w :=
  wpAnyS_take i hi hp hf hr hQ hS hw hb hy (by rw [hd, ha]; exact h)
theorem wpAnyS_skipN (i : Nat) (d : Option Tmp) {oi : Oper} {fuel : Nat} {listed : Array Bool} {a a' : Act} {w : World} (hi : ops[i]? = some oi) (hd : oi.dst = d) (hp : plainOps ops = true) (hf : Region.free md ops listed i = true)
    (hr : (Region.ready md ops listed).contains i = true) (hQ : ∀ c a w, Q (.panic c) (a.put oi.dst undef) w → Q (.panic c) a w) (hS : S w) (hw : Region.wanted oi (yielded ops a.tmps) = false) (hb : ∀ w, oi.about P w a.eval = none) (ha : a.put d undef = a')
    (h : wpAnyS F n P md ops Q S fuel (listed.setIfInBounds i true) a' w) : wpAnyS F n P md ops Q S (fuel + 1) listed a w :=
  wpAnyS_skip i hi hp hf hr hQ hS hw hb (by rw [hd, ha]; exact h)
theorem wpIn_region_S (S : World → Prop) {id : Nat} {a : Act} {w : World} (hm : P.follows .mixedOrders = true) (hS : S w.drew)
    (h : wpAnyS F n P .any ops Q S ops.size (Array.replicate ops.size false) a w.drew) : (Code.region id ops true).wpIn F n P Q a w :=
  wpIn_region_any hm (wpAnyS.any _ _ _ _ h)
/-- The same, where the post says nothing of use of a panic: none comes. -/
def NormalOnly (Q : Exit → Act → World → Prop) : Exit → Act → World → Prop
  | .normal, a, w => Q .normal a w
  | _, _, _ => False
theorem wpIn_region_N (S : World → Prop) {id : Nat} {a : Act} {w : World} (hm : P.follows .mixedOrders = true) (hS : S w.drew)
    (h : wpAnyS F n P .any ops (NormalOnly Q) S ops.size (Array.replicate ops.size false) a w.drew) : (Code.region id ops true).wpIn F n P Q a w := by
  refine wpIn_mono (wpIn_region_any (Q := NormalOnly Q) hm (wpAnyS.any _ _ _ _ h)) ?_
  intro e a' w' hq
  cases e <;> first | exact hq | exact hq.elim
theorem normalOnly_go {Q : Exit → Act → World → Prop} {a : Act} {w : World} (h : Q .normal a w) : NormalOnly Q .normal a w := h
end
end Go.Proofs
