/- Breaks of bars behind, and of bars as many times as wide. No conditions. -/
import Derived.Test.YtneaoicjbiebkaaDoorSP3
namespace Go.Proofs.YtneaoicjbiebkaaDoor.Pure
open Go.RowKit Go.Proofs.YtneaoicjbiebkaaDoor.Q Go.Proofs.YtneaoicjbiebkaaDoorW.PrintWords Go.Proofs.YtneaoicjbiebkaaDoorW.PrintMore
set_option linter.unusedVariables false
theorem chk_of {ws ss : List Int} {line : Int} (R : Right ws ss line) : chkI ws ss line = 0 := by
  have h1 := R.len
  have h2 := R.eq
  have h3 := R.line1
  have h4 := R.line2
  unfold chkI
  rw [if_neg (by omega), if_neg (by omega), if_neg (by rw [inB_iff.2 (fun x hx => by rw [List.mem_singleton.1 hx]; omega)]; simp), if_neg (by rw [inB_iff.2 (fun x hx => by have := R.w1 x hx; omega)]; simp), if_neg (by rw [inB_iff.2 R.s1]; simp), if_neg (by rw [inB_iff.2 R.w1]; simp)]
theorem out_fuel {ws ss : List Int} {line : Int} (R : Right ws ss line) : ∀ (d e a : Nat), ws.length ≤ a + d → ws.length ≤ a + e → outI (tabI ws ss line ws.length) ws.length d a = outI (tabI ws ss line ws.length) ws.length e a
  | 0, e, a, h, _ => by rw [out_end _ _ _ _ (by omega), out_end _ _ _ _ (by omega)]
  | d + 1, 0, a, _, h => by rw [out_end _ _ _ _ (by omega), out_end _ _ _ _ (by omega)]
  | d + 1, e + 1, a, h1, h2 => by
    rcases Nat.lt_or_ge a ws.length with ha | ha
    · obtain ⟨j, hj, q, -⟩ := tab_spec R _ a rfl ha |>.2
      have k : ∀ d, outI (tabI ws ss line ws.length) ws.length (d + 1) a = ⟨(a : Int), (a + j + 1 : Nat), cst ws ss line a (a + j + 1)⟩ :: outI (tabI ws ss line ws.length) ws.length d (a + j + 1 : Nat) := by
        intro d
        show (if (a : Int) < ws.length then _ else _) = _
        rw [if_pos (by omega), q]
        simp only []
        rw [show (a : Int) + j + 1 = ((a + j + 1 : Nat) : Int) by omega]
      rw [k d, k e, out_fuel R d e (a + j + 1) (by omega) (by omega)]
    · rw [out_end _ _ _ _ ha, out_end _ _ _ _ ha]
theorem right_drop {ws ss : List Int} {line : Int} (R : Right ws ss line) (t : Nat) : Right (ws.drop t) (ss.drop t) line :=
  ⟨by rw [List.length_drop]; have := R.len; omega, by rw [List.length_drop, List.length_drop, R.eq], R.line1, R.line2, fun x hx => R.w1 x (List.mem_of_mem_drop hx), fun x hx => R.s1 x (List.mem_of_mem_drop hx)⟩
theorem sumF_drop (l : List Int) (t a b : Nat) : sumF (l.drop t) a b = sumF l (a + t) (b + t) := by
  unfold sumF
  rw [List.take_drop, List.drop_drop, Nat.add_comm b t, Nat.add_comm a t]
theorem cst_drop (ws ss : List Int) (line : Int) (t a b : Nat) (ht : t ≤ ws.length) : cst (ws.drop t) (ss.drop t) line a b = cst ws ss line (a + t) (b + t) := by
  unfold cst
  rw [sumF_drop, sumF_drop, List.length_drop]
  by_cases c : b = ws.length - t
  · rw [if_pos c, if_pos (by omega)]
  · rw [if_neg c, if_neg (by omega)]
theorem m_drop (ws ss : List Int) (line : Int) (t a : Nat) : mFrom (ws.drop t) (ss.drop t) line a = mFrom ws ss line (a + t) := by
  unfold mFrom
  rw [List.length_drop, show ws.length - t - a = ws.length - (a + t) by omega]
  congr 1
  funext k
  rw [sumF_drop, sumF_drop, show a + k + 1 + t = a + t + k + 1 by omega]
theorem argmin_unique {f : Nat → Int} {m j j' : Nat} (hj : j < m) (hj' : j' < m) (h : ∀ i, i < m → f j ≤ f i ∧ (j < i → f j < f i)) (h' : ∀ i, i < m → f j' ≤ f i ∧ (j' < i → f j' < f i)) : j = j' := by
  rcases Nat.lt_trichotomy j j' with c | c | c
  · have a := (h j' hj').2 c
    have b := (h' j hj).1
    omega
  · exact c
  · have a := (h' j hj).2 c
    have b := (h j' hj').1
    omega
theorem tot_drop {ws ss : List Int} {line : Int} (R : Right ws ss line) {t : Nat} (ht : t ≤ ws.length) : ∀ (d a : Nat), (ws.drop t).length - a = d → a ≤ (ws.drop t).length → totI (ws.drop t) (ss.drop t) line a = totI ws ss line (a + t) := by
  intro d
  induction d using Nat.strongRecOn with
  | _ d ih =>
    intro a had ha
    have hl : (ws.drop t).length = ws.length - t := List.length_drop
    rcases Nat.lt_or_ge a (ws.drop t).length with h | h
    · have R' := right_drop R t
      obtain ⟨-, j', hj', e', m'⟩ := tab_spec R' _ a rfl h
      obtain ⟨-, j, hj, e, m⟩ := tab_spec R _ (a + t) rfl (by omega)
      have hM := (mFrom_spec ws ss line (a + t)).1
      rw [m_drop] at hj' m'
      have hv : ∀ i, i < mFrom ws ss line (a + t) → val (ws.drop t) (ss.drop t) line a i = val ws ss line (a + t) i := by
        intro i hi
        unfold val
        rw [cst_drop ws ss line t _ _ ht, ih ((ws.drop t).length - (a + i + 1)) (by omega) (a + i + 1) rfl (by omega)]
        rw [show a + i + 1 + t = a + t + i + 1 by omega]
      have : j = j' := argmin_unique (f := val ws ss line (a + t)) hj hj' m (fun i hi => by have := m' i hi; rw [hv i hi, hv j' hj'] at this; exact this)
      subst this
      unfold totI
      rw [e', e]
      exact hv j hj'
    · have : a = (ws.drop t).length := by omega
      rw [this, show (ws.drop t).length + t = ws.length by omega]
      rcases Nat.eq_zero_or_pos ws.length with h0 | h0
      · have : ws = [] := List.length_eq_zero_iff.1 h0
        subst this
        simp at ht
        subst ht
        rfl
      rw [totI_end _ _ _ h0]
      rcases Nat.eq_zero_or_pos (ws.drop t).length with h1 | h1
      · have : ws.drop t = [] := List.length_eq_zero_iff.1 h1
        rw [this]; rfl
      · exact totI_end _ _ _ h1
def upS (t : Nat) (x : S38) : S38 := ⟨x.f0 + t, x.f1 + t, x.f2⟩
theorem out_drop {ws ss : List Int} {line : Int} (R : Right ws ss line) {t : Nat} (ht : t ≤ ws.length) : ∀ (d a : Nat), outI (tabI ws ss line ws.length) ws.length d (a + t : Nat) = (outI (tabI (ws.drop t) (ss.drop t) line (ws.drop t).length) (ws.drop t).length d a).map (upS t)
  | 0, a => rfl
  | d + 1, a => by
    have hl : (ws.drop t).length = ws.length - t := List.length_drop
    rcases Nat.lt_or_ge a (ws.drop t).length with h | h
    · obtain ⟨j', hj', e', -, m'⟩ := out_step (right_drop R t) (d := d) h
      obtain ⟨j, hj, e, -, m⟩ := out_step R (a := a + t) (d := d) (by omega)
      have hM := (mFrom_spec ws ss line (a + t)).1
      rw [m_drop] at hj' m'
      have hv : ∀ i, i < mFrom ws ss line (a + t) → val (ws.drop t) (ss.drop t) line a i = val ws ss line (a + t) i := by
        intro i hi
        unfold val
        rw [cst_drop ws ss line t _ _ ht, tot_drop R ht _ (a + i + 1) rfl (by omega), show a + i + 1 + t = a + t + i + 1 by omega]
      have : j = j' := argmin_unique (f := val ws ss line (a + t)) hj hj' m (fun i hi => by have := m' i hi; rw [hv i hi, hv j' hj'] at this; exact this)
      subst this
      rw [e, e', List.map_cons, show a + t + j + 1 = (a + j + 1) + t by omega, out_drop R ht d (a + j + 1), cst_drop ws ss line t _ _ ht]
      congr 1
    · rw [out_end _ _ _ _ (by omega), out_end _ _ _ _ h]; rfl
theorem runN_congr {p q : Nat → Bool} : ∀ (d k : Nat), (∀ j, k ≤ j → j < k + d → p j = q j) → Q.runN p d k = Q.runN q d k
  | 0, k, _ => rfl
  | d + 1, k, h => by
    unfold Q.runN
    rw [h k (by omega) (by omega), runN_congr d (k + 1) (fun j h1 h2 => h j (by omega) (by omega))]
/-- Bars whose systems cost the same are broken alike. -/
theorem tab_congr {ws ss ws' ss' : List Int} {line line' : Int} (hl : ws'.length = ws.length) (h : ∀ a b, a < b → b ≤ ws.length → costI (sumF ws' a b) (sumF ss' a b) line' = costI (sumF ws a b) (sumF ss a b) line) : ∀ (j : Nat), j ≤ ws.length → tabI ws' ss' line' j = tabI ws ss line j
  | 0, _ => rfl
  | j + 1, hj => by
    have hm : ∀ a, mFrom ws' ss' line' a = mFrom ws ss line a := by
      intro a
      unfold mFrom
      rw [hl]
      exact runN_congr _ _ (fun k _ h2 => by rw [h _ _ (by omega) (by omega)])
    have hi : ∀ a, itI ws' ss' line' a = itI ws ss line a := by
      intro a
      unfold itI
      rw [hm a, hl]
      apply List.map_congr_left
      intro i hi
      have := (mFrom_spec ws ss line a).1
      have := List.mem_range.1 hi
      rw [h a (a + i + 1) (by omega) (by omega)]
    funext i
    show (if i = ((ws'.length - 1 - j : Nat) : Int) then bestW (tabI ws' ss' line' j) (itI ws' ss' line' (ws'.length - 1 - j)) else tabI ws' ss' line' j i) = (if i = ((ws.length - 1 - j : Nat) : Int) then bestW (tabI ws ss line j) (itI ws ss line (ws.length - 1 - j)) else tabI ws ss line j i)
    rw [hl, tab_congr hl h j (by omega), hi]
theorem sumF_scale (k : Int) (l : List Int) (a b : Nat) : sumF (l.map (k * ·)) a b = k * sumF l a b := by
  unfold sumF
  rw [← List.map_take, ← List.map_drop]
  induction (List.drop a (List.take b l)) with
  | nil => simp
  | cons x t ih => rw [List.map_cons, List.sum_cons, List.sum_cons, ih, Int.mul_add]
theorem badI_scale {k g s : Int} (hk : 0 < k) (hg : 0 ≤ g) (hs : 0 ≤ s) : badI (k * g) (k * s) = badI g s := by
  have e0 : ∀ x : Int, 0 ≤ x → (k * x = 0 ↔ x = 0) := fun x _ => by
    constructor
    · intro h; rcases Int.mul_eq_zero.1 h with h | h
      · omega
      · exact h
    · rintro rfl; simp
  have e1 : ∀ x y : Int, k * x ≥ 5 * (k * y) ↔ x ≥ 5 * y := fun x y => by
    rw [show 5 * (k * y) = k * (5 * y) by rw [← Int.mul_assoc, Int.mul_comm 5 k, Int.mul_assoc]]
    constructor
    · intro h; exact Int.le_of_mul_le_mul_left h hk
    · intro h; exact Int.mul_le_mul_of_nonneg_left h (by omega)
  by_cases c1 : g = 0
  · subst c1; rw [Int.mul_zero, badI_zero, badI_zero]
  by_cases c2 : s = 0
  · subst c2
    unfold badI
    rw [if_neg (by rw [e0 g hg]; exact c1), if_neg c1, if_pos (by simp), if_pos rfl]
  by_cases c3 : g ≥ 5 * s
  · unfold badI
    rw [if_neg (by rw [e0 g hg]; exact c1), if_neg (by rw [e0 s hs]; exact c2), if_pos ((e1 g s).2 c3), if_neg c1, if_neg c2, if_pos c3]
  by_cases c4 : s ≥ 5 * g
  · unfold badI
    rw [if_neg (by rw [e0 g hg]; exact c1), if_neg (by rw [e0 s hs]; exact c2), if_neg (by rw [e1 g s]; exact c3), if_pos ((e1 s g).2 c4), if_neg c1, if_neg c2, if_neg c3, if_pos c4]
  rw [badI_mid (Int.mul_nonneg (by omega) hg) (Int.mul_pos hk (by omega)) (by rw [e1 g s]; exact c3) (by rw [e1 s g]; exact c4), badI_mid hg (by omega) c3 c4]
  have e2 : ∀ x : Int, k * x * (k * x) * (k * x) = (k * k * k) * (x * x * x) := fun x => by
    simp only [Int.mul_assoc, Int.mul_left_comm]
  rw [e2 g, e2 s, Int.mul_left_comm 100, Int.mul_ediv_mul_of_pos _ _ (cube_pos hk)]
end Go.Proofs.YtneaoicjbiebkaaDoor.Pure
