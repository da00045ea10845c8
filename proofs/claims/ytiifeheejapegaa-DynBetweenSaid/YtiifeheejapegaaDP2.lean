/- Plain facts on dynamics: which one isn't right. No conditions. -/
import Derived.Test.YtiifeheejapegaaRatio
import Derived.Test.YtiifeheejapegaaKinds
import Derived.Test.YtiifeheejapegaaQ3
namespace Go.Proofs.Ytiifeheejapegaa.Q
open Go.RowKit Go.Proofs.YtiifeheejapegaaW.PrintWords Go.Proofs.YtiifeheejapegaaW.PrintMore
/-- Is dynamic i not right, or not above the one ahead? -/
def badB (l : List S36) (i : Nat) : Bool :=
  !(rightB (rd_T36 l i).f0.f0 (rd_T36 l i).f0.f1 && decide (0 ≤ (rd_T36 l i).f0.f0)) || (decide ((rd_T36 l i).f1 < 1) || (decide (127 < (rd_T36 l i).f1) ||
    (decide (0 < i) && decide (cmpI (rd_T36 l i).f0.f0 (rd_T36 l i).f0.f1 (rd_T36 l ((i : Int) - 1)).f0.f0 (rd_T36 l ((i : Int) - 1)).f0.f1 ≤ 0))))
def chk (l : List S36) : Nat → Nat → Int × Int
  | 0, _ => (0, 0)
  | n + 1, i => if badB l i = true then ((i : Int), 120) else chk l n (i + 1)
def checkI (l : List S36) : Int × Int := chk l l.length 0
theorem placed_f (a b : Int) : dyn_placed.f a b = some (rightB a b && decide (0 ≤ a)) := by
  unfold dyn_placed.f ratio_Right.f
  cases rightB a b <;> simp
theorem dyn_Check_l0 (l : List S36) (hl : l.length ≤ 1000) : ∀ (n k i : Nat), i + n = l.length → n < k → dyn_Check.l0 k l l (l.length : Int) (i : Int) = some (chk l n i) := by
  intro n
  induction n with
  | zero =>
    intro k i hi hk
    obtain ⟨k, rfl⟩ : ∃ m, k = m + 1 := ⟨k - 1, by omega⟩
    simp only [dyn_Check.l0, chk]
    rw [if_neg (by omega)]
  | succ n ih =>
    intro k i hi hk
    obtain ⟨k, rfl⟩ : ∃ m, k = m + 1 := ⟨k - 1, by omega⟩
    simp only [dyn_Check.l0, chk]
    rw [if_pos (by omega), if_pos (by omega), if_pos (by omega), placed_f]
    simp only [Option.bind_some]
    have hnext : dyn_Check.l0 k l l (l.length : Int) (wrap64 ((i : Int) + 1)) = some (chk l n (i + 1)) := by
      rw [wrap64_id (by unfold i64; omega)]
      exact ih k (i + 1) (by omega) (by omega)
    by_cases h1 : (rightB (rd_T36 l i).f0.f0 (rd_T36 l i).f0.f1 && decide (0 ≤ (rd_T36 l i).f0.f0)) = true
    · rw [if_pos h1]
      by_cases h2 : (rd_T36 l i).f1 < 1
      · have hb : badB l i = true := by unfold badB; rw [decide_eq_true h2]; simp
        rw [if_pos h2, if_pos hb]
      · rw [if_neg h2]
        by_cases h3 : (rd_T36 l i).f1 > 127
        · have hb : badB l i = true := by unfold badB; rw [decide_eq_true (show 127 < (rd_T36 l i).f1 from h3)]; simp
          rw [if_pos h3, if_pos hb]
        · rw [if_neg h3]
          by_cases h4 : (i : Int) > 0
          · rw [if_pos h4, wrap64_id (n := (i : Int) - 1) (by unfold i64; omega), if_pos (by omega), if_pos (by omega)]
            simp only [ratio_Compare.f, Option.bind_some]
            by_cases h5 : cmpI (rd_T36 l i).f0.f0 (rd_T36 l i).f0.f1 (rd_T36 l ((i : Int) - 1)).f0.f0 (rd_T36 l ((i : Int) - 1)).f0.f1 ≤ 0
            · have hb : badB l i = true := by unfold badB; rw [decide_eq_true h5, decide_eq_true (show 0 < i by omega)]; simp
              rw [if_pos h5, if_pos hb]
            · have hb : badB l i = false := by unfold badB; rw [h1, decide_eq_false h2, decide_eq_false (show ¬ 127 < (rd_T36 l i).f1 from h3), decide_eq_false h5]; simp
              rw [if_neg h5, hb, if_neg (by decide)]
              exact hnext
          · have hb : badB l i = false := by unfold badB; rw [h1, decide_eq_false h2, decide_eq_false (show ¬ 127 < (rd_T36 l i).f1 from h3), decide_eq_false (show ¬ 0 < i by omega)]; simp
            rw [if_neg h4, hb, if_neg (by decide)]
            exact hnext
    · have hb : badB l i = true := by unfold badB; rw [Bool.eq_false_iff.mpr h1]; rfl
      rw [if_neg h1, if_pos hb]
theorem dyn_Check_f (l : List S36) (hl : l.length ≤ 1000) {k : Nat} (hk : 1000 < k) : dyn_Check.f k l = some (checkI l) := by
  unfold dyn_Check.f checkI
  exact dyn_Check_l0 l hl l.length k 0 (by omega) (by omega)
theorem chk_err (l : List S36) : ∀ (n i : Nat), (chk l n i).2 = 0 ∨ (chk l n i).2 = 120 := by
  intro n
  induction n with
  | zero => intro i; simp [chk]
  | succ n ih => intro i; simp only [chk]; split; exact .inr rfl; exact ih (i + 1)
/-- Dynamics that are right. -/
theorem chk_ok (l : List S36) : ∀ (n i : Nat), i + n = l.length → (chk l n i).2 = 0 → ∀ j, i ≤ j → j < l.length → badB l j = false := by
  intro n
  induction n with
  | zero => intro i hi h j h1 h2; omega
  | succ n ih =>
    intro i hi h j h1 h2
    simp only [chk] at h
    by_cases hb : badB l i = true
    · rw [if_pos hb] at h; simp at h
    · rw [if_neg hb] at h
      by_cases e : j = i
      · subst e; exact Bool.eq_false_iff.mpr hb
      · exact ih (i + 1) (by omega) h j (by omega) h2
/-- Each is right, and above the one ahead. -/
def Good (l : List S36) : Prop := ∀ j, j < l.length → badB l j = false
theorem check_ok {l : List S36} : (checkI l).2 = 0 ↔ Good l := by
  constructor
  · intro h j hj
    exact chk_ok l l.length 0 (by omega) h j (by omega) hj
  · intro h
    have : ∀ (n i : Nat), i + n = l.length → (chk l n i).2 = 0 := by
      intro n
      induction n with
      | zero => intro i _; rfl
      | succ n ih => intro i hi; simp only [chk]; rw [h i (by omega), if_neg (by decide)]; exact ih (i + 1) (by omega)
    exact this l.length 0 (by omega)
theorem check_zero {l : List S36} (h : (checkI l).2 = 0) : checkI l = (0, 0) := by
  have : ∀ (n i : Nat), (chk l n i).2 = 0 → chk l n i = (0, 0) := by
    intro n
    induction n with
    | zero => intro i _; rfl
    | succ n ih => intro i hi; simp only [chk] at hi ⊢; split at hi; simp at hi; rename_i hb; rw [if_neg hb]; exact ih (i + 1) hi
  exact this _ _ h
/-- The numbers came in. -/
def In36 (l : List S36) : Prop := ∀ d ∈ l, i64 d.f0.f0 ∧ i64 d.f0.f1 ∧ i64 d.f1
theorem in36_of {l : List S36} (h : ∀ y ∈ l, wf36 y) : In36 l := fun d hd => ⟨i64_of (h d hd).1.1, i64_of (h d hd).1.2, i64_of (h d hd).2.1⟩
theorem rd_mem {l : List S36} {i : Int} (h0 : 0 ≤ i) (h : i < l.length) : rd_T36 l i ∈ l := by
  unfold rd_T36
  rw [List.getD_eq_getElem?_getD, List.getElem?_eq_getElem (by omega)]
  exact List.getElem_mem _
theorem In36.at {l : List S36} (h : In36 l) {i : Int} (h0 : 0 ≤ i) (h1 : i < l.length) : i64 (rd_T36 l i).f0.f0 ∧ i64 (rd_T36 l i).f0.f1 ∧ i64 (rd_T36 l i).f1 := h _ (rd_mem h0 h1)
theorem Good.rt {l : List S36} (h : Good l) (hi : In36 l) {j : Nat} (hj : j < l.length) : Rt (rd_T36 l j).f0.f0 (rd_T36 l j).f0.f1 ∧ 0 ≤ (rd_T36 l j).f0.f0 ∧ 1 ≤ (rd_T36 l j).f1 ∧ (rd_T36 l j).f1 ≤ 127 := by
  have hb := h j hj
  unfold badB at hb
  simp only [Bool.or_eq_false_iff, Bool.not_eq_false', Bool.and_eq_true, decide_eq_true_eq, decide_eq_false_iff_not] at hb
  have ha := hi.at (i := (j : Int)) (by omega) (by omega)
  exact ⟨(rightB_iff ha.1 ha.2.1).1 hb.1.1, hb.1.2, by omega, by omega⟩
theorem Good.next {l : List S36} (h : Good l) (hi : In36 l) {j : Nat} (hj : j + 1 < l.length) : (rd_T36 l j).f0.f0 * (rd_T36 l ((j : Int) + 1)).f0.f1 < (rd_T36 l ((j : Int) + 1)).f0.f0 * (rd_T36 l j).f0.f1 := by
  have hb := h (j + 1) hj
  unfold badB at hb
  simp only [Bool.or_eq_false_iff, Bool.and_eq_false_iff, decide_eq_false_iff_not] at hb
  have h4 := hb.2.2.2
  have r1 := h.rt hi hj
  have r0 := h.rt hi (show j < l.length by omega)
  have a1 := hi.at (i := ((j + 1 : Nat) : Int)) (by omega) (by omega)
  have a0 := hi.at (i := (j : Int)) (by omega) (by omega)
  rw [show (((j + 1 : Nat) : Int) - 1) = (j : Int) by omega] at h4
  have h5 := h4.resolve_left (by omega)
  rw [cmpI_rt a1.1 a1.2.1 a0.1 a0.2.1 r1.1 r0.1] at h5
  rw [show (((j + 1 : Nat)) : Int) = (j : Int) + 1 by omega] at h5
  split at h5
  · omega
  · split at h5
    · assumption
    · omega
/-- Places rise. -/
theorem Good.lt {l : List S36} (h : Good l) (hi : In36 l) : ∀ (n j : Nat), j + n + 1 < l.length → (rd_T36 l j).f0.f0 * (rd_T36 l ((j + n + 1 : Nat) : Int)).f0.f1 < (rd_T36 l ((j + n + 1 : Nat) : Int)).f0.f0 * (rd_T36 l j).f0.f1 := by
  intro n
  induction n with
  | zero => intro j hj; exact h.next hi hj
  | succ n ih =>
    intro j hj
    have h1 := ih j (by omega)
    have h2 := h.next hi (show (j + n + 1) + 1 < l.length by omega)
    have r0 := h.rt hi (show j < l.length by omega)
    have r1 := h.rt hi (show j + n + 1 < l.length by omega)
    have r2 := h.rt hi (show j + n + 1 + 1 < l.length by omega)
    exact lt_trans_ r0.1.pos r1.1.pos r2.1.pos (Int.le_of_lt h1) h2
theorem Good.lt_of {l : List S36} (h : Good l) (hi : In36 l) {i j : Nat} (hij : i < j) (hj : j < l.length) : (rd_T36 l i).f0.f0 * (rd_T36 l j).f0.f1 < (rd_T36 l j).f0.f0 * (rd_T36 l i).f0.f1 := by
  have := h.lt hi (j - i - 1) i (by omega)
  rwa [show i + (j - i - 1) + 1 = j by omega] at this
end Go.Proofs.Ytiifeheejapegaa.Q
