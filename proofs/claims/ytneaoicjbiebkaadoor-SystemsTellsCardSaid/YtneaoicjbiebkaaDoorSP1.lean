/- Common plain facts of chapter 25: the opening, costs. No conditions. -/
import Derived.Test.YtneaoicjbiebkaaDoorKinds
import Derived.Test.YtneaoicjbiebkaaDoorQ4
namespace Go.Proofs.YtneaoicjbiebkaaDoor.Pure
open Go.RowKit Go.Proofs.YtneaoicjbiebkaaDoor.Q Go.Proofs.YtneaoicjbiebkaaDoorW.PrintWords Go.Proofs.YtneaoicjbiebkaaDoorW.PrintMore
set_option linter.unusedVariables false
theorem mono_ge {α : Type} {f : Nat → Option α} (h : ∀ k, LeO (f k) (f (k + 1))) {k m : Nat} {r : α} (hk : f k = some r) (hm : k ≤ m) : f m = some r := by
  obtain ⟨d, rfl⟩ : ∃ d, m = k + d := ⟨m - k, by omega⟩
  clear hm
  induction d with
  | zero => exact hk
  | succ d ih => exact h _ _ ih
set_option maxRecDepth 100000 in
theorem shown_ok {k : Nat} (hk : 10 ≤ k) : partitalaw25_shown.f k = some true := mono_ge partitalaw25_shown.mono (k := 10) (by decide +kernel) hk
theorem mn_eq (a b : Int) : mn a b = min a b := by unfold mn; split <;> omega
theorem badI_mid {g s : Int} (h0 : 0 ≤ g) (h1 : 0 < s) (h2 : ¬ g ≥ 5 * s) (h3 : ¬ s ≥ 5 * g) : badI g s = min 10000 (100 * (g * g * g) / (s * s * s)) := by
  unfold badI
  rw [if_neg (by omega), if_neg (by omega), if_neg h2, if_neg h3, mn_eq, Int.tdiv_eq_ediv_of_nonneg]
  have := (cube_le h0 (Int.le_refl g)).1
  omega
theorem cube_pos {s : Int} (h : 0 < s) : 0 < s * s * s := Int.mul_pos (Int.mul_pos h h) h
theorem badI_range {g s : Int} (h0 : 0 ≤ g) (h1 : 0 ≤ s) : 0 ≤ badI g s ∧ badI g s ≤ 10000 := by
  by_cases c : g = 0 ∨ s = 0 ∨ g ≥ 5 * s ∨ s ≥ 5 * g
  · unfold badI
    repeat' split
    all_goals first | omega | (rw [mn_eq]; omega)
  · rw [badI_mid h0 (by omega) (by omega) (by omega)]
    have h3 := (cube_le h0 (Int.le_refl g)).1
    have h4 := Int.ediv_nonneg (a := 100 * (g * g * g)) (by omega) (Int.le_of_lt (cube_pos (s := s) (by omega)))
    omega
theorem badI_zero (s : Int) : badI 0 s = 0 := by unfold badI; rw [if_pos rfl]
theorem badI_gap {g g' s : Int} (h0 : 0 ≤ g) (h : g ≤ g') (h1 : 0 ≤ s) : badI g s ≤ badI g' s := by
  have r := badI_range h0 h1
  have r' := badI_range (g := g') (by omega) h1
  by_cases c : g = 0
  · subst c; rw [badI_zero]; exact r'.1
  by_cases c1 : s = 0 ∨ g' ≥ 5 * s
  · have : badI g' s = 10000 := by
      unfold badI
      rw [if_neg (by omega)]
      by_cases c2 : s = 0
      · rw [if_pos c2]
      · rw [if_neg c2, if_pos (by omega)]
    omega
  by_cases c2 : s ≥ 5 * g
  · have : badI g s = 0 := by
      unfold badI
      rw [if_neg c, if_neg (by omega), if_neg (by omega), if_pos c2]
    omega
  rw [badI_mid h0 (by omega) (by omega) c2, badI_mid (by omega) (by omega) (by omega) (by omega)]
  have h3 := (cube_le h0 h).2
  have h4 : 100 * (g * g * g) / (s * s * s) ≤ 100 * (g' * g' * g') / (s * s * s) := Int.ediv_le_ediv (cube_pos (by omega)) (by omega)
  omega
theorem div_anti {a b c : Int} (ha : 0 ≤ a) (hc : 0 < c) (hcb : c ≤ b) : a / b ≤ a / c := by
  rw [Int.le_ediv_iff_mul_le hc]
  have h1 : a / b * b ≤ a := Int.ediv_mul_le a (by omega)
  have h2 : 0 ≤ a / b := Int.ediv_nonneg ha (by omega)
  exact Int.le_trans (Int.mul_le_mul_of_nonneg_left hcb h2) h1
theorem badI_stretch {g s s' : Int} (h0 : 0 ≤ g) (h : s' ≤ s) (h1 : 0 ≤ s') : badI g s ≤ badI g s' := by
  have r := badI_range h0 (s := s) (by omega)
  have r' := badI_range h0 h1
  by_cases c : g = 0
  · subst c; rw [badI_zero, badI_zero]; exact Int.le_refl _
  by_cases c1 : s' = 0 ∨ g ≥ 5 * s'
  · have : badI g s' = 10000 := by
      unfold badI
      rw [if_neg (by omega)]
      by_cases c2 : s' = 0
      · rw [if_pos c2]
      · rw [if_neg c2, if_pos (by omega)]
    omega
  by_cases c2 : s ≥ 5 * g
  · have : badI g s = 0 := by
      unfold badI
      rw [if_neg c, if_neg (by omega), if_neg (by omega), if_pos c2]
    omega
  rw [badI_mid h0 (by omega) (by omega) c2, badI_mid (by omega) (by omega) (by omega) (by omega)]
  have h3 := (cube_le (a := s') (n := s) (by omega) h).2
  have h5 := (cube_le h0 (Int.le_refl g)).1
  have h4 := div_anti (a := 100 * (g * g * g)) (by omega) (cube_pos (s := s') (by omega)) h3
  omega
theorem costI_ok {w s l : Int} (h : (costI w s l).2 = true) : (1 ≤ w ∧ w ≤ 100000 ∧ 1 ≤ l ∧ l ≤ 100000 ∧ 0 ≤ s ∧ s ≤ 10000000 ∧ w ≤ l) ∧ (costI w s l).1 = badI (l - w) s := by
  unfold costI at h ⊢
  split
  · rename_i c; exact ⟨c, rfl⟩
  · rename_i c; rw [if_neg c] at h; cases h
theorem costI_no {w s l : Int} (h : (costI w s l).2 = false) : costI w s l = (0, false) := by
  unfold costI at h ⊢
  split
  · rename_i c; rw [if_pos c] at h; cases h
  · rfl
theorem costI_range (w s l : Int) : 0 ≤ (costI w s l).1 ∧ (costI w s l).1 ≤ 10000 := by
  cases h : (costI w s l).2 with
  | true => obtain ⟨h1, h2⟩ := costI_ok h; rw [h2]; exact badI_range (by omega) (by omega)
  | false => rw [costI_no h]; exact ⟨Int.le_refl _, by decide⟩
end Go.Proofs.YtneaoicjbiebkaaDoor.Pure
