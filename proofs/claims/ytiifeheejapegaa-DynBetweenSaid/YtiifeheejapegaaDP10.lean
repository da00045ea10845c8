/- Plain facts: at a dynamic's place it is as loud as it tells; between two dynamics it is between their levels. No conditions. -/
import Derived.Test.YtiifeheejapegaaDP8
namespace Go.Proofs.Ytiifeheejapegaa.Q
open Go.RowKit Go.Proofs.YtiifeheejapegaaW.PrintWords Go.Proofs.YtiifeheejapegaaW.PrintMore
set_option linter.unusedVariables false
theorem wayV_zero (G : Int) (up : Bool) : wayV 0 G up = 0 := by
  unfold wayV
  rw [Int.zero_ediv, Int.mul_zero]
  simp
theorem cut_at {l : List S36} (hin : In36 l) (hg : Good l) {i m : Nat} (hi : i < l.length) (hm : Cut l (rd_T36 l i).f0.f0 (rd_T36 l i).f0.f1 m) : m = i + 1 := by
  obtain ⟨m0, m1, m2⟩ := hm
  have h1 : i < m := by
    by_cases h : i < m
    · exact h
    · have := m2 i (by omega) hi; omega
  by_cases h2 : i + 1 < m
  · have h3 := m1 (i + 1) h2
    have h4 := hg.lt_of hin (show i < i + 1 by omega) (show i + 1 < l.length by omega)
    omega
  · omega
theorem level_at {l : List S36} {i : Nat} : levelV l (rd_T36 l i).f0.f0 (rd_T36 l i).f0.f1 (i + 1) = (rd_T36 l i).f1 := by
  unfold levelV
  rw [if_neg (by omega), show ((i + 1 : Nat) : Int) - 1 = (i : Int) by omega]
  simp only
  split
  · rfl
  · split
    · rw [Int.sub_self, Int.zero_mul, Int.zero_mul, wayV_zero]; omega
    · rw [Int.sub_self, Int.zero_mul, Int.zero_mul, wayV_zero]; omega
theorem mn_le (p q : Int) : mn p q ≤ p ∧ mn p q ≤ q := by unfold mn; split <;> omega
theorem le_mx (p q : Int) : p ≤ mx p q ∧ q ≤ mx p q := by unfold mx; split <;> omega
theorem level_mid {l : List S36} (hin : In36 l) (hg : Good l) {a b : Int} (hr : Rt a b) {i : Nat} (hi : i + 1 < l.length) (hc : Cut l a b (i + 1)) :
    mn (rd_T36 l i).f1 (rd_T36 l ((i : Int) + 1)).f1 ≤ levelV l a b (i + 1) ∧ levelV l a b (i + 1) ≤ mx (rd_T36 l i).f1 (rd_T36 l ((i : Int) + 1)).f1 := by
  obtain ⟨m0, m1, m2⟩ := hc
  have hx := hg.rt hin (show i < l.length by omega)
  have hy := hg.rt hin hi
  have hle := m1 i (by omega)
  have hlt := m2 (i + 1) (Nat.le_refl _) hi
  have e : ((i + 1 : Nat) : Int) = (i : Int) + 1 := by omega
  rw [e] at hy hlt
  have hmn := mn_le (rd_T36 l i).f1 (rd_T36 l ((i : Int) + 1)).f1
  have hmx := le_mx (rd_T36 l i).f1 (rd_T36 l ((i : Int) + 1)).f1
  unfold levelV
  rw [if_neg (show ¬ i + 1 = 0 by omega), e, show (i : Int) + 1 - 1 = (i : Int) by omega]
  simp only
  generalize rd_T36 l ((i : Int) + 1) = y at *
  generalize rd_T36 l (i : Int) = x at *
  by_cases hh : i + 1 = l.length ∨ x.f2 = false
  · rw [if_pos hh]
    omega
  · rw [if_neg hh]
    by_cases hxy : x.f1 ≤ y.f1
    · obtain ⟨_, _, w3, w4, w5, _⟩ := way_part (steps := y.f1 - x.f1) hx.2.1 hx.1 hr hy.1 hle hlt (by omega) false
      have wb := wayV_bd (up := false) w3 w4 w5
      rw [if_pos hxy]
      omega
    · obtain ⟨_, _, w3, w4, w5, _⟩ := way_part (steps := x.f1 - y.f1) hx.2.1 hx.1 hr hy.1 hle hlt (by omega) true
      have wb := wayV_bd (up := true) w3 w4 w5
      rw [if_neg hxy]
      omega
theorem level_in {l : List S36} (hin : In36 l) (hg : Good l) {a b : Int} (hr : Rt a b) {m : Nat} (hc : Cut l a b m) : 1 ≤ levelV l a b m ∧ levelV l a b m ≤ 127 := by
  by_cases h0 : m = 0
  · unfold levelV; rw [if_pos h0]; omega
  · obtain ⟨i, rfl⟩ : ∃ i, m = i + 1 := ⟨m - 1, by omega⟩
    have hx := hg.rt hin (show i < l.length by have := hc.1; omega)
    by_cases hi : i + 1 < l.length
    · have hb := level_mid hin hg hr hi hc
      have hy := hg.rt hin hi
      rw [show ((i + 1 : Nat) : Int) = (i : Int) + 1 by omega] at hy
      unfold mn mx at hb
      constructor
      · have := hb.1; split at this <;> omega
      · have := hb.2; split at this <;> omega
    · have e : i + 1 = l.length := by have := hc.1; omega
      unfold levelV
      rw [if_neg (by omega), show ((i + 1 : Nat) : Int) - 1 = (i : Int) by omega]
      simp only
      rw [if_pos (.inl e)]
      omega
end Go.Proofs.Ytiifeheejapegaa.Q
