/- The document's right ratios, their order, sums and differences: the program's. No conditions. -/
import Derived.Test.YtbncdlnnjhadgaaMP1
import Derived.Test.YtbncdlnnjhadgaaQ9
import Derived.Test.YtbncdlnnjhadgaaQ9
import Derived.Test.YtbncdlnnjhadgaaQ10
import Derived.Test.YtbncdlnnjhadgaaQ10
namespace Go.Proofs.Ytbncdlnnjhadgaa.Q
open Go.RowKit Go.Proofs.YtbncdlnnjhadgaaW.PrintWords Go.Proofs.YtbncdlnnjhadgaaW.PrintMore
set_option linter.unusedVariables false
set_option linter.unusedSimpArgs false
theorem refRight {a b : Int} (ha : i64 a) (hb : i64 b) (k : Nat) : partitaref01_Right.f (k + 1) a b = some (rightB a b) := by
  unfold partitaref01_Right.f
  by_cases h0 : b < 1
  · rw [if_pos h0]
    congr 1
    symm; rw [Bool.eq_false_iff]; intro h
    have := (rightB_iff ha hb).1 h
    have := this.1; omega
  · rw [if_neg h0, refOf ha hb, Option.bind_some]
    unfold ofQ
    simp only [if_neg (show ¬ b = 0 by omega)]
    have hg : 0 < Nat.gcd a.natAbs b.natAbs := Nat.gcd_pos_of_pos_right _ (by omega)
    have e : Int.gcd a b = Nat.gcd a.natAbs b.natAbs := rfl
    have d1 : Nat.gcd a.natAbs b.natAbs ∣ a.natAbs := Nat.gcd_dvd_left _ _
    have d2 : Nat.gcd a.natAbs b.natAbs ∣ b.natAbs := Nat.gcd_dvd_right _ _
    have hR := rightB_iff ha hb
    unfold Rt at hR
    rw [e] at hR
    generalize Nat.gcd a.natAbs b.natAbs = g at hg d1 d2 hR ⊢
    by_cases h1 : 1000000000 < a.natAbs / g ∨ 1000000000 < b.natAbs / g
    · rw [if_pos h1]
      rw [if_neg (by decide)]
      congr 1; symm; rw [Bool.eq_false_iff]; intro h
      have := hR.1 h
      have x1 : a.natAbs / g ≤ a.natAbs := Nat.div_le_self _ _
      have x2 : b.natAbs / g ≤ b.natAbs := Nat.div_le_self _ _
      omega
    · rw [if_neg h1]
      simp only [if_true]
      congr 1
      rw [Bool.eq_iff_iff, hR, Bool.and_eq_true, beq_iff_eq, beq_iff_eq]
      by_cases hg1 : g = 1
      · subst hg1
        simp only [Nat.div_one] at h1 ⊢
        by_cases h3 : a < 0
        · have : (a < 0) ≠ (b < 0) := by simp [h3]; omega
          rw [if_pos this]; simp only [and_true]; omega
        · have : ¬ ((a < 0) ≠ (b < 0)) := by simp [h3]; omega
          rw [if_neg this]; simp only [and_true]; omega
      · have x2 : b.natAbs / g < b.natAbs := Nat.div_lt_self (by omega) (by omega)
        constructor
        · intro h; omega
        · intro h; omega
theorem refCompare {a b c d : Int} (ha : i64 a) (hb : i64 b) (hc : i64 c) (hd : i64 d) (k : Nat) : partitaref01_Compare.f (k + 1) a b c d = some (cmpI a b c d) := by
  unfold partitaref01_Compare.f partitaref01_both.f
  rw [refRight ha hb, Option.bind_some]
  by_cases h1 : rightB a b = true
  · rw [if_pos h1, refRight hc hd]
    simp only [Option.bind_some]
    by_cases h2 : rightB c d = true
    · rw [if_pos h2]
      have r1 := (rightB_iff ha hb).1 h1
      have r2 := (rightB_iff hc hd).1 h2
      rw [cmpI_rt ha hb hc hd r1 r2]
      have x1 := mul_bd r1.num r2.den
      have x2 := mul_bd r2.num r1.den
      rw [wrap64_id (n := a * d) (i64_small (by omega)), wrap64_id (n := c * b) (i64_small (by omega))]
      split
      · rfl
      · split
        · rfl
        · rfl
    · rw [if_neg h2]
      simp [cmpI, h2]
  · simp [h1, cmpI]
theorem i64_wrap (n : Int) : i64 (wrap64 n) := by unfold i64 wrap64; omega
theorem refBoth {a b c d : Int} (ha : i64 a) (hb : i64 b) (hc : i64 c) (hd : i64 d) (k : Nat) : partitaref01_both.f (k + 1) a b c d = some (rightB a b && rightB c d) := by
  unfold partitaref01_both.f
  rw [refRight ha hb, Option.bind_some]
  by_cases h1 : rightB a b = true
  · rw [if_pos h1, refRight hc hd, h1, Bool.true_and]; rfl
  · have : rightB a b = false := by simpa using h1
    rw [if_neg h1, this, Bool.false_and]
theorem refAdd {a b c d : Int} (ha : i64 a) (hb : i64 b) (hc : i64 c) (hd : i64 d) (k : Nat) : partitaref01_Add.f (k + 1) a b c d = ratio_Add.f a b c d := by
  unfold partitaref01_Add.f ratio_Add.f doI
  rw [refBoth ha hb hc hd, Option.bind_some]
  by_cases h : (rightB a b && rightB c d) = true
  · rw [if_pos h, if_pos h, refOf (i64_wrap _) (i64_wrap _), ratioOf (i64_wrap _) (i64_wrap _)]; rfl
  · rw [if_neg h, if_neg h]
theorem refSub {a b c d : Int} (ha : i64 a) (hb : i64 b) (hc : i64 c) (hd : i64 d) (k : Nat) : partitaref01_Sub.f (k + 1) a b c d = ratio_Sub.f a b c d := by
  unfold partitaref01_Sub.f ratio_Sub.f doI
  rw [refBoth ha hb hc hd, Option.bind_some]
  by_cases h : (rightB a b && rightB c d) = true
  · rw [if_pos h, if_pos h, refOf (i64_wrap _) (i64_wrap _), ratioOf (i64_wrap _) (i64_wrap _)]; rfl
  · rw [if_neg h, if_neg h]
end Go.Proofs.Ytbncdlnnjhadgaa.Q
