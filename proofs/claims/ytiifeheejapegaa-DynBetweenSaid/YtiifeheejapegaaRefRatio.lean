/- The document's ratios are the program's: what is right, what is compared. No conditions. -/
import Derived.Test.YtiifeheejapegaaOfQ
import Derived.Test.YtiifeheejapegaaQ7
namespace Go.Proofs.Ytiifeheejapegaa.Q
open Go.RowKit Go.Proofs.YtiifeheejapegaaW.PrintWords Go.Proofs.YtiifeheejapegaaW.PrintMore
theorem sizeR {n : Int} (h : i64 n) : partitaref01_size.f n = some (n.natAbs : Int) := by
  unfold partitaref01_size.f; unfold i64 at h
  by_cases h0 : n < 0
  · rw [if_pos h0, wrapU, wrapU, wrap64_id (n := n + 1) (by unfold i64; omega), wrap64_id (by unfold i64; omega)]
    congr 1; omega
  · rw [if_neg h0, wrapU]; congr 1; omega
theorem refOf {a b : Int} (ha : i64 a) (hb : i64 b) (k : Nat) : partitaref01_Of.f (k + 1) a b = some (ofQ a b) := by
  unfold partitaref01_Of.f ofQ
  by_cases h0 : b = 0
  · rw [if_pos h0]; simp only [h0, if_true]
  · rw [if_neg h0]
    simp only [if_neg h0, sizeR ha, sizeR hb, Option.bind_some, partitaref01_divisor.f]
    rw [if_pos ⟨by omega, by omega⟩]
    simp only [Option.bind_some, Int.gcd_natCast_natCast]
    have hg : 0 < Nat.gcd a.natAbs b.natAbs := Nat.gcd_pos_of_pos_right _ (by omega)
    generalize hG : Nat.gcd a.natAbs b.natAbs = g at hg ⊢
    rw [if_neg (by omega), tdiv_nat, tdiv_nat, wrapU, wrapU]
    unfold i64 at ha hb
    have hx : a.natAbs / g ≤ a.natAbs := Nat.div_le_self _ _
    have hy : b.natAbs / g ≤ b.natAbs := Nat.div_le_self _ _
    generalize a.natAbs / g = x at hx ⊢
    generalize b.natAbs / g = y at hy ⊢
    rw [show (x : Int) % 18446744073709551616 = x by omega, show (y : Int) % 18446744073709551616 = y by omega]
    by_cases h1 : 1000000000 < x
    · rw [if_pos (by omega), if_pos (.inl h1)]
      simp [partitaref01_Of.j0]
    · rw [if_neg (by omega)]
      by_cases h2 : 1000000000 < y
      · rw [decide_eq_true (by omega), if_pos (.inr h2)]
        simp [partitaref01_Of.j0]
      · rw [decide_eq_false (by omega), if_neg (by omega)]
        simp only [partitaref01_Of.j0, Bool.false_eq_true, if_false]
        rw [wrap64_id (n := (x : Int)) (by unfold i64; omega), wrap64_id (n := (y : Int)) (by unfold i64; omega), wrap64_id (n := -(x : Int)) (by unfold i64; omega)]
        by_cases h3 : a < 0 <;> by_cases h4 : b < 0 <;> simp [h3, h4]
theorem refRight {a b : Int} (ha : i64 a) (hb : i64 b) (k : Nat) : partitaref01_Right.f (k + 1) a b = some (rightB a b) := by
  unfold partitaref01_Right.f
  by_cases h0 : b < 1
  · rw [if_pos h0]
    congr 1
    symm; rw [Bool.eq_false_iff]; intro h
    have := (rightB_iff ha hb).1 h
    have := this.1; omega
  · rw [if_neg h0, refOf ha hb, Option.bind_some]
    unfold ofQ
    simp only [if_neg (show ¬ b = 0 by omega)]
    have hg : 0 < Nat.gcd a.natAbs b.natAbs := Nat.gcd_pos_of_pos_right _ (by omega)
    have e : Int.gcd a b = Nat.gcd a.natAbs b.natAbs := rfl
    have d1 : Nat.gcd a.natAbs b.natAbs ∣ a.natAbs := Nat.gcd_dvd_left _ _
    have d2 : Nat.gcd a.natAbs b.natAbs ∣ b.natAbs := Nat.gcd_dvd_right _ _
    have hR := rightB_iff ha hb
    unfold Rt at hR
    rw [e] at hR
    generalize Nat.gcd a.natAbs b.natAbs = g at hg d1 d2 hR ⊢
    by_cases h1 : 1000000000 < a.natAbs / g ∨ 1000000000 < b.natAbs / g
    · rw [if_pos h1]
      rw [if_neg (by decide)]
      congr 1; symm; rw [Bool.eq_false_iff]; intro h
      have := hR.1 h
      have x1 : a.natAbs / g ≤ a.natAbs := Nat.div_le_self _ _
      have x2 : b.natAbs / g ≤ b.natAbs := Nat.div_le_self _ _
      omega
    · rw [if_neg h1]
      simp only [if_true]
      congr 1
      rw [Bool.eq_iff_iff, hR, Bool.and_eq_true, beq_iff_eq, beq_iff_eq]
      by_cases hg1 : g = 1
      · subst hg1
        simp only [Nat.div_one] at h1 ⊢
        by_cases h3 : a < 0
        · have : (a < 0) ≠ (b < 0) := by simp [h3]; omega
          rw [if_pos this]; simp only [and_true]; omega
        · have : ¬ ((a < 0) ≠ (b < 0)) := by simp [h3]; omega
          rw [if_neg this]; simp only [and_true]; omega
      · have x2 : b.natAbs / g < b.natAbs := Nat.div_lt_self (by omega) (by omega)
        constructor
        · intro h; omega
        · intro h; omega
theorem refCompare {a b c d : Int} (ha : i64 a) (hb : i64 b) (hc : i64 c) (hd : i64 d) (k : Nat) : partitaref01_Compare.f (k + 1) a b c d = some (cmpI a b c d) := by
  unfold partitaref01_Compare.f partitaref01_both.f
  rw [refRight ha hb, Option.bind_some]
  by_cases h1 : rightB a b = true
  · rw [if_pos h1, refRight hc hd]
    simp only [Option.bind_some]
    by_cases h2 : rightB c d = true
    · rw [if_pos h2]
      have r1 := (rightB_iff ha hb).1 h1
      have r2 := (rightB_iff hc hd).1 h2
      rw [cmpI_rt ha hb hc hd r1 r2]
      have x1 := mul_bd r1.num r2.den
      have x2 := mul_bd r2.num r1.den
      rw [wrap64_id (n := a * d) (i64_small (by omega)), wrap64_id (n := c * b) (i64_small (by omega))]
      split
      · rfl
      · split
        · rfl
        · rfl
    · rw [if_neg h2]
      simp [cmpI, h2]
  · simp [h1, cmpI]
end Go.Proofs.Ytiifeheejapegaa.Q
