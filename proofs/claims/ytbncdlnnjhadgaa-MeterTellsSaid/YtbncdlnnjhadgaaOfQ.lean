/- Plain facts on a number by another one: the ratio that it is, in its least terms. No conditions. -/
import Derived.Test.YtbncdlnnjhadgaaRatio
namespace Go.Proofs.Ytbncdlnnjhadgaa.Q
open Go.RowKit Go.Proofs.YtbncdlnnjhadgaaW.PrintWords Go.Proofs.YtbncdlnnjhadgaaW.PrintMore
theorem tdiv_nat (a b : Nat) : Int.tdiv (a : Int) (b : Int) = ((a / b : Nat) : Int) := by rw [Int.ofNat_tdiv]
/-- A number by another one, as it is: the terms, and what is wrong (11: by 0; 10: too great). -/
def ofQ (a b : Int) : Int × Int × Int :=
  let g := Nat.gcd a.natAbs b.natAbs
  if b = 0 then (0, 0, 11) else if 1000000000 < a.natAbs / g ∨ 1000000000 < b.natAbs / g then (0, 0, 10)
  else (if (a < 0) ≠ (b < 0) then -((a.natAbs / g : Nat) : Int) else ((a.natAbs / g : Nat) : Int), ((b.natAbs / g : Nat) : Int), 0)
/-- What is told is right, and it is that number by the other one. -/
theorem ofQ_rt {a b n d : Int} (h : ofQ a b = (n, d, 0)) : Rt n d ∧ n * b = a * d ∧ b ≠ 0 := by
  unfold ofQ at h
  by_cases h0 : b = 0
  · simp [h0] at h
  · simp only [if_neg h0] at h
    have hg : 0 < Nat.gcd a.natAbs b.natAbs := Nat.gcd_pos_of_pos_right _ (by omega)
    have hc := Nat.coprime_div_gcd_div_gcd hg
    have d1 := Nat.div_mul_cancel (Nat.gcd_dvd_left a.natAbs b.natAbs)
    have d2 := Nat.div_mul_cancel (Nat.gcd_dvd_right a.natAbs b.natAbs)
    generalize Nat.gcd a.natAbs b.natAbs = g at *
    generalize a.natAbs / g = x at *
    generalize b.natAbs / g = y at *
    by_cases h1 : 1000000000 < x ∨ 1000000000 < y
    · rw [if_pos h1] at h; simp at h
    · rw [if_neg h1] at h
      simp only [Prod.mk.injEq, and_true] at h
      obtain ⟨hn, rfl⟩ := h
      have hy : y ≠ 0 := by rintro rfl; simp at d2; omega
      have hgc : Int.gcd n y = 1 := by
        have e : n.natAbs = x := by split at hn <;> omega
        show Nat.gcd n.natAbs (y : Int).natAbs = 1
        rw [e]; exact hc
      refine ⟨⟨by omega, by omega, ?_, ?_, hgc⟩, ?_, h0⟩
      · split at hn <;> omega
      · split at hn <;> omega
      · have ea : a = if a < 0 then -((x * g : Nat) : Int) else ((x * g : Nat) : Int) := by split <;> omega
        have eb : b = if b < 0 then -((y * g : Nat) : Int) else ((y * g : Nat) : Int) := by split <;> omega
        have key : (x : Int) * ((y * g : Nat) : Int) = ((x * g : Nat) : Int) * (y : Int) := by
          rw [Int.natCast_mul, Int.natCast_mul, ← Int.mul_assoc, Int.mul_right_comm]
        by_cases h3 : a < 0 <;> by_cases h4 : b < 0
        · rw [if_pos h3] at ea; rw [if_pos h4] at eb; rw [if_neg (by simp [h3, h4])] at hn
          rw [ea, eb, ← hn, Int.mul_neg, Int.neg_mul, key]
        · rw [if_pos h3] at ea; rw [if_neg h4] at eb; rw [if_pos (by simp [h3, h4])] at hn
          rw [ea, eb, ← hn, Int.neg_mul, Int.neg_mul, key]
        · rw [if_neg h3] at ea; rw [if_pos h4] at eb; rw [if_pos (by simp [h3, h4])] at hn
          rw [ea, eb, ← hn, Int.mul_neg, Int.neg_mul, Int.neg_neg, key]
        · rw [if_neg h3] at ea; rw [if_neg h4] at eb; rw [if_neg (by simp [h3, h4])] at hn
          rw [ea, eb, ← hn, key]
theorem ofQ_err {a b : Int} : (ofQ a b).2.2 = 0 ∨ ofQ a b = (0, 0, 10) ∨ ofQ a b = (0, 0, 11) := by
  unfold ofQ
  simp only
  split
  · exact .inr (.inr rfl)
  · split
    · exact .inr (.inl rfl)
    · exact .inl rfl
end Go.Proofs.Ytbncdlnnjhadgaa.Q
