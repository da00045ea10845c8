/- What ratio.Of computes. No conditions. -/
import Derived.Test.YtbncdlnnjhadgaaOfQ
import Derived.Test.YtbncdlnnjhadgaaQ2
namespace Go.Proofs.Ytbncdlnnjhadgaa.Q
open Go.RowKit Go.Proofs.YtbncdlnnjhadgaaW.PrintWords Go.Proofs.YtbncdlnnjhadgaaW.PrintMore
theorem ratioOf {a b : Int} (ha : i64 a) (hb : i64 b) : ratio_Of.f a b = some (ofQ a b) := by
  unfold ratio_Of.f ofQ
  by_cases h0 : b = 0
  · rw [if_pos h0]; simp only [h0, if_true]
  · rw [if_neg h0]
    simp only [if_neg h0, ratio_abs.f, absU_nat ha, absU_nat hb, Option.bind_some, ratio_common.f]
    rw [if_pos ⟨by omega, by omega⟩]
    simp only [Option.bind_some, Int.gcd_natCast_natCast]
    have hg : 0 < Nat.gcd a.natAbs b.natAbs := Nat.gcd_pos_of_pos_right _ (by omega)
    generalize hG : Nat.gcd a.natAbs b.natAbs = g at hg ⊢
    rw [if_neg (by omega), tdiv_nat, tdiv_nat, wrapU, wrapU]
    unfold i64 at ha hb
    have hx : a.natAbs / g ≤ a.natAbs := Nat.div_le_self _ _
    have hy : b.natAbs / g ≤ b.natAbs := Nat.div_le_self _ _
    generalize a.natAbs / g = x at hx ⊢
    generalize b.natAbs / g = y at hy ⊢
    rw [show (x : Int) % 18446744073709551616 = x by omega, show (y : Int) % 18446744073709551616 = y by omega]
    by_cases h1 : 1000000000 < x ∨ 1000000000 < y
    · rw [if_pos h1, if_pos (by unfold mx; split <;> omega)]
    · rw [if_neg h1, if_neg (by unfold mx; split <;> omega)]
      rw [wrap64_id (n := (x : Int)) (by unfold i64; omega), wrap64_id (n := (y : Int)) (by unfold i64; omega), wrap64_id (n := -(x : Int)) (by unfold i64; omega)]
      by_cases h3 : a < 0 <;> by_cases h4 : b < 0 <;> simp [h3, h4]
end Go.Proofs.Ytbncdlnnjhadgaa.Q
