/- The document's ratio of two numbers. No conditions. -/
import Derived.Test.YtbncdlnnjhadgaaOfQ
import Derived.Test.YtbncdlnnjhadgaaQ7
namespace Go.Proofs.Ytbncdlnnjhadgaa.Q
open Go.RowKit Go.Proofs.YtbncdlnnjhadgaaW.PrintWords Go.Proofs.YtbncdlnnjhadgaaW.PrintMore
theorem sizeR {n : Int} (h : i64 n) : partitaref01_size.f n = some (n.natAbs : Int) := by
  unfold partitaref01_size.f; unfold i64 at h
  by_cases h0 : n < 0
  · rw [if_pos h0, wrapU, wrapU, wrap64_id (n := n + 1) (by unfold i64; omega), wrap64_id (by unfold i64; omega)]
    congr 1; omega
  · rw [if_neg h0, wrapU]; congr 1; omega
theorem refOf {a b : Int} (ha : i64 a) (hb : i64 b) (k : Nat) : partitaref01_Of.f (k + 1) a b = some (ofQ a b) := by
  unfold partitaref01_Of.f ofQ
  by_cases h0 : b = 0
  · rw [if_pos h0]; simp only [h0, if_true]
  · rw [if_neg h0]
    simp only [if_neg h0, sizeR ha, sizeR hb, Option.bind_some, partitaref01_divisor.f]
    rw [if_pos ⟨by omega, by omega⟩]
    simp only [Option.bind_some, Int.gcd_natCast_natCast]
    have hg : 0 < Nat.gcd a.natAbs b.natAbs := Nat.gcd_pos_of_pos_right _ (by omega)
    generalize hG : Nat.gcd a.natAbs b.natAbs = g at hg ⊢
    rw [if_neg (by omega), tdiv_nat, tdiv_nat, wrapU, wrapU]
    unfold i64 at ha hb
    have hx : a.natAbs / g ≤ a.natAbs := Nat.div_le_self _ _
    have hy : b.natAbs / g ≤ b.natAbs := Nat.div_le_self _ _
    generalize a.natAbs / g = x at hx ⊢
    generalize b.natAbs / g = y at hy ⊢
    rw [show (x : Int) % 18446744073709551616 = x by omega, show (y : Int) % 18446744073709551616 = y by omega]
    by_cases h1 : 1000000000 < x
    · rw [if_pos (by omega), if_pos (.inl h1)]
      simp [partitaref01_Of.j0]
    · rw [if_neg (by omega)]
      by_cases h2 : 1000000000 < y
      · rw [decide_eq_true (by omega), if_pos (.inr h2)]
        simp [partitaref01_Of.j0]
      · rw [decide_eq_false (by omega), if_neg (by omega)]
        simp only [partitaref01_Of.j0, Bool.false_eq_true, if_false]
        rw [wrap64_id (n := (x : Int)) (by unfold i64; omega), wrap64_id (n := (y : Int)) (by unfold i64; omega), wrap64_id (n := -(x : Int)) (by unfold i64; omega)]
        by_cases h3 : a < 0 <;> by_cases h4 : b < 0 <;> simp [h3, h4]
end Go.Proofs.Ytbncdlnnjhadgaa.Q
