/- Plain facts on ratios that are right: what is compared, and how. No conditions. -/
import Derived.Test.YtbncdlnnjhadgaaQ2
namespace Go.Proofs.Ytbncdlnnjhadgaa.Q
open Go.RowKit Go.Proofs.YtbncdlnnjhadgaaW.PrintWords Go.Proofs.YtbncdlnnjhadgaaW.PrintMore
def i64 (n : Int) : Prop := -9223372036854775808 ≤ n ∧ n ≤ 9223372036854775807
theorem i64_of {n : Int} (h : (Lit.int .i64 n).wf = true) : i64 n := by
  simp only [Lit.wf, IntKind.min, IntKind.max, IntKind.signed, IntKind.bits, Bool.and_eq_true, decide_eq_true_eq] at h
  unfold i64; simp at h; omega
theorem wrap64_id {n : Int} (h : i64 n) : wrap64 n = n := by unfold i64 at h; unfold wrap64; omega
theorem wrapU (n : Int) : IntKind.u64.wrap n = n % 18446744073709551616 := IntKind.wrap_u64 n
theorem absU_nat {n : Int} (h : i64 n) : absU n = n.natAbs := by
  unfold absU; unfold i64 at h
  rw [wrapU, wrapU]
  split <;> omega
theorem mx_le {a b c : Int} : mx a b ≤ c ↔ a ≤ c ∧ b ≤ c := by unfold mx; split <;> omega
/-- A ratio that is right. -/
def Rt (n d : Int) : Prop := 1 ≤ d ∧ d ≤ 1000000000 ∧ -1000000000 ≤ n ∧ n ≤ 1000000000 ∧ Int.gcd n d = 1
theorem rightB_iff {n d : Int} (hn : i64 n) (hd : i64 d) : rightB n d = true ↔ Rt n d := by
  unfold rightB Rt
  rw [absU_nat hn, absU_nat hd]
  simp only [Bool.and_eq_true, decide_eq_true_eq, beq_iff_eq, mx_le, Int.gcd_natCast_natCast]
  have : Int.gcd n d = Nat.gcd n.natAbs d.natAbs := rfl
  omega
/-- A product of two numbers that are not too great. -/
theorem mul_bd {a b : Int} {A B : Nat} (ha : a.natAbs ≤ A) (hb : b.natAbs ≤ B) : (a * b).natAbs ≤ A * B := by
  rw [Int.natAbs_mul]; exact Nat.mul_le_mul ha hb
theorem Rt.num {n d : Int} (h : Rt n d) : n.natAbs ≤ 1000000000 := by obtain ⟨_, _, h1, h2, _⟩ := h; omega
theorem Rt.den {n d : Int} (h : Rt n d) : d.natAbs ≤ 1000000000 := by obtain ⟨h1, h2, _⟩ := h; omega
theorem Rt.pos {n d : Int} (h : Rt n d) : 0 < d := by have := h.1; omega
theorem i64_small {n : Int} (h : n.natAbs ≤ 9000000000000000000) : i64 n := by unfold i64; omega
theorem cmpD_eq {a b c d : Int} (h1 : Rt a b) (h2 : Rt c d) : cmpD a b c d = a * d - c * b := by
  have x1 := mul_bd h1.num h2.den
  have x2 := mul_bd h2.num h1.den
  unfold cmpD
  rw [wrap64_id (n := a * d) (i64_small (by omega)), wrap64_id (n := c * b) (i64_small (by omega)), wrap64_id (i64_small (by omega))]
theorem cmpI_rt {a b c d : Int} (ha : i64 a) (hb : i64 b) (hc : i64 c) (hd : i64 d) (h1 : Rt a b) (h2 : Rt c d) : cmpI a b c d = if a * d < c * b then -1 else if c * b < a * d then 1 else 0 := by
  unfold cmpI
  rw [cmpD_eq h1 h2, (rightB_iff ha hb).2 h1, (rightB_iff hc hd).2 h2, Bool.true_and, Bool.true_and]
  by_cases e : a * d - c * b = 0
  · rw [e, if_neg (by decide), if_neg (by omega), if_neg (by omega)]
  · have e1 : (!(a * d - c * b == 0)) = true := by simp [e]
    rw [if_pos e1]
    split <;> split <;> (try split) <;> omega
/-- The one is below the other, by the numbers alone. -/
def Lt (a b c d : Int) : Prop := a * d < c * b
theorem lt_trans_ {a b c d e f : Int} (hb : 0 < b) (hd : 0 < d) (hf : 0 < f) (h1 : a * d ≤ c * b) (h2 : c * f < e * d) : a * f < e * b := by
  have x1 : a * d * f ≤ c * b * f := Int.mul_le_mul_of_nonneg_right h1 (by omega)
  have x2 : c * f * b < e * d * b := Int.mul_lt_mul_of_pos_right h2 hb
  have x3 : a * f * d < e * b * d := by
    have e1 : a * f * d = a * d * f := by rw [Int.mul_right_comm]
    have e2 : e * b * d = e * d * b := by rw [Int.mul_right_comm]
    have e3 : c * b * f = c * f * b := by rw [Int.mul_right_comm]
    omega
  exact Int.lt_of_mul_lt_mul_right x3 (by omega)
theorem le_trans_ {a b c d e f : Int} (hb : 0 < b) (hd : 0 < d) (hf : 0 < f) (h1 : a * d ≤ c * b) (h2 : c * f ≤ e * d) : a * f ≤ e * b := by
  have x1 : a * d * f ≤ c * b * f := Int.mul_le_mul_of_nonneg_right h1 (by omega)
  have x2 : c * f * b ≤ e * d * b := Int.mul_le_mul_of_nonneg_right h2 (by omega)
  have x3 : a * f * d ≤ e * b * d := by
    have e1 : a * f * d = a * d * f := by rw [Int.mul_right_comm]
    have e2 : e * b * d = e * d * b := by rw [Int.mul_right_comm]
    have e3 : c * b * f = c * f * b := by rw [Int.mul_right_comm]
    omega
  exact Int.le_of_mul_le_mul_right x3 hd
end Go.Proofs.Ytbncdlnnjhadgaa.Q
