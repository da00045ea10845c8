/- Plain facts on places that are whole numbers of N-ths: their ratios, sums, differences, which is greater. No conditions. -/
import Derived.Test.YtbncdlnnjhadgaaRatioOf
import Derived.Test.YtbncdlnnjhadgaaRefOf
import Derived.Test.YtbncdlnnjhadgaaQ2
import Derived.Test.YtbncdlnnjhadgaaQ4
import Derived.Test.YtbncdlnnjhadgaaQ2
namespace Go.Proofs.Ytbncdlnnjhadgaa.Q
open Go.RowKit Go.Proofs.YtbncdlnnjhadgaaW.PrintWords Go.Proofs.YtbncdlnnjhadgaaW.PrintMore
set_option linter.unusedVariables false
set_option linter.unusedSimpArgs false
/-- The ratio n/d is x N-ths. -/
def At (N x n d : Int) : Prop := Rt n d ∧ n * N = x * d
theorem ofQ_ok {a b : Int} (hb : b ≠ 0) (ha : a.natAbs ≤ 1000000000) (hb2 : b.natAbs ≤ 1000000000) : ∃ n d, ofQ a b = (n, d, 0) ∧ Rt n d ∧ n * b = a * d := by
  have h : (ofQ a b).2.2 = 0 := by
    unfold ofQ
    have x1 : a.natAbs / Nat.gcd a.natAbs b.natAbs ≤ a.natAbs := Nat.div_le_self _ _
    have x2 : b.natAbs / Nat.gcd a.natAbs b.natAbs ≤ b.natAbs := Nat.div_le_self _ _
    simp only [if_neg hb]
    rw [if_neg (by omega)]
  rcases ho : ofQ a b with ⟨n, d, e⟩
  rw [ho] at h
  simp only at h
  subst h
  obtain ⟨h1, h2, _⟩ := ofQ_rt ho
  exact ⟨n, d, rfl, h1, h2⟩
theorem dvd_of_gcd {k n m : Int} (h : k ∣ n * m) (g : Int.gcd n k = 1) : k ∣ m := by
  have := Int.dvd_gcd_mul_iff_dvd_mul.2 h
  rw [Int.gcd_comm, g] at this
  simpa using this
theorem rt_uniq {n d n' d' : Int} (h1 : Rt n d) (h2 : Rt n' d') (h : n * d' = n' * d) : n = n' ∧ d = d' := by
  obtain ⟨p1, _, _, _, g1⟩ := h1
  obtain ⟨p2, _, _, _, g2⟩ := h2
  have e1 : d ∣ d' := by
    have : d ∣ n * d' := ⟨n', by rw [h, Int.mul_comm]⟩
    exact dvd_of_gcd this g1
  have e2 : d' ∣ d := by
    have : d' ∣ n' * d := ⟨n, by rw [← h, Int.mul_comm]⟩
    exact dvd_of_gcd this g2
  have e : d = d' := Int.dvd_antisymm (by omega) (by omega) e1 e2
  subst e
  exact ⟨Int.eq_of_mul_eq_mul_right (by omega) h, rfl⟩
theorem At.den {N x n d : Int} (hN : 0 < N) (h : At N x n d) : 1 ≤ d ∧ d ≤ N ∧ d ∣ N := by
  obtain ⟨⟨p1, _, _, _, g⟩, e⟩ := h
  have : d ∣ n * N := ⟨x, by rw [e, Int.mul_comm]⟩
  have h2 := dvd_of_gcd this g
  exact ⟨p1, Int.le_of_dvd hN h2, h2⟩
theorem At.num {N x n d : Int} (hN : 0 < N) (h : At N x n d) : n.natAbs ≤ x.natAbs := by
  obtain ⟨d1, d2, _⟩ := h.den hN
  have e := congrArg Int.natAbs h.2
  rw [Int.natAbs_mul, Int.natAbs_mul] at e
  have h1 : x.natAbs * d.natAbs ≤ x.natAbs * N.natAbs := Nat.mul_le_mul_left _ (by omega)
  rw [← e] at h1
  exact Nat.le_of_mul_le_mul_right h1 (by omega)
theorem At.sgn {N x n d : Int} (hN : 0 < N) (h : At N x n d) : (n ≤ 0 ↔ x ≤ 0) ∧ (n < 0 ↔ x < 0) ∧ (n = 0 ↔ x = 0) := by
  obtain ⟨d1, _, _⟩ := h.den hN
  have e := h.2
  have key : ∀ a b : Int, 0 < b → (0 < a → 0 < a * b) ∧ (a < 0 → a * b < 0) := fun a b hb => ⟨fun ha => Int.mul_pos ha hb, fun ha => Int.mul_neg_of_neg_of_pos ha hb⟩
  obtain ⟨k1, k2⟩ := key n N hN
  obtain ⟨k3, k4⟩ := key x d (by omega)
  have z1 : n = 0 → n * N = 0 := fun h => by rw [h, Int.zero_mul]
  have z2 : x = 0 → x * d = 0 := fun h => by rw [h, Int.zero_mul]
  rcases Int.lt_trichotomy n 0 with h1 | h1 | h1 <;> rcases Int.lt_trichotomy x 0 with h2 | h2 | h2 <;> omega
theorem at_new {N x : Int} (hN : 0 < N) (hN2 : N ≤ 1000) (h1 : x.natAbs ≤ 1000000) : ∃ n d, ofQ x N = (n, d, 0) ∧ At N x n d := by
  obtain ⟨n, d, h, hr, he⟩ := ofQ_ok (a := x) (b := N) (by omega) (by omega) (by omega)
  exact ⟨n, d, h, hr, he⟩
theorem at_uniq {N x n d n' d' : Int} (hN : 0 < N) (h1 : At N x n d) (h2 : At N x n' d') : n = n' ∧ d = d' := by
  refine rt_uniq h1.1 h2.1 ?_
  have e1 := h1.2
  have e2 := h2.2
  have : (n * d') * N = (n' * d) * N := by
    rw [show n * d' * N = (n * N) * d' by ac_rfl, show n' * d * N = (n' * N) * d by ac_rfl, e1, e2]; ac_rfl
  exact Int.eq_of_mul_eq_mul_right (by omega) this
theorem at_inj {N x y n d : Int} (hN : 0 < N) (h1 : At N x n d) (h2 : At N y n d) : x = y := by
  have e : x * d = y * d := by rw [← h1.2, ← h2.2]
  exact Int.eq_of_mul_eq_mul_right (by have := h1.1.1; omega) e
/-- x N-ths are x * D (N * D)-ths. -/
theorem At.more {N x n d : Int} (D : Int) (h : At N x n d) : At (N * D) (x * D) n d := ⟨h.1, by rw [← Int.mul_assoc, h.2]; ac_rfl⟩
theorem at_lt {N x y a b c d : Int} (hN : 0 < N) (h1 : At N x a b) (h2 : At N y c d) : a * d < c * b ↔ x < y := by
  have e1 := h1.2
  have e2 := h2.2
  have p1 := h1.1.pos
  have p2 := h2.1.pos
  have hp : 0 < b * d := Int.mul_pos p1 p2
  have k1 : (a * d) * N = x * (b * d) := by rw [Int.mul_right_comm, e1, Int.mul_assoc]
  have k2 : (c * b) * N = y * (b * d) := by rw [Int.mul_right_comm, e2, Int.mul_assoc, Int.mul_comm d b]
  constructor
  · intro h
    have : (a * d) * N < (c * b) * N := Int.mul_lt_mul_of_pos_right h hN
    rw [k1, k2] at this
    exact Int.lt_of_mul_lt_mul_right this (by omega)
  · intro h
    have := Int.mul_lt_mul_of_pos_right h hp
    rw [← k1, ← k2] at this
    exact Int.lt_of_mul_lt_mul_right this (by omega)
theorem Rt.w {n d : Int} (h : Rt n d) : i64 n ∧ i64 d := by obtain ⟨_, _, _, _, _⟩ := h; unfold i64; omega
theorem at_cmp {N x y a b c d : Int} (hN : 0 < N) (h1 : At N x a b) (h2 : At N y c d) : cmpI a b c d = if x < y then -1 else if y < x then 1 else 0 := by
  rw [cmpI_rt h1.1.w.1 h1.1.w.2 h2.1.w.1 h2.1.w.2 h1.1 h2.1]
  have := at_lt hN h1 h2
  have := at_lt hN h2 h1
  by_cases c1 : x < y
  · rw [if_pos c1, if_pos (by omega)]
  · rw [if_neg c1, if_neg (by omega)]
    by_cases c2 : y < x
    · rw [if_pos c2, if_pos (by omega)]
    · rw [if_neg c2, if_neg (by omega)]
theorem Rt.right {n d : Int} (h : Rt n d) : rightB n d = true := (rightB_iff h.w.1 h.w.2).2 h
theorem natAbs_bd {a b : Int} {A B : Nat} (ha : a.natAbs ≤ A) (hb : b.natAbs ≤ B) : (a * b).natAbs ≤ A * B := mul_bd ha hb
/-- What a sum or a difference of two is, by its terms. -/
theorem at_terms {N x y a b c d : Int} (hN : 0 < N) (hN2 : N ≤ 1000) (h1 : At N x a b) (h2 : At N y c d) (hx : x.natAbs ≤ 500000) (hy : y.natAbs ≤ 500000) (s : Int) (hs : s = 1 ∨ s = -1) :
    ∃ n e, ofQ (a * d + s * (c * b)) (b * d) = (n, e, 0) ∧ At N (x + s * y) n e := by
  have n1 := h1.num hN
  have n2 := h2.num hN
  have q1 := h1.den hN
  have q2 := h2.den hN
  have b1 := mul_bd (a := a) (b := d) (A := 500000) (B := 1000) (by omega) (by omega)
  have b2 := mul_bd (a := c) (b := b) (A := 500000) (B := 1000) (by omega) (by omega)
  have b3 := mul_bd (a := b) (b := d) (A := 1000) (B := 1000) (by omega) (by omega)
  have b4 : 0 < b * d := Int.mul_pos (by omega) (by omega)
  have b5 : (s * (c * b)).natAbs = (c * b).natAbs := by rcases hs with rfl | rfl <;> simp
  obtain ⟨n, e, h, hr, he⟩ := ofQ_ok (a := a * d + s * (c * b)) (b := b * d) (by omega) (by omega) (by omega)
  refine ⟨n, e, h, hr, ?_⟩
  have e1 := h1.2
  have e2 := h2.2
  have k1 : (a * d) * N = x * (b * d) := by rw [Int.mul_right_comm, e1, Int.mul_assoc]
  have k2 : (c * b) * N = y * (b * d) := by rw [Int.mul_right_comm, e2, Int.mul_assoc, Int.mul_comm d b]
  have k3 : (a * d + s * (c * b)) * N = (x + s * y) * (b * d) := by rw [Int.add_mul, Int.add_mul, k1, Int.mul_assoc s, k2, Int.mul_assoc s]
  have k4 : (n * N) * (b * d) = ((x + s * y) * e) * (b * d) := by
    rw [Int.mul_right_comm, he, Int.mul_right_comm, k3, Int.mul_right_comm]
  exact Int.eq_of_mul_eq_mul_right (by omega) k4
theorem at_sub {N x y a b c d : Int} (hN : 0 < N) (hN2 : N ≤ 1000) (h1 : At N x a b) (h2 : At N y c d) (hx : x.natAbs ≤ 500000) (hy : y.natAbs ≤ 500000) : ∃ n e, ratio_Sub.f a b c d = some (n, e, 0) ∧ At N (x - y) n e := by
  have n1 := h1.num hN
  have n2 := h2.num hN
  have q1 := h1.den hN
  have q2 := h2.den hN
  have b1 := mul_bd (a := a) (b := d) (A := 500000) (B := 1000) (by omega) (by omega)
  have b2 := mul_bd (a := c) (b := b) (A := 500000) (B := 1000) (by omega) (by omega)
  have b3 := mul_bd (a := b) (b := d) (A := 1000) (B := 1000) (by omega) (by omega)
  obtain ⟨n, e, h, ha⟩ := at_terms hN hN2 h1 h2 hx hy (-1) (.inr rfl)
  rw [show a * d + -1 * (c * b) = a * d - c * b by omega, show x + -1 * y = x - y by omega] at *
  refine ⟨n, e, ?_, ha⟩
  unfold ratio_Sub.f doI
  rw [h1.1.right, h2.1.right, Bool.and_self, if_pos rfl, wrap64_id (n := a * d) (by unfold i64; omega), wrap64_id (n := c * b) (by unfold i64; omega), wrap64_id (n := b * d) (by unfold i64; omega), wrap64_id (by unfold i64; omega), ratioOf (by unfold i64; omega) (by unfold i64; omega), h]
theorem at_add {N x y a b c d : Int} (hN : 0 < N) (hN2 : N ≤ 1000) (h1 : At N x a b) (h2 : At N y c d) (hx : x.natAbs ≤ 500000) (hy : y.natAbs ≤ 500000) : ∃ n e, ratio_Add.f a b c d = some (n, e, 0) ∧ At N (x + y) n e := by
  have n1 := h1.num hN
  have n2 := h2.num hN
  have q1 := h1.den hN
  have q2 := h2.den hN
  have b1 := mul_bd (a := a) (b := d) (A := 500000) (B := 1000) (by omega) (by omega)
  have b2 := mul_bd (a := c) (b := b) (A := 500000) (B := 1000) (by omega) (by omega)
  have b3 := mul_bd (a := b) (b := d) (A := 1000) (B := 1000) (by omega) (by omega)
  obtain ⟨n, e, h, ha⟩ := at_terms hN hN2 h1 h2 hx hy 1 (.inl rfl)
  rw [show a * d + 1 * (c * b) = a * d + c * b by omega, show x + 1 * y = x + y by omega] at *
  refine ⟨n, e, ?_, ha⟩
  unfold ratio_Add.f doI
  rw [h1.1.right, h2.1.right, Bool.and_self, if_pos rfl, wrap64_id (n := a * d) (by unfold i64; omega), wrap64_id (n := c * b) (by unfold i64; omega), wrap64_id (n := b * d) (by unfold i64; omega), wrap64_id (by unfold i64; omega), ratioOf (by unfold i64; omega) (by unfold i64; omega), h]
end Go.Proofs.Ytbncdlnnjhadgaa.Q
