/- Plain facts on places that are whole numbers of 96ths: their ratios, how far they are from one another, shares. No conditions. -/
import Derived.Test.YtchjlkokfgmjaaaRatioOf
import Derived.Test.YtchjlkokfgmjaaaQ2
import Derived.Test.YtchjlkokfgmjaaaQ2
import Derived.Test.YtchjlkokfgmjaaaQ6
namespace Go.Proofs.Ytchjlkokfgmjaaa.Q
open Go.RowKit Go.Proofs.YtchjlkokfgmjaaaW.PrintWords Go.Proofs.YtchjlkokfgmjaaaW.PrintMore
set_option linter.unusedVariables false
set_option linter.unusedSimpArgs false
/-- The ratio n/d is x 96ths. -/
def At (x n d : Int) : Prop := Rt n d ∧ n * 96 = x * d
theorem ofQ_ok {a b : Int} (hb : b ≠ 0) (ha : a.natAbs ≤ 1000000000) (hb2 : b.natAbs ≤ 1000000000) : ∃ n d, ofQ a b = (n, d, 0) ∧ Rt n d ∧ n * b = a * d := by
  have h : (ofQ a b).2.2 = 0 := by
    unfold ofQ
    have x1 : a.natAbs / Nat.gcd a.natAbs b.natAbs ≤ a.natAbs := Nat.div_le_self _ _
    have x2 : b.natAbs / Nat.gcd a.natAbs b.natAbs ≤ b.natAbs := Nat.div_le_self _ _
    simp only [if_neg hb]
    rw [if_neg (by omega)]
  rcases ho : ofQ a b with ⟨n, d, e⟩
  rw [ho] at h
  simp only at h
  subst h
  obtain ⟨h1, h2, _⟩ := ofQ_rt ho
  exact ⟨n, d, rfl, h1, h2⟩
theorem dvd_of_gcd {k n m : Int} (h : k ∣ n * m) (g : Int.gcd n k = 1) : k ∣ m := by
  have := Int.dvd_gcd_mul_iff_dvd_mul.2 h
  rw [Int.gcd_comm, g] at this
  simpa using this
theorem rt_uniq {n d n' d' : Int} (h1 : Rt n d) (h2 : Rt n' d') (h : n * d' = n' * d) : n = n' ∧ d = d' := by
  obtain ⟨p1, _, _, _, g1⟩ := h1
  obtain ⟨p2, _, _, _, g2⟩ := h2
  have e1 : d ∣ d' := by
    have : d ∣ n * d' := ⟨n', by rw [h, Int.mul_comm]⟩
    exact dvd_of_gcd this g1
  have e2 : d' ∣ d := by
    have : d' ∣ n' * d := ⟨n, by rw [← h, Int.mul_comm]⟩
    exact dvd_of_gcd this g2
  have e : d = d' := Int.dvd_antisymm (by omega) (by omega) e1 e2
  subst e
  exact ⟨Int.eq_of_mul_eq_mul_right (by omega) h, rfl⟩
theorem At.den {x n d : Int} (h : At x n d) : 1 ≤ d ∧ d ≤ 96 ∧ d ∣ 96 := by
  obtain ⟨⟨p1, _, _, _, g⟩, e⟩ := h
  have : d ∣ n * 96 := ⟨x, by rw [e, Int.mul_comm]⟩
  have h2 := dvd_of_gcd this g
  exact ⟨p1, Int.le_of_dvd (by omega) h2, h2⟩
theorem At.num {x n d : Int} (h : At x n d) (hx : 0 ≤ x) : 0 ≤ n ∧ n ≤ x := by
  obtain ⟨d1, d2, _⟩ := h.den
  have e := h.2
  have h1 : 0 ≤ x * d := Int.mul_nonneg hx (by omega)
  have h2 : x * d ≤ x * 96 := Int.mul_le_mul_of_nonneg_left d2 hx
  omega
theorem at_new {x : Int} (h0 : 0 ≤ x) (h1 : x ≤ 9600001) : ∃ n d, ofQ x 96 = (n, d, 0) ∧ At x n d := by
  obtain ⟨n, d, h, hr, he⟩ := ofQ_ok (a := x) (b := 96) (by omega) (by omega) (by omega)
  exact ⟨n, d, h, hr, he⟩
theorem at_uniq {x n d n' d' : Int} (h1 : At x n d) (h2 : At x n' d') : n = n' ∧ d = d' := by
  refine rt_uniq h1.1 h2.1 ?_
  have e1 := h1.2
  have e2 := h2.2
  have : (n * d') * 96 = (n' * d) * 96 := by
    rw [show n * d' * 96 = (n * 96) * d' by ac_rfl, show n' * d * 96 = (n' * 96) * d by ac_rfl, e1, e2]; ac_rfl
  omega
theorem at_lt {x y a b c d : Int} (h1 : At x a b) (h2 : At y c d) : a * d < c * b ↔ x < y := by
  have e1 := h1.2
  have e2 := h2.2
  have p1 := h1.1.pos
  have p2 := h2.1.pos
  have hp : 0 < b * d := Int.mul_pos p1 p2
  have k1 : (a * d) * 96 = x * (b * d) := by rw [Int.mul_right_comm, e1, Int.mul_assoc]
  have k2 : (c * b) * 96 = y * (b * d) := by rw [Int.mul_right_comm, e2, Int.mul_assoc, Int.mul_comm d b]
  constructor
  · intro h
    have : x * (b * d) < y * (b * d) := by omega
    exact Int.lt_of_mul_lt_mul_right this (by omega)
  · intro h
    have := Int.mul_lt_mul_of_pos_right h hp
    omega
theorem at_cmp {x y a b c d : Int} (h1 : At x a b) (h2 : At y c d) (hx : 0 ≤ x) (hx2 : x ≤ 9600001) (hy : 0 ≤ y) (hy2 : y ≤ 9600001) : cmpI a b c d = if x < y then -1 else if y < x then 1 else 0 := by
  have n1 := h1.num hx
  have n2 := h2.num hy
  have q1 := h1.den
  have q2 := h2.den
  rw [cmpI_rt (by unfold i64; omega) (by unfold i64; omega) (by unfold i64; omega) (by unfold i64; omega) h1.1 h2.1]
  have := at_lt h1 h2
  have := at_lt h2 h1
  by_cases c1 : x < y
  · rw [if_pos c1, if_pos (by omega)]
  · rw [if_neg c1, if_neg (by omega)]
    by_cases c2 : y < x
    · rw [if_pos c2, if_pos (by omega)]
    · rw [if_neg c2, if_neg (by omega)]
theorem at_right {x n d : Int} (h : At x n d) (hx : 0 ≤ x) (hx2 : x ≤ 9600001) : rightB n d = true := by
  have n1 := h.num hx
  have q1 := h.den
  exact (rightB_iff (by unfold i64; omega) (by unfold i64; omega)).2 h.1
theorem bd {a b A B : Int} (ha : 0 ≤ a) (hA : a ≤ A) (hb : 0 ≤ b) (hB : b ≤ B) : 0 ≤ a * b ∧ a * b ≤ A * B := ⟨Int.mul_nonneg ha hb, Int.mul_le_mul hA hB hb (by omega)⟩
theorem at_sub {x y a b c d : Int} (h1 : At x a b) (h2 : At y c d) (hy : 0 ≤ y) (hxy : y ≤ x) (hx2 : x ≤ 9600001) : ∃ n e, ratio_Sub.f a b c d = some (n, e, 0) ∧ At (x - y) n e := by
  have n1 := h1.num (by omega)
  have n2 := h2.num hy
  have q1 := h1.den
  have q2 := h2.den
  have b1 := bd (a := a) (b := d) (A := 9600001) (B := 96) (by omega) (by omega) (by omega) (by omega)
  have b2 := bd (a := c) (b := b) (A := 9600001) (B := 96) (by omega) (by omega) (by omega) (by omega)
  have b3 := bd (a := b) (b := d) (A := 96) (B := 96) (by omega) (by omega) (by omega) (by omega)
  have b4 : 0 < b * d := Int.mul_pos (by omega) (by omega)
  unfold ratio_Sub.f doI
  rw [at_right h1 (by omega) hx2, at_right h2 hy (by omega), Bool.and_self, if_pos rfl, wrap64_id (n := a * d) (by unfold i64; omega), wrap64_id (n := c * b) (by unfold i64; omega), wrap64_id (n := b * d) (by unfold i64; omega), wrap64_id (by unfold i64; omega), ratioOf (by unfold i64; omega) (by unfold i64; omega)]
  obtain ⟨n, e, h, hr, he⟩ := ofQ_ok (a := a * d - c * b) (b := b * d) (by omega) (by omega) (by omega)
  refine ⟨n, e, by rw [h], hr, ?_⟩
  have e1 := h1.2
  have e2 := h2.2
  have k1 : (a * d) * 96 = x * (b * d) := by rw [Int.mul_right_comm, e1, Int.mul_assoc]
  have k2 : (c * b) * 96 = y * (b * d) := by rw [Int.mul_right_comm, e2, Int.mul_assoc, Int.mul_comm d b]
  have k3 : (a * d - c * b) * 96 = (x - y) * (b * d) := by rw [Int.sub_mul, Int.sub_mul, k1, k2]
  have k4 : (n * 96) * (b * d) = ((x - y) * e) * (b * d) := by
    rw [Int.mul_right_comm, he, Int.mul_right_comm, k3, Int.mul_right_comm]
  exact Int.eq_of_mul_eq_mul_right (by omega) k4
/-- The ratio n/d is f of w. -/
def Sh (f w n d : Int) : Prop := 1 ≤ d ∧ 0 ≤ n ∧ n ≤ 1000000000 ∧ d ≤ 1000000000 ∧ n * w = f * d
theorem at_div {f w a b c d : Int} (h1 : At f a b) (h2 : At w c d) (hf : 0 ≤ f) (hf2 : f ≤ w) (hw : 0 < w) (hw2 : w ≤ 9600001) : ∃ n e, ratio_Div.f a b c d = some (n, e, 0) ∧ Sh f w n e ∧ n ≤ e ∧ e ≤ w := by
  have n1 := h1.num (by omega)
  have n2 := h2.num (by omega)
  have q1 := h1.den
  have q2 := h2.den
  have hc : c ≠ 0 := by
    rintro rfl
    have e2 := h2.2
    have : 0 < w * d := Int.mul_pos hw (by omega)
    omega
  have b1 := bd (a := a) (b := d) (A := 9600001) (B := 96) (by omega) (by omega) (by omega) (by omega)
  have b2 := bd (a := b) (b := c) (A := 96) (B := 9600001) (by omega) (by omega) (by omega) (by omega)
  have b4 : 0 < b * c := Int.mul_pos (by omega) (by omega)
  unfold ratio_Div.f doI
  rw [at_right h1 (by omega) (by omega), at_right h2 (by omega) hw2, Bool.and_self, if_pos rfl, wrap64_id (n := a * d) (by unfold i64; omega), wrap64_id (n := b * c) (by unfold i64; omega), ratioOf (by unfold i64; omega) (by unfold i64; omega)]
  obtain ⟨n, e, h, hr, he⟩ := ofQ_ok (a := a * d) (b := b * c) (by omega) (by omega) (by omega)
  have e1 := h1.2
  have e2 := h2.2
  have k0 : 0 < b * d := Int.mul_pos (by omega) (by omega)
  have key : n * w = f * e := by
    have k4 : (n * w) * (b * d) = (f * e) * (b * d) := by
      have t1 : (n * w) * (b * d) = (n * (b * c)) * 96 := by
        rw [show (n * w) * (b * d) = n * b * (w * d) by ac_rfl, ← e2]; ac_rfl
      have t2 : (f * e) * (b * d) = (a * d * e) * 96 := by
        rw [show (f * e) * (b * d) = (f * b) * (e * d) by ac_rfl, ← e1]; ac_rfl
      rw [t1, t2, he]
    exact Int.eq_of_mul_eq_mul_right (by omega) k4
  have p := hr.pos
  have hn0 : 0 ≤ n := by
    have : 0 ≤ f * e := Int.mul_nonneg hf (by omega)
    by_cases hh : 0 ≤ n
    · exact hh
    · have := Int.mul_neg_of_neg_of_pos (show n < 0 by omega) hw
      omega
  have hne : n ≤ e := by
    have : f * e ≤ w * e := Int.mul_le_mul_of_nonneg_right hf2 (by omega)
    have h3 : n * w ≤ e * w := by rw [key, Int.mul_comm e w]; exact this
    exact Int.le_of_mul_le_mul_right h3 hw
  have hew : e ≤ w := by
    have hd : e ∣ n * w := ⟨f, by rw [key, Int.mul_comm]⟩
    exact Int.le_of_dvd hw (dvd_of_gcd hd hr.2.2.2.2)
  exact ⟨n, e, by rw [h], ⟨by omega, hn0, by have := hr.2.2.2.1; omega, hr.2.1, key⟩, hne, hew⟩
end Go.Proofs.Ytchjlkokfgmjaaa.Q
