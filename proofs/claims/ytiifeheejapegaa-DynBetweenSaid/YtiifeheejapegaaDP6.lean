/- Plain facts on the document's part of a way: by figures to the base 10^9. No conditions. -/
import Derived.Test.YtiifeheejapegaaDP5
namespace Go.Proofs.Ytiifeheejapegaa.Q
open Go.RowKit Go.Proofs.YtiifeheejapegaaW.PrintWords Go.Proofs.YtiifeheejapegaaW.PrintMore
/-- A figure. -/
def dg (x : Int) : Prop := 0 ≤ x ∧ x < 1000000000
theorem tdiv_pos {a b : Int} (h : 0 ≤ a) : Int.tdiv a b = a / b := Int.tdiv_eq_ediv_of_nonneg h
theorem tmod_pos {a b : Int} (h : 0 ≤ a) : Int.tmod a b = a % b := Int.tmod_eq_emod_of_nonneg h
theorem figures_f {n : Int} (h : 0 ≤ n ∧ n ≤ 4000000000000000000) : partitaref12_figures.f n = some [n % 1000000000, n / 1000000000] := by
  unfold partitaref12_figures.f
  rw [tmod_pos h.1, tdiv_pos h.1, wrap64_id (by unfold i64; omega)]
/-- One figure more. -/
theorem times_step {d by_ c : Int} (hd : dg d) (hb : 0 ≤ by_ ∧ by_ ≤ 1000000000) (hc : dg c) :
    wrap64 (wrap64 (d * by_) + c) = d * by_ + c ∧ 0 ≤ d * by_ ∧ dg ((d * by_ + c) % 1000000000) ∧ dg ((d * by_ + c) / 1000000000) := by
  unfold dg at *
  have x0 : 0 ≤ d * by_ := Int.mul_nonneg hd.1 hb.1
  have x1 : d * by_ ≤ 999999999 * 1000000000 := Int.mul_le_mul (by omega) hb.2 hb.1 (by omega)
  rw [wrap64_id (n := d * by_) (by unfold i64; omega), wrap64_id (by unfold i64; omega)]
  omega
/-- Two figures, times. -/
theorem times_2 {x y b : Int} (hx : dg x) (hy : dg y) (hb : 0 ≤ b ∧ b ≤ 1000000000) {k : Nat} (hk : 4 ≤ k) :
    ∃ a0 a1 a2, partitaref12_times.f k [x, y] b = some [a0, a1, a2] ∧ dg a0 ∧ dg a1 ∧ dg a2 ∧ a0 + a1 * 1000000000 + a2 * 1000000000000000000 = (x + y * 1000000000) * b := by
  obtain ⟨k, rfl⟩ : ∃ m, k = m + 4 := ⟨k - 4, by omega⟩
  obtain ⟨e1, p1, q1, c1⟩ := times_step hx hb (c := 0) (by unfold dg; omega)
  obtain ⟨e2, p2, q2, c2⟩ := times_step hy hb c1
  have h1 : 0 ≤ x * b + 0 := by omega
  have h2 : 0 ≤ y * b + (x * b + 0) / 1000000000 := by unfold dg at c1; omega
  refine ⟨_, _, _, ?_, q1, q2, c2, ?_⟩
  · unfold partitaref12_times.f
    have w1 : wrap64 ((x * b + 0) / 1000000000) = (x * b + 0) / 1000000000 := wrap64_id (by unfold dg at c1; unfold i64; omega)
    have w2 : wrap64 ((y * b + (x * b + 0) / 1000000000) / 1000000000) = (y * b + (x * b + 0) / 1000000000) / 1000000000 := wrap64_id (by unfold dg at c2; unfold i64; omega)
    have r0 : rd [x, y] 0 = x := rfl
    have r1 : rd [x, y] 1 = y := rfl
    have v1 : wrap64 ((0 : Int) + 1) = 1 := wrap64_id (n := 0 + 1) (by unfold i64; omega)
    have v2 : wrap64 ((1 : Int) + 1) = 2 := wrap64_id (n := 1 + 1) (by unfold i64; omega)
    rw [partitaref12_times.l0, if_pos (by simp), if_pos (by omega), if_pos (by simp), r0, e1, tmod_pos h1, tdiv_pos h1, w1, v1]
    rw [partitaref12_times.l0, if_pos (by simp), if_pos (by omega), if_pos (by simp), r1, e2, tmod_pos h2, tdiv_pos h2, w2, v2]
    rw [partitaref12_times.l0, if_neg (by simp), if_pos (by simp)]
    rfl
  · rw [Int.add_mul, Int.mul_right_comm]
    generalize x * b = X at *
    generalize y * b = Y at *
    omega
theorem times_3 {x y z b : Int} (hx : dg x) (hy : dg y) (hz : dg z) (hb : 0 ≤ b ∧ b ≤ 1000000000) {k : Nat} (hk : 5 ≤ k) :
    ∃ a0 a1 a2 a3, partitaref12_times.f k [x, y, z] b = some [a0, a1, a2, a3] ∧ dg a0 ∧ dg a1 ∧ dg a2 ∧ dg a3 ∧ a0 + a1 * 1000000000 + a2 * 1000000000000000000 + a3 * 1000000000000000000000000000 = (x + y * 1000000000 + z * 1000000000000000000) * b := by
  obtain ⟨k, rfl⟩ : ∃ m, k = m + 5 := ⟨k - 5, by omega⟩
  obtain ⟨e1, p1, q1, c1⟩ := times_step hx hb (c := 0) (by unfold dg; omega)
  obtain ⟨e2, p2, q2, c2⟩ := times_step hy hb c1
  obtain ⟨e3, p3, q3, c3⟩ := times_step hz hb c2
  have h1 : 0 ≤ x * b + 0 := by omega
  have h2 : 0 ≤ y * b + (x * b + 0) / 1000000000 := by unfold dg at c1; omega
  have h3 : 0 ≤ z * b + (y * b + (x * b + 0) / 1000000000) / 1000000000 := by unfold dg at c2; omega
  refine ⟨_, _, _, _, ?_, q1, q2, q3, c3, ?_⟩
  · unfold partitaref12_times.f
    have w1 : wrap64 ((x * b + 0) / 1000000000) = (x * b + 0) / 1000000000 := wrap64_id (by unfold dg at c1; unfold i64; omega)
    have w2 : wrap64 ((y * b + (x * b + 0) / 1000000000) / 1000000000) = (y * b + (x * b + 0) / 1000000000) / 1000000000 := wrap64_id (by unfold dg at c2; unfold i64; omega)
    have w3 : wrap64 ((z * b + (y * b + (x * b + 0) / 1000000000) / 1000000000) / 1000000000) = (z * b + (y * b + (x * b + 0) / 1000000000) / 1000000000) / 1000000000 := wrap64_id (by unfold dg at c3; unfold i64; omega)
    have r0 : rd [x, y, z] 0 = x := rfl
    have r1 : rd [x, y, z] 1 = y := rfl
    have r2 : rd [x, y, z] 2 = z := rfl
    have v1 : wrap64 ((0 : Int) + 1) = 1 := wrap64_id (n := 0 + 1) (by unfold i64; omega)
    have v2 : wrap64 ((1 : Int) + 1) = 2 := wrap64_id (n := 1 + 1) (by unfold i64; omega)
    have v3 : wrap64 ((2 : Int) + 1) = 3 := wrap64_id (n := 2 + 1) (by unfold i64; omega)
    rw [partitaref12_times.l0, if_pos (by simp), if_pos (by omega), if_pos (by simp), r0, e1, tmod_pos h1, tdiv_pos h1, w1, v1]
    rw [partitaref12_times.l0, if_pos (by simp), if_pos (by omega), if_pos (by simp), r1, e2, tmod_pos h2, tdiv_pos h2, w2, v2]
    rw [partitaref12_times.l0, if_pos (by simp), if_pos (by omega), if_pos (by simp), r2, e3, tmod_pos h3, tdiv_pos h3, w3, v3]
    rw [partitaref12_times.l0, if_neg (by simp), if_pos (by simp)]
    rfl
  · rw [Int.add_mul, Int.add_mul, Int.mul_right_comm, Int.mul_right_comm z]
    generalize x * b = X at *
    generalize y * b = Y at *
    generalize z * b = Z at *
    omega
def v4 (a0 a1 a2 a3 : Int) : Int := a0 + a1 * 1000000000 + a2 * 1000000000000000000 + a3 * 1000000000000000000000000000
theorem over_4 {a0 a1 a2 a3 b0 b1 b2 b3 : Int} (ha : dg a0 ∧ dg a1 ∧ dg a2 ∧ dg a3) (hb : dg b0 ∧ dg b1 ∧ dg b2 ∧ dg b3) {k : Nat} (hk : 5 ≤ k) :
    partitaref12_over.f k [a0, a1, a2, a3] [b0, b1, b2, b3] = some (decide (v4 b0 b1 b2 b3 < v4 a0 a1 a2 a3)) := by
  obtain ⟨k, rfl⟩ : ∃ m, k = m + 5 := ⟨k - 5, by omega⟩
  unfold partitaref12_over.f v4
  unfold dg at ha hb
  have e0 : wrap64 (([a0, a1, a2, a3].length : Int) - 1) = 3 := wrap64_id (n := 4 - 1) (by unfold i64; omega)
  have e1 : wrap64 ((3 : Int) - 1) = 2 := wrap64_id (n := 3 - 1) (by unfold i64; omega)
  have e2 : wrap64 ((2 : Int) - 1) = 1 := wrap64_id (n := 2 - 1) (by unfold i64; omega)
  have e3 : wrap64 ((1 : Int) - 1) = 0 := wrap64_id (n := 1 - 1) (by unfold i64; omega)
  have e4 : wrap64 ((0 : Int) - 1) = -1 := wrap64_id (n := 0 - 1) (by unfold i64; omega)
  have s3 : rd [a0, a1, a2, a3] 3 = a3 := rfl
  have s2 : rd [a0, a1, a2, a3] 2 = a2 := rfl
  have s1 : rd [a0, a1, a2, a3] 1 = a1 := rfl
  have s0 : rd [a0, a1, a2, a3] 0 = a0 := rfl
  have t3 : rd [b0, b1, b2, b3] 3 = b3 := rfl
  have t2 : rd [b0, b1, b2, b3] 2 = b2 := rfl
  have t1 : rd [b0, b1, b2, b3] 1 = b1 := rfl
  have t0 : rd [b0, b1, b2, b3] 0 = b0 := rfl
  rw [e0, partitaref12_over.l0, if_pos (by omega), if_pos (by omega), if_pos (by simp), if_pos (by simp), s3, t3]
  by_cases h3 : a3 = b3
  · rw [if_pos h3, e1, partitaref12_over.l0, if_pos (by omega), if_pos (by omega), if_pos (by simp), if_pos (by simp), s2, t2]
    by_cases h2 : a2 = b2
    · rw [if_pos h2, e2, partitaref12_over.l0, if_pos (by omega), if_pos (by omega), if_pos (by simp), if_pos (by simp), s1, t1]
      by_cases h1 : a1 = b1
      · rw [if_pos h1, e3, partitaref12_over.l0, if_pos (by omega), if_pos (by omega), if_pos (by simp), if_pos (by simp), s0, t0]
        by_cases h0 : a0 = b0
        · rw [if_pos h0, e4, partitaref12_over.l0, if_neg (by omega)]
          congr 1; symm; apply decide_eq_false; omega
        · rw [if_neg h0]; congr 1; rw [Bool.eq_iff_iff, decide_eq_true_iff, decide_eq_true_iff]; omega
      · rw [if_neg h1]; congr 1; rw [Bool.eq_iff_iff, decide_eq_true_iff, decide_eq_true_iff]; omega
    · rw [if_neg h2]; congr 1; rw [Bool.eq_iff_iff, decide_eq_true_iff, decide_eq_true_iff]; omega
  · rw [if_neg h3]; congr 1; rw [Bool.eq_iff_iff, decide_eq_true_iff, decide_eq_true_iff]; omega
theorem part_l0 {x0 x1 x2 x3 y0 y1 y2 F G steps : Int} {up : Bool} (hx : dg x0 ∧ dg x1 ∧ dg x2 ∧ dg x3) (hy : dg y0 ∧ dg y1 ∧ dg y2) (hF : v4 x0 x1 x2 x3 = F) (hG : y0 + y1 * 1000000000 + y2 * 1000000000000000000 = G) (hs : 0 ≤ steps ∧ steps ≤ 500) (hpos : 0 < G) (hlt : F < G * steps ∨ steps = 0 ∧ F = 0) :
    ∀ (d k : Nat) (n : Int), n + d = steps → d + 10 < k → 0 ≤ n → G * n ≤ F → partitaref12_part.l0 k steps up [x0, x1, x2, x3] [y0, y1, y2] n = some (wayV F G up) := by
  intro d
  induction d with
  | zero =>
    intro k n hn hk h0 hle
    obtain ⟨k, rfl⟩ : ∃ m, k = m + 2 := ⟨k - 2, by omega⟩
    have e : n = steps := by omega
    subst e
    rcases hlt with hlt | ⟨rfl, rfl⟩
    · omega
    · rw [partitaref12_part.l0, if_neg (by omega), partitaref12_part.j1]
      cases up
      · simp [wayV]
      · obtain ⟨a0, a1, a2, a3, ht, q0, q1, q2, q3, hv⟩ := times_3 hy.1 hy.2.1 hy.2.2 (b := 0) (by omega) (k := k) (by omega)
        rw [if_pos rfl, ht, Option.bind_some, over_4 hx ⟨q0, q1, q2, q3⟩ (by omega), Option.bind_some]
        have hv' : v4 a0 a1 a2 a3 = 0 := by unfold v4; rw [hv, Int.mul_zero]
        rw [hF, hv', decide_eq_false (by omega), if_neg (by decide)]
        simp [wayV]
  | succ d ih =>
    intro k n hn hk h0 hle
    obtain ⟨k, rfl⟩ : ∃ m, k = m + 2 := ⟨k - 2, by omega⟩
    obtain ⟨a0, a1, a2, a3, ht, q0, q1, q2, q3, hv⟩ := times_3 hy.1 hy.2.1 hy.2.2 (b := n + 1) (by omega) (k := k + 1) (by omega)
    rw [partitaref12_part.l0, if_pos (by omega), wrap64_id (n := n + 1) (by unfold i64; omega), ht, Option.bind_some, over_4 ⟨q0, q1, q2, q3⟩ hx (by omega), Option.bind_some]
    have hv' : v4 a0 a1 a2 a3 = G * (n + 1) := by unfold v4; rw [hv, hG]
    rw [hF, hv']
    have ex : G * (n + 1) = G * n + G := by rw [Int.mul_add, Int.mul_one]
    by_cases hl : F < G * (n + 1)
    · rw [decide_eq_true hl, if_pos rfl, partitaref12_part.j1]
      have q := wayV_of hpos hle hl
      unfold wayV
      rw [q]
      cases up
      · simp
      · obtain ⟨b0, b1, b2, b3, ht2, r0, r1, r2, r3, hv2⟩ := times_3 hy.1 hy.2.1 hy.2.2 (b := n) (by omega) (k := k) (by omega)
        rw [if_pos rfl, ht2, Option.bind_some, over_4 hx ⟨r0, r1, r2, r3⟩ (by omega), Option.bind_some]
        have hv3 : v4 b0 b1 b2 b3 = G * n := by unfold v4; rw [hv2, hG]
        rw [hF, hv3, wrap64_id (n := n + 1) (by unfold i64; omega)]
        simp only [decide_eq_true_eq, true_and]
        split <;> rfl
    · rw [decide_eq_false hl, if_neg (by decide)]
      exact ih (k + 1) (n + 1) (by omega) (by omega) (by omega) (by omega)
/-- Both of them, between two places. -/
theorem diff_bd {a b c d : Int} (h1 : Rt a b) (h2 : Rt c d) (ha : 0 ≤ a) : c * b - a * d < 1000000000000000000 := by
  have m3 := mul_bd h2.num h1.den
  by_cases h0 : a = 0
  · subst h0
    have hg : Int.gcd 0 b = 1 := h1.2.2.2.2
    rw [Int.gcd_zero_left] at hg
    have hb := h1.1
    have : b = 1 := by omega
    subst this
    have := h2.2.2.2.1
    omega
  · have : 0 < a * d := Int.mul_pos (by omega) h2.pos
    omega
theorem way_part {a b p q c d steps : Int} (ha : 0 ≤ a) (h1 : Rt a b) (h2 : Rt p q) (h3 : Rt c d) (hle : a * q ≤ p * b) (hlt : p * d < c * q) (hs : 0 ≤ steps ∧ steps ≤ 500) (up : Bool) :
    (∀ k, 600 < k → dyn_way.f k a b p q c d steps up = some (wayV ((p * b - a * q) * d * steps) ((c * b - a * d) * q) up)) ∧
    (∀ k, 600 < k → partitaref12_part.f k a b p q c d steps up = some (wayV ((p * b - a * q) * d * steps) ((c * b - a * d) * q) up)) ∧ 0 < (c * b - a * d) * q ∧ 0 ≤ (p * b - a * q) * d * steps ∧ (p * b - a * q) * d * steps ≤ (c * b - a * d) * q * steps ∧ (p * b - a * q) * d < (c * b - a * d) * q := by
  have m1 := mul_bd h2.num h1.den
  have m2 := mul_bd h1.num h2.den
  have m3 := mul_bd h3.num h1.den
  have m4 := mul_bd h1.num h3.den
  have hacd : a * d < c * b := lt_trans_ h1.pos h2.pos h3.pos hle hlt
  have hD : 0 ≤ p * b - a * q ∧ p * b - a * q ≤ 4000000000000000000 := by omega
  have hW : 0 ≤ c * b - a * d ∧ c * b - a * d ≤ 4000000000000000000 := by omega
  have hq : 0 ≤ q ∧ q ≤ 1000000000 := ⟨by have := h2.pos; omega, h2.2.1⟩
  have hd : 0 ≤ d ∧ d ≤ 1000000000 := ⟨by have := h3.pos; omega, h3.2.1⟩
  have hG : 0 < (c * b - a * d) * q := Int.mul_pos (by omega) h2.pos
  have hFG : (p * b - a * q) * d < (c * b - a * d) * q := by
    have e1 : (p * b - a * q) * d = p * d * b - a * d * q := by rw [Int.sub_mul, Int.mul_right_comm, Int.mul_right_comm a]
    have e2 : (c * b - a * d) * q = c * q * b - a * d * q := by rw [Int.sub_mul, Int.mul_right_comm]
    have e3 : p * d * b < c * q * b := Int.mul_lt_mul_of_pos_right hlt h1.pos
    omega
  have hF0 : 0 ≤ (p * b - a * q) * d := Int.mul_nonneg hD.1 hd.1
  have hFs : (p * b - a * q) * d * steps < (c * b - a * d) * q * steps ∨ steps = 0 ∧ (p * b - a * q) * d * steps = 0 := by
    by_cases h0 : steps = 0
    · right; exact ⟨h0, by rw [h0, Int.mul_zero]⟩
    · left; exact Int.mul_lt_mul_of_pos_right hFG (by omega)
  refine ⟨?_, ?_, hG, Int.mul_nonneg hF0 hs.1, ?_, hFG⟩
  · intro k hk
    unfold dyn_way.f dyn_apart.f
    simp only [Option.bind_some]
    rw [wrap64_id (n := p * b) (i64_small (by omega)), wrap64_id (n := a * q) (i64_small (by omega)), wrap64_id (n := c * b) (i64_small (by omega)), wrap64_id (n := a * d) (i64_small (by omega)), wrap64_id (n := p * b - a * q) (i64_small (by omega)), wrap64_id (n := c * b - a * d) (i64_small (by omega)), wrapU, wrapU, Int.emod_eq_of_lt hD.1 (by omega), Int.emod_eq_of_lt hW.1 (by omega)]
    exact way_l0 hW hD hq hd hs hG hFs steps.toNat k 0 (by omega) (by omega) (by omega) (by rw [Int.mul_zero]; exact Int.mul_nonneg hF0 hs.1)
  · intro k hk
    unfold partitaref12_part.f
    rw [wrap64_id (n := p * b) (i64_small (by omega)), wrap64_id (n := a * q) (i64_small (by omega)), wrap64_id (n := c * b) (i64_small (by omega)), wrap64_id (n := a * d) (i64_small (by omega)), wrap64_id (n := p * b - a * q) (i64_small (by omega)), wrap64_id (n := c * b - a * d) (i64_small (by omega)), figures_f hD, figures_f hW]
    simp only [Option.bind_some]
    have d1 := diff_bd h1 h2 ha
    have d2 := diff_bd h1 h3 ha
    have g1 : dg ((p * b - a * q) % 1000000000) := by unfold dg; omega
    have g2 : dg ((p * b - a * q) / 1000000000) := by unfold dg; omega
    have g1' : dg ((c * b - a * d) % 1000000000) := by unfold dg; omega
    have g2' : dg ((c * b - a * d) / 1000000000) := by unfold dg; omega
    obtain ⟨x0, x1, x2, e1, q0, q1, q2, v1⟩ := times_2 g1 g2 hd (k := k) (by omega)
    rw [e1, Option.bind_some]
    obtain ⟨y0, y1, y2, y3, e2, s0, s1, s2, s3, v2⟩ := times_3 q0 q1 q2 (b := steps) (by omega) (k := k) (by omega)
    rw [e2, Option.bind_some]
    obtain ⟨z0, z1, z2, e3, t0, t1, t2, v3⟩ := times_2 g1' g2' hq (k := k) (by omega)
    rw [e3, Option.bind_some]
    have w1 : (p * b - a * q) % 1000000000 + (p * b - a * q) / 1000000000 * 1000000000 = p * b - a * q := by omega
    have w2 : (c * b - a * d) % 1000000000 + (c * b - a * d) / 1000000000 * 1000000000 = c * b - a * d := by omega
    rw [w1] at v1
    rw [w2] at v3
    exact part_l0 ⟨s0, s1, s2, s3⟩ ⟨t0, t1, t2⟩ (by unfold v4; rw [v2, v1]) v3 hs hG hFs steps.toNat k 0 (by omega) (by omega) (by omega) (by rw [Int.mul_zero]; exact Int.mul_nonneg hF0 hs.1)
  · rcases hFs with h | ⟨h, h'⟩
    · omega
    · rw [h, Int.mul_zero, Int.mul_zero]; omega
end Go.Proofs.Ytiifeheejapegaa.Q
