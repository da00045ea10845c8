/- Plain facts on the way between two dynamics: how many of its steps are done, rounded down, or up. No conditions. -/
import Derived.Test.YtiifeheejapegaaRatio
import Derived.Test.YtiifeheejapegaaQ5
import Derived.Test.YtiifeheejapegaaQ10
namespace Go.Proofs.Ytiifeheejapegaa.Q
open Go.RowKit Go.Proofs.YtiifeheejapegaaW.PrintWords Go.Proofs.YtiifeheejapegaaW.PrintMore
/-- F by G, rounded down, or up. -/
def wayV (F G : Int) (up : Bool) : Int := if up = true ∧ G * (F / G) < F then F / G + 1 else F / G
theorem wideMul_val {hi lo b : Int} (h0 : 0 ≤ hi) (l0 : 0 ≤ lo) (_l1 : lo < 18446744073709551616) (b0 : 0 ≤ b) (hb : hi * b + lo * b / 18446744073709551616 < 18446744073709551616) :
    (wideMul hi lo b).1 * 18446744073709551616 + (wideMul hi lo b).2 = (hi * 18446744073709551616 + lo) * b ∧ 0 ≤ (wideMul hi lo b).2 ∧ (wideMul hi lo b).2 < 18446744073709551616 ∧ 0 ≤ (wideMul hi lo b).1 := by
  unfold wideMul
  simp only [wrapU]
  have x1 : 0 ≤ hi * b := Int.mul_nonneg h0 b0
  have x2 : 0 ≤ lo * b := Int.mul_nonneg l0 b0
  have e : (hi * 18446744073709551616 + lo) * b = hi * b * 18446744073709551616 + lo * b := by rw [Int.add_mul, Int.mul_right_comm]
  rw [e]
  generalize hi * b = x at *
  generalize lo * b = y at *
  omega
theorem times2 {a x y : Int} (ha : 0 ≤ a ∧ a ≤ 4000000000000000000) (hx : 0 ≤ x ∧ x ≤ 1000000000) (hy : 0 ≤ y ∧ y ≤ 1000) :
    ∃ h l : Int, dyn_times.f a [x, y] = some (h, l) ∧ h * 18446744073709551616 + l = a * x * y ∧ 0 ≤ l ∧ l < 18446744073709551616 ∧ 0 ≤ h := by
  have hf : dyn_times.f a [x, y] = some (timesI [x, y] 0 a) := by
    unfold dyn_times.f
    rw [if_pos ⟨ha.1, by omega, by intro z hz; simp at hz; omega, by simp⟩]
  simp only [timesI] at hf
  have p1 : a * x ≤ 4000000000000000000 * 1000000000 := Int.mul_le_mul ha.2 hx.2 hx.1 (by omega)
  have p0 : 0 ≤ a * x := Int.mul_nonneg ha.1 hx.1
  have w1 := wideMul_val (hi := 0) (lo := a) (b := x) (by omega) ha.1 (by omega) hx.1 (by rw [Int.zero_mul]; omega)
  generalize (wideMul 0 a x).1 = h1 at *
  generalize (wideMul 0 a x).2 = l1 at *
  rw [Int.zero_mul, Int.zero_add] at w1
  have p2 : h1 * y ≤ 300000000 * 1000 := Int.mul_le_mul (by omega) hy.2 hy.1 (by omega)
  have p3 : l1 * y ≤ 18446744073709551616 * 1000 := Int.mul_le_mul (by omega) hy.2 hy.1 (by omega)
  have w2 := wideMul_val (hi := h1) (lo := l1) (b := y) w1.2.2.2 w1.2.1 w1.2.2.1 hy.1 (by omega)
  exact ⟨_, _, hf, by rw [w2.1, w1.1], w2.2.1, w2.2.2.1, w2.2.2.2⟩
theorem wide_less {h1 l1 h2 l2 : Int} (a1 : 0 ≤ l1) (b1 : l1 < 18446744073709551616) (a2 : 0 ≤ l2) (b2 : l2 < 18446744073709551616) :
    dyn_wide_less.f h1 l1 h2 l2 = some (decide (h1 * 18446744073709551616 + l1 < h2 * 18446744073709551616 + l2)) := by
  unfold dyn_wide_less.f
  split
  · congr 1; symm; apply decide_eq_true; omega
  · split
    · congr 1; rw [Bool.eq_iff_iff, decide_eq_true_iff, decide_eq_true_iff]; omega
    · congr 1; symm; apply decide_eq_false; omega
theorem wayV_of {F G n : Int} (hG : 0 < G) (h1 : G * n ≤ F) (h2 : F < G * (n + 1)) : F / G = n := by
  have e : G * (n + 1) = G * n + G := by rw [Int.mul_add, Int.mul_one]
  have h3 : n ≤ F / G := by rw [Int.le_ediv_iff_mul_le hG, Int.mul_comm]; exact h1
  have h4 : F / G < n + 1 := by rw [Int.ediv_lt_iff_lt_mul hG, Int.mul_comm]; exact h2
  omega
theorem way_l0 {W ad D bd steps atn bn : Int} {up : Bool} (hW : 0 ≤ W ∧ W ≤ 4000000000000000000) (hD : 0 ≤ D ∧ D ≤ 4000000000000000000) (had : 0 ≤ ad ∧ ad ≤ 1000000000) (hbd : 0 ≤ bd ∧ bd ≤ 1000000000) (hs : 0 ≤ steps ∧ steps ≤ 500) (hG : 0 < W * ad) (hF : D * bd * steps < W * ad * steps ∨ steps = 0 ∧ D * bd * steps = 0) :
    ∀ (d : Nat) (k : Nat) (n : Int), n + d = steps → d < k → 0 ≤ n → W * ad * n ≤ D * bd * steps → dyn_way.l0 k steps up D W n atn ad bn bd = some (wayV (D * bd * steps) (W * ad) up) := by
  intro d
  induction d with
  | zero =>
    intro k n hn hk h0 hle
    obtain ⟨k, rfl⟩ : ∃ m, k = m + 1 := ⟨k - 1, by omega⟩
    have e : n = steps := by omega
    subst e
    rcases hF with hF | ⟨rfl, hF⟩
    · omega
    · simp only [dyn_way.l0]
      rw [if_neg (by omega)]
      rw [hF]
      simp [wayV]
  | succ d ih =>
    intro k n hn hk h0 hle
    obtain ⟨k, rfl⟩ : ∃ m, k = m + 1 := ⟨k - 1, by omega⟩
    simp only [dyn_way.l0]
    rw [if_pos (by omega), wrap64_id (n := n + 1) (by unfold i64; omega)]
    simp only [wrapU]
    rw [Int.emod_eq_of_lt had.1 (by omega), Int.emod_eq_of_lt hbd.1 (by omega), Int.emod_eq_of_lt (show 0 ≤ n + 1 by omega) (by omega), Int.emod_eq_of_lt hs.1 (by omega), Int.emod_eq_of_lt h0 (by omega)]
    obtain ⟨a1, b1, e1, v1, c1, d1, _⟩ := times2 hW had (y := n + 1) ⟨by omega, by omega⟩
    obtain ⟨a2, b2, e2, v2, c2, d2, _⟩ := times2 hD hbd (y := steps) ⟨by omega, by omega⟩
    obtain ⟨a3, b3, e3, v3, c3, d3, _⟩ := times2 hW had (y := n) ⟨by omega, by omega⟩
    rw [e1, e2, e3]
    simp only [Option.bind_some]
    rw [wide_less c2 d2 c1 d1, wide_less c3 d3 c2 d2, v1, v2, v3]
    simp only [Option.bind_some, decide_eq_true_eq]
    have ex : W * ad * (n + 1) = W * ad * n + W * ad := by rw [Int.mul_add, Int.mul_one]
    by_cases hlt : D * bd * steps < W * ad * (n + 1)
    · rw [if_pos hlt]
      have q := wayV_of hG hle hlt
      unfold wayV
      rw [q]
      cases up
      · simp
      · simp only [true_and, if_true]
        split <;> rfl
    · rw [if_neg hlt]
      exact ih k (n + 1) (by omega) (by omega) (by omega) (by omega)
end Go.Proofs.Ytiifeheejapegaa.Q
