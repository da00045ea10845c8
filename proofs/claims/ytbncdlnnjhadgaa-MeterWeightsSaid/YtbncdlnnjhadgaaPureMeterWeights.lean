/- MeterWeights: the plain law. No conditions. -/
import Derived.Test.YtbncdlnnjhadgaaMP5
import Derived.Test.YtbncdlnnjhadgaaQ13
namespace Go.Proofs.Ytbncdlnnjhadgaa.Pure
open Go.RowKit Go.Proofs.Ytbncdlnnjhadgaa.Q Go.Proofs.YtbncdlnnjhadgaaW.PrintWords Go.Proofs.YtbncdlnnjhadgaaW.PrintMore
set_option linter.unusedVariables false
set_option linter.unusedSimpArgs false
/-- How many of some numbers are below one. -/
def cntB (B : List Int) (i : Int) : Nat := (B.filter fun b => decide (b < i)).length
theorem cntB_step : ∀ {B : List Int} (i : Int), B.Pairwise (· < ·) → cntB B (i + 1) = cntB B i + if i ∈ B then 1 else 0
  | [], i, _ => by simp [cntB]
  | b :: B, i, h => by
    have hb := (List.pairwise_cons.1 h).1
    have ih := cntB_step i (List.pairwise_cons.1 h).2
    unfold cntB at ih ⊢
    rw [List.filter_cons, List.filter_cons]
    by_cases c1 : b < i
    · rw [decide_eq_true (show b < i + 1 by omega), decide_eq_true c1, if_pos rfl, if_pos rfl, List.length_cons, List.length_cons, ih]
      have : i ∈ b :: B ↔ i ∈ B := by simp; omega
      simp only [this]; omega
    · have hn : ¬ i ∈ B := fun hi => by have := hb i hi; omega
      rw [if_neg hn] at ih
      have e1 : decide (b < i) = false := decide_eq_false c1
      by_cases c2 : b = i
      · subst c2
        have e0 : decide (b < b + 1) = true := decide_eq_true (by omega)
        simp only [e0, e1, if_true, Bool.false_eq_true, if_false, List.length_cons, ih, List.mem_cons, true_or]
      · have e0 : decide (b < i + 1) = false := decide_eq_false (by omega)
        have e2 : ¬ (i ∈ b :: B) := by simp; exact ⟨fun e => c2 e.symm, hn⟩
        simp only [e0, e1, Bool.false_eq_true, if_false, ih, e2]
theorem part2 {d D t x y : Int} (hd : 1 ≤ d) (hD : 1 ≤ D) (h0 : 0 ≤ x) (ha : At (d * D) t x y) : Int.tmod (x * d) y = 0 ↔ t % D = 0 := by
  have hp := ha.1.pos
  have e := ha.2
  rw [Int.tmod_eq_emod_of_nonneg (Int.mul_nonneg h0 (by omega))]
  constructor
  · intro h
    obtain ⟨c, hc⟩ := Int.dvd_of_emod_eq_zero h
    have e2 : t * y = (c * D) * y := by rw [← e, ← Int.mul_assoc, hc]; ac_rfl
    rw [Int.eq_of_mul_eq_mul_right (by omega) e2]; exact Int.mul_emod_left _ _
  · intro h
    obtain ⟨c, hc⟩ := Int.dvd_of_emod_eq_zero h
    have e2 : (x * d) * D = (c * y) * D := by rw [Int.mul_assoc, e, hc]; ac_rfl
    rw [Int.eq_of_mul_eq_mul_right (by omega) e2]; exact Int.mul_emod_left _ _
theorem weights_l0 {n d a2 a3 : Int} {G : List Int} (h : GM n d G) (w2 : i64 a2) (w3 : i64 a3) : ∀ (m k i : Nat), (i : Int) + m = n → 2 * m + 50 ≤ k →
    partitalaw05_MeterWeights.l0 k a2 a3 true (rowsP (beatsP n d G)) 0 (cntB (BI n d G 1) i) i n d G = some true := by
  have hd := h.d64
  have hn1 := h.n1
  have hn := h.n2
  have hup := BI_up h (D := 1) (by omega)
  have hcl : ∀ i, cntB (BI n d G 1) i ≤ 32 := by
    intro i
    have h3 : cntB (BI n d G 1) i ≤ (BI n d G 1).length := List.length_filter_le _ _
    have h4 : (BI n d G 1).length ≤ 32 := by unfold BI; rw [List.length_map, sums_len]; exact (grp_ok h).2.2.2
    omega
  intro m
  induction m with
  | zero =>
    intro k i hi hk
    obtain ⟨k, rfl⟩ : ∃ j, k = j + 1 := ⟨k - 1, by omega⟩
    obtain ⟨D, t, x, y, hp, _, h1, h2, t0, t1, hat⟩ := place_f h w2 w3 (k := k) (by omega)
    have hN := nd_bd hd.1 hd.2 h1 h2
    have hnD := nD_bd hn1 hn h1 h2
    have hw := weight_f h h1 h2 hat t0 t1 (k := k) (by omega)
    have hs := hat.sgn (by omega)
    have hnum := hat.num (by omega)
    have b1 := mul_bd (a := x) (b := d) (A := 384) (B := 64) (by omega) (by omega)
    have hp2 := part2 hd.1 h1 (by omega) hat
    have hden := hat.1.pos
    rw [partitalaw05_MeterWeights.l0, if_neg (by omega), hp]
    simp only [Option.bind_some]
    rw [hw]
    simp only [Option.bind_some, if_true]
    have hall : cntB (BI n d G 1) i = (beatsP n d G).length := by
      rw [(beats_at h 1).len]
      unfold cntB
      rw [List.filter_eq_self.2]
      intro b hb
      have := (BI_lt h (by omega) hb).2.1
      rw [decide_eq_true_iff]; omega
    rw [hall, rows_len, if_pos rfl, if_neg (by omega), wrap64_id (n := x * d) (by unfold i64; omega)]
    congr 1
    have hz : (wI (BI n d G D) D t == 0) = decide (¬ t % D = 0) := by
      unfold wI
      by_cases c1 : t = 0
      · rw [if_pos c1, c1]; simp
      rw [if_neg c1]
      by_cases c2 : t ∈ BI n d G D
      · rw [if_pos c2, (BI_lt h h1 c2).2.2]; simp
      rw [if_neg c2]
      by_cases c3 : t % D = 0
      · rw [if_pos c3]; simp [c3]
      · rw [if_neg c3]; simp [c3]
    have hz2 : (Int.tmod (x * d) y != 0) = decide (¬ t % D = 0) := by
      rw [Bool.eq_iff_iff]; simp [hp2]
    rw [hz, hz2]; simp
  | succ m ih =>
    intro k i hi hk
    obtain ⟨k, rfl⟩ : ∃ j, k = j + 2 := ⟨k - 2, by omega⟩
    obtain ⟨x, y, hq, hat⟩ := at_new (N := d) (x := (i : Int)) (by omega) (by omega) (by omega)
    have hat1 := hat.more 1
    have hw := weight_f h (D := 1) (t := (i : Int) * 1) (by omega) (by omega) hat1 (by omega) (by omega) (k := k + 1) (by omega)
    rw [Int.mul_one (i : Int)] at hw
    have hc := hcl i
    rw [partitalaw05_MeterWeights.l0, if_pos (by omega), ratioOf (by unfold i64; omega) (by unfold i64; omega), hq]
    simp only [Option.bind_some]
    rw [hw]
    simp only [Option.bind_some, if_true]
    have hstep := cntB_step (i : Int) hup
    have hwv : (((wI (BI n d G 1) 1 (i : Int)) == 3) != ((i : Int) == 0)) = false ∧ ¬ wI (BI n d G 1) 1 (i : Int) < 1 ∧ ¬ wI (BI n d G 1) 1 (i : Int) > 3 ∧ (wI (BI n d G 1) 1 (i : Int) > 1 ↔ (i : Int) ∈ BI n d G 1) := by
      obtain ⟨t, ht⟩ := BI_zero h 1
      unfold wI
      by_cases c1 : (i : Int) = 0
      · rw [if_pos c1, c1]; refine ⟨by decide, by omega, by omega, ?_⟩
        rw [ht]; simp
      · rw [if_neg c1]
        by_cases c2 : (i : Int) ∈ BI n d G 1
        · rw [if_pos c2]; refine ⟨by simpa using c1, by omega, by omega, by simp [c2]⟩
        · rw [if_neg c2, if_pos (by omega)]; refine ⟨by simpa using c1, by omega, by omega, by simp [c2]⟩
    obtain ⟨v1, v2, v3, v4⟩ := hwv
    rw [v1, if_neg (by decide), if_neg v2, decide_eq_false v3, partitalaw05_MeterWeights.j1, if_neg (by decide)]
    have next := ih k (i + 1) (by omega) (by omega)
    rw [show ((i + 1 : Nat) : Int) = (i : Int) + 1 by omega, hstep] at next
    by_cases c : (i : Int) ∈ BI n d G 1
    · rw [if_pos (v4.2 c), wrap64_id (n := (i : Int) + 1) (by unfold i64; omega), wrap64_id (n := ((cntB (BI n d G 1) i : Nat) : Int) + 1) (by unfold i64; omega)]
      rw [if_pos c] at next
      rw [show ((cntB (BI n d G 1) i + 1 : Nat) : Int) = ((cntB (BI n d G 1) i : Nat) : Int) + 1 by omega] at next
      exact next
    · rw [if_neg (fun e => c (v4.1 e)), wrap64_id (n := (i : Int) + 1) (by unfold i64; omega)]
      rw [if_neg c, Nat.add_zero] at next
      exact next
theorem MeterWeights : ∀ (x0 : S24) (a1 : Bool) (a2 : Int) (a3 : Int), (wf24 x0) → ((Lit.int .i64 a2).wf = true) → ((Lit.int .i64 a3).wf = true) → ∃ k, partitalaw05_MeterWeights.f k x0.f0 x0.f1 x0.f2 a1 a2 a3 = some true := by
  intro x0 a1 a2 a3 ⟨w0, w1, w2, w3⟩ wa wb
  obtain ⟨K, hK⟩ : ∃ K : Nat, 2000 ≤ K := ⟨2000, Nat.le_refl _⟩
  obtain ⟨n, d, G, hm, gm, _, _⟩ := meter_f (i64_of w0) (i64_of w1) (fun y hy => i64_of (w3 y hy)) (by omega) a1 (k := K) (by omega)
  have hn1 := gm.n1
  have hn2 := gm.n2
  refine ⟨K, ?_⟩
  unfold partitalaw05_MeterWeights.f
  simp only [partitalaw05_awake.f, Option.bind_some, hm]
  rw [beats_f gm (by omega)]
  simp only [Option.bind_some]
  have := weights_l0 gm (i64_of wa) (i64_of wb) n.toNat K 0 (by omega) (by omega)
  have hc : cntB (BI n d G 1) ((0 : Nat) : Int) = 0 := by
    unfold cntB
    rw [filter_none (fun b hb => by have := (BI_lt gm (by omega) hb).1; rw [decide_eq_false_iff_not]; omega)]; rfl
  rw [hc] at this
  exact this
end Go.Proofs.Ytbncdlnnjhadgaa.Pure
