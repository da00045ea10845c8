/- TempoPlain: the plain law. No conditions. -/
import Derived.Test.YtchjlkokfgmjaaaTP5
import Derived.Test.YtchjlkokfgmjaaaTP6
import Derived.Test.YtchjlkokfgmjaaaQ10
import Derived.Test.YtchjlkokfgmjaaaQ11
namespace Go.Proofs.Ytchjlkokfgmjaaa.Pure
open Go.RowKit Go.Proofs.Ytchjlkokfgmjaaa.Q Go.Proofs.YtchjlkokfgmjaaaW.PrintWords Go.Proofs.YtchjlkokfgmjaaaW.PrintMore
set_option linter.unusedVariables false
theorem place_pick {a : Int} (ha : i64 a) {k : Nat} (hk : 1 ≤ k) : ∃ x n d, partitalaw11_pick.f a 2880 = some x ∧ partitalaw11_place.f k a = some (n, d) ∧ ofQ x 96 = (n, d, 0) ∧ At x n d ∧ 0 ≤ x ∧ x < 2880 := by
  obtain ⟨x, hx, x0, x1⟩ := pick_f ha (n := 2880) (by omega) (by omega)
  obtain ⟨n, d, h, hq, t⟩ := ref96 x0 (by omega) hk
  refine ⟨x, n, d, hx, ?_, hq, t, x0, x1⟩
  unfold partitalaw11_place.f
  rw [hx, Option.bind_some, h, Option.bind_some]
theorem legT_flat (m f : Int) : legT m 0 f 1 = 4 * m * f / 96 := by
  unfold legT
  simp only [Int.mul_zero, Int.zero_mul, Int.add_zero, Int.mul_one]
  rw [Int.mul_comm f]
theorem legR_flat (m f : Int) : legR m 0 f 1 = m := by unfold legR; simp
theorem TempoPlain : ∀ (a0 : Int) (a1 : Bool) (a2 : Int) (a3 : Int), ((Lit.int .i64 a0).wf = true) → ((Lit.int .i64 a2).wf = true) → ((Lit.int .i64 a3).wf = true) → ∃ k, partitalaw11_TempoPlain.f k a0 a1 a2 a3 = some true := by
  intro a r b c ha hb hc
  obtain ⟨m, hm, m0, m1⟩ := pick_f (i64_of ha) (n := 3900001) (by omega) (by omega)
  obtain ⟨x, n1, e1, h1, p1, q1, t1, x0, x1⟩ := place_pick (i64_of hb) (k := 100) (by omega)
  obtain ⟨y, n2, e2, h2, p2, q2, t2, y0, y1⟩ := place_pick (i64_of hc) (k := 100) (by omega)
  have hG : okG [(x, 100000 + m, r)] := ⟨⟨x0, by show x ≤ 10000; omega, by show 100000 ≤ 100000 + m; omega, by show 100000 + m ≤ 4000000; omega⟩, fun u hu => by simp at hu, trivial⟩
  have hL : toL [(x, 100000 + m, r)] = [(⟨(⟨n1, e1⟩ : S27), 100000 + m, r⟩ : S36)] := by
    unfold toL toS
    simp only [List.map_cons, List.map_nil]
    rw [q1]
  have hN : okG [] := trivial
  have hNL : toL [] = [] := rfl
  have k1 := micros_f hG (by simp) (k := 100) (by omega) t2 y0 (by omega)
  have k2 := rate_fG hG (by simp) (k := 100) (by omega) t2 y0 (by omega)
  have k3 := micros_f hN (by simp) (k := 100) (by omega) t2 y0 (by omega)
  have k4 := rate_fG hN (by simp) (k := 100) (by omega) t2 y0 (by omega)
  rw [hL] at k1 k2
  rw [hNL] at k3 k4
  have v3 : micG [] y = 2000000 * y / 96 := by
    show mics [(0, 500000, false)] y = _
    rw [mics_one]; unfold partG gapOf
    simp only
    rw [legT_flat, Int.sub_zero]
    omega
  have v4 : ratG [] y = 500000 := by
    show rats [(0, 500000, false)] y = _
    rw [rats_one]; unfold rateG gapOf
    simp only
    rw [legR_flat]
  refine ⟨100, ?_⟩
  unfold partitalaw11_TempoPlain.f
  rw [awake_f, Option.bind_some, hm, Option.bind_some, p1, Option.bind_some, p2, Option.bind_some, h1, Option.bind_some, h2, Option.bind_some, Option.bind_some, wrap64_id (n := 100000 + m) (by unfold i64; omega)]
  simp only
  rw [k2, Option.bind_some, k1, Option.bind_some, k3, Option.bind_some, k4, Option.bind_some]
  simp only [if_true]
  rw [wrap64_id (n := 2000000 * y) (by unfold i64; omega), Int.tdiv_eq_ediv_of_nonneg (by omega), wrap64_id (by unfold i64; omega), v3, if_pos rfl, v4]
  show partitalaw11_TempoPlain.j0 (99 + 1) true (100000 + m) x y (ratG [(x, 100000 + m, r)] y) (micG [(x, 100000 + m, r)] y) (2000000 * y / 96) false = some true
  simp only [partitalaw11_TempoPlain.j0, Bool.false_eq_true, if_false, if_true]
  have hR : rats [(x, 100000 + m, r)] y = 100000 + m := by
    rw [rats_one]; unfold rateG gapOf
    simp only
    rw [legR_flat]
  have hT : mics [(x, 100000 + m, r)] y = 4 * (100000 + m) * (y - x) / 96 := by
    rw [mics_one]; unfold partG gapOf
    simp only
    rw [legT_flat]
  have hP : ∀ z, partG (0, 500000, false) (some (x, 100000 + m, r)) z = 2000000 * z / 96 := by
    intro z
    unfold partG gapOf
    simp only [Bool.false_eq_true, if_false]
    rw [legT_flat, Int.sub_zero]
    omega
  have hz : x ≠ 0 → tempsG [(x, 100000 + m, r)] = [(0, 500000, false), (x, 100000 + m, r)] := by
    intro h
    unfold tempsG
    simp only [List.head?_cons]
    rw [if_neg h]
  have hz0 : x = 0 → tempsG [(x, 100000 + m, r)] = [(x, 100000 + m, r)] := by
    intro h
    unfold tempsG
    simp only [List.head?_cons]
    rw [if_pos h]
  by_cases hyx : y < x
  · rw [if_pos hyx]
    have e1 : ratG [(x, 100000 + m, r)] y = 500000 := by
      unfold ratG
      rw [hz (by omega), rats_two, if_neg (by show ¬ x ≤ y; omega)]
      unfold rateG gapOf
      simp only [Bool.false_eq_true, if_false]
      rw [legR_flat]
    have e2 : micG [(x, 100000 + m, r)] y = 2000000 * y / 96 := by
      unfold micG
      rw [hz (by omega), mics_two, if_neg (by show ¬ x ≤ y; omega), hP]
    rw [if_pos e1, e2]; simp
  · rw [if_neg hyx]
    have e1 : ratG [(x, 100000 + m, r)] y = 100000 + m := by
      unfold ratG
      by_cases h0 : x = 0
      · rw [hz0 h0, hR]
      · rw [hz h0, rats_two, if_pos (by show x ≤ y; omega), hR]
    have e2 : micG [(x, 100000 + m, r)] y = 2000000 * x / 96 + 4 * (100000 + m) * (y - x) / 96 := by
      unfold micG
      by_cases h0 : x = 0
      · rw [hz0 h0, hT, h0]; omega
      · rw [hz h0, mics_two, if_pos (by show x ≤ y; omega), hP, hT]
    have b := bd (a := 4 * (100000 + m)) (b := y - x) (A := 16000000) (B := 2880) (by omega) (by omega) (by omega) (by omega)
    rw [if_pos e1, e2, wrap64_id (n := 2000000 * x) (by unfold i64; omega), Int.tdiv_eq_ediv_of_nonneg (show 0 ≤ 2000000 * x by omega), wrap64_id (n := 2000000 * x / 96) (by unfold i64; omega), wrap64_id (n := 4 * (100000 + m)) (by unfold i64; omega), wrap64_id (n := y - x) (by unfold i64; omega), wrap64_id (n := 4 * (100000 + m) * (y - x)) (by unfold i64; omega), Int.tdiv_eq_ediv_of_nonneg b.1]
    generalize 4 * (100000 + m) * (y - x) = q at *
    rw [wrap64_id (n := q / 96) (by unfold i64; omega), wrap64_id (by unfold i64; omega)]
    simp
end Go.Proofs.Ytchjlkokfgmjaaa.Pure
