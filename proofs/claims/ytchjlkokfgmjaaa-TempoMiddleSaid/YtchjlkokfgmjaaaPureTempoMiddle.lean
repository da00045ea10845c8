/- TempoMiddle: the plain law. No conditions. -/
import Derived.Test.YtchjlkokfgmjaaaTP5
import Derived.Test.YtchjlkokfgmjaaaTP6
import Derived.Test.YtchjlkokfgmjaaaQ12
namespace Go.Proofs.Ytchjlkokfgmjaaa.Pure
open Go.RowKit Go.Proofs.Ytchjlkokfgmjaaa.Q Go.Proofs.YtchjlkokfgmjaaaW.PrintWords Go.Proofs.YtchjlkokfgmjaaaW.PrintMore
set_option linter.unusedVariables false
theorem legR_end {M N w : Int} (hw : 0 < w) : legR M (N - M) w w = N := by
  unfold legR
  rw [Int.mul_ediv_cancel _ (by omega)]; omega
theorem legT_all {M N w : Int} (hw : 0 < w) : legT M (N - M) w w = 2 * (M + N) * w / 96 := by
  unfold legT
  refine div_same (by omega) (by omega) ?_
  have e : 4 * M * w + 2 * (N - M) * w = 2 * (M + N) * w := by rw [← Int.add_mul]; congr 1; omega
  rw [e]
  ac_rfl
theorem far_bd {M N x w : Int} (hw : 0 < w) (hx : 0 ≤ x) : legT M (N - M) x w * 96 - 2 * x * (M + legR M (N - M) x w) ≤ 2 * x ∧ -96 ≤ legT M (N - M) x w * 96 - 2 * x * (M + legR M (N - M) x w) := by
  unfold legT legR
  have eq := Int.mul_ediv_add_emod ((N - M) * x) w
  have r0 := Int.emod_nonneg ((N - M) * x) (show w ≠ 0 by omega)
  have r1 := Int.emod_lt_of_pos ((N - M) * x) hw
  have eT := Int.mul_ediv_add_emod (x * (4 * M * w + 2 * (N - M) * x)) (96 * w)
  have t0 := Int.emod_nonneg (x * (4 * M * w + 2 * (N - M) * x)) (show 96 * w ≠ 0 by omega)
  have t1 := Int.emod_lt_of_pos (x * (4 * M * w + 2 * (N - M) * x)) (show 0 < 96 * w by omega)
  have hP : x * (4 * M * w + 2 * (N - M) * x) = 4 * (x * (M * w)) + 2 * (x * ((N - M) * x)) := by
    rw [Int.mul_add, show x * (4 * M * w) = 4 * (x * (M * w)) by ac_rfl, show x * (2 * (N - M) * x) = 2 * (x * ((N - M) * x)) by ac_rfl]
  rw [hP] at eT t0 t1 ⊢
  generalize (4 * (x * (M * w)) + 2 * (x * ((N - M) * x))) / (96 * w) = T at *
  generalize (4 * (x * (M * w)) + 2 * (x * ((N - M) * x))) % (96 * w) = ρT at *
  rw [← eq] at eT
  generalize ((N - M) * x) / w = q at *
  generalize ((N - M) * x) % w = ρ at *
  have hX : x * (w * q + ρ) = w * (x * q) + x * ρ := by rw [Int.mul_add]; congr 1; ac_rfl
  rw [hX] at eT
  have hF : w * (T * 96 - 2 * x * (M + (M + q))) = 96 * w * T - 4 * (x * (M * w)) - 2 * (w * (x * q)) := by
    rw [Int.mul_sub, show w * (T * 96) = 96 * w * T by ac_rfl]
    rw [Int.mul_add (2 * x), Int.mul_add (2 * x), Int.mul_add w, Int.mul_add w]
    rw [show w * (2 * x * M) = 2 * (x * (M * w)) by ac_rfl, show w * (2 * x * q) = 2 * (w * (x * q)) by ac_rfl]
    omega
  have b1 : 0 ≤ x * ρ := Int.mul_nonneg hx r0
  have b2 : x * ρ ≤ x * w := Int.mul_le_mul_of_nonneg_left (by omega) hx
  generalize T * 96 - 2 * x * (M + (M + q)) = far at *
  have g1 : w * far ≤ w * (2 * x) := by
    rw [hF, show w * (2 * x) = 2 * (x * w) by ac_rfl]; omega
  have g2 : w * (-96) ≤ w * far := by
    rw [hF]; omega
  exact ⟨Int.le_of_mul_le_mul_left g1 hw, Int.le_of_mul_le_mul_left g2 hw⟩
theorem legR_rise {M N x y w : Int} (hw : 0 < w) (hx : 0 ≤ x) (hxy : x ≤ y) (hy : y ≤ w) :
    (M ≤ N → legR M (N - M) x w ≤ legR M (N - M) y w ∧ M ≤ legR M (N - M) x w ∧ legR M (N - M) x w ≤ N) ∧ (N ≤ M → legR M (N - M) y w ≤ legR M (N - M) x w ∧ legR M (N - M) x w ≤ M ∧ N ≤ legR M (N - M) x w) := by
  have e0 : legR M (N - M) 0 w = M := by unfold legR; simp
  have e1 := legR_end (M := M) (N := N) hw
  have up : ∀ a b, a ≤ b → M ≤ N → legR M (N - M) a w ≤ legR M (N - M) b w := by
    intro a b hab h
    have := Int.ediv_le_ediv hw (Int.mul_le_mul_of_nonneg_left hab (show 0 ≤ N - M by omega))
    unfold legR; omega
  have dn : ∀ a b, a ≤ b → N ≤ M → legR M (N - M) b w ≤ legR M (N - M) a w := by
    intro a b hab h
    have := Int.ediv_le_ediv hw (Int.mul_le_mul_of_nonpos_left (a := N - M) (by omega) hab)
    unfold legR; omega
  refine ⟨fun h => ?_, fun h => ?_⟩
  · have a1 := up x y hxy h
    have a2 := up 0 x hx h
    have a3 := up x w (by omega) h
    omega
  · have a1 := dn x y hxy h
    have a2 := dn 0 x hx h
    have a3 := dn x w (by omega) h
    omega
theorem TempoMiddle : ∀ (a0 : Int) (a1 : Int) (a2 : Int) (a3 : Int) (a4 : Int), ((Lit.int .i64 a0).wf = true) → ((Lit.int .i64 a1).wf = true) → ((Lit.int .i64 a2).wf = true) → ((Lit.int .i64 a3).wf = true) → ((Lit.int .i64 a4).wf = true) → ∃ k, partitalaw11_TempoMiddle.f k a0 a1 a2 a3 a4 = some true := by
  intro a b c d e ha hb hc hd he
  obtain ⟨m, hm, m0, m1⟩ := pick_f (i64_of ha) (n := 3900001) (by omega) (by omega)
  obtain ⟨n, hn, n0, n1⟩ := pick_f (i64_of hb) (n := 3900001) (by omega) (by omega)
  obtain ⟨v, hv, v0, v1⟩ := pick_f (i64_of hc) (n := 960) (by omega) (by omega)
  obtain ⟨x, hx, x0, x1⟩ := pick_f (i64_of hd) (n := 1 + v + 1) (by omega) (by omega)
  obtain ⟨y, hy, y0, y1⟩ := pick_f (i64_of he) (n := 1 + v + 1 - x) (by omega) (by omega)
  obtain ⟨wn, wd, r1, q1, t1⟩ := ref96 (x := 1 + v) (by omega) (by omega) (k := 100) (by omega)
  obtain ⟨xn, xd, r2, q2, t2⟩ := ref96 (x := x) (by omega) (by omega) (k := 100) (by omega)
  obtain ⟨yn, yd, r3, q3, t3⟩ := ref96 (x := x + y) (by omega) (by omega) (k := 100) (by omega)
  refine ⟨100, ?_⟩
  unfold partitalaw11_TempoMiddle.f
  rw [awake_f, Option.bind_some, hm, Option.bind_some, hn, Option.bind_some, hv, Option.bind_some, wrap64_id (n := 1 + v) (by unfold i64; omega), r1, Option.bind_some, Option.bind_some, wrap64_id (n := 1 + v + 1) (by unfold i64; omega), hx, Option.bind_some,
    wrap64_id (n := 1 + v + 1 - x) (by unfold i64; omega), hy, Option.bind_some, r2, Option.bind_some, wrap64_id (n := x + y) (by unfold i64; omega), r3, Option.bind_some, wrap64_id (n := 100000 + m) (by unfold i64; omega), wrap64_id (n := 100000 + n) (by unfold i64; omega)]
  simp only
  have hM : 100000 ≤ 100000 + m ∧ 100000 + m ≤ 4000000 := by omega
  have hN : 100000 ≤ 100000 + n ∧ 100000 + n ≤ 4000000 := by omega
  have hw : 0 < 1 + v ∧ 1 + v ≤ 960 := by omega
  generalize 100000 + m = M at *
  generalize 100000 + n = N at *
  generalize 1 + v = w at *
  have hyw : x + y ≤ w := by omega
  have hy0 : x ≤ x + y := by omega
  generalize x + y = z at *
  have hG : okG [(0, M, true), (w, N, false)] := ⟨⟨by simp, by simp, hM.1, hM.2⟩, fun u hu => by
    obtain rfl := Option.some.inj (by simpa using hu : some (w, N, false) = some u)
    exact ⟨hw.1, fun _ => by show w - 0 ≤ 2000; omega⟩, ⟨by show 0 ≤ w; omega, by show w ≤ 10000; omega, hN.1, hN.2⟩, fun u hu => by simp at hu, trivial⟩
  have hL : toL [(0, M, true), (w, N, false)] = [(⟨(⟨0, 1⟩ : S27), M, true⟩ : S36), (⟨(⟨wn, wd⟩ : S27), N, false⟩ : S36)] := by
    unfold toL toS
    simp only [List.map_cons, List.map_nil]
    rw [q1, show ofQ 0 96 = (0, 1, 0) by decide]
  have hTG : tempsG [(0, M, true), (w, N, false)] = [(0, M, true), (w, N, false)] := by unfold tempsG; simp
  have hT : ∀ f, 0 ≤ f → f ≤ w → micG [(0, M, true), (w, N, false)] f = legT M (N - M) f w := by
    intro f h0 h1
    unfold micG
    rw [hTG, mics_two]
    have hp : ∀ g, partG (0, M, true) (some (w, N, false)) g = legT M (N - M) g w := by
      intro g
      unfold partG gapOf
      simp
    by_cases h : w ≤ f
    · rw [if_pos h, hp, mics_one]
      have : f = w := by omega
      subst this
      rw [partG_zero (f, N, false)]
      show legT M (N - M) f f + 0 = _
      omega
    · rw [if_neg h, hp]
  have hR : ∀ f, 0 ≤ f → f ≤ w → ratG [(0, M, true), (w, N, false)] f = legR M (N - M) f w := by
    intro f h0 h1
    unfold ratG
    rw [hTG, rats_two]
    by_cases h : w ≤ f
    · rw [if_pos h, rats_one]
      have : f = w := by omega
      subst this
      rw [legR_end hw.1]
      unfold rateG gapOf legR
      simp
    · rw [if_neg h]
      unfold rateG gapOf
      simp
  rw [← hL, micros_f hG (by simp) (by omega) t1 (by omega) (by omega), Option.bind_some, rate_fG hG (by simp) (by omega) t2 x0 (by omega), Option.bind_some, rate_fG hG (by simp) (by omega) t3 (by omega) (by omega), Option.bind_some, micros_f hG (by simp) (by omega) t2 x0 (by omega), Option.bind_some]
  simp only [if_true]
  rw [hT w (by omega) (by omega), hT x x0 (by omega), hR x x0 (by omega), hR z (by omega) hyw, legT_all hw.1]
  have b := bd (a := 2 * (M + N)) (b := w) (A := 16000000) (B := 960) (by omega) (by omega) (by omega) (by omega)
  rw [wrap64_id (n := M + N) (by unfold i64; omega), wrap64_id (n := 2 * (M + N)) (by unfold i64; omega), wrap64_id (n := 2 * (M + N) * w) (by unfold i64; omega), Int.tdiv_eq_ediv_of_nonneg b.1]
  have hqq := ediv_bd b.1 (show (1 : Int) ≤ 96 by omega) b.2
  generalize 2 * (M + N) * w / 96 = q at *
  rw [wrap64_id (n := q) (by unfold i64; omega), bne_self_eq_false]
  show partitalaw11_TempoMiddle.j0 (99 + 1) true M N w x z (legR M (N - M) x w) (legR M (N - M) z w) (legT M (N - M) x w) false = some true
  have F := far_bd (M := M) (N := N) hw.1 x0
  have R1 := legR_rise (M := M) (N := N) hw.1 x0 hy0 hyw
  have R2 := legR_rise (M := M) (N := N) hw.1 (show 0 ≤ z by omega) (Int.le_refl z) hyw
  have Re := legR_end (M := M) (N := N) hw.1
  have R0 : x = 0 → legR M (N - M) x w = M := by rintro rfl; unfold legR; simp
  have Rz : ¬ z < w → legR M (N - M) z w = N := by
    intro h
    have : z = w := by omega
    rw [this]; exact Re
  have T0 := legT_bd (m := M) (more := N - M) (f := x) (w := w) hM (by omega) x0 (by omega) hw.1 (.inr (by omega))
  simp only [partitalaw11_TempoMiddle.j0]
  have bR : 100000 ≤ legR M (N - M) x w ∧ legR M (N - M) x w ≤ 4000000 := by
    rcases Int.le_total M N with h | h
    · have := R1.1 h; omega
    · have := R1.2 h; omega
  have b2 := bd (a := 2 * x) (b := M + legR M (N - M) x w) (A := 2000) (B := 8000000) (by omega) (by omega) (by omega) (by omega)
  rw [wrap64_id (n := legT M (N - M) x w * 96) (by unfold i64; omega), wrap64_id (n := 2 * x) (by unfold i64; omega), wrap64_id (n := M + legR M (N - M) x w) (by unfold i64; omega), wrap64_id (n := 2 * x * (M + legR M (N - M) x w)) (by unfold i64; omega), wrap64_id (n := legT M (N - M) x w * 96 - 2 * x * (M + legR M (N - M) x w)) (by unfold i64; omega)]
  generalize legT M (N - M) x w * 96 - 2 * x * (M + legR M (N - M) x w) = far at *
  generalize legR M (N - M) x w = rx at *
  generalize legR M (N - M) z w = rz at *
  have m1 : ¬ rx < mn M N := by
    unfold mn
    rcases Int.le_total M N with h | h
    · have := R1.1 h; split <;> omega
    · have := R1.2 h; split <;> omega
  have m2 : ¬ rx > mx M N := by
    unfold mx
    rcases Int.le_total M N with h | h
    · have := R1.1 h; split <;> omega
    · have := R1.2 h; split <;> omega
  rw [if_neg (by decide), if_neg m1, if_neg m2]
  have fin : (if far ≤ 2 * x then if far ≥ -96 then if z < w then some true else some (rz == N) else none else none) = some true := by
    rw [if_pos F.1, if_pos F.2]
    by_cases h : z < w
    · rw [if_pos h]
    · rw [if_neg h, Rz h]; simp
  simp only [fin, if_true]
  by_cases h1 : M ≤ N
  · have := R1.1 h1
    rw [if_pos h1, if_neg (by omega)]
    by_cases h2 : M ≥ N
    · have := R1.2 h2
      rw [if_pos h2, if_neg (by omega)]
      by_cases h3 : x = 0
      · rw [if_pos h3, if_pos (R0 h3)]
      · rw [if_neg h3]
    · rw [if_neg h2]
      by_cases h3 : x = 0
      · rw [if_pos h3, if_pos (R0 h3)]
      · rw [if_neg h3]
  · rw [if_neg h1]
    have h2 : M ≥ N := by omega
    have := R1.2 h2
    rw [if_pos h2, if_neg (by omega)]
    by_cases h3 : x = 0
    · rw [if_pos h3, if_pos (R0 h3)]
    · rw [if_neg h3]
end Go.Proofs.Ytchjlkokfgmjaaa.Pure
