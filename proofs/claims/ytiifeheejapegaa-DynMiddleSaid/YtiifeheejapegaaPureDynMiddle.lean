/- DynMiddle: the plain law: half way between two levels, evenly, it is their middle, rounded down. No conditions. -/
import Derived.Test.YtiifeheejapegaaDP8
import Derived.Test.YtiifeheejapegaaRatioOf
import Derived.Test.YtiifeheejapegaaQ15
namespace Go.Proofs.Ytiifeheejapegaa.Pure
open Go.RowKit Go.Proofs.Ytiifeheejapegaa.Q Go.Proofs.YtiifeheejapegaaW.PrintWords Go.Proofs.YtiifeheejapegaaW.PrintMore
theorem rightB_of {n d : Int} (h : Rt n d) : rightB n d = true := (rightB_iff (by have := h.num; unfold i64; omega) (by have := h.den; unfold i64; omega)).2 h
theorem u8 {a : Int} (h : (Lit.int .u8 a).wf = true) : 0 ≤ a ∧ a ≤ 255 := by
  simp only [Lit.wf, IntKind.min, IntKind.max, IntKind.signed, IntKind.bits, Bool.and_eq_true] at h; simp at h; omega
/-- Half of a number of steps. -/
theorem wayV_half {G s : Int} (hG : 0 < G) : wayV (G * s) (2 * G) false = s / 2 ∧ wayV (G * s) (2 * G) true = (s + 1) / 2 := by
  have e : G * s / (2 * G) = s / 2 := by rw [Int.mul_comm 2 G]; exact Int.mul_ediv_mul_of_pos _ _ hG
  have e2 : 2 * G * (s / 2) = G * (2 * (s / 2)) := by rw [Int.mul_comm 2 G, Int.mul_assoc]
  unfold wayV
  rw [e, e2]
  refine ⟨by simp, ?_⟩
  by_cases h : 2 * (s / 2) < s
  · rw [if_pos ⟨rfl, Int.mul_lt_mul_of_pos_left h hG⟩]; omega
  · rw [if_neg (fun x => h (Int.lt_of_mul_lt_mul_left x.2 (Int.le_of_lt hG)))]; omega
theorem DynMiddle : ∀ (a0 : Int) (a1 : Int) (x2 : S29), ((Lit.int .u8 a0).wf = true) → ((Lit.int .u8 a1).wf = true) → (wf29 x2) → ∃ k, partitalaw12_DynMiddle.f k a0 a1 x2.f0 x2.f1 = some true := by
  intro a0 a1 x h0 h1 hx
  have b0 := u8 h0
  have b1 := u8 h1
  have ip := i64_of hx.1
  have iq := i64_of hx.2
  refine ⟨5000, ?_⟩
  unfold partitalaw12_DynMiddle.f ratio_Right.f
  rw [awake_f (by omega), Option.bind_some]
  simp only [Option.bind_some]
  rw [wrap64_id (n := a0) (by unfold i64; omega), wrap64_id (n := a1) (by unfold i64; omega), tmod_pos b0.1, tmod_pos b1.1, wrap64_id (n := 1 + a0 % 127) (by unfold i64; omega), wrap64_id (n := 1 + a1 % 127) (by unfold i64; omega)]
  have hu : 1 ≤ 1 + a0 % 127 ∧ 1 + a0 % 127 ≤ 127 := by omega
  have hv : 1 ≤ 1 + a1 % 127 ∧ 1 + a1 % 127 ≤ 127 := by omega
  generalize 1 + a0 % 127 = u at *
  generalize 1 + a1 % 127 = v at *
  generalize x.f0 = p at *
  generalize x.f1 = q at *
  unfold ratio_Mul.f doI
  by_cases hr : rightB p q = true
  · have r12 : rightB 1 2 = true := by decide +kernel
    have R := (rightB_iff ip iq).1 hr
    have hp := R.num
    have hq := R.den
    rw [r12, hr, Bool.and_true, if_pos rfl, wrap64_id (n := p * 1) (by unfold i64; omega), wrap64_id (n := q * 2) (by unfold i64; omega), ratioOf (by unfold i64; omega) (by unfold i64; omega), Option.bind_some]
    rcases ho : ofQ (p * 1) (q * 2) with ⟨n, d, e⟩
    by_cases he : e = 0
    · subst he
      obtain ⟨N, hn, _⟩ := ofQ_rt ho
      simp only [if_true]
      by_cases hp0 : p ≤ 0
      · rw [if_pos hp0]
      · rw [if_neg hp0]
        have hNn := N.num
        have hNd := N.den
        have hin : In36 [⟨⟨0, 1⟩, u, true⟩, ⟨⟨p, q⟩, v, false⟩] := by
          intro d hd
          simp only [List.mem_cons, List.not_mem_nil, or_false] at hd
          rcases hd with rfl | rfl
          · refine ⟨?_, ?_, ?_⟩ <;> (unfold i64; simp; try omega)
          · exact ⟨ip, iq, by unfold i64; simp; omega⟩
        obtain ⟨r, hL, hf, _⟩ := level_f (l := [⟨⟨0, 1⟩, u, true⟩, ⟨⟨p, q⟩, v, false⟩]) (a := n) (b := d) (by simp) hin (by unfold i64; omega) (by unfold i64; omega)
        rw [hf 5000 (by omega), Option.bind_some]
        have g0 : rd_T36 [⟨⟨0, 1⟩, u, true⟩, ⟨⟨p, q⟩, v, false⟩] 0 = ⟨⟨0, 1⟩, u, true⟩ := rfl
        have g1 : rd_T36 [⟨⟨0, 1⟩, u, true⟩, ⟨⟨p, q⟩, v, false⟩] 1 = ⟨⟨p, q⟩, v, false⟩ := rfl
        have hG : Q.Good [⟨⟨0, 1⟩, u, true⟩, ⟨⟨p, q⟩, v, false⟩] := by
          intro j hj
          simp only [List.length_cons, List.length_nil] at hj
          have r01 : rightB 0 1 = true := by decide +kernel
          have c0 : cmpI p q 0 1 = 1 := by
            rw [cmpI_rt ip iq (by unfold i64; omega) (by unfold i64; omega) R ((rightB_iff (by unfold i64; omega) (by unfold i64; omega)).1 r01)]
            rw [if_neg (by omega), if_pos (by omega)]
          by_cases ej : j = 0
          · subst ej
            unfold badB
            rw [show ((0 : Nat) : Int) = 0 from rfl, g0, r01]
            have e1 : decide (u < 1) = false := decide_eq_false (by omega)
            have e2 : decide (127 < u) = false := decide_eq_false (by omega)
            simp only [e1, e2]; rfl
          · have ej : j = 1 := by omega
            subst ej
            unfold badB
            rw [show ((1 : Nat) : Int) - 1 = 0 from rfl, show ((1 : Nat) : Int) = 1 from rfl, g1, g0, hr, c0]
            have e1 : decide (v < 1) = false := decide_eq_false (by omega)
            have e2 : decide (127 < v) = false := decide_eq_false (by omega)
            have e3 : decide (0 ≤ p) = true := decide_eq_true (by omega)
            simp only [e1, e2, e3]; rfl
        have hpd : 0 < p * d := Int.mul_pos (by omega) N.pos
        have hnq : n * q * 2 = p * d := by rw [← Int.mul_assoc, Int.mul_one] at hn; exact hn
        have hn0 : 0 < n := by
          have : 0 < n * q := by omega
          exact Int.lt_of_mul_lt_mul_right (a := q) (by rw [Int.zero_mul]; exact this) (Int.le_of_lt R.pos)
        cases hL with
        | bad hb _ => exact absurd hG hb
        | arg _ ha => exact absurd ⟨N, by omega⟩ ha
        | ok m _ _ _ hc =>
          obtain ⟨m0, m1, m2⟩ := hc
          simp only [List.length_cons, List.length_nil] at m0 m2
          have em : m = 1 := by
            by_cases e0 : m = 0
            · have := m2 0 (by omega) (by omega)
              rw [show ((0 : Nat) : Int) = 0 from rfl, g0] at this
              simp at this; omega
            · by_cases e2 : m = 2
              · have := m1 1 (by omega)
                rw [show ((1 : Nat) : Int) = 1 from rfl, g1] at this
                simp only at this; omega
              · omega
          subst em
          have hl : levelV [⟨⟨0, 1⟩, u, true⟩, ⟨⟨p, q⟩, v, false⟩] n d 1 = (u + v) / 2 := by
            unfold levelV
            rw [if_neg (by omega), show ((1 : Nat) : Int) - 1 = 0 from rfl, show ((1 : Nat) : Int) = 1 from rfl, g0, g1]
            simp only [List.length_cons, List.length_nil]
            rw [if_neg (by simp)]
            have eG : (p * 1 - 0 * q) * d = 2 * (n * q) := by rw [Int.zero_mul, Int.sub_zero, Int.mul_one]; omega
            have eF : (n * 1 - 0 * d) * q = n * q := by rw [Int.zero_mul, Int.sub_zero, Int.mul_one]
            rw [eG, eF]
            by_cases huv : u ≤ v
            · rw [if_pos huv, (wayV_half (show 0 < n * q by omega)).1]; omega
            · rw [if_neg huv, (wayV_half (show 0 < n * q by omega)).2]; omega
          rw [hl, wrap64_id (n := u + v) (by unfold i64; omega), tdiv_pos (by omega), wrap64_id (n := (u + v) / 2) (by unfold i64; omega)]
          simp
    · simp only [if_neg he]
  · rw [if_neg (by simp [hr])]
    simp
end Go.Proofs.Ytiifeheejapegaa.Pure
