/- Plain facts on how long it takes: it rises, by at least 4166 a step. No conditions. -/
import Derived.Test.YtchjlkokfgmjaaaTP4
namespace Go.Proofs.Ytchjlkokfgmjaaa.Q
open Go.RowKit Go.Proofs.YtchjlkokfgmjaaaW.PrintWords Go.Proofs.YtchjlkokfgmjaaaW.PrintMore
set_option linter.unusedVariables false
set_option linter.unusedSimpArgs false
theorem div_step {a b q lo hi d : Int} (hq : 0 < q) (h1 : lo * d * q ≤ b - a) (h2 : b - a ≤ hi * d * q) : lo * d ≤ b / q - a / q ∧ b / q - a / q ≤ hi * d := by
  have ea := Int.mul_ediv_add_emod a q
  have eb := Int.mul_ediv_add_emod b q
  have ra := Int.emod_nonneg a (show q ≠ 0 by omega)
  have rb := Int.emod_nonneg b (show q ≠ 0 by omega)
  have ra2 := Int.emod_lt_of_pos a hq
  have rb2 := Int.emod_lt_of_pos b hq
  generalize a / q = x at *
  generalize b / q = y at *
  have k1 : q * (y - x) = q * y - q * x := Int.mul_sub _ _ _
  constructor
  · by_cases h : lo * d ≤ y - x
    · exact h
    · have := Int.mul_le_mul_of_nonneg_left (show y - x ≤ lo * d - 1 by omega) (show 0 ≤ q by omega)
      rw [Int.mul_sub q (lo * d) 1, Int.mul_one, Int.mul_comm q (lo * d)] at this
      omega
  · by_cases h : y - x ≤ hi * d
    · exact h
    · have := Int.mul_le_mul_of_nonneg_left (show hi * d + 1 ≤ y - x by omega) (show 0 ≤ q by omega)
      rw [Int.mul_add q (hi * d) 1, Int.mul_one, Int.mul_comm q (hi * d)] at this
      omega
theorem legT_step {m more f g w : Int} (hm : 100000 ≤ m ∧ m ≤ 4000000) (hmo : 100000 ≤ m + more ∧ m + more ≤ 4000000) (hf : 0 ≤ f) (hfg : f ≤ g) (hw : 0 < w) (hgw : more = 0 ∨ g ≤ w) :
    4166 * (g - f) ≤ legT m more g w - legT m more f w ∧ legT m more g w - legT m more f w ≤ 166667 * (g - f) := by
  unfold legT
  have hN : g * (4 * m * w + 2 * more * g) - f * (4 * m * w + 2 * more * f) = (g - f) * (4 * (m * w) + 2 * (more * (f + g))) := by
    have e1 : g * (4 * m * w + 2 * more * g) = 4 * (g * (m * w)) + 2 * (g * (more * g)) := by
      rw [Int.mul_add, show g * (4 * m * w) = 4 * (g * (m * w)) by ac_rfl, show g * (2 * more * g) = 2 * (g * (more * g)) by ac_rfl]
    have e2 : f * (4 * m * w + 2 * more * f) = 4 * (f * (m * w)) + 2 * (f * (more * f)) := by
      rw [Int.mul_add, show f * (4 * m * w) = 4 * (f * (m * w)) by ac_rfl, show f * (2 * more * f) = 2 * (f * (more * f)) by ac_rfl]
    have e3 : (g - f) * (4 * (m * w) + 2 * (more * (f + g))) = 4 * (g * (m * w)) - 4 * (f * (m * w)) + (2 * (g * (more * g)) - 2 * (f * (more * f))) := by
      have t1 : (g - f) * (4 * (m * w)) = 4 * (g * (m * w)) - 4 * (f * (m * w)) := by
        rw [Int.sub_mul, show g * (4 * (m * w)) = 4 * (g * (m * w)) by ac_rfl, show f * (4 * (m * w)) = 4 * (f * (m * w)) by ac_rfl]
      have t2 : (g - f) * (2 * (more * (f + g))) = 2 * (g * (more * g)) - 2 * (f * (more * f)) := by
        rw [Int.sub_mul, Int.mul_add more f g, Int.mul_add 2 (more * f) (more * g), Int.mul_add g, Int.mul_add f]
        rw [show g * (2 * (more * f)) = 2 * (f * (more * g)) by ac_rfl, show f * (2 * (more * g)) = 2 * (f * (more * g)) by ac_rfl, show g * (2 * (more * g)) = 2 * (g * (more * g)) by ac_rfl, show f * (2 * (more * f)) = 2 * (f * (more * f)) by ac_rfl]
        omega
      rw [Int.mul_add, t1, t2]
    rw [e1, e2, e3]; omega
  have hK : 400000 * w ≤ 4 * (m * w) + 2 * (more * (f + g)) ∧ 4 * (m * w) + 2 * (more * (f + g)) ≤ 16000000 * w := by
    have k1 : 100000 * w ≤ m * w := Int.mul_le_mul_of_nonneg_right (by omega) (by omega)
    have k2 : m * w ≤ 4000000 * w := Int.mul_le_mul_of_nonneg_right (by omega) (by omega)
    have k3 : 100000 * w ≤ (m + more) * w := Int.mul_le_mul_of_nonneg_right (by omega) (by omega)
    have k4 : (m + more) * w ≤ 4000000 * w := Int.mul_le_mul_of_nonneg_right (by omega) (by omega)
    rw [Int.add_mul] at k3 k4
    rcases hgw with h | h
    · subst h; simp; omega
    · rcases Int.le_total 0 more with h2 | h2
      · have a1 : 0 ≤ more * (f + g) := Int.mul_nonneg h2 (by omega)
        have a2 : more * (f + g) ≤ more * (2 * w) := Int.mul_le_mul_of_nonneg_left (by omega) h2
        rw [show more * (2 * w) = 2 * (more * w) by ac_rfl] at a2
        omega
      · have a1 : more * (f + g) ≤ 0 := Int.mul_nonpos_of_nonpos_of_nonneg h2 (by omega)
        have a2 : more * (2 * w) ≤ more * (f + g) := Int.mul_le_mul_of_nonpos_left h2 (by omega)
        rw [show more * (2 * w) = 2 * (more * w) by ac_rfl] at a2
        omega
  refine div_step (by omega) ?_ ?_
  · rw [hN]
    have := Int.mul_le_mul_of_nonneg_left hK.1 (show 0 ≤ g - f by omega)
    rw [show (g - f) * (400000 * w) = 400000 * ((g - f) * w) by ac_rfl] at this
    rw [show 4166 * (g - f) * (96 * w) = (4166 * 96) * ((g - f) * w) by ac_rfl]
    have p : 0 ≤ (g - f) * w := Int.mul_nonneg (by omega) (by omega)
    omega
  · rw [hN]
    have := Int.mul_le_mul_of_nonneg_left hK.2 (show 0 ≤ g - f by omega)
    rw [show (g - f) * (16000000 * w) = 16000000 * ((g - f) * w) by ac_rfl] at this
    rw [show 166667 * (g - f) * (96 * w) = (166667 * 96) * ((g - f) * w) by ac_rfl]
    have p : 0 ≤ (g - f) * w := Int.mul_nonneg (by omega) (by omega)
    omega
theorem legT_zero (m more w : Int) : legT m more 0 w = 0 := by unfold legT; simp
theorem partG_step {t : T3} {u : Option T3} {x y : Int} (ht : okT t) (hn : nextOk t u y) (hx : t.1 ≤ x) (hxy : x ≤ y) : 4166 * (y - x) ≤ partG t u y - partG t u x ∧ partG t u y - partG t u x ≤ 166667 * (y - x) := by
  have g := gap_ok ht hn
  have := legT_step (m := t.2.1) (more := (gapOf t u).1) (f := x - t.1) (g := y - t.1) (w := (gapOf t u).2) ht.2.2 g.2 (by omega) (by omega) g.1 (by
    unfold gapOf
    cases u with
    | none => exact .inl rfl
    | some v =>
      simp only
      split
      · rename_i h
        have := (hn v rfl).2.2 h
        right; simp only; omega
      · exact .inl rfl)
  rw [show y - t.1 - (x - t.1) = y - x by omega] at this
  exact this
theorem partG_zero (t : T3) (u : Option T3) : partG t u t.1 = 0 := by unfold partG; rw [Int.sub_self, legT_zero]
theorem mics_head {t : T3} {r : List T3} (h : okG (t :: r)) : mics (t :: r) t.1 = 0 := by
  cases r with
  | nil => rw [mics_one, partG_zero]
  | cons u r =>
    have := (h.2.1 u rfl).1
    rw [mics_two, if_neg (by omega), partG_zero]
theorem mics_step : ∀ {L : List T3}, okG L → L ≠ [] → ∀ {x y : Int}, (∀ t, L.head? = some t → t.1 ≤ x) → x ≤ y → 4166 * (y - x) ≤ mics L y - mics L x ∧ mics L y - mics L x ≤ 166667 * (y - x) := by
  intro L
  induction L with
  | nil => intro _ h; exact absurd rfl h
  | cons t r ih =>
    intro hok _ x y hx hxy
    have hx1 := hx t rfl
    cases r with
    | nil => rw [mics_one, mics_one]; exact partG_step hok.1 (fun v hv => by cases hv) hx1 hxy
    | cons u r =>
      obtain ⟨ht, hnx, hr⟩ := hok
      obtain ⟨h1, h2⟩ := hnx u rfl
      rw [mics_two, mics_two]
      have hno : ∀ z, z ≤ u.1 → nextOk t (some u) z := fun z hz v hv => by
        obtain rfl := Option.some.inj hv
        exact ⟨hr.1, h1, fun h => ⟨h2 h, hz⟩⟩
      by_cases hcx : u.1 ≤ x
      · rw [if_pos hcx, if_pos (by omega)]
        have := ih hr (by simp) (fun v hv => by obtain rfl := Option.some.inj hv; exact hcx) hxy
        omega
      · rw [if_neg hcx]
        by_cases hcy : u.1 ≤ y
        · rw [if_pos hcy]
          have a1 := ih hr (by simp) (x := u.1) (y := y) (fun v hv => by obtain rfl := Option.some.inj hv; exact Int.le_refl _) hcy
          rw [mics_head hr] at a1
          have a2 := partG_step ht (hno u.1 (Int.le_refl _)) hx1 (y := u.1) (by omega)
          omega
        · rw [if_neg hcy]
          exact partG_step ht (hno y (by omega)) hx1 hxy
theorem micG_step {G : List T3} (h : okG G) {x y : Int} (h0 : 0 ≤ x) (hxy : x ≤ y) : 4166 * (y - x) ≤ micG G y - micG G x ∧ micG G y - micG G x ≤ 166667 * (y - x) := by
  obtain ⟨t1, t2, _, t4⟩ := temps_ok h
  exact mics_step t1 t2 (fun t ht => by rw [t4 t ht]; exact h0) hxy
theorem micG_zero {G : List T3} (h : okG G) : micG G 0 = 0 := by
  obtain ⟨t1, t2, _, t4⟩ := temps_ok h
  unfold micG
  cases hh : tempsG G with
  | nil => exact absurd hh t2
  | cons t r =>
    rw [hh] at t1 t4
    have := t4 t rfl
    have e := mics_head t1
    rw [this] at e
    exact e
end Go.Proofs.Ytchjlkokfgmjaaa.Q
