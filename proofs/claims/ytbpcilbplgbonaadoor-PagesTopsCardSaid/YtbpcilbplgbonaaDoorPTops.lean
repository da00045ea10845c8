/- What the program's pages are: one behind the other, no line too high, each on its page. No conditions. -/
import Derived.Test.YtbpcilbplgbonaaDoorPP3
namespace Go.Proofs.YtbpcilbplgbonaaDoor.Pure
open Go.RowKit Go.Proofs.YtbpcilbplgbonaaDoor.Q Go.Proofs.YtbpcilbplgbonaaDoorW.PrintWords Go.Proofs.YtbpcilbplgbonaaDoorW.PrintMore
set_option linter.unusedVariables false
/-- A right page of lines, from one up to another. -/
structure PgO (hs : List Int) (page gap : Int) (a b : Nat) (x : S37) : Prop where
  f0 : x.f0 = (a : Int)
  f1 : x.f1 = (b : Int)
  ab : a < b
  bl : b ≤ hs.length
  len : x.f2.length = b - a
  top0 : rd x.f2 0 = 0
  rise : ∀ k : Nat, k + 1 < b - a → rd x.f2 (k : Int) + rd hs ((a + k : Nat) : Int) + gap ≤ rd x.f2 ((k + 1 : Nat) : Int)
  range : ∀ k : Nat, k < b - a → 0 ≤ rd x.f2 (k : Int) ∧ rd x.f2 (k : Int) ≤ 100000000
  fits : rd x.f2 ((b - a - 1 : Nat) : Int) + rd hs ((b - 1 : Nat) : Int) ≤ page
  full : b ≠ hs.length → 1 < b - a → rd x.f2 ((b - a - 1 : Nat) : Int) + rd hs ((b - 1 : Nat) : Int) = page
/-- Right pages, one behind the other, up to the last line. -/
def PgsO (hs : List Int) (page gap : Int) : Nat → List S37 → Prop
  | a, [] => a = hs.length
  | a, x :: r => ∃ b : Nat, PgO hs page gap a b x ∧ (r ≠ [] → b ≠ hs.length) ∧ PgsO hs page gap b r
theorem rd_tops (hs : List Int) (gap : Int) (a : Nat) (rest last : Int) (n k : Nat) (h : k < n) : rd (topsI hs gap a rest last n) (k : Int) = topI hs gap a rest last k := by
  rw [rd_get (by rw [topsI_len]; exact h)]
  unfold topsI
  rw [List.getElem_map, List.getElem_range]
theorem more_mono {R last : Int} (hR : 0 ≤ R) (k : Nat) : moreI R last k ≤ moreI R last (k + 1) := by
  unfold moreI
  split
  · rename_i h
    rw [Int.tdiv_eq_ediv_of_nonneg (Int.mul_nonneg hR (by omega)), Int.tdiv_eq_ediv_of_nonneg (Int.mul_nonneg hR (by omega))]
    refine Int.ediv_le_ediv h ?_
    rw [show ((k + 1 : Nat) : Int) = (k : Int) + 1 by omega, Int.mul_add]
    omega
  · exact Int.le_refl _
theorem more_end {R : Int} (hR : 0 ≤ R) (j : Nat) (hj : 0 < j) : moreI R (j : Int) j = R := by
  unfold moreI
  rw [if_pos (by omega), Int.mul_tdiv_cancel _ (by omega)]
theorem more_0 (R last : Int) : moreI R last 0 = 0 := by
  unfold moreI
  split
  · rw [show ((0 : Nat) : Int) = 0 from rfl, Int.mul_zero, Int.zero_tdiv]
  · rfl
theorem pg_ok {hs : List Int} {page gap : Int} (L : Lns hs page gap) {a j : Nat} (hj : j < mP hs page gap a) : PgO hs page gap a (a + j + 1) (pg hs page gap a (a + j + 1)) := by
  obtain ⟨h1, h2, h3, h4⟩ := rest_fit L hj
  have hlen := L.len
  obtain ⟨R, hR⟩ : ∃ R, lrest hs (a + j + 1) (restI hs page gap a (a + j + 1)) = R := ⟨_, rfl⟩
  have hR0 : 0 ≤ R ∧ R ≤ 100000 := by rw [← hR]; unfold lrest; split <;> omega
  have hpg : pg hs page gap a (a + j + 1) = ⟨(a : Int), ((a + j + 1 : Nat) : Int), topsI hs gap a R (j : Int) (j + 1)⟩ := by
    unfold pg
    rw [hR]
    congr 2
    · omega
    · omega
  have hn : a + j + 1 - a = j + 1 := by omega
  have hrd : ∀ k : Nat, k < j + 1 → rd (pg hs page gap a (a + j + 1)).f2 (k : Int) = topI hs gap a R (j : Int) k := by
    intro k hk; rw [hpg]; exact rd_tops hs gap a R j (j + 1) k hk
  have hend : topI hs gap a R (j : Int) j + rd hs ((a + j : Nat) : Int) = page - restI hs page gap a (a + j + 1) + moreI R (j : Int) j := by
    have hs1 := sumF_step (hs.map (· + gap)) a (a + j) (by omega) (by rw [List.length_map]; omega)
    rw [List.getElem_map] at hs1
    unfold topI
    rw [rd_get (show a + j < hs.length by omega)]
    unfold restI
    rw [hs1]
    omega
  have hmono : ∀ k : Nat, k ≤ j → 0 ≤ moreI R (j : Int) k ∧ moreI R (j : Int) k ≤ 100000 := by
    intro k hk
    have up : ∀ d : Nat, moreI R (j : Int) k ≤ moreI R (j : Int) (k + d) := by
      intro d
      induction d with
      | zero => exact Int.le_refl _
      | succ d ih => exact Int.le_trans ih (more_mono hR0.1 (k + d))
    have lo : ∀ d : Nat, 0 ≤ moreI R (j : Int) d := by
      intro d
      induction d with
      | zero => rw [more_0]; exact Int.le_refl _
      | succ d ih => exact Int.le_trans ih (more_mono hR0.1 d)
    refine ⟨lo k, ?_⟩
    rcases Nat.eq_zero_or_pos j with h0 | h0
    · have : k = 0 := by omega
      rw [this, more_0]; omega
    · have := up (j - k)
      rw [show k + (j - k) = j by omega, more_end hR0.1 j h0] at this
      omega
  refine ⟨by rw [hpg], by rw [hpg], by omega, h1, by rw [hpg]; show (topsI _ _ _ _ _ _).length = _; rw [topsI_len]; omega, ?_, ?_, ?_, ?_, ?_⟩
  · have := hrd 0 (by omega)
    rw [show (0 : Int) = ((0 : Nat) : Int) from rfl, this]
    unfold topI
    rw [Nat.add_zero, sumF_self, more_0]; rfl
  · intro k hk
    rw [hrd k (by omega), hrd (k + 1) (by omega), rd_get (show a + k < hs.length by omega)]
    have hs1 := sumF_step (hs.map (· + gap)) a (a + k) (by omega) (by rw [List.length_map]; omega)
    rw [List.getElem_map] at hs1
    have hm := more_mono (last := (j : Int)) hR0.1 k
    unfold topI
    rw [show a + (k + 1) = a + k + 1 from rfl, hs1]
    omega
  · intro k hk
    rw [hrd k (by omega)]
    have h5 := sumG_range L (a := a) k (by omega)
    have h6 := hmono k (by omega)
    unfold topI
    have : (k : Int) ≤ 100 := by omega
    omega
  · rw [show a + j + 1 - a - 1 = j by omega, show a + j + 1 - 1 = a + j by omega, hrd j (by omega), hend]
    rcases Nat.eq_zero_or_pos j with h0 | h0
    · subst h0
      rw [more_0]; omega
    · rw [more_end hR0.1 j h0, ← hR]; unfold lrest; split <;> omega
  · intro hb hj1
    rw [show a + j + 1 - a - 1 = j by omega, show a + j + 1 - 1 = a + j by omega, hrd j (by omega), hend, more_end hR0.1 j (by omega), ← hR]
    unfold lrest
    rw [if_neg hb]; omega
theorem out_ok {hs : List Int} {page gap : Int} (L : Lns hs page gap) (F : ∀ x ∈ hs, x ≤ page) : ∀ (d a : Nat), hs.length ≤ a + d → a ≤ hs.length → PgsO hs page gap a (outP hs gap (tabP hs page gap hs.length) d a)
  | 0, a, h1, h2 => by
    rw [out_end _ _ _ _ _ (by omega)]; show a = hs.length; omega
  | d + 1, a, h1, h2 => by
    by_cases h : a < hs.length
    · obtain ⟨j, hj, e, _⟩ := out_step L F (d := d) h
      have hf := (rest_fit L hj).1
      rw [e]
      refine ⟨a + j + 1, pg_ok L hj, fun hne hb => hne ?_, out_ok L F d (a + j + 1) (by omega) hf⟩
      exact out_end _ _ _ _ _ (by omega)
    · rw [out_end _ _ _ _ _ (by omega)]; show a = hs.length; omega
theorem break_ok {hs : List Int} {page gap : Int} (h : chkP hs page gap = none) : PgsO hs page gap 0 (breakP hs page gap).1 := by
  obtain ⟨L, F⟩ := fit_of h
  unfold breakP
  rw [h]
  exact out_ok L F hs.length 0 (by omega) (by omega)
end Go.Proofs.YtbpcilbplgbonaaDoor.Pure
