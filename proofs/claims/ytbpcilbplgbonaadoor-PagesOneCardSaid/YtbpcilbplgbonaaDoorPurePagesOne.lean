/- PagesOne: the plain law: lines that fit one page are on one, each right behind the one ahead, and a gap. No conditions. -/
import Derived.Test.YtbpcilbplgbonaaDoorKinds
import Derived.Test.YtbpcilbplgbonaaDoorQ13
import Derived.Test.YtbpcilbplgbonaaDoorPP3
namespace Go.Proofs.YtbpcilbplgbonaaDoor.Pure
open Go.RowKit Go.Proofs.YtbpcilbplgbonaaDoor.Q Go.Proofs.YtbpcilbplgbonaaDoorW.PrintWords Go.Proofs.YtbpcilbplgbonaaDoorW.PrintMore
set_option linter.unusedVariables false
theorem fewO (l : List Int) : 0 ≤ mn (l.length : Int) 101 ∧ mn (l.length : Int) 101 ≤ (l.length : Int) ∧ (l.take (mn (l.length : Int) 101).toNat).length ≤ 101 := by
  have h : 0 ≤ mn (l.length : Int) 101 ∧ mn (l.length : Int) 101 ≤ (l.length : Int) ∧ mn (l.length : Int) 101 ≤ 101 := by unfold mn; split <;> omega
  exact ⟨h.1, h.2.1, by rw [List.length_take]; omega⟩
def ones (hs : List Int) (gap : Int) (n : Nat) : List Int := (List.range n).map fun i => sumF (hs.map (· + gap)) 0 i
/-- Lines that fit one page are on one. -/
theorem out_one {hs : List Int} {page gap : Int} (L : Lns hs page gap) (F : ∀ x ∈ hs, x ≤ page) (h1 : 1 ≤ hs.length) (hfit : sumF (hs.map (· + gap)) 0 hs.length - gap ≤ page) : outP hs gap (tabP hs page gap hs.length) hs.length 0 = [⟨0, (hs.length : Int), ones hs gap hs.length⟩] := by
  obtain ⟨d, hd⟩ : ∃ d, hs.length = d + 1 := ⟨hs.length - 1, by omega⟩
  obtain ⟨j, hj, e, ht, hm⟩ := out_step L F (d := d) (a := 0) (by omega)
  have hlast : d < mP hs page gap 0 := by
    refine (fit_lt L (by omega)).2 ?_
    unfold restI
    rw [show 0 + d + 1 = hs.length by omega]
    omega
  have hv0 : val hs page gap 0 d = 0 := by
    unfold val cst
    rw [if_pos (by omega), show 0 + d + 1 = hs.length by omega, totP_end _ _ _ h1]; rfl
  have hnn : 0 ≤ val hs page gap 0 j := by
    have h2 := cst_range L hj
    have h3 := totP_range L F (a := 0 + j + 1) (rest_fit L hj).1
    unfold val; omega
  have hjd : j = d := by
    have hf := rest_fit L hj
    rcases Nat.lt_trichotomy j d with c | c | c
    · have := (hm d hlast).2 c; omega
    · exact c
    · omega
  subst hjd
  rw [hd] at e ⊢
  rw [← hd] at e
  rw [← hd, e, out_end _ _ _ _ _ (by omega)]
  unfold pg
  congr 1
  have hl : lrest hs (0 + j + 1) (restI hs page gap 0 (0 + j + 1)) = 0 := by unfold lrest; rw [if_pos (by omega)]
  rw [hl]
  have ht : topsI hs gap 0 0 (((0 + j + 1 : Nat) : Int) - (0 : Nat) - 1) (0 + j + 1 - 0) = ones hs gap hs.length := by
    unfold topsI ones
    rw [show 0 + j + 1 - 0 = hs.length by omega]
    apply List.map_congr_left
    intro i _
    unfold topI moreI
    rw [Int.zero_mul, Int.zero_tdiv, Nat.zero_add]
    split <;> omega
  rw [ht]
  congr 1
  omega
theorem One_l0 {hs : List Int} {page gap : Int} (L : Lns hs page gap) (l : List S37) (K : Nat) (h : ∀ k, K ≤ k → partitalaw26_PagesOne.l0 (k + 1) hs page gap true l (ones hs gap hs.length) (sumF (hs.map (· + gap)) 0 hs.length) (hs.length : Int) = some true) :
    ∀ (d i k : Nat), hs.length = i + d → K + d + 1 ≤ k → partitalaw26_PagesOne.l0 k hs page gap true l (ones hs gap i) (sumF (hs.map (· + gap)) 0 i) i = some true := by
  have hlen := L.len
  intro d
  induction d with
  | zero =>
    intro i k e hk
    obtain ⟨k, rfl⟩ : ∃ k', k = k' + 1 := ⟨k - 1, by omega⟩
    obtain rfl : i = hs.length := by omega
    exact h k (by omega)
  | succ d ih =>
    intro i k e hk
    obtain ⟨k, rfl⟩ : ∃ k', k = k' + 1 := ⟨k - 1, by omega⟩
    have hi : i < hs.length := by omega
    have hx := L.h _ (List.getElem_mem hi)
    have hg1 := L.gap1
    have hg2 := L.gap2
    have hs0 := sumG_range L (a := 0) i (by omega)
    rw [Nat.zero_add] at hs0
    have hst := sumF_step (hs.map (· + gap)) 0 i (Nat.zero_le _) (by rw [List.length_map]; exact hi)
    rw [List.getElem_map] at hst
    simp only [partitalaw26_PagesOne.l0]
    rw [if_pos (by omega), if_pos (by simp [ones]; omega), if_pos (by omega), rd_get hi, w64 (n := sumF (hs.map (· + gap)) 0 i + hs[i]) (by omega), w64 (by omega), show wrap64 ((i : Int) + 1) = ((i + 1 : Nat) : Int) by unfold wrap64; omega]
    have e1 : ones hs gap (i + 1) = ones hs gap i ++ [sumF (hs.map (· + gap)) 0 i] := by unfold ones; rw [List.range_succ, List.map_append]; rfl
    have := ih (i + 1) k (by omega) (by omega)
    rw [e1, hst, ← Int.add_assoc] at this
    exact this
theorem PagesOne : ∀ (l0 : List Int) (a1 : Int) (a2 : Int), (l0.length * 8 ≤ 140737488351232 ∧ ∀ y ∈ l0, (Lit.int .i64 y).wf = true) → ((Lit.int .i64 a1).wf = true) → ((Lit.int .i64 a2).wf = true) → ∃ k, partitalaw26_PagesOne.f k l0 a1 a2 = some true := by
  intro l0 page gap _ _ _
  refine ⟨400000, ?_⟩
  unfold partitalaw26_PagesOne.f
  obtain ⟨f1, f2, f3⟩ := fewO l0
  rw [shown_ok (by omega), Option.bind_some, if_pos f1, if_pos f2, Option.bind_some]
  obtain ⟨hs, hhs⟩ : ∃ hs, l0.take (mn (l0.length : Int) 101).toNat = hs := ⟨_, rfl⟩
  rw [hhs] at f3 ⊢
  obtain ⟨K, hK⟩ : ∃ K : Nat, 400000 = K + 1 := ⟨399999, rfl⟩
  rw [hK]
  unfold pages_Break.f breakP
  rcases hc : chkP hs page gap with _ | c
  · obtain ⟨L, F⟩ := fit_of hc
    have hlen := L.len
    simp only [Option.bind_some]
    rw [if_pos trivial]
    simp only [partitalaw26_PagesOne.j0]
    by_cases c0 : hs.length = 0
    · rw [if_pos (by simp [c0]), if_pos trivial]
      have : hs = [] := List.length_eq_zero_iff.1 c0
      subst this; rfl
    · rw [if_neg (by simp; intro h; exact c0 (by rw [h]; rfl))]
      have key := One_l0 L (outP hs gap (tabP hs page gap hs.length) hs.length 0) 300000 ?_ hs.length 0 K (by omega) (by omega)
      · have e0 : sumF (hs.map (· + gap)) 0 0 = 0 := sumF_self _ _
        rw [e0] at key
        exact key
      intro k hk
      simp only [partitalaw26_PagesOne.l0]
      have hs0 := sumG_range L (a := 0) hs.length (by omega)
      rw [Nat.zero_add] at hs0
      have hg1 := L.gap1
      have hg2 := L.gap2
      rw [if_neg (by omega), if_pos trivial, w64 (by omega)]
      by_cases c1 : sumF (hs.map (· + gap)) 0 hs.length - gap > page
      · rw [if_pos c1]
      · rw [if_neg c1, out_one L F (by omega) (by omega), Same_refl _ (by simp) (by intro x hx; rw [List.mem_singleton.1 hx]; simp [ones]; omega) k hk]
        rfl
  · have hc2 := chkP_some hc
    simp only [Option.bind_some]
    rw [if_neg (by omega)]
    simp only [partitalaw26_PagesOne.j0]
    rw [if_pos trivial, if_pos trivial]
    rfl
end Go.Proofs.YtbpcilbplgbonaaDoor.Pure
