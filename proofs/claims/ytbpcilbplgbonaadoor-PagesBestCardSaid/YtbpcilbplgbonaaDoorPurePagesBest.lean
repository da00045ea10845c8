/- PagesBest: the plain law: the best pages cost what Cost tells, and no others cost less. No conditions. -/
import Derived.Test.YtbpcilbplgbonaaDoorKinds
import Derived.Test.YtbpcilbplgbonaaDoorQ10
import Derived.Test.YtbpcilbplgbonaaDoorPP2
namespace Go.Proofs.YtbpcilbplgbonaaDoor.Pure
open Go.RowKit Go.Proofs.YtbpcilbplgbonaaDoor.Q Go.Proofs.YtbpcilbplgbonaaDoorW.PrintWords Go.Proofs.YtbpcilbplgbonaaDoorW.PrintMore
set_option linter.unusedVariables false
theorem laid_ex (n : Int) (ends : List Int) : ∀ (d i : Nat) (acc : List S37) (fr : Int) (k : Nat), i + d = 100 → acc.length ≤ i → d + 1 ≤ k → ∃ l, partitalaw26_laid.l0 k n ends acc fr i = some l ∧ l.length ≤ 101
  | d, i, acc, fr, 0, h, ha, hk => absurd hk (by omega)
  | 0, i, acc, fr, k + 1, h, ha, hk => by
    simp only [partitalaw26_laid.l0]
    rw [if_neg (show ¬ ((i : Int) < 100) by omega), if_pos (show acc.length < 3518437208883 by omega)]
    exact ⟨_, by split <;> rfl, by simp; omega⟩
  | d + 1, i, acc, fr, k + 1, h, ha, hk => by
    simp only [partitalaw26_laid.l0]
    by_cases c : (i : Int) < (ends.length : Int)
    · rw [if_pos c, if_pos (by omega), if_pos (by omega), if_pos (by omega), show wrap64 ((i : Int) + 1) = ((i + 1 : Nat) : Int) by unfold wrap64; omega]
      exact laid_ex n ends d (i + 1) _ _ k (by omega) (by simp; omega) (by omega)
    · rw [if_neg c, if_pos (by omega)]
      exact ⟨_, rfl, by simp; omega⟩
theorem few_len (l : List Int) : 0 ≤ mn (l.length : Int) 101 ∧ mn (l.length : Int) 101 ≤ (l.length : Int) ∧ (l.take (mn (l.length : Int) 101).toNat).length ≤ 101 := by
  have h : 0 ≤ mn (l.length : Int) 101 ∧ mn (l.length : Int) 101 ≤ (l.length : Int) ∧ mn (l.length : Int) 101 ≤ 101 := by unfold mn; split <;> omega
  exact ⟨h.1, h.2.1, by rw [List.length_take]; omega⟩
theorem PagesBest : ∀ (l0 : List Int) (a1 : Int) (a2 : Int) (l3 : List Int), (l0.length * 8 ≤ 140737488351232 ∧ ∀ y ∈ l0, (Lit.int .i64 y).wf = true) → ((Lit.int .i64 a1).wf = true) → ((Lit.int .i64 a2).wf = true) → (l3.length * 8 ≤ 140737488351232 ∧ ∀ y ∈ l3, (Lit.int .i64 y).wf = true) → ∃ k, partitalaw26_PagesBest.f k l0 a1 a2 l3 = some true := by
  intro l0 page gap ends _ _ _ _
  refine ⟨1000, ?_⟩
  unfold partitalaw26_PagesBest.f
  obtain ⟨f1, f2, f3⟩ := few_len l0
  rw [shown_ok (by omega), Option.bind_some, if_pos f1, if_pos f2, Option.bind_some]
  obtain ⟨hs, hhs⟩ : ∃ hs, l0.take (mn (l0.length : Int) 101).toNat = hs := ⟨_, rfl⟩
  rw [hhs] at f3 ⊢
  obtain ⟨m, hm1, hm2⟩ := laid_ex (hs.length : Int) ends 100 0 [] 0 1000 (by omega) (by simp) (by omega)
  have hlaid : partitalaw26_laid.f 1000 (hs.length : Int) ends = some m := hm1
  unfold pages_Break.f breakP
  rcases hc : chkP hs page gap with _ | c
  · obtain ⟨L, F⟩ := fit_of hc
    obtain ⟨e1, e2⟩ := costL_out L F hs.length 0 (by omega) (by omega)
    have hlen := L.len
    have hcf : costF (outP hs gap (tabP hs page gap hs.length) hs.length 0) hs page gap = (totP hs page gap 0, true) := by
      unfold costF; rw [hc, if_neg (by simp), e1]; simp [outC]
    simp only [Option.bind_some]
    rw [Cost_f _ (by omega) hs page gap 1000 (by omega), Option.bind_some, hlaid, Option.bind_some, Cost_f m (by omega) hs page gap 1000 (by omega), Option.bind_some, if_pos trivial, if_pos trivial, hcf, if_pos rfl]
    have hcm : costF m hs page gap = outC 0 (costL hs page gap 0 m) := by unfold costF; rw [hc, if_neg (by simp)]
    rw [hcm]
    rcases hx : costL hs page gap 0 m with _ | x
    · rfl
    · have := costL_ge L F m 0 x (Nat.zero_le _) hx
      simp [outC]; omega
  · simp only [Option.bind_some]
    rw [Cost_f [] (by simp) hs page gap 1000 (by simp), Option.bind_some, hlaid, Option.bind_some, Cost_f m (by omega) hs page gap 1000 (by omega), Option.bind_some]
    have hc2 := chkP_some hc
    rw [if_neg (by omega), if_pos trivial, if_pos (by rfl)]
    unfold costF
    rw [hc]
    rcases hc2 with rfl | rfl
    · rw [if_pos rfl]; rfl
    · rw [if_neg (by simp)]
      rcases hx : costL hs page gap 0 m with _ | x
      · rfl
      · obtain ⟨y, hy, hn⟩ := chk_260 hc
        obtain ⟨i, hi, rfl⟩ := List.getElem_of_mem hy
        exact absurd (costL_fit (lns_of (by rw [hc]; simp)) m 0 x (Nat.zero_le _) hx i hi (Nat.zero_le _)) hn
end Go.Proofs.YtbpcilbplgbonaaDoor.Pure
