/- SystemsCosts: the plain law. No conditions. -/
import Derived.Test.YtneaoicjbiebkaaDoorSP1
import Derived.Test.YtneaoicjbiebkaaDoorQ14
namespace Go.Proofs.YtneaoicjbiebkaaDoor.Pure
open Go.RowKit Go.Proofs.YtneaoicjbiebkaaDoor.Q Go.Proofs.YtneaoicjbiebkaaDoorW.PrintWords Go.Proofs.YtneaoicjbiebkaaDoorW.PrintMore
theorem SystemsCosts : ∀ (a0 : Int) (a1 : Int) (a2 : Int), ((Lit.int .i64 a0).wf = true) → ((Lit.int .i64 a1).wf = true) → ((Lit.int .i64 a2).wf = true) → ∃ k, partitalaw25_SystemsCosts.f k a0 a1 a2 = some true := by
  intro w s l hw hs hl
  refine ⟨10, ?_⟩
  unfold partitalaw25_SystemsCosts.f
  rw [shown_ok (Nat.le_refl _), Option.bind_some, Cost_f 10 (by omega), Option.bind_some]
  cases h : (costI w s l).2 with
  | false =>
    rw [if_neg (by simp), if_pos rfl, costI_no h]; rfl
  | true =>
    rw [if_pos rfl, Cost_f 10 (by omega), Option.bind_some, Cost_f 10 (by omega), Option.bind_some, Cost_f 10 (by omega), Option.bind_some, if_pos rfl]
    obtain ⟨c, e⟩ := costI_ok h
    have e1 : wrap64 (l + 1) = l + 1 := wrap64_id_ (by omega)
    have e2 : wrap64 (s - 1) = s - 1 := wrap64_id_ (by omega)
    have r := costI_range w s l
    rw [if_pos (by omega), if_pos (by omega), e1, e2]
    have z : costI l s l = (0, true) := by unfold costI; rw [if_pos (by omega), Int.sub_self, badI_zero]
    rw [z]
    have a1 : (costI w s (l + 1)).2 = true → (costI w s (l + 1)).1 ≥ (costI w s l).1 := by
      intro h1
      obtain ⟨c1, e1⟩ := costI_ok h1
      rw [e, e1]
      exact badI_gap (by omega) (by omega) (by omega)
    have a2 : (costI w (s - 1) l).2 = true → (costI w (s - 1) l).1 ≥ (costI w s l).1 := by
      intro h1
      obtain ⟨c1, e1⟩ := costI_ok h1
      rw [e, e1]
      exact badI_stretch (by omega) (by omega) (by omega)
    simp only [if_true]
    by_cases c1 : (costI w s (l + 1)).2 = true
    · rw [if_pos c1, if_pos (a1 c1)]
      by_cases c2 : (costI w (s - 1) l).2 = true
      · rw [if_pos c2, if_pos (a2 c2)]; rfl
      · rw [if_neg c2]; rfl
    · rw [if_neg c1]
      by_cases c2 : (costI w (s - 1) l).2 = true
      · rw [if_pos c2, if_pos (a2 c2)]; rfl
      · rw [if_neg c2]; rfl
end Go.Proofs.YtneaoicjbiebkaaDoor.Pure
