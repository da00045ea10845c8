/- SystemsTells: the plain law. No conditions. -/
import Derived.Test.YtneaoicjbiebkaaDoorSP7
import Derived.Test.YtneaoicjbiebkaaDoorQ7
namespace Go.Proofs.YtneaoicjbiebkaaDoor.Pure
open Go.RowKit Go.Proofs.YtneaoicjbiebkaaDoor.Q Go.Proofs.YtneaoicjbiebkaaDoorW.PrintWords Go.Proofs.YtneaoicjbiebkaaDoorW.PrintMore
set_option linter.unusedVariables false
theorem SystemsTells : ∀ (a0 : Int) (a1 : Int) (a2 : Int) (l3 : List Int) (l4 : List Int) (a5 : Int), ((Lit.int .i64 a0).wf = true) → ((Lit.int .i64 a1).wf = true) → ((Lit.int .i64 a2).wf = true) → (l3.length * 8 ≤ 140737488351232 ∧ ∀ y ∈ l3, (Lit.int .i64 y).wf = true) → (l4.length * 8 ≤ 140737488351232 ∧ ∀ y ∈ l4, (Lit.int .i64 y).wf = true) → ((Lit.int .i64 a5).wf = true) → ∃ k, partitalaw25_SystemsTells.f k a0 a1 a2 l3 l4 a5 = some true := by
  intro a0 a1 a2 l3 l4 line h0 _ _ _ _ _
  refine ⟨60000, ?_⟩
  unfold partitalaw25_SystemsTells.f
  rw [shown_ok (by omega), Option.bind_some, few_if _ 101 (by omega), Option.bind_some, few_if _ 101 (by omega), Option.bind_some, Cost_f _ (by omega), Option.bind_some, refCost_f _ (by omega) _ _ _ h0, Option.bind_some]
  obtain ⟨ws, hws⟩ : ∃ ws, l3.take ((mn (l3.length : Int) 101) : Int).toNat = ws := ⟨_, rfl⟩
  obtain ⟨ss, hss⟩ : ∃ ss, l4.take ((mn (l4.length : Int) 101) : Int).toNat = ss := ⟨_, rfl⟩
  have hn : ws.length ≤ 101 := by rw [← hws]; exact few_len l3 101
  rw [hws, hss]
  show ((some (breakI ws ss line)).bind _) = _
  rw [Option.bind_some, refBreak_f ws ss line (by omega) (Nat.le_refl _), Option.bind_some, if_pos rfl, if_pos rfl, if_pos (by simp)]
  have hl : (breakI ws ss line).1.length ≤ 1000 := by
    by_cases c : chkI ws ss line = 0
    · rw [breakI_yes c]
      have := out_len (right_of c) ws.length 0
      dsimp only
      omega
    · rw [breakI_no c]; exact Nat.zero_le _
  rw [same_self _ (by omega) (by omega), Option.bind_some, if_pos rfl]
  simp
end Go.Proofs.YtneaoicjbiebkaaDoor.Pure
