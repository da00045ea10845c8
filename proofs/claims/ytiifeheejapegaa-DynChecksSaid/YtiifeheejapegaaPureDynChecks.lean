/- DynChecks: the plain law: whether dynamics are right, and which one isn't, is as the document says. No conditions. -/
import Derived.Test.YtiifeheejapegaaKinds
import Derived.Test.YtiifeheejapegaaQ8
import Derived.Test.YtiifeheejapegaaDP4
namespace Go.Proofs.Ytiifeheejapegaa.Pure
open Go.RowKit Go.Proofs.Ytiifeheejapegaa.Q Go.Proofs.YtiifeheejapegaaW.PrintWords Go.Proofs.YtiifeheejapegaaW.PrintMore
theorem DynChecks : ∀ (l0 : List (S36)), (l0.length * 32 ≤ 140737488351232 ∧ ∀ y ∈ l0, wf36 y) → ∃ k, partitalaw12_DynChecks.f k l0 = some true := by
  intro l hw
  refine ⟨3000, ?_⟩
  unfold partitalaw12_DynChecks.f
  rw [awake_f (by omega), Option.bind_some]
  by_cases hl : (l.length : Int) > 20
  · rw [if_pos hl]
  · rw [if_neg hl, dyn_Check_f l (by omega) (by omega), Option.bind_some, refCheck_f l (by omega) (in36_of hw.2) (by omega), Option.bind_some, if_pos rfl, if_pos rfl]
    simp
end Go.Proofs.Ytiifeheejapegaa.Pure
