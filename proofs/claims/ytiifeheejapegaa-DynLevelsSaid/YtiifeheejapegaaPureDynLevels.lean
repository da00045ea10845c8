/- DynLevels: the plain law: how loud it is by any dynamics, at any place, is as the document says. No conditions. -/
import Derived.Test.YtiifeheejapegaaDP8
namespace Go.Proofs.Ytiifeheejapegaa.Pure
open Go.RowKit Go.Proofs.Ytiifeheejapegaa.Q Go.Proofs.YtiifeheejapegaaW.PrintWords Go.Proofs.YtiifeheejapegaaW.PrintMore
theorem DynLevels : ∀ (l0 : List (S36)) (x1 : S29), (l0.length * 32 ≤ 140737488351232 ∧ ∀ y ∈ l0, wf36 y) → (wf29 x1) → ∃ k, partitalaw12_DynLevels.f k l0 x1.f0 x1.f1 = some true := by
  intro l x hw hx
  refine ⟨4000, ?_⟩
  unfold partitalaw12_DynLevels.f
  rw [awake_f (by omega), Option.bind_some]
  by_cases hl : (l.length : Int) > 20
  · rw [if_pos hl]
  · obtain ⟨r, _, h1, h2⟩ := level_f (l := l) (by omega) (in36_of hw.2) (i64_of hx.1) (i64_of hx.2)
    rw [if_neg hl, h1 4000 (by omega), h2 4000 (by omega)]
    simp
end Go.Proofs.Ytiifeheejapegaa.Pure
