/- DynVelocities: the plain law: how loud a note with any marks is, by any dynamics, at any place, is as the document says. No conditions. -/
import Derived.Test.YtiifeheejapegaaDP9
import Derived.Test.YtiifeheejapegaaQ11
namespace Go.Proofs.Ytiifeheejapegaa.Pure
open Go.RowKit Go.Proofs.Ytiifeheejapegaa.Q Go.Proofs.YtiifeheejapegaaW.PrintWords Go.Proofs.YtiifeheejapegaaW.PrintMore
theorem DynVelocities : ∀ (l0 : List (S36)) (x1 : S29) (l2 : List Int), (l0.length * 32 ≤ 140737488351232 ∧ ∀ y ∈ l0, wf36 y) → (wf29 x1) → (l2.length * 8 ≤ 140737488351232 ∧ ∀ y ∈ l2, (Lit.int .i64 y).wf = true) → ∃ k, partitalaw12_DynVelocities.f k l0 x1.f0 x1.f1 l2 = some true := by
  intro l x ms hw hx hms
  refine ⟨5000, ?_⟩
  unfold partitalaw12_DynVelocities.f
  rw [awake_f (by omega), Option.bind_some]
  by_cases hl : (l.length : Int) > 20
  · rw [if_pos hl]; simp [partitalaw12_DynVelocities.j0]
  · rw [if_neg hl]
    by_cases hm : (ms.length : Int) > 20
    · rw [decide_eq_true hm]; simp [partitalaw12_DynVelocities.j0]
    · rw [decide_eq_false hm]
      obtain ⟨⟨n, e⟩, hr, h1, h2⟩ := level_f (l := l) (by omega) (in36_of hw.2) (i64_of hx.1) (i64_of hx.2)
      have hb := levelIs_bd (in36_of hw.2) hr
      simp only [partitalaw12_DynVelocities.j0]
      rw [if_neg (by decide), dynVel_f (k := 4999) (by omega) (by omega) (by simp at hb; omega) (h1 4999 (by omega)), refVel_f (k := 4999) (by omega) (by omega) (by simp at hb; omega) (h2 4999 (by omega))]
      simp
end Go.Proofs.Ytiifeheejapegaa.Pure
