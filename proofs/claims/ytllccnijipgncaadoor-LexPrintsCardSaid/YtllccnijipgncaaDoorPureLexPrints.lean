/- LexPrints: the plain law. No conditions. -/
import Derived.Test.YtllccnijipgncaaDoorKinds
import Derived.Test.YtllccnijipgncaaDoorLex8
import Derived.Test.YtllccnijipgncaaDoorQ15
namespace Go.Proofs.YtllccnijipgncaaDoor.Pure
open Go.RowKit Go.Proofs.YtllccnijipgncaaDoor.Q Go.Proofs.YtllccnijipgncaaDoorW.PrintWords Go.Proofs.YtllccnijipgncaaDoorW.PrintMore
theorem LexPrints : ∀ (l0 : List (S35)), (l0.length * 32 ≤ 140737488351232 ∧ ∀ y ∈ l0, wf35 y) → ∃ k, partitalaw18_LexPrints.f k l0 = some true := by
  intro l0 h0
  refine ⟨10000000, ?_⟩
  obtain ⟨K, hK⟩ : ∃ K : Nat, K = 10000000 := ⟨_, rfl⟩
  rw [← hK]
  unfold partitalaw18_LexPrints.f
  rw [awake_ge K (by omega)]
  simp only [Option.bind_some]
  obtain ⟨b, hb, hfew⟩ := few_f l0 (by omega) K (by omega)
  rw [hb]
  simp only [Option.bind_some]
  by_cases hbt : b = true
  · obtain ⟨hn, hz⟩ := hfew hbt
    have hs : ∀ x ∈ l0, x.f1.size ≤ 1000000 := fun x hx => Nat.le_trans (hz x hx) (by omega)
    rw [if_pos hbt, print_f l0 (by omega) hs, ref_print l0 (by omega) hs K (by omega)]
    by_cases hr : l0.all rgtX = true
    · rw [if_pos hr]; simp only [Option.bind_some, if_true, beq_self_eq_true]
    · rw [if_neg hr]; simp only [Option.bind_some, if_true, beq_self_eq_true]
  · rw [if_neg hbt]
end Go.Proofs.YtllccnijipgncaaDoor.Pure
