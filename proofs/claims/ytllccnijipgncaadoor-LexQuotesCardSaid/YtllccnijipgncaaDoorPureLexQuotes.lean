/- LexQuotes: the plain law. No conditions. -/
import Derived.Test.YtllccnijipgncaaDoorKinds
import Derived.Test.YtllccnijipgncaaDoorLex8
import Derived.Test.YtllccnijipgncaaDoorQ16
namespace Go.Proofs.YtllccnijipgncaaDoor.Pure
open Go.RowKit Go.Proofs.YtllccnijipgncaaDoor.Q Go.Proofs.YtllccnijipgncaaDoorW.PrintWords Go.Proofs.YtllccnijipgncaaDoorW.PrintMore
theorem LexQuotes : ∀ (a0 : ByteArray), (a0.size ≤ 140737488351232) → ∃ k, partitalaw18_LexQuotes.f k a0 = some true := by
  intro a0 h0
  refine ⟨10000, ?_⟩
  obtain ⟨K, hK⟩ : ∃ K : Nat, K = 10000 := ⟨_, rfl⟩
  rw [← hK]
  unfold partitalaw18_LexQuotes.f
  rw [awake_ge K (by omega)]
  simp only [Option.bind_some]
  by_cases hz : (a0.size : Int) > 300
  · rw [if_pos hz]
  · rw [if_neg hz]
    unfold lex_Quote.f
    rw [if_pos (by omega), ref_quote a0 (by omega) K (by omega)]
    simp only [Option.bind_some, if_true, beq_self_eq_true]
end Go.Proofs.YtllccnijipgncaaDoor.Pure
