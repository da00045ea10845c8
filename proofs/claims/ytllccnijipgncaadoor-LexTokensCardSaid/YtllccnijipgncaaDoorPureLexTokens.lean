/- LexTokens: the plain law. No conditions. -/
import Derived.Test.YtllccnijipgncaaDoorKinds
import Derived.Test.YtllccnijipgncaaDoorLex9
import Derived.Test.YtllccnijipgncaaDoorQ12
namespace Go.Proofs.YtllccnijipgncaaDoor.Pure
open Go.RowKit Go.Proofs.YtllccnijipgncaaDoor.Q Go.Proofs.YtllccnijipgncaaDoorW.PrintWords Go.Proofs.YtllccnijipgncaaDoorW.PrintMore
theorem LexTokens : ∀ (a0 : ByteArray), (a0.size ≤ 140737488351232) → ∃ k, partitalaw18_LexTokens.f k a0 = some true := by
  intro a0 h0
  refine ⟨10000, ?_⟩
  obtain ⟨K, hK⟩ : ∃ K : Nat, K = 10000 := ⟨_, rfl⟩
  rw [← hK]
  unfold partitalaw18_LexTokens.f
  rw [awake_ge K (by omega)]
  simp only [Option.bind_some]
  by_cases hz : (a0.size : Int) > 300
  · rw [if_pos hz]
  · rw [if_neg hz, tokens_s a0 (by omega) K (by omega), ref_tokens a0 (by omega) K (by omega)]
    simp only [Option.bind_some, if_true]
    have hl : (resT [] (tkL a0.data.toList 0)).1.length ≤ 300 := by
      have hl := tk_len a0.data.toList 0
      rw [size_list] at hl
      unfold resT
      split
      · simp only [List.nil_append]; omega
      · simp
    rw [same_f _ (by omega) K (by omega)]
    simp only [Option.bind_some, if_true, beq_self_eq_true]
end Go.Proofs.YtllccnijipgncaaDoor.Pure
