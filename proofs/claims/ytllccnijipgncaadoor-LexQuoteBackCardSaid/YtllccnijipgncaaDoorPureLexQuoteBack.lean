/- LexQuoteBack: the plain law. No conditions. -/
import Derived.Test.YtllccnijipgncaaDoorKinds
import Derived.Test.YtllccnijipgncaaDoorLex6
import Derived.Test.YtllccnijipgncaaDoorLex7
import Derived.Test.YtllccnijipgncaaDoorQ20
namespace Go.Proofs.YtllccnijipgncaaDoor.Pure
open Go.RowKit Go.Proofs.YtllccnijipgncaaDoor.Q Go.Proofs.YtllccnijipgncaaDoorW.PrintWords Go.Proofs.YtllccnijipgncaaDoorW.PrintMore
theorem LexQuoteBack : ∀ (a0 : ByteArray), (a0.size ≤ 140737488351232) → ∃ k, partitalaw18_LexQuoteBack.f k a0 = some true := by
  intro a0 h0
  refine ⟨10000, ?_⟩
  obtain ⟨K, hK⟩ : ∃ K : Nat, K = 10000 := ⟨_, rfl⟩
  rw [← hK]
  unfold partitalaw18_LexQuoteBack.f
  rw [awake_ge K (by omega)]
  simp only [Option.bind_some]
  by_cases hz : (a0.size : Int) > 300
  · rw [if_pos hz]
  · rw [if_neg hz]
    unfold lex_Quote.f
    rw [if_pos (by omega)]
    simp only [Option.bind_some]
    have hql := quoL_le a0.data.toList
    rw [size_list] at hql
    cases hi : insB a0 with
    | true =>
      rw [if_pos rfl]
      rw [tokens_f (quoL a0.data.toList) (by omega) K (by omega)]
      have hins : insL a0.data.toList = true := hi
      have ht := tk_app 3 a0.data.toList [] 0 (by unfold rgtL; rw [if_neg (by decide), if_neg (by decide), if_pos rfl]; exact hins) (by omega)
      rw [List.append_nil, bod_3 _ hins, tkL_nil] at ht
      rw [ht]
      simp only [resT, List.nil_append, Option.bind_some, if_true, List.length_singleton]
      rw [toList_data]
      simp [rd_T35]
      rw [toList_data]
    | false =>
      rw [if_neg (show ¬ (false = true) by simp)]
      have ht := tokens_f [] (by simp) K (by simp; omega)
      rw [tkL_nil] at ht
      simp only []
      rw [show (⟨#[]⟩ : ByteArray) = ⟨([] : List UInt8).toArray⟩ from rfl, ht]
      simp only [resT, Option.bind_some]
      rw [if_neg (by decide), if_pos trivial, toList_data, if_pos rfl, if_pos (by rfl), inside_f a0 (by omega) K (by omega), hi]
      rfl
end Go.Proofs.YtllccnijipgncaaDoor.Pure
