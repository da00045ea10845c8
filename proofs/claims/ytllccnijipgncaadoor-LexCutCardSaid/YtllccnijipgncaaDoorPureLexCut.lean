/- LexCut: the plain law. No conditions. -/
import Derived.Test.YtllccnijipgncaaDoorKinds
import Derived.Test.YtllccnijipgncaaDoorLex6
import Derived.Test.YtllccnijipgncaaDoorQ23
namespace Go.Proofs.YtllccnijipgncaaDoor.Pure
open Go.RowKit Go.Proofs.YtllccnijipgncaaDoor.Q Go.Proofs.YtllccnijipgncaaDoorW.PrintWords Go.Proofs.YtllccnijipgncaaDoorW.PrintMore
theorem LexCut : ∀ (a0 : ByteArray), (a0.size ≤ 140737488351232) → ∃ k, partitalaw18_LexCut.f k a0 = some true := by
  intro a0 h0
  refine ⟨1000 + 1, ?_⟩
  unfold partitalaw18_LexCut.f
  rw [awake_ge (1000 + 1) (by omega)]
  simp only [Option.bind_some]
  by_cases hz : (a0.size : Int) > 300
  · rw [if_pos hz]
  · rw [if_neg hz, tokens_s a0 (by omega) (1000 + 1) (by omega)]
    simp only [Option.bind_some]
    obtain ⟨⟨l, q⟩, hq⟩ : ∃ x, tkL a0.data.toList 0 = x := ⟨_, rfl⟩
    rw [hq]
    cases q with
    | none =>
      simp only [resT, if_true]
      rfl
    | some p =>
      obtain ⟨h1, h2, h3, h4⟩ := tk_cut a0.data.toList 0 l p hq
      rw [size_list] at h2
      show (if (180 : Int) = 0 then _ else if (p : Int) < 0 then _ else partitalaw18_LexCut.j0 (1000 + 1) a0 true (p : Int) (decide ((p : Int) ≥ (a0.size : Int)))) = _
      rw [if_neg (by decide), if_neg (by omega), decide_eq_false (by omega)]
      simp only [partitalaw18_LexCut.j0]
      rw [if_neg (by simp), if_pos (by omega), if_pos (by omega), Int.toNat_natCast]
      have e1 : a0.extract 0 p = ⟨(a0.data.toList.take p).toArray⟩ := by
        have := ext_eq a0 0 p
        rwa [Nat.zero_add, List.drop_zero] at this
      have e2 : a0.extract p a0.size = ⟨(a0.data.toList.drop p).toArray⟩ := by
        have := ext_eq a0 p (a0.size - p)
        rwa [show p + (a0.size - p) = a0.size by omega, List.take_of_length_le (by rw [List.length_drop, size_list]; omega)] at this
      rw [e1, e2, tokens_f _ (by rw [List.length_take, size_list]; omega) 1000 (by rw [List.length_take, size_list]; omega), tokens_f _ (by rw [List.length_drop, size_list]; omega) 1000 (by rw [List.length_drop, size_list]; omega)]
      rw [Nat.sub_zero] at h3 h4
      rw [h3, h4 0]
      rfl
end Go.Proofs.YtllccnijipgncaaDoor.Pure
