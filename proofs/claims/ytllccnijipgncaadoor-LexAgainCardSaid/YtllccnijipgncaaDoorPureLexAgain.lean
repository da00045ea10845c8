/- LexAgain: the plain law. No conditions. -/
import Derived.Test.YtllccnijipgncaaDoorKinds
import Derived.Test.YtllccnijipgncaaDoorLex6
import Derived.Test.YtllccnijipgncaaDoorQ19
namespace Go.Proofs.YtllccnijipgncaaDoor.Pure
open Go.RowKit Go.Proofs.YtllccnijipgncaaDoor.Q Go.Proofs.YtllccnijipgncaaDoorW.PrintWords Go.Proofs.YtllccnijipgncaaDoorW.PrintMore
theorem LexAgain : ∀ (a0 : ByteArray), (a0.size ≤ 140737488351232) → ∃ k, partitalaw18_LexAgain.f k a0 = some true := by
  intro a0 h0
  refine ⟨2000000000, ?_⟩
  obtain ⟨K, hK⟩ : ∃ K : Nat, K = 2000000000 := ⟨_, rfl⟩
  rw [← hK]
  unfold partitalaw18_LexAgain.f
  rw [awake_ge K (by omega)]
  simp only [Option.bind_some]
  by_cases hz : (a0.size : Int) > 300
  · rw [if_pos hz]
  · rw [if_neg hz, tokens_s a0 (by omega) K (by omega)]
    simp only [Option.bind_some]
    have hr := tk_right a0.data.toList
    have hl := tk_len a0.data.toList 0
    rw [size_list] at hl hr
    cases hq : (tkL a0.data.toList 0).2 with
    | some p =>
      simp only [resT, hq]
      rw [if_neg (by decide), if_pos trivial]; rfl
    | none =>
      simp only [resT, hq, List.nil_append, if_true]
      generalize (tkL a0.data.toList 0).1 = l at hr hl
      have hn : l.length ≤ 300 := by omega
      have hs : ∀ x ∈ l, x.f1.size ≤ 1000000 := fun x hx => Nat.le_trans (hr.2 x hx) (by omega)
      have hlt := txt_le l 5 hs
      obtain ⟨m, hm, hbm⟩ := tk_txt l 5 0 hr.1
      have hlm := len_bare hbm
      have hms := bare_size hbm hs
      rw [print_f l (by omega) hs, if_pos hr.1]
      simp only [Option.bind_some]
      rw [tokens_f (txt 5 l) (by omega) K (by omega), hm]
      simp only [resT, List.nil_append, Option.bind_some]
      rw [print_f m (by omega) hms, if_pos (by rw [bare_all l m hbm]; exact hr.1), bare_txt l m 5 hbm]
      simp only [Option.bind_some, if_true]
      rw [bare_f m (by omega) K (by omega), bare_f l (by omega) K (by omega)]
      simp only [Option.bind_some]
      rw [hbm, same_f (bare l) (by unfold bare; rw [List.length_map]; omega) K (by unfold bare; rw [List.length_map]; omega)]
      simp
end Go.Proofs.YtllccnijipgncaaDoor.Pure
