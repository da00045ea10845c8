/- LexBack: the plain law. No conditions. -/
import Derived.Test.YtllccnijipgncaaDoorKinds
import Derived.Test.YtllccnijipgncaaDoorLex4
import Derived.Test.YtllccnijipgncaaDoorQ18
namespace Go.Proofs.YtllccnijipgncaaDoor.Pure
open Go.RowKit Go.Proofs.YtllccnijipgncaaDoor.Q Go.Proofs.YtllccnijipgncaaDoorW.PrintWords Go.Proofs.YtllccnijipgncaaDoorW.PrintMore
theorem txt_le (l : List S35) : ∀ (p : Int), (∀ x ∈ l, x.f1.size ≤ 1000000) → (txt p l).length ≤ l.length * 2000003 := by
  induction l with
  | nil => intro p _; simp [txt]
  | cons x r ih =>
    intro p h
    have h1 := sep_le p x.f0
    have h2 := bod_le x.f0 x.f1 (h x List.mem_cons_self)
    have h3 := ih x.f0 (fun y hy => h y (List.mem_cons_of_mem _ hy))
    unfold txt
    simp only [List.length_append, List.length_cons]
    omega
theorem LexBack : ∀ (l0 : List (S35)), (l0.length * 32 ≤ 140737488351232 ∧ ∀ y ∈ l0, wf35 y) → ∃ k, partitalaw18_LexBack.f k l0 = some true := by
  intro l0 h0
  refine ⟨200000000, ?_⟩
  obtain ⟨K, hK⟩ : ∃ K : Nat, K = 200000000 := ⟨_, rfl⟩
  rw [← hK]
  unfold partitalaw18_LexBack.f
  rw [awake_ge K (by omega)]
  simp only [Option.bind_some]
  obtain ⟨b, hb, hfew⟩ := few_f l0 (by omega) K (by omega)
  rw [hb]
  simp only [Option.bind_some]
  by_cases hbt : b = true
  · obtain ⟨hn, hz⟩ := hfew hbt
    rw [if_pos hbt, print_f l0 (by omega) (fun x hx => Nat.le_trans (hz x hx) (by omega))]
    by_cases hr : l0.all rgtX = true
    · rw [if_pos hr]
      simp only [Option.bind_some]
      have hl := txt_le l0 5 (fun x hx => Nat.le_trans (hz x hx) (by omega))
      rw [tokens_f (txt 5 l0) (by omega) K (by omega)]
      obtain ⟨m, hm, hbm⟩ := tk_txt l0 5 0 hr
      have hlm := len_bare hbm
      rw [hm]
      simp only [resT, List.nil_append, Option.bind_some, if_true]
      rw [bare_f m (by omega) K (by omega), bare_f l0 (by omega) K (by omega)]
      simp only [Option.bind_some]
      rw [hbm, same_f (bare l0) (by unfold bare; rw [List.length_map]; omega) K (by unfold bare; rw [List.length_map]; omega)]
      rfl
    · rw [if_neg hr]
      simp only [Option.bind_some]
      have ht := tokens_f [] (by simp) K (by simp; omega)
      rw [tkL_nil] at ht
      rw [show (⟨#[]⟩ : ByteArray) = ⟨([] : List UInt8).toArray⟩ from rfl, ht]
      simp only [resT, Option.bind_some]
      rw [if_neg (by decide), if_pos trivial, toList_data]
      rfl
  · rw [if_neg hbt]
end Go.Proofs.YtllccnijipgncaaDoor.Pure
