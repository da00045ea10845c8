/- How loud it is at a place: all cases. No conditions. -/
import Derived.Test.YtiifeheejapegaaDP7
namespace Go.Proofs.Ytiifeheejapegaa.Q
open Go.RowKit Go.Proofs.YtiifeheejapegaaW.PrintWords Go.Proofs.YtiifeheejapegaaW.PrintMore
theorem all_in {l : List S36} (h : In36 l) : l.all in36B = true := by
  rw [List.all_eq_true]; intro d hd
  have := h d hd
  unfold in36B; rw [i64B_iff.2 this.1, i64B_iff.2 this.2.1, i64B_iff.2 this.2.2]; rfl
/-- What Level answers. -/
inductive LevelIs (l : List S36) (a b : Int) : Int × Int → Prop where
  | bad : ¬ Good l → (checkI l).2 = 120 → LevelIs l a b (0, 120)
  | arg : Good l → ¬ (Rt a b ∧ 0 ≤ a) → LevelIs l a b (0, 2)
  | ok (m : Nat) : Good l → Rt a b → 0 ≤ a → Cut l a b m → LevelIs l a b (levelV l a b m, 0)
theorem level_f {l : List S36} {a b : Int} (hl : l.length ≤ 1000) (hin : In36 l) (ha : i64 a) (hb : i64 b) :
    ∃ r, LevelIs l a b r ∧ (∀ k, 3000 < k → dyn_Level.f k l a b = some r) ∧ (∀ k, 3000 < k → partitaref12_Level.f k l a b = some r) := by
  by_cases hg : Good l
  · have h0 := check_ok.2 hg
    by_cases hp : rightB a b = true ∧ 0 ≤ a
    · have hr := (rightB_iff ha hb).1 hp.1
      obtain ⟨m, hm⟩ := cut_ex hin hg hr
      refine ⟨_, .ok m hg hr hp.2 hm, fun k hk => ?_, fun k hk => ?_⟩
      · unfold dyn_Level.f
        rw [if_pos hl, dyn_Check_f l hl (by omega), Option.bind_some, if_pos h0, if_pos hp]
        exact (level_both hl hin hg hr ha hb hm (by omega)).1
      · unfold partitaref12_Level.f
        rw [if_pos ⟨hl, all_in hin, i64B_iff.2 ha, i64B_iff.2 hb⟩, refCheck_f l hl hin (by omega), Option.bind_some, if_pos h0, if_pos hp]
        exact (level_both hl hin hg hr ha hb hm (by omega)).2
    · refine ⟨_, .arg hg (fun h => hp ⟨(rightB_iff ha hb).2 h.1, h.2⟩), fun k hk => ?_, fun k hk => ?_⟩
      · unfold dyn_Level.f
        rw [if_pos hl, dyn_Check_f l hl (by omega), Option.bind_some, if_pos h0, if_neg hp]
      · unfold partitaref12_Level.f
        rw [if_pos ⟨hl, all_in hin, i64B_iff.2 ha, i64B_iff.2 hb⟩, refCheck_f l hl hin (by omega), Option.bind_some, if_pos h0, if_neg hp]
  · have h1 : (checkI l).2 = 120 := (chk_err l l.length 0).resolve_left (fun h => hg (check_ok.1 h))
    have h2 : ¬ (checkI l).2 = 0 := by omega
    refine ⟨_, .bad hg h1, fun k hk => ?_, fun k hk => ?_⟩
    · unfold dyn_Level.f
      rw [if_pos hl, dyn_Check_f l hl (by omega), Option.bind_some, if_neg h2, h1]
    · unfold partitaref12_Level.f
      rw [if_pos ⟨hl, all_in hin, i64B_iff.2 ha, i64B_iff.2 hb⟩, refCheck_f l hl hin (by omega), Option.bind_some, if_neg h2, h1]
end Go.Proofs.Ytiifeheejapegaa.Q
