/- DynBetween: the plain law: between two dynamics it is never louder, or softer, than both of them; at a dynamic's place it is as loud as it tells. No conditions. -/
import Derived.Test.YtiifeheejapegaaDP10
import Derived.Test.YtiifeheejapegaaQ15
namespace Go.Proofs.Ytiifeheejapegaa.Pure
open Go.RowKit Go.Proofs.Ytiifeheejapegaa.Q Go.Proofs.YtiifeheejapegaaW.PrintWords Go.Proofs.YtiifeheejapegaaW.PrintMore
set_option linter.unusedVariables false
theorem level_here {l : List S36} (hl : l.length ≤ 20) (hin : In36 l) (hg : Q.Good l) {i : Nat} (hi : i < l.length) {k : Nat} (hk : 3000 < k) : dyn_Level.f k l (rd_T36 l i).f0.f0 (rd_T36 l i).f0.f1 = some ((rd_T36 l i).f1, 0) := by
  have ha := hin.at (i := (i : Int)) (by omega) (by omega)
  have hr := hg.rt hin hi
  obtain ⟨r, h, h1, _⟩ := level_f (l := l) (by omega) hin ha.1 ha.2.1
  rw [h1 k hk]
  cases h with
  | bad h _ => exact absurd hg h
  | arg _ h => exact absurd ⟨hr.1, hr.2.1⟩ h
  | ok m _ _ _ hc =>
    have := cut_at hin hg hi hc
    subst this
    rw [level_at]
theorem between_l0 {l : List S36} (hl : l.length ≤ 20) (hin : In36 l) (hg : Q.Good l) {a b : Int} (ha : i64 a) (hb : i64 b) (hr : Rt a b) {m : Nat} (hc : Cut l a b m) :
    ∀ (n k i : Nat), i + n = l.length → 2 * n + 3002 < k → partitalaw12_DynBetween.l0 k l true (levelV l a b m) (i : Int) a b = some true := by
  intro n
  have hin_ := level_in hin hg hr hc
  induction n with
  | zero =>
    intro k i hi hk
    obtain ⟨k, rfl⟩ : ∃ j, k = j + 1 := ⟨k - 1, by omega⟩
    simp only [partitalaw12_DynBetween.l0]
    rw [if_neg (by omega)]
    simp only [if_true]
    rw [if_pos (by omega), decide_eq_true hin_.2]
  | succ n ih =>
    intro k i hi hk
    obtain ⟨k, rfl⟩ : ∃ j, k = j + 2 := ⟨k - 2, by omega⟩
    have hi2 : i < l.length := by omega
    have hx := hg.rt hin hi2
    have hxa := hin.at (i := (i : Int)) (by omega) (by omega)
    have hnext := ih k (i + 1) (by omega) (by omega)
    rw [show ((i + 1 : Nat) : Int) = (i : Int) + 1 by omega] at hnext
    simp only [partitalaw12_DynBetween.l0]
    rw [if_pos (by omega), if_pos (by omega), level_here hl hin hg hi2 (by omega), Option.bind_some]
    simp only [if_true, bne_self_eq_false]
    simp only [partitalaw12_DynBetween.j1]
    rw [if_neg (by decide), if_pos (by omega), if_pos (by omega), wrap64_id (n := (i : Int) + 1) (by unfold i64; omega)]
    simp only [ratio_Compare.f, Option.bind_some]
    rw [hnext, cmpI_rt hxa.1 hxa.2.1 ha hb hx.1 hr]
    by_cases c1 : (rd_T36 l i).f0.f0 * b ≤ a * (rd_T36 l i).f0.f1
    · rw [if_pos (by split <;> (try split) <;> omega)]
      by_cases c2 : (i : Int) + 1 < l.length
      · have hy := hg.rt hin (show i + 1 < l.length by omega)
        have hya := hin.at (i := (i : Int) + 1) (by omega) (by omega)
        rw [show ((i + 1 : Nat) : Int) = (i : Int) + 1 by omega] at hy
        rw [if_pos c2, if_pos (by omega), cmpI_rt ha hb hya.1 hya.2.1 hr hy.1]
        by_cases c3 : a * (rd_T36 l ((i : Int) + 1)).f0.f1 < (rd_T36 l ((i : Int) + 1)).f0.f0 * b
        · have hm : m = i + 1 := by
            obtain ⟨m0, m1, m2⟩ := hc
            have h1 : i < m := by
              by_cases h : i < m
              · exact h
              · have := m2 i (by omega) hi2; omega
            by_cases h2 : i + 1 < m
            · have := m1 (i + 1) h2
              rw [show ((i + 1 : Nat) : Int) = (i : Int) + 1 by omega] at this
              omega
            · omega
          subst hm
          have hmid := level_mid hin hg hr (by omega) hc
          rw [if_pos c3, if_pos (by omega), if_neg (by omega), if_neg (by omega)]
        · rw [if_neg c3]
          rw [if_neg (by split <;> omega)]
      · rw [if_neg c2]
    · rw [if_neg (by rw [if_neg (by omega), if_pos (by omega)]; omega)]
theorem DynBetween : ∀ (l0 : List (S36)) (x1 : S29), (l0.length * 32 ≤ 140737488351232 ∧ ∀ y ∈ l0, wf36 y) → (wf29 x1) → ∃ k, partitalaw12_DynBetween.f k l0 x1.f0 x1.f1 = some true := by
  intro l x hw hx
  refine ⟨5000, ?_⟩
  unfold partitalaw12_DynBetween.f
  rw [awake_f (by omega), Option.bind_some]
  by_cases hl : (l.length : Int) > 20
  · rw [if_pos hl]
  · rw [if_neg hl]
    have i0 := i64_of hx.1
    have i1 := i64_of hx.2
    have hin := in36_of hw.2
    obtain ⟨r, h, h1, _⟩ := level_f (l := l) (by omega) hin i0 i1
    rw [h1 5000 (by omega), Option.bind_some]
    cases h with
    | bad _ _ => simp
    | arg _ _ => simp
    | ok m g hr z hc =>
      simp only [if_true]
      exact between_l0 (by omega) hin g i0 i1 hr hc l.length 5000 0 (by omega) (by omega)
end Go.Proofs.Ytiifeheejapegaa.Pure
