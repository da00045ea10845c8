/- The document's check of dynamics is the program's. No conditions. -/
import Derived.Test.YtiifeheejapegaaRefRatio
import Derived.Test.YtiifeheejapegaaDP2
import Derived.Test.YtiifeheejapegaaDP3
import Derived.Test.YtiifeheejapegaaQ8
namespace Go.Proofs.Ytiifeheejapegaa.Q
open Go.RowKit Go.Proofs.YtiifeheejapegaaW.PrintWords Go.Proofs.YtiifeheejapegaaW.PrintMore
theorem refCheck_l0 (l : List S36) (hl : l.length ≤ 1000) (hin : In36 l) : ∀ (n k i : Nat), i + n = l.length → 2 * n + 1 < k → partitaref12_Check.l0 k l (i : Int) = some (chk l n i) := by
  intro n
  induction n with
  | zero =>
    intro k i hi hk
    obtain ⟨k, rfl⟩ : ∃ m, k = m + 1 := ⟨k - 1, by omega⟩
    simp only [partitaref12_Check.l0, chk]
    rw [if_neg (by omega)]
  | succ n ih =>
    intro k i hi hk
    obtain ⟨k, rfl⟩ : ∃ m, k = m + 1 := ⟨k - 1, by omega⟩
    obtain ⟨k, rfl⟩ : ∃ m, k = m + 1 := ⟨k - 1, by omega⟩
    obtain ⟨k, rfl⟩ : ∃ m, k = m + 1 := ⟨k - 1, by omega⟩
    have a1 := hin.at (i := (i : Int)) (by omega) (by omega)
    simp only [partitaref12_Check.l0, chk]
    rw [if_pos (by omega), if_pos (by omega), refRight a1.1 a1.2.1]
    simp only [Option.bind_some, partitaref12_Check.j1]
    have hnext : partitaref12_Check.l0 (k + 1) l (wrap64 ((i : Int) + 1)) = some (chk l n (i + 1)) := by
      rw [wrap64_id (by unfold i64; omega)]
      exact ih (k + 1) (i + 1) (by omega) (by omega)
    by_cases h1 : rightB (rd_T36 l i).f0.f0 (rd_T36 l i).f0.f1 = true
    · rw [if_pos h1]
      by_cases h0 : (rd_T36 l i).f0.f0 < 0
      · have hb : badB l i = true := by unfold badB; rw [decide_eq_false (show ¬ 0 ≤ (rd_T36 l i).f0.f0 by omega)]; simp
        rw [if_pos h0, if_pos trivial, if_pos hb]
      · rw [if_neg h0]
        by_cases h2 : (rd_T36 l i).f1 < 1
        · have hb : badB l i = true := by unfold badB; rw [decide_eq_true h2]; simp
          rw [if_pos h2, if_pos trivial, if_pos hb]
        · rw [if_neg h2]
          by_cases h3 : (rd_T36 l i).f1 > 127
          · have hb : badB l i = true := by unfold badB; rw [decide_eq_true (show 127 < (rd_T36 l i).f1 from h3)]; simp
            rw [decide_eq_true h3, if_pos rfl, if_pos hb]
          · rw [decide_eq_false h3, if_neg (by decide)]
            by_cases h4 : (i : Int) > 0
            · have a0 := hin.at (i := (i : Int) - 1) (by omega) (by omega)
              rw [if_pos h4, wrap64_id (n := (i : Int) - 1) (by unfold i64; omega), if_pos (by omega), if_pos (by omega), refCompare a1.1 a1.2.1 a0.1 a0.2.1]
              simp only [Option.bind_some]
              by_cases h5 : cmpI (rd_T36 l i).f0.f0 (rd_T36 l i).f0.f1 (rd_T36 l ((i : Int) - 1)).f0.f0 (rd_T36 l ((i : Int) - 1)).f0.f1 ≤ 0
              · have hb : badB l i = true := by unfold badB; rw [decide_eq_true h5, decide_eq_true (show 0 < i by omega)]; simp
                rw [if_pos h5, if_pos hb]
              · have hb : badB l i = false := by unfold badB; rw [h1, decide_eq_true (show 0 ≤ (rd_T36 l i).f0.f0 by omega), decide_eq_false h2, decide_eq_false (show ¬ 127 < (rd_T36 l i).f1 from h3), decide_eq_false h5]; simp
                rw [if_neg h5, hb, if_neg (by decide)]
                exact hnext
            · have hb : badB l i = false := by unfold badB; rw [h1, decide_eq_true (show 0 ≤ (rd_T36 l i).f0.f0 by omega), decide_eq_false h2, decide_eq_false (show ¬ 127 < (rd_T36 l i).f1 from h3), decide_eq_false (show ¬ 0 < i by omega)]; simp
              rw [if_neg h4, hb, if_neg (by decide)]
              exact hnext
    · have hb : badB l i = true := by unfold badB; rw [Bool.eq_false_iff.mpr h1]; rfl
      rw [if_neg h1, if_pos trivial, if_pos hb]
theorem refCheck_f (l : List S36) (hl : l.length ≤ 1000) (hin : In36 l) {k : Nat} (hk : 2001 < k) : partitaref12_Check.f k l = some (checkI l) := by
  unfold partitaref12_Check.f checkI
  exact refCheck_l0 l hl hin l.length k 0 (by omega) (by omega)
end Go.Proofs.Ytiifeheejapegaa.Q
