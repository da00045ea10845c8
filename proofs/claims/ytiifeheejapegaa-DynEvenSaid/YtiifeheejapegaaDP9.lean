/- How loud a marked note is: by the program, and by the document. No conditions. -/
import Derived.Test.YtiifeheejapegaaDP8
namespace Go.Proofs.Ytiifeheejapegaa.Q
open Go.RowKit Go.Proofs.YtiifeheejapegaaW.PrintWords Go.Proofs.YtiifeheejapegaaW.PrintMore
theorem rdI_get {l : List Int} {j : Nat} (h : j < l.length) : rd l (j : Int) = l[j] := by simp [rd, List.getD, h]
theorem drop_cons {l : List Int} {j : Nat} (h : j < l.length) : l.drop j = rd l (j : Int) :: l.drop (j + 1) := by rw [rdI_get h, List.drop_eq_getElem_cons h]
theorem index_l0 (l : List Int) (v : Int) (hl : l.length ≤ 1000) : ∀ (n k i : Nat), i + n = l.length → n < k → ∃ r, slices_Index_int_int.l0 k l v (l.length : Int) i = some r ∧ (0 ≤ r ↔ v ∈ l.drop i) := by
  intro n
  induction n with
  | zero =>
    intro k i hi hk
    obtain ⟨k, rfl⟩ : ∃ m, k = m + 1 := ⟨k - 1, by omega⟩
    simp only [slices_Index_int_int.l0]
    rw [if_neg (by omega)]
    exact ⟨-1, rfl, by rw [show i = l.length by omega, List.drop_length]; simp⟩
  | succ n ih =>
    intro k i hi hk
    obtain ⟨k, rfl⟩ : ∃ m, k = m + 1 := ⟨k - 1, by omega⟩
    simp only [slices_Index_int_int.l0]
    rw [if_pos (by omega), if_pos (by omega), if_pos (by omega), drop_cons (show i < l.length by omega)]
    by_cases h : v = rd l i
    · rw [if_pos h]; exact ⟨_, rfl, by rw [h]; simp⟩
    · rw [if_neg h, wrap64_id (by unfold i64; omega)]
      obtain ⟨r, h1, h2⟩ := ih k (i + 1) (by omega) (by omega)
      exact ⟨r, h1, by rw [h2]; simp [h]⟩
theorem contains_f (l : List Int) (v : Int) (hl : l.length ≤ 1000) {k : Nat} (hk : 1000 < k) : slices_Contains_int_int.f k l v = some (decide (v ∈ l)) := by
  unfold slices_Contains_int_int.f slices_Index_int_int.f
  obtain ⟨r, h1, h2⟩ := index_l0 l v hl l.length k 0 (by omega) (by omega)
  rw [show ((0 : Nat) : Int) = 0 from rfl] at h1
  rw [h1, Option.bind_some]
  rw [List.drop_zero] at h2
  congr 1
  rw [Bool.eq_iff_iff, decide_eq_true_iff, decide_eq_true_iff]; exact h2
theorem has_l0 (l : List Int) (v : Int) (hl : l.length ≤ 1000) : ∀ (n k i : Nat), i + n = l.length → n < k → partitaref12_has.l0 k l v i = some (decide (v ∈ l.drop i)) := by
  intro n
  induction n with
  | zero =>
    intro k i hi hk
    obtain ⟨k, rfl⟩ : ∃ m, k = m + 1 := ⟨k - 1, by omega⟩
    simp only [partitaref12_has.l0]
    rw [if_neg (by omega), show i = l.length by omega, List.drop_length]; simp
  | succ n ih =>
    intro k i hi hk
    obtain ⟨k, rfl⟩ : ∃ m, k = m + 1 := ⟨k - 1, by omega⟩
    simp only [partitaref12_has.l0]
    rw [if_pos (by omega), if_pos (by omega), drop_cons (show i < l.length by omega)]
    by_cases h : rd l i = v
    · rw [if_pos h, h]; simp
    · rw [if_neg h, wrap64_id (by unfold i64; omega)]
      have := ih k (i + 1) (by omega) (by omega)
      rw [show ((i + 1 : Nat) : Int) = (i : Int) + 1 by omega] at this
      rw [this]
      congr 1
      rw [Bool.eq_iff_iff, decide_eq_true_iff, decide_eq_true_iff, List.mem_cons]
      constructor
      · intro h; exact .inr h
      · rintro (h2 | h2)
        · exact absurd h2.symm h
        · exact h2
theorem has_f (l : List Int) (v : Int) (hl : l.length ≤ 1000) {k : Nat} (hk : 1000 < k) : partitaref12_has.f k l v = some (decide (v ∈ l)) := by
  unfold partitaref12_has.f
  have := has_l0 l v hl l.length k 0 (by omega) (by omega)
  rwa [List.drop_zero] at this
/-- How loud a note with marks is. -/
def velV (n : Int) (ms : List Int) : Int := mn (n + (if 3 ∈ ms then 20 else 0) + (if 2 ∈ ms then 5 else 0)) 127
theorem dynVel_f {l : List S36} {a b : Int} {ms : List Int} {n e : Int} {k : Nat} (hk : 1000 < k) (hm : ms.length ≤ 1000) (hn : -1000 ≤ n ∧ n ≤ 1000) (h : dyn_Level.f k l a b = some (n, e)) :
    dyn_Velocity.f k l a b ms = some (if e = 0 then (if ms.any badMark = true then (0, 2) else (velV n ms, 0)) else (0, e)) := by
  unfold dyn_Velocity.f
  rw [if_pos hm, h, Option.bind_some]
  by_cases he : e = 0
  · simp only [if_pos he]
    by_cases hb : ms.any badMark = true
    · rw [if_pos hb, if_pos hb]
    · rw [if_neg hb, if_neg hb, contains_f ms 3 hm hk, contains_f ms 2 hm hk]
      simp only [Option.bind_some, decide_eq_true_eq]
      unfold velV
      rw [wrap64_id (n := n + 20) (by unfold i64; omega)]
      by_cases h3 : (3 : Int) ∈ ms
      · simp only [if_pos h3]
        rw [wrap64_id (n := n + 20 + 5) (by unfold i64; omega)]
        by_cases h2 : (2 : Int) ∈ ms
        · simp only [if_pos h2]
        · simp only [if_neg h2, Int.add_zero]
      · simp only [if_neg h3, Int.add_zero]
        rw [wrap64_id (n := n + 5) (by unfold i64; omega)]
        by_cases h2 : (2 : Int) ∈ ms
        · simp only [if_pos h2]
        · simp only [if_neg h2, Int.add_zero]
  · simp only [if_neg he]
theorem refVel_j1 {ms : List Int} {n : Int} {k : Nat} (hk : 1001 < k) (hm : ms.length ≤ 1000) (hn : -1000 ≤ n ∧ n ≤ 1000) : partitaref12_Velocity.j1 k ms n = some (mn (n + (if 2 ∈ ms then 5 else 0)) 127, 0) := by
  obtain ⟨k, rfl⟩ : ∃ m, k = m + 1 := ⟨k - 1, by omega⟩
  simp only [partitaref12_Velocity.j1]
  rw [has_f ms 2 hm (by omega), Option.bind_some, wrap64_id (n := n + 5) (by unfold i64; omega)]
  unfold mn
  simp only [decide_eq_true_eq]
  by_cases h2 : (2 : Int) ∈ ms
  · simp only [if_pos h2]
    by_cases h : n + 5 > 127
    · rw [if_pos h, if_pos (by omega)]
    · rw [if_neg h, if_neg (by omega)]
  · simp only [if_neg h2, Int.add_zero]
    by_cases h : n > 127
    · rw [if_pos h, if_pos (by omega)]
    · rw [if_neg h, if_neg (by omega)]
theorem refVel_l0 {ms : List Int} {n : Int} (hm : ms.length ≤ 1000) (hn : -900 ≤ n ∧ n ≤ 900) : ∀ (d k i : Nat), i + d = ms.length → d + 1003 < k →
    partitaref12_Velocity.l0 k ms n i = some (if (ms.drop i).any badMark = true then (0, 2) else (velV n ms, 0)) := by
  intro d
  induction d with
  | zero =>
    intro k i hi hk
    obtain ⟨k, rfl⟩ : ∃ m, k = m + 1 := ⟨k - 1, by omega⟩
    simp only [partitaref12_Velocity.l0]
    rw [if_neg (by omega), has_f ms 3 hm (by omega), Option.bind_some, show i = ms.length by omega, List.drop_length]
    simp only [List.any_nil, Bool.false_eq_true, if_false, decide_eq_true_eq]
    rw [wrap64_id (n := n + 20) (by unfold i64; omega)]
    unfold velV
    by_cases h3 : (3 : Int) ∈ ms
    · simp only [if_pos h3]; exact refVel_j1 (by omega) hm (by omega)
    · simp only [if_neg h3, Int.add_zero]; exact refVel_j1 (by omega) hm (by omega)
  | succ d ih =>
    intro k i hi hk
    obtain ⟨k, rfl⟩ : ∃ m, k = m + 1 := ⟨k - 1, by omega⟩
    simp only [partitaref12_Velocity.l0]
    rw [if_pos (by omega), if_pos (by omega), drop_cons (show i < ms.length by omega), List.any_cons, wrap64_id (by unfold i64; omega)]
    have := ih k (i + 1) (by omega) (by omega)
    rw [show ((i + 1 : Nat) : Int) = (i : Int) + 1 by omega] at this
    rw [this]
    by_cases h1 : rd ms i < 1
    · have hb : badMark (rd ms i) = true := by unfold badMark; rw [decide_eq_true h1]; rfl
      rw [if_pos h1, hb]; rfl
    · rw [if_neg h1]
      by_cases h2 : rd ms i > 4
      · have hb : badMark (rd ms i) = true := by unfold badMark; rw [decide_eq_true (show 4 < rd ms i from h2), Bool.or_true]
        rw [if_pos h2, hb]; rfl
      · have hb : badMark (rd ms i) = false := by unfold badMark; rw [decide_eq_false h1, decide_eq_false (show ¬ 4 < rd ms i from h2)]; rfl
        rw [if_neg h2, hb, Bool.false_or]
theorem refVel_f {l : List S36} {a b : Int} {ms : List Int} {n e : Int} {k : Nat} (hk : 3000 < k) (hm : ms.length ≤ 1000) (hn : -900 ≤ n ∧ n ≤ 900) (h : partitaref12_Level.f k l a b = some (n, e)) :
    partitaref12_Velocity.f k l a b ms = some (if e = 0 then (if ms.any badMark = true then (0, 2) else (velV n ms, 0)) else (0, e)) := by
  unfold partitaref12_Velocity.f
  rw [h, Option.bind_some]
  by_cases he : e = 0
  · simp only [if_pos he]
    have := refVel_l0 (n := n) hm hn ms.length k 0 (by omega) (by omega)
    rwa [List.drop_zero] at this
  · simp only [if_neg he]
theorem level_bd {l : List S36} {a b : Int} {m : Nat} (hin : In36 l) (hg : Good l) (hr : Rt a b) (hm : Cut l a b m) : 1 ≤ levelV l a b m ∧ levelV l a b m ≤ 127 := by
  unfold levelV
  obtain ⟨m0, m1, m2⟩ := hm
  by_cases h0 : m = 0
  · rw [if_pos h0]; omega
  · rw [if_neg h0]
    have hx := hg.rt hin (show m - 1 < l.length by omega)
    rw [show (((m - 1 : Nat)) : Int) = (m : Int) - 1 by omega] at hx
    simp only []
    by_cases h1 : m = l.length ∨ (rd_T36 l ((m : Int) - 1)).f2 = false
    · rw [if_pos h1]; omega
    · rw [if_neg h1]
      have hml : m < l.length := by omega
      have hy := hg.rt hin hml
      have hle := m1 (m - 1) (by omega)
      rw [show (((m - 1 : Nat)) : Int) = (m : Int) - 1 by omega] at hle
      have hlt := m2 m (Nat.le_refl _) hml
      by_cases hxy : (rd_T36 l ((m : Int) - 1)).f1 ≤ (rd_T36 l (m : Int)).f1
      · obtain ⟨_, _, w3, w4, w5, _⟩ := way_part (steps := (rd_T36 l (m : Int)).f1 - (rd_T36 l ((m : Int) - 1)).f1) hx.2.1 hx.1 hr hy.1 hle hlt (by omega) false
        have wb := wayV_bd (up := false) w3 w4 w5
        rw [if_pos hxy]; omega
      · obtain ⟨_, _, w3, w4, w5, _⟩ := way_part (steps := (rd_T36 l ((m : Int) - 1)).f1 - (rd_T36 l (m : Int)).f1) hx.2.1 hx.1 hr hy.1 hle hlt (by omega) true
        have wb := wayV_bd (up := true) w3 w4 w5
        rw [if_neg hxy]; omega
theorem levelIs_bd {l : List S36} {a b : Int} {r : Int × Int} (hin : In36 l) (h : LevelIs l a b r) : 0 ≤ r.1 ∧ r.1 ≤ 127 := by
  cases h with
  | bad _ _ => simp
  | arg _ _ => simp
  | ok m hg hr _ hm => have := level_bd hin hg hr hm; simp; omega
end Go.Proofs.Ytiifeheejapegaa.Q
