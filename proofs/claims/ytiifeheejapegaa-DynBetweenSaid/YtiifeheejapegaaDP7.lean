/- Plain facts on how loud it is at a place: by the program, and by the document. No conditions. -/
import Derived.Test.YtiifeheejapegaaDP4
import Derived.Test.YtiifeheejapegaaDP6
import Derived.Test.YtiifeheejapegaaQ11
namespace Go.Proofs.Ytiifeheejapegaa.Q
open Go.RowKit Go.Proofs.YtiifeheejapegaaW.PrintWords Go.Proofs.YtiifeheejapegaaW.PrintMore
theorem rd_get {l : List S36} {j : Nat} (h : j < l.length) : rd_T36 l (j : Int) = l[j] := by simp [rd_T36, List.getD, h]
theorem idxI_of (p : S36 → Bool) : ∀ (l : List S36) (m : Nat), m ≤ l.length → (∀ j (h : j < l.length), j < m → p l[j] = false) → (∀ (h : m < l.length), p l[m] = true) → idxI p l = if m < l.length then (m : Int) else -1 := by
  intro l
  induction l with
  | nil => intro m hm _ _; simp [idxI]
  | cons d l ih =>
    intro m hm h1 h2
    simp only [idxI, List.length_cons]
    cases m with
    | zero => have := h2 (by simp); simp at this; rw [if_pos this, if_pos (by omega)]; simp
    | succ m =>
      have hd : p d = false := by have := h1 0 (by simp) (by omega); simpa using this
      rw [hd, if_neg (by decide), ih m (by simpa using hm) (fun j h hj => by have := h1 (j + 1) (by simp; exact h) (by omega); simpa using this) (fun h => by have := h2 (by simp; exact h); simpa using this)]
      by_cases h : m < l.length
      · rw [if_pos h, if_neg (by omega), if_pos (by omega)]; omega
      · rw [if_neg h, if_pos rfl, if_neg (by omega)]
theorem lastI_of (p : S36 → Bool) : ∀ (l : List S36) (i n : Int) (m : Nat), m ≤ l.length → (∀ j (h : j < l.length), j < m → p l[j] = true) → (∀ j (h : j < l.length), m ≤ j → p l[j] = false) → lastI p l i n = if m = 0 then n else i + m - 1 := by
  intro l
  induction l with
  | nil => intro i n m hm _ _; simp at hm; subst hm; simp [lastI]
  | cons d l ih =>
    intro i n m hm h1 h2
    simp only [lastI]
    cases m with
    | zero =>
      have hd : p d = false := by have := h2 0 (by simp) (by omega); simpa using this
      rw [hd, if_neg (by decide), ih (i + 1) n 0 (by omega) (fun j h hj => by omega) (fun j h hj => by have := h2 (j + 1) (by simp; exact h) (by omega); simpa using this)]
      rfl
    | succ m =>
      have hd : p d = true := by have := h1 0 (by simp) (by omega); simpa using this
      rw [hd, if_pos rfl, ih (i + 1) i m (by simpa using hm) (fun j h hj => by have := h1 (j + 1) (by simp; exact h) (by omega); simpa using this) (fun j h hj => by have := h2 (j + 1) (by simp; exact h) (by omega); simpa using this)]
      by_cases h : m = 0
      · subst h; simp
      · rw [if_neg h, if_neg (by omega)]; omega
/-- How loud it is where m dynamics are not above the place. -/
def levelV (l : List S36) (a b : Int) (m : Nat) : Int :=
  if m = 0 then 80 else
    let x := rd_T36 l ((m : Int) - 1)
    if m = l.length ∨ x.f2 = false then x.f1
    else
      let y := rd_T36 l m
      if x.f1 ≤ y.f1 then x.f1 + wayV ((a * x.f0.f1 - x.f0.f0 * b) * y.f0.f1 * (y.f1 - x.f1)) ((y.f0.f0 * x.f0.f1 - x.f0.f0 * y.f0.f1) * b) false
      else x.f1 - wayV ((a * x.f0.f1 - x.f0.f0 * b) * y.f0.f1 * (x.f1 - y.f1)) ((y.f0.f0 * x.f0.f1 - x.f0.f0 * y.f0.f1) * b) true
theorem wayV_bd {F G s : Int} {up : Bool} (hG : 0 < G) (h0 : 0 ≤ F) (hs : F ≤ G * s) : 0 ≤ wayV F G up ∧ wayV F G up ≤ s := by
  have q0 : 0 ≤ F / G := Int.ediv_nonneg h0 (by omega)
  have q1 : F / G ≤ s := by
    have : F / G < s + 1 := by rw [Int.ediv_lt_iff_lt_mul hG, Int.add_mul, Int.one_mul, Int.mul_comm s]; omega
    omega
  unfold wayV
  split
  · rename_i h
    have h2 := h.2
    refine ⟨by omega, ?_⟩
    by_cases e : F / G = s
    · rw [e] at h2; omega
    · omega
  · exact ⟨q0, q1⟩
/-- m dynamics are not above the place. -/
def Cut (l : List S36) (a b : Int) (m : Nat) : Prop :=
  m ≤ l.length ∧ (∀ j : Nat, j < m → (rd_T36 l j).f0.f0 * b ≤ a * (rd_T36 l j).f0.f1) ∧ (∀ j : Nat, m ≤ j → j < l.length → a * (rd_T36 l j).f0.f1 < (rd_T36 l j).f0.f0 * b)
theorem above_iff {l : List S36} {a b : Int} (hin : In36 l) (hg : Good l) (hr : Rt a b) (ha : i64 a) (hb : i64 b) {j : Nat} (hj : j < l.length) :
    (aboveB a b (rd_T36 l j) = true ↔ a * (rd_T36 l j).f0.f1 < (rd_T36 l j).f0.f0 * b) ∧ (leB a b (rd_T36 l j) = !aboveB a b (rd_T36 l j)) := by
  have i1 := hin.at (i := (j : Int)) (by omega) (by omega)
  have r1 := (hg.rt hin hj).1
  unfold aboveB leB
  rw [cmpI_rt i1.1 i1.2.1 ha hb r1 hr]
  refine ⟨?_, ?_⟩
  · rw [decide_eq_true_iff]
    split
    · omega
    · split <;> omega
  · rw [Bool.eq_iff_iff]; simp
theorem cut_ex {l : List S36} {a b : Int} (hin : In36 l) (hg : Good l) (hr : Rt a b) : ∃ m, Cut l a b m := by
  have key : ∀ n, n ≤ l.length → ∃ m, m ≤ n ∧ (∀ j : Nat, j < m → (rd_T36 l j).f0.f0 * b ≤ a * (rd_T36 l j).f0.f1) ∧ (m < n → a * (rd_T36 l m).f0.f1 < (rd_T36 l m).f0.f0 * b) := by
    intro n
    induction n with
    | zero => intro _; exact ⟨0, by omega, fun j h => by omega, fun h => by omega⟩
    | succ n ih =>
      intro hn
      obtain ⟨m, h1, h2, h3⟩ := ih (by omega)
      by_cases hm : m < n
      · exact ⟨m, by omega, h2, fun _ => h3 hm⟩
      · have e : m = n := by omega
        subst e
        by_cases hh : a * (rd_T36 l m).f0.f1 < (rd_T36 l m).f0.f0 * b
        · exact ⟨m, by omega, h2, fun _ => hh⟩
        · exact ⟨m + 1, by omega, fun j hj => by
            by_cases e : j = m
            · subst e; omega
            · exact h2 j (by omega), fun h => by omega⟩
  obtain ⟨m, h1, h2, h3⟩ := key l.length (Nat.le_refl _)
  refine ⟨m, h1, h2, fun j hm hj => ?_⟩
  have h4 := h3 (by omega)
  by_cases e : j = m
  · subst e; exact h4
  · have h5 := hg.lt_of hin (show m < j by omega) hj
    have r1 := (hg.rt hin (show m < l.length by omega)).1
    have r2 := (hg.rt hin hj).1
    exact lt_trans_ hr.pos r1.pos r2.pos (Int.le_of_lt h4) h5
theorem level_both {l : List S36} {a b : Int} (hl : l.length ≤ 1000) (hin : In36 l) (hg : Good l) (hr : Rt a b) (ha : i64 a) (hb : i64 b) {m : Nat} (hm : Cut l a b m) {k : Nat} (hk : 600 < k) :
    levelBody k l a b = some (levelV l a b m, 0) ∧ refBody k l a b = some (levelV l a b m, 0) := by
  obtain ⟨m0, m1, m2⟩ := hm
  have hi : idxI (aboveB a b) l = if m < l.length then (m : Int) else -1 := by
    refine idxI_of _ l m m0 (fun j h hj => ?_) (fun h => ?_)
    · rw [← rd_get h, Bool.eq_false_iff]; intro hh; have := (above_iff hin hg hr ha hb h).1.1 hh; have := m1 j hj; omega
    · rw [← rd_get h]; exact (above_iff hin hg hr ha hb h).1.2 (m2 m (Nat.le_refl _) h)
  have hla : lastI (leB a b) l 0 (-1) = (m : Int) - 1 := by
    rw [lastI_of _ l 0 (-1) m m0 (fun j h hj => ?_) (fun j h hj => ?_)]
    · split <;> omega
    · rw [← rd_get h, (above_iff hin hg hr ha hb h).2, Bool.not_eq_true', Bool.eq_false_iff]; intro hh; have := (above_iff hin hg hr ha hb h).1.1 hh; have := m1 j hj; omega
    · rw [← rd_get h, (above_iff hin hg hr ha hb h).2, (above_iff hin hg hr ha hb h).1.2 (m2 j hj h)]; rfl
  unfold levelBody refBody levelV
  rw [hi, hla]
  simp only []
  by_cases h0 : m = 0
  · subst h0
    constructor
    · by_cases hz : l.length = 0
      · rw [if_pos (.inr hz), if_pos rfl]
      · rw [if_pos (.inl (by rw [if_pos (by omega)]; rfl)), if_pos rfl]
    · rw [if_pos (by omega), if_pos rfl]
  · have hx := hg.rt hin (show m - 1 < l.length by omega)
    rw [show (((m - 1 : Nat)) : Int) = (m : Int) - 1 by omega] at hx
    by_cases hml : m < l.length
    · have hy := hg.rt hin hml
      have hle := m1 (m - 1) (by omega)
      rw [show (((m - 1 : Nat)) : Int) = (m : Int) - 1 by omega] at hle
      have hlt := m2 m (Nat.le_refl _) hml
      rw [if_pos hml, show (m : Int) - 1 + 1 = m by omega]
      have c1 : ¬ ((m : Int) = 0 ∨ l.length = 0) := by omega
      have c2 : ¬ ((m : Int) < 0) := by omega
      have c3 : ¬ ((m : Int) - 1 < 0) := by omega
      rw [if_neg c1, if_neg c2, if_neg c3, if_neg h0]
      generalize rd_T36 l ((m : Int) - 1) = x at *
      generalize rd_T36 l (m : Int) = y at *
      by_cases hh : x.f2 = false
      · have c4 : m = l.length ∨ x.f2 = false := .inr hh
        have c5 : x.f2 = false ∨ (m : Int) = l.length := .inl hh
        rw [if_pos hh, if_pos c4, if_pos c5]; exact ⟨rfl, rfl⟩
      · have c4 : ¬ (m = l.length ∨ x.f2 = false) := by intro h; rcases h with h | h; omega; exact hh h
        have c5 : ¬ (x.f2 = false ∨ (m : Int) = l.length) := by intro h; rcases h with h | h; exact hh h; omega
        rw [if_neg hh, if_neg c4, if_neg c5]
        by_cases hxy : x.f1 ≤ y.f1
        · obtain ⟨w1, w2, w3, w4, w5, _⟩ := way_part (steps := y.f1 - x.f1) hx.2.1 hx.1 hr hy.1 hle hlt (by omega) false
          have wb := wayV_bd (up := false) w3 w4 w5
          simp only [if_pos hxy]
          rw [wrap64_id (n := y.f1 - x.f1) (by unfold i64; omega), w1 k hk, w2 k hk]
          simp only [Option.bind_some]
          rw [wrap64_id (by unfold i64; omega)]
          exact ⟨rfl, rfl⟩
        · obtain ⟨w1, w2, w3, w4, w5, _⟩ := way_part (steps := x.f1 - y.f1) hx.2.1 hx.1 hr hy.1 hle hlt (by omega) true
          have wb := wayV_bd (up := true) w3 w4 w5
          simp only [if_neg hxy]
          rw [wrap64_id (n := x.f1 - y.f1) (by unfold i64; omega), w1 k hk, w2 k hk]
          simp only [Option.bind_some]
          rw [wrap64_id (by unfold i64; omega)]
          exact ⟨rfl, rfl⟩
    · have e : m = l.length := by omega
      have c1 : ¬ ((-1 : Int) = 0 ∨ l.length = 0) := by omega
      have c2 : (-1 : Int) < 0 := by omega
      have c3 : ¬ ((m : Int) - 1 < 0) := by omega
      have c4 : m = l.length ∨ (rd_T36 l ((m : Int) - 1)).f2 = false := .inl e
      have c5 : (rd_T36 l ((m : Int) - 1)).f2 = false ∨ (m : Int) - 1 + 1 = l.length := .inr (by omega)
      rw [if_neg hml, if_neg c1, if_pos c2, if_neg c3, if_neg h0, if_pos c4, if_pos c5, ← e]
      exact ⟨rfl, rfl⟩
end Go.Proofs.Ytiifeheejapegaa.Q
