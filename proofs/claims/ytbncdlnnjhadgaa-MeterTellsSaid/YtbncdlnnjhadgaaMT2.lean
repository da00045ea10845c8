/- The document's meters are the program's, function by function, whatever the meter and the ratios. No conditions. -/
import Derived.Test.YtbncdlnnjhadgaaMT1
import Derived.Test.YtbncdlnnjhadgaaQ7
import Derived.Test.YtbncdlnnjhadgaaQ8
import Derived.Test.YtbncdlnnjhadgaaQ9
import Derived.Test.YtbncdlnnjhadgaaQ10
import Derived.Test.YtbncdlnnjhadgaaQ11
import Derived.Test.YtbncdlnnjhadgaaQ4
import Derived.Test.YtbncdlnnjhadgaaQ4
namespace Go.Proofs.Ytbncdlnnjhadgaa.Q
open Go.RowKit Go.Proofs.YtbncdlnnjhadgaaW.PrintWords Go.Proofs.YtbncdlnnjhadgaaW.PrintMore
set_option linter.unusedVariables false
set_option linter.unusedSimpArgs false
/-! right -/
def okR (e : Bool) (n : Int) : Int → List Int → Bool
  | s, [] => e || s == n
  | s, g :: G => decide (1 ≤ g) && (decide (g ≤ 32) && okR e n (s + g) G)
theorem okR_iff {e : Bool} {n : Int} : ∀ {l : List Int} {s : Int}, okR e n s l = true ↔ (∀ g ∈ l, 1 ≤ g ∧ g ≤ 32) ∧ (e = true ∨ s + l.sum = n)
  | [], s => by simp [okR]
  | g :: l, s => by
    rw [okR, Bool.and_eq_true, Bool.and_eq_true, decide_eq_true_iff, decide_eq_true_iff, okR_iff, List.sum_cons]
    constructor
    · rintro ⟨h1, h2, h3, h4⟩
      refine ⟨fun x hx => ?_, ?_⟩
      · rcases List.mem_cons.1 hx with rfl | hx
        · exact ⟨h1, h2⟩
        · exact h3 x hx
      · rcases h4 with h4 | h4
        · exact .inl h4
        · right; omega
    · rintro ⟨h3, h4⟩
      have := h3 g (by simp)
      refine ⟨this.1, this.2, fun x hx => h3 x (by simp [hx]), ?_⟩
      rcases h4 with h4 | h4
      · exact .inl h4
      · right; omega
theorem refRight_l1 {l : List Int} (hl : l.length ≤ 17592186044416) (n d : Int) : ∀ (m k i : Nat) (s : Int), i + m = l.length → m + 1 ≤ k → 0 ≤ s → s ≤ 32 * (i : Int) →
    partitaref05_Right.l1 k s i n d l = some (okR (l.length == 0) n s (l.drop i)) := by
  intro m
  induction m with
  | zero =>
    intro k i s hi hk h0 h1
    obtain ⟨k, rfl⟩ : ∃ j, k = j + 1 := ⟨k - 1, by omega⟩
    rw [partitaref05_Right.l1, if_neg (by omega), List.drop_of_length_le (by omega), okR]
    by_cases h : l.length = 0
    · rw [if_pos (by omega)]; simp [h]
    · rw [if_neg (by omega)]; simp [h]
  | succ m ih =>
    intro k i s hi hk h0 h1
    obtain ⟨k, rfl⟩ : ∃ j, k = j + 1 := ⟨k - 1, by omega⟩
    rw [partitaref05_Right.l1, if_pos (by omega), if_pos (by omega), rd_drop (by omega), okR]
    by_cases c1 : rd l i < 1
    · rw [if_pos c1, decide_eq_false (by omega)]; simp
    · rw [if_neg c1, decide_eq_true (by omega), Bool.true_and]
      by_cases c2 : rd l i > 32
      · rw [if_pos c2, decide_eq_false (by omega)]; simp
      · rw [if_neg c2, decide_eq_true (by omega), Bool.true_and, wrap64_id (n := s + rd l i) (by unfold i64; omega), wrap64_id (n := (i : Int) + 1) (by unfold i64; omega)]
        exact ih k (i + 1) (s + rd l i) (by omega) (by omega) (by omega) (by omega)
theorem refRight_l0 (n d : Int) (l : List Int) (k : Nat) :
    ((d = 1 ∨ d = 2 ∨ d = 4 ∨ d = 8 ∨ d = 16 ∨ d = 32 ∨ d = 64) → partitaref05_Right.l0 (k + 8) false 1 n d l = partitaref05_Right.l1 k 0 0 n d l) ∧
    (¬ (d = 1 ∨ d = 2 ∨ d = 4 ∨ d = 8 ∨ d = 16 ∨ d = 32 ∨ d = 64) → partitaref05_Right.l0 (k + 8) false 1 n d l = some false) := by
  constructor
  · rintro (rfl | rfl | rfl | rfl | rfl | rfl | rfl) <;> simp [partitaref05_Right.l0, wrap64]
  · intro h
    simp only [not_or] at h
    obtain ⟨h1, h2, h3, h4, h5, h6, h7⟩ := h
    simp [partitaref05_Right.l0, wrap64, h1, h2, h3, h4, h5, h6, h7]
theorem refRight_f {n d : Int} {l : List Int} (hl : l.length ≤ 17592186044416) {k : Nat} (hk : l.length + 20 ≤ k) : partitaref05_Right.f k n d l = some (rightM n d l) := by
  obtain ⟨k, rfl⟩ : ∃ j, k = j + 8 + 1 := ⟨k - 9, by omega⟩
  have no : ∀ {b : Bool}, (b = true → ¬ GM n d l) → ∀ r, (b = true → r = some false) → (b = true → r = some (rightM n d l)) := fun h r hr hb => by rw [hr hb, rightM_no (h hb)]
  unfold partitaref05_Right.f
  by_cases c1 : n < 1
  · rw [if_pos c1, rightM_no (fun h => by have := h.n1; omega)]; simp [partitaref05_Right.j0]
  rw [if_neg c1]
  by_cases c2 : n > 32
  · rw [rightM_no (fun h => by have := h.n2; omega)]; simp [partitaref05_Right.j0, c2]
  rw [partitaref05_Right.j0, if_neg (by simpa using c2)]
  obtain ⟨e1, e2⟩ := refRight_l0 n d l k
  by_cases c3 : d = 1 ∨ d = 2 ∨ d = 4 ∨ d = 8 ∨ d = 16 ∨ d = 32 ∨ d = 64
  · rw [e1 c3]
    have := refRight_l1 hl n d l.length k 0 0 (by omega) (by omega) (by omega) (by omega)
    rw [List.drop_zero] at this
    rw [show ((0 : Nat) : Int) = 0 from rfl] at this
    rw [this]
    congr 1
    rw [Bool.eq_iff_iff, okR_iff]
    constructor
    · rintro ⟨h1, h2⟩
      refine GM.right ⟨by omega, by omega, c3, h1, ?_⟩
      rcases h2 with h2 | h2
      · left; simpa using h2
      · right; omega
    · intro h
      have g := gm_of h
      refine ⟨g.pos, ?_⟩
      rcases g.sum with h2 | h2
      · left; simp [h2]
      · right; omega
  · rw [e2 c3, rightM_no (fun h => c3 h.d1)]
/-! same -/
theorem equalL_l0 {a b : List Int} (h : a.length = b.length) (hl : a.length ≤ 17592186044416) : ∀ (m k i : Nat), i + m = a.length → m + 1 ≤ k → slices_Equal_int_int.l0 k a b (a.length : Int) i = some (decide (a.drop i = b.drop i)) := by
  intro m
  induction m with
  | zero =>
    intro k i hi hk
    obtain ⟨k, rfl⟩ : ∃ j, k = j + 1 := ⟨k - 1, by omega⟩
    rw [slices_Equal_int_int.l0, if_neg (by omega), List.drop_of_length_le (by omega), List.drop_of_length_le (by omega)]; rfl
  | succ m ih =>
    intro k i hi hk
    obtain ⟨k, rfl⟩ : ∃ j, k = j + 1 := ⟨k - 1, by omega⟩
    rw [slices_Equal_int_int.l0, if_pos (by omega), if_pos (by omega), if_pos (by omega), if_pos (by omega), rd_drop (l := a) (by omega), rd_drop (l := b) (by omega)]
    by_cases c : rd a i = rd b i
    · rw [if_pos c, wrap64_id (n := (i : Int) + 1) (by unfold i64; omega)]
      rw [show ((i : Int) + 1) = ((i + 1 : Nat) : Int) by omega, ih k (i + 1) (by omega) (by omega), c]
      simp
    · rw [if_neg c]
      congr 1
      symm; rw [decide_eq_false_iff_not]
      intro e
      exact c (List.cons.inj e).1
theorem sameR_l0 {a b : List Int} (h : a.length = b.length) (hl : a.length ≤ 17592186044416) (n d n' d' : Int) : ∀ (m k i : Nat), i + m = a.length → m + 1 ≤ k → partitaref05_Same.l0 k i n d a n' d' b = some (decide (a.drop i = b.drop i)) := by
  intro m
  induction m with
  | zero =>
    intro k i hi hk
    obtain ⟨k, rfl⟩ : ∃ j, k = j + 1 := ⟨k - 1, by omega⟩
    rw [partitaref05_Same.l0, if_neg (by omega), List.drop_of_length_le (by omega), List.drop_of_length_le (by omega)]; rfl
  | succ m ih =>
    intro k i hi hk
    obtain ⟨k, rfl⟩ : ∃ j, k = j + 1 := ⟨k - 1, by omega⟩
    rw [partitaref05_Same.l0, if_pos (by omega), if_pos (by omega), if_pos (by omega), rd_drop (l := a) (by omega), rd_drop (l := b) (by omega)]
    by_cases c : rd a i = rd b i
    · rw [if_pos c, wrap64_id (n := (i : Int) + 1) (by unfold i64; omega)]
      rw [show ((i : Int) + 1) = ((i + 1 : Nat) : Int) by omega, ih k (i + 1) (by omega) (by omega), c]
      simp
    · rw [if_neg c]
      congr 1
      symm; rw [decide_eq_false_iff_not]
      intro e
      exact c (List.cons.inj e).1
theorem refSame_f (n d : Int) (a : List Int) (n' d' : Int) (b : List Int) (hl : a.length ≤ 17592186044416) {k : Nat} (hk : a.length + 3 ≤ k) : partitaref05_Same.f k n d a n' d' b = some (decide (n = n' ∧ d = d' ∧ a = b)) := by
  obtain ⟨k, rfl⟩ : ∃ j, k = j + 1 := ⟨k - 1, by omega⟩
  unfold partitaref05_Same.f
  by_cases c1 : n = n'
  · rw [if_pos c1]
    by_cases c2 : d = d'
    · rw [if_pos c2, partitaref05_Same.j0]
      by_cases c3 : a.length = b.length
      · rw [if_neg (by simp [c3])]
        have := sameR_l0 c3 hl n d n' d' a.length k 0 (by omega) (by omega)
        rw [List.drop_zero, List.drop_zero] at this
        rw [show (0 : Int) = ((0 : Nat) : Int) from rfl, this]
        simp [c1, c2]
      · rw [if_pos (by simp; omega)]
        congr 1; symm; rw [decide_eq_false_iff_not]
        rintro ⟨_, _, h⟩; exact c3 (by rw [h])
    · rw [if_neg c2, partitaref05_Same.j0]; simp [c2]
  · rw [if_neg c1, partitaref05_Same.j0]; simp [c1]
theorem sameL_f (n d : Int) (a : List Int) (n' d' : Int) (b : List Int) (hl : a.length ≤ 17592186044416) {k : Nat} (hk : a.length + 3 ≤ k) : meter_Same.f k n d a n' d' b = some (decide (n = n' ∧ d = d' ∧ a = b)) := by
  have he : slices_Equal_int_int.f k a b = some (decide (a = b)) := by
    unfold slices_Equal_int_int.f
    by_cases c3 : a.length = b.length
    · rw [if_pos (by omega)]
      have := equalL_l0 c3 hl a.length k 0 (by omega) (by omega)
      rw [List.drop_zero, List.drop_zero] at this
      exact this
    · rw [if_neg (by omega)]
      congr 1; symm; rw [decide_eq_false_iff_not]
      intro h; exact c3 (by rw [h])
  unfold meter_Same.f
  by_cases c1 : n = n'
  · rw [if_pos c1]
    by_cases c2 : d = d'
    · rw [if_pos c2, he]; simp [c1, c2]
    · rw [if_neg c2]; simp [c2]
  · rw [if_neg c1]; simp [c1]
end Go.Proofs.Ytbncdlnnjhadgaa.Q
