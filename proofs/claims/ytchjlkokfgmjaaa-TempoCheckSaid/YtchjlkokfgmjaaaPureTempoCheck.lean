/- TempoCheck: the plain law. No conditions. -/
import Derived.Test.YtchjlkokfgmjaaaTP5
import Derived.Test.YtchjlkokfgmjaaaQ16
namespace Go.Proofs.Ytchjlkokfgmjaaa.Pure
open Go.RowKit Go.Proofs.Ytchjlkokfgmjaaa.Q Go.Proofs.YtchjlkokfgmjaaaW.PrintWords Go.Proofs.YtchjlkokfgmjaaaW.PrintMore
set_option linter.unusedVariables false
theorem rd_take {l : List S36} {n : Nat} {i : Int} (h0 : 0 ≤ i) (h : i < n) : rd_T36 (l.take n) i = rd_T36 l i := by
  unfold rd_T36
  rw [List.getD_eq_getElem?_getD, List.getD_eq_getElem?_getD, List.getElem?_take_of_lt (by omega)]
theorem bad_take {l : List S36} {n i : Nat} (h : i < n) : badT (l.take n) i = badT l i := by
  unfold badT
  rw [rd_take (by omega) (by omega)]
  by_cases h0 : 0 < i
  · rw [rd_take (by omega) (by omega)]
  · rw [decide_eq_false h0]; simp
theorem chk_first {l : List S36} : ∀ (n i j : Nat), i ≤ j → j < i + n → (∀ q, i ≤ q → q < j → badT l q = false) → badT l j = true → chkT l n i = ((j : Int), 110) := by
  intro n
  induction n with
  | zero => intro i j h1 h2; omega
  | succ n ih =>
    intro i j h1 h2 h3 h4
    simp only [chkT]
    by_cases e : i = j
    · subst e; rw [if_pos h4]
    · rw [h3 i (Nat.le_refl _) (by omega), if_neg (by decide)]
      exact ih (i + 1) j (by omega) (by omega) (fun q a b => h3 q (by omega) b) h4
theorem first_bad (l : List S36) : ∀ n, (∀ q, q < n → badT l q = false) ∨ ∃ j, j < n ∧ badT l j = true ∧ ∀ q, q < j → badT l q = false := by
  intro n
  induction n with
  | zero => left; intro q h; omega
  | succ n ih =>
    rcases ih with h | ⟨j, h1, h2, h3⟩
    · by_cases hb : badT l n = true
      · exact .inr ⟨n, by omega, hb, h⟩
      · left
        intro q hq
        by_cases e : q = n
        · subst e; exact Bool.eq_false_iff.mpr hb
        · exact h q (by omega)
    · exact .inr ⟨j, by omega, h2, h3⟩
theorem good_any {y : List S36} (hy : y.length ≤ 30) : goodB y = true := by
  have hT : ∀ i, tempo_Check.f 40 (y.take i) = some (chkT (y.take i) (y.take i).length 0) := fun i => check_f (by rw [List.length_take]; omega) (by rw [List.length_take]; omega)
  unfold goodB
  rw [check_f (by omega) (by omega)]
  rcases first_bad y y.length with h | ⟨j, h1, h2, h3⟩
  · rw [chk_good y y.length 0 (fun q _ hq => h q (by omega))]
    simp only [Bool.or_eq_true, Bool.and_eq_true, beq_self_eq_true, true_and, List.all_eq_true, List.mem_range]
    left
    intro i hi
    rw [hT i, chk_good]
    · rfl
    · intro q _ hq
      rw [List.length_take] at hq
      rw [bad_take (by omega)]
      exact h q (by omega)
  · rw [chk_first y.length 0 j (by omega) (by omega) (fun q _ hq => h3 q hq) h2]
    simp only [Bool.or_eq_true, Bool.and_eq_true, beq_self_eq_true, true_and, List.all_eq_true, List.mem_range]
    right
    refine ⟨decide_eq_true (by omega), decide_eq_true (by omega), fun i hi => ?_⟩
    rw [hT i]
    by_cases hji : j < i
    · rw [chk_first (y.take i).length 0 j (by omega) (by rw [List.length_take]; omega) (fun q _ hq => by rw [bad_take (by omega)]; exact h3 q hq) (by rw [bad_take hji]; exact h2)]
      simp only
      rw [if_pos (by omega)]
      simp
    · rw [chk_good]
      · simp only
        rw [if_neg (by omega)]
        rfl
      · intro q _ hq
        rw [List.length_take] at hq
        rw [bad_take (by omega)]
        exact h3 q (by omega)
theorem TempoCheck : ∀ (l0 : List (S36)) (l1 : List (S36)) (a2 : Int) (x3 : S36), (l0.length * 32 ≤ 140737488351232 ∧ ∀ y ∈ l0, wf36 y) → (l1.length * 32 ≤ 140737488351232 ∧ ∀ y ∈ l1, wf36 y) → ((Lit.int .i64 a2).wf = true) → (wf36 x3) → ∃ k, partitalaw11_TempoCheck.f k l0 l1 a2 x3.f0.f0 x3.f0.f1 x3.f1 x3.f2 = some true := by
  intro l0 l1 a x h0 h1 ha hx
  obtain ⟨G, hG, hlen, hM⟩ := map_f h1 (k := 100) (by omega)
  have hL : (toL G).length = G.length := toL_length G
  have hi := i64_of ha
  obtain ⟨q, hq, q0, q1⟩ := pick_f hi (n := (G.length : Int) + 1) (by omega) (by omega)
  refine ⟨100, ?_⟩
  unfold partitalaw11_TempoCheck.f
  rw [if_pos ⟨by omega, good_any (by rw [List.length_take]; omega)⟩, hM, Option.bind_some, hL, wrap64_id (n := (G.length : Int) + 1) (by unfold i64; omega), hq, Option.bind_some, if_pos ⟨good_any (by simp [hL]; omega), good_any (by rw [hL]; omega)⟩]
  unfold tcG.f
  rw [awake_f, Option.bind_some, hM, Option.bind_some, hL, wrap64_id (n := (G.length : Int) + 1) (by unfold i64; omega), hq, Option.bind_some, if_pos q0, if_pos (by omega), Option.bind_some, if_pos (by simp [hL]; omega), Option.bind_some, Option.bind_some, if_pos (by simp [hL]; omega)]
  rw [if_pos (by simp [hL]; omega)]
end Go.Proofs.Ytchjlkokfgmjaaa.Pure
