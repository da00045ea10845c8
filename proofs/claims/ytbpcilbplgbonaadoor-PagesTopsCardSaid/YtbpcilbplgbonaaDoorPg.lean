/- Pages, plainly: what is left of a page, which parts may stand on one, the best ways. No program in sight. -/
import Derived.Test.YtbpcilbplgbonaaDoorBlk
import Derived.Test.YtbpcilbplgbonaaDoorKinds
namespace Go.Proofs.YtbpcilbplgbonaaDoor.Q
open Go.RowKit
set_option linter.unusedVariables false
theorem w64_id {n : Int} (h : -9223372036854775808 ≤ n ∧ n ≤ 9223372036854775807) : wrap64 n = n := by unfold wrap64; omega
def sumF (l : List Int) (a b : Nat) : Int := ((l.take b).drop a).sum
theorem sumF_self (l : List Int) (a : Nat) : sumF l a a = 0 := by unfold sumF; rw [List.drop_eq_nil_of_le (by rw [List.length_take]; omega)]; rfl
theorem sumF_step (l : List Int) (a b : Nat) (hab : a ≤ b) (h : b < l.length) : sumF l a (b + 1) = sumF l a b + l[b] := by
  unfold sumF
  rw [List.take_add_one, List.getElem?_eq_getElem h, List.drop_append_of_le_length (by rw [List.length_take]; omega), List.sum_append]
  simp
/-- What is left of a page with the lines from one up to another. -/
def restI (hs : List Int) (page gap : Int) (a b : Nat) : Int := page + gap - sumF (hs.map (· + gap)) a b
theorem restI_self (hs : List Int) (page gap : Int) (a : Nat) : restI hs page gap a a = page + gap := by unfold restI; rw [sumF_self]; omega
theorem restI_step (hs : List Int) (page gap : Int) (a b : Nat) (hab : a ≤ b) (h : b < hs.length) : restI hs page gap a (b + 1) = restI hs page gap a b - (hs[b] + gap) := by
  unfold restI; rw [sumF_step _ a b hab (by rw [List.length_map]; exact h), List.getElem_map]; omega
def runN (p : Nat → Bool) : Nat → Nat → Nat
  | 0, _ => 0
  | d + 1, k => if p k = true then Q.runN p d (k + 1) + 1 else 0
theorem runN_spec (p : Nat → Bool) : ∀ d k, Q.runN p d k ≤ d ∧ (∀ j, j < Q.runN p d k → p (k + j) = true) ∧ (Q.runN p d k < d → p (k + Q.runN p d k) = false)
  | 0, k => ⟨Nat.le_refl _, fun j h => absurd h (by simp [Q.runN]), fun h => absurd h (by simp [Q.runN])⟩
  | d + 1, k => by
    obtain ⟨h1, h2, h3⟩ := runN_spec p d (k + 1)
    unfold Q.runN
    by_cases c : p k = true
    · rw [if_pos c]
      refine ⟨by omega, fun j hj => ?_, fun h => ?_⟩
      · rcases j with _ | j
        · exact c
        · have := h2 j (by omega); rwa [show k + 1 + j = k + (j + 1) by omega] at this
      · have := h3 (by omega); rwa [show k + 1 + Q.runN p d (k + 1) = k + (Q.runN p d (k + 1) + 1) by omega] at this
    · rw [if_neg c]
      exact ⟨by omega, fun j hj => absurd hj (by omega), fun _ => by simpa using c⟩
/-- How many parts that begin at a line fit. -/
def mP (hs : List Int) (page gap : Int) (a : Nat) : Nat := Q.runN (fun k => decide (0 ≤ restI hs page gap a (a + k + 1))) (hs.length - a) 0
theorem mP_spec (hs : List Int) (page gap : Int) (a : Nat) : mP hs page gap a ≤ hs.length - a ∧ (∀ k, k < mP hs page gap a → 0 ≤ restI hs page gap a (a + k + 1)) ∧ (mP hs page gap a < hs.length - a → restI hs page gap a (a + mP hs page gap a + 1) < 0) := by
  have := runN_spec (fun k => decide (0 ≤ restI hs page gap a (a + k + 1))) (hs.length - a) 0
  simp only [Nat.zero_add] at this
  refine ⟨this.1, fun k hk => by simpa using this.2.1 k hk, fun h => ?_⟩
  have := this.2.2 h
  simp at this
  exact this
def itP (hs : List Int) (page gap : Int) (a j : Nat) : Int × Int := ((a : Int) + j + 1, restI hs page gap a (a + j + 1))
def partsI (hs : List Int) (page gap : Int) (a : Nat) : List (Int × Int) := (List.range (mP hs page gap a)).map (itP hs page gap a)
/-- What a part costs. -/
def costP (n : Int) (p : Int × Int) : Int := if p.1 = n then 0 else wrap64 (p.2 * p.2)
def stepP (n : Int) (g : Nat → W3) (out : W3) (p : Int × Int) : W3 :=
  if out = (0, 0, 0) ∨ wrap64 (costP n p + (g p.1.toNat).2.2) ≤ out.2.2 then (p.1, p.2, wrap64 (costP n p + (g p.1.toNat).2.2)) else out
def bestP (n : Int) (g : Nat → W3) (l : List (Int × Int)) : W3 := l.foldl (stepP n g) (0, 0, 0)
theorem bestP_snoc (n : Int) (g : Nat → W3) (l : List (Int × Int)) (x : Int × Int) : bestP n g (l ++ [x]) = stepP n g (bestP n g l) x := by unfold bestP; rw [List.foldl_append]; rfl
def tabP (hs : List Int) (page gap : Int) : Nat → Nat → W3
  | 0 => fun _ => (0, 0, 0)
  | j + 1 => updW (tabP hs page gap j) (hs.length - 1 - j) (bestP hs.length (tabP hs page gap j) (partsI hs page gap (hs.length - 1 - j)))
end Go.Proofs.YtbpcilbplgbonaaDoor.Q
