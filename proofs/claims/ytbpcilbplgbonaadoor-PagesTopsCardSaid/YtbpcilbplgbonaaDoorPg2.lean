/- Pages, plainly: when lines are right, the best ways, the pages. -/
import Derived.Test.YtbpcilbplgbonaaDoorLaid
import Derived.Test.YtbpcilbplgbonaaDoorQ3
namespace Go.Proofs.YtbpcilbplgbonaaDoor.Q
open Go.RowKit Go.Proofs.YtbpcilbplgbonaaDoorW.PrintWords
set_option linter.unusedVariables false
def inB (lo hi : Int) (l : List Int) : Bool := l.all fun n => decide (lo ≤ n) && decide (n ≤ hi)
theorem isFrom_l0 (lo hi : Int) (l : List Int) (hl : l.length ≤ 9000000) : ∀ (d k i : Nat), l.length = i + d → d + 1 ≤ k → pages_isFrom.l0 k lo hi l (l.length : Int) i = some (inB lo hi (l.drop i))
  | d, 0, i, _, h => absurd h (by omega)
  | 0, k + 1, i, h, _ => by
    simp only [pages_isFrom.l0]
    rw [if_neg (by omega), List.drop_eq_nil_of_le (by omega)]; rfl
  | d + 1, k + 1, i, h, hk => by
    simp only [pages_isFrom.l0]
    have hi' : i < l.length := by omega
    rw [if_pos (by omega), if_pos (by omega), if_pos (by omega)]
    have ew : wrap64 ((i : Int) + 1) = ((i + 1 : Nat) : Int) := by unfold wrap64; omega
    rw [rd_get hi', ew, isFrom_l0 lo hi l hl d k (i + 1) (by omega) (by omega), List.drop_eq_getElem_cons hi']
    unfold inB
    rw [List.all_cons]
    by_cases h1 : l[i] < lo
    · rw [if_pos h1]; simp; omega
    · rw [if_neg h1]
      by_cases h2 : l[i] > hi
      · rw [if_pos h2]; simp; omega
      · rw [if_neg h2]; congr 1; simp; omega
theorem isFrom_f (lo hi : Int) (l : List Int) (k : Nat) (hl : l.length ≤ 9000000) (hk : l.length + 1 ≤ k) : pages_isFrom.f k lo hi l = some (inB lo hi l) := by
  unfold pages_isFrom.f
  have := isFrom_l0 lo hi l hl l.length k 0 (by omega) hk
  simpa using this
/-- What is wrong with lines. -/
def chkP (hs : List Int) (page gap : Int) : Option Int :=
  if hs.length > 100 then some 2 else if inB 1 100000 [page] = false then some 2 else if inB 0 100000 [gap] = false then some 2 else if inB 1 100000 hs = false then some 2 else if inB 1 page hs = false then some 260 else none
theorem check_f (hs : List Int) (page gap : Int) (k : Nat) (hk : 105 ≤ k) : pages_lines_check.f k hs page gap = some (chkP hs page gap) := by
  obtain ⟨k, rfl⟩ : ∃ k', k = k' + 1 := ⟨k - 1, by omega⟩
  unfold pages_lines_check.f chkP
  by_cases c1 : hs.length > 100
  · rw [if_pos (by omega), if_pos c1]; simp only [pages_lines_check.j0]; rw [if_pos trivial]
  rw [if_neg (by omega), if_neg c1, isFrom_f _ _ [page] _ (by simp) (by simp; omega), Option.bind_some]
  by_cases c2 : inB 1 100000 [page] = true
  · rw [if_pos c2, if_neg (by simp [c2]), isFrom_f _ _ [gap] _ (by simp) (by simp; omega), Option.bind_some]
    by_cases c3 : inB 0 100000 [gap] = true
    · rw [if_pos c3, if_neg (by simp [c3]), isFrom_f _ _ hs _ (by omega) (by omega), Option.bind_some]
      by_cases c4 : inB 1 100000 hs = true
      · rw [c4, if_neg (by simp)]
        simp only [pages_lines_check.j0]
        rw [if_neg (by simp), isFrom_f _ _ hs _ (by omega) (by omega), Option.bind_some]
        by_cases c5 : inB 1 page hs = true
        · rw [if_pos c5, if_neg (by simp [c5])]
        · rw [if_neg c5, if_pos (by simpa using c5)]
      · have c4' : inB 1 100000 hs = false := by simpa using c4
        rw [c4', if_pos rfl]
        simp only [pages_lines_check.j0]; rw [if_pos (by rfl)]
    · rw [if_neg c3, if_pos (by simpa using c3)]; simp only [pages_lines_check.j0]; rw [if_pos trivial]
  · rw [if_neg c2, if_pos (by simpa using c2)]; simp only [pages_lines_check.j0]; rw [if_pos trivial]
theorem inB_iff {lo hi : Int} {l : List Int} : inB lo hi l = true ↔ ∀ x ∈ l, lo ≤ x ∧ x ≤ hi := by
  unfold inB; rw [List.all_eq_true]; simp
theorem lns_of {hs : List Int} {page gap : Int} (h : chkP hs page gap ≠ some 2) : Lns hs page gap := by
  unfold chkP at h
  split at h
  · exact absurd rfl h
  rename_i c1
  split at h
  · exact absurd rfl h
  rename_i c2
  split at h
  · exact absurd rfl h
  rename_i c3
  split at h
  · exact absurd rfl h
  rename_i c4
  have h2 := inB_iff.1 (by simpa using c2) page (List.mem_singleton.2 rfl)
  have h3 := inB_iff.1 (by simpa using c3) gap (List.mem_singleton.2 rfl)
  have h4 := inB_iff.1 (by simpa using c4)
  exact ⟨by omega, h2.1, h2.2, h3.1, h3.2, h4⟩
theorem fit_of {hs : List Int} {page gap : Int} (h : chkP hs page gap = none) : Lns hs page gap ∧ ∀ x ∈ hs, x ≤ page := by
  refine ⟨lns_of (by rw [h]; simp), ?_⟩
  unfold chkP at h
  repeat' split at h
  all_goals first | (cases h; done) | skip
  rename_i c5
  have := inB_iff.1 (by simpa using c5)
  exact fun x hx => (this x hx).2
theorem chkP_some {hs : List Int} {page gap : Int} {c : Int} (h : chkP hs page gap = some c) : c = 2 ∨ c = 260 := by
  unfold chkP at h
  repeat' split at h
  all_goals first | (cases h; done) | (have := Option.some.inj h; omega)
theorem mP_pos {hs : List Int} {page gap : Int} (L : Lns hs page gap) (F : ∀ x ∈ hs, x ≤ page) {a : Nat} (ha : a < hs.length) : 1 ≤ mP hs page gap a := by
  obtain ⟨h1, h2, h3⟩ := mP_spec hs page gap a
  rcases Nat.lt_or_ge 0 (mP hs page gap a) with h | h
  · exact h
  · have e : mP hs page gap a = 0 := by omega
    rw [e] at h3
    have := h3 (by omega)
    rw [Nat.add_zero, restI_step hs page gap a a (Nat.le_refl _) ha, restI_self] at this
    have := F _ (List.getElem_mem ha)
    omega
theorem bestP_mem (n : Int) (g : Nat → W3) (l : List (Int × Int)) (h : ∀ x ∈ l, x.1 ≠ 0) (hne : l ≠ []) : ∃ x ∈ l, (bestP n g l).1 = x.1 ∧ (bestP n g l).2.1 = x.2 := by
  obtain ⟨m, hm⟩ : ∃ m, m = l.reverse := ⟨_, rfl⟩
  have hl : l = m.reverse := by rw [hm, List.reverse_reverse]
  clear hm
  subst hl
  induction m with
  | nil => exact absurd rfl hne
  | cons x m ih =>
    rw [List.reverse_cons, bestP_snoc]
    unfold stepP
    split
    · exact ⟨x, by simp, rfl, rfl⟩
    · rename_i c
      have hne' : m.reverse ≠ [] := by
        intro e
        rw [e] at c
        exact c (.inl rfl)
      obtain ⟨y, hy, r⟩ := ih (fun z hz => h z (by rw [List.reverse_cons]; exact List.mem_append_left _ hz)) hne'
      exact ⟨y, List.mem_append_left _ hy, r⟩
theorem partsI_mem {hs : List Int} {page gap : Int} {a : Nat} {x : Int × Int} (h : x ∈ partsI hs page gap a) : ∃ j, j < mP hs page gap a ∧ x = itP hs page gap a j := by
  unfold partsI at h
  obtain ⟨j, hj, e⟩ := List.mem_map.1 h
  exact ⟨j, List.mem_range.1 hj, e.symm⟩
theorem tabP_zero (hs : List Int) (page gap : Int) : ∀ (j i : Nat), i + j < hs.length → tabP hs page gap j i = (0, 0, 0)
  | 0, _, _ => rfl
  | j + 1, i, h => by
    show updW (tabP hs page gap j) (hs.length - 1 - j) _ i = _
    unfold updW; rw [if_neg (by omega)]
    exact tabP_zero hs page gap j i (by omega)
theorem tabP_at (hs : List Int) (page gap : Int) : ∀ (j a : Nat), j ≤ hs.length → hs.length - j ≤ a → a < hs.length → tabP hs page gap j a = bestP hs.length (tabP hs page gap (hs.length - 1 - a)) (partsI hs page gap a)
  | 0, a, _, h1, h2 => absurd h2 (by omega)
  | j + 1, a, hj, h1, h2 => by
    show updW (tabP hs page gap j) (hs.length - 1 - j) (bestP hs.length (tabP hs page gap j) (partsI hs page gap (hs.length - 1 - j))) a = _
    unfold updW
    by_cases c : a = hs.length - 1 - j
    · rw [if_pos c]
      have e : hs.length - 1 - a = j := by omega
      rw [e, ← c]
    · rw [if_neg c]
      exact tabP_at hs page gap j a (by omega) (by omega) h2
/-- A way's first part ends behind where it begins. -/
theorem tabP_to {hs : List Int} {page gap : Int} (L : Lns hs page gap) (F : ∀ x ∈ hs, x ≤ page) {a : Nat} (ha : a < hs.length) : ∃ b : Nat, (tabP hs page gap hs.length a).1 = b ∧ a < b ∧ b ≤ hs.length ∧ 0 ≤ (tabP hs page gap hs.length a).2.1 ∧ (tabP hs page gap hs.length a).2.1 ≤ 200000 := by
  rw [tabP_at hs page gap hs.length a (Nat.le_refl _) (by omega) ha]
  have hne : partsI hs page gap a ≠ [] := by
    intro e
    have := congrArg List.length e
    unfold partsI at this
    have h1 := mP_pos L F ha
    simp at this
    omega
  obtain ⟨x, hx, h1, h2⟩ := bestP_mem hs.length (tabP hs page gap (hs.length - 1 - a)) (partsI hs page gap a) (fun x hx => by obtain ⟨j, _, rfl⟩ := partsI_mem hx; show (a : Int) + j + 1 ≠ 0; omega) hne
  obtain ⟨j, hj, rfl⟩ := partsI_mem hx
  have hm := mP_spec hs page gap a
  have hr := restI_range L (a := a) (j + 1) (by omega)
  have h0 := hm.2.1 j hj
  rw [h1, h2]
  rw [← Nat.add_assoc] at hr
  refine ⟨a + j + 1, by show (a : Int) + j + 1 = _; omega, by omega, by omega, h0, ?_⟩
  show restI hs page gap a (a + j + 1) ≤ 200000
  have := L.page2
  have := L.gap2
  omega
/-- The page from a line on, by the ways. -/
def pageP (hs : List Int) (gap : Int) (g : Nat → W3) (a : Nat) : S37 := ⟨(a : Int), (g a).1, topsI hs gap a (lrest hs (g a).1.toNat (g a).2.1) ((g a).1 - a - 1) ((g a).1.toNat - a)⟩
def outP (hs : List Int) (gap : Int) (g : Nat → W3) : Nat → Nat → List S37
  | 0, _ => []
  | d + 1, a => if a < hs.length then pageP hs gap g a :: outP hs gap g d (g a).1.toNat else []
def breakP (hs : List Int) (page gap : Int) : List S37 × Int := match chkP hs page gap with
  | none => (outP hs gap (tabP hs page gap hs.length) hs.length 0, 0)
  | some c => ([], c)
end Go.Proofs.YtbpcilbplgbonaaDoor.Q
