/- The best ways, plainly: which part is taken, what the ways behind it cost. No conditions. -/
import Derived.Test.YtbpcilbplgbonaaDoorPg2
import Derived.Test.YtbpcilbplgbonaaDoorFind
namespace Go.Proofs.YtbpcilbplgbonaaDoor.Pure
open Go.RowKit Go.Proofs.YtbpcilbplgbonaaDoor.Q Go.Proofs.YtbpcilbplgbonaaDoorW.PrintWords Go.Proofs.YtbpcilbplgbonaaDoorW.PrintMore
set_option linter.unusedVariables false
theorem mono_ge {α : Type} {f : Nat → Option α} (h : ∀ k, LeO (f k) (f (k + 1))) {k m : Nat} {r : α} (hk : f k = some r) (hm : k ≤ m) : f m = some r := by
  obtain ⟨d, rfl⟩ : ∃ d, m = k + d := ⟨m - k, by omega⟩
  clear hm
  induction d with
  | zero => exact hk
  | succ d ih => exact h _ _ ih
theorem w64 {n : Int} (h : -9223372036854775808 ≤ n ∧ n ≤ 9223372036854775807) : wrap64 n = n := by unfold wrap64; omega
def vv (n : Int) (g : Nat → W3) (x : Int × Int) : Int := wrap64 (costP n x + (g x.1.toNat).2.2)
theorem bestP_spec (n : Int) (g : Nat → W3) (l : List (Int × Int)) (h : ∀ x ∈ l, x.1 ≠ 0) (hne : l ≠ []) : ∃ l1 x l2, l = l1 ++ x :: l2 ∧ bestP n g l = (x.1, x.2, vv n g x) ∧ (∀ y ∈ l1, vv n g x ≤ vv n g y) ∧ (∀ y ∈ l2, vv n g x < vv n g y) := by
  obtain ⟨m, hm⟩ : ∃ m, m = l.reverse := ⟨_, rfl⟩
  have hl : l = m.reverse := by rw [hm, List.reverse_reverse]
  clear hm
  subst hl
  induction m with
  | nil => exact absurd rfl hne
  | cons y m ih =>
    rw [List.reverse_cons] at h ⊢
    rw [bestP_snoc]
    unfold stepP
    by_cases hm : m.reverse = []
    · rw [hm]
      exact ⟨[], y, [], rfl, by simp [bestP, vv], by simp, by simp⟩
    obtain ⟨l1, x, l2, e, hb, h1, h2⟩ := ih (fun z hz => h z (List.mem_append_left _ hz)) hm
    have hx : x.1 ≠ 0 := h x (by rw [e]; simp)
    rw [hb]
    by_cases c : vv n g y ≤ vv n g x
    · rw [if_pos (.inr c)]
      refine ⟨m.reverse, y, [], rfl, rfl, ?_, by simp⟩
      intro z hz
      rw [e] at hz
      rcases List.mem_append.1 hz with hz | hz
      · have := h1 z hz; omega
      · rcases List.mem_cons.1 hz with rfl | hz
        · exact c
        · have := h2 z hz; omega
    · rw [if_neg (by rintro (c1 | c1); exact hx (congrArg Prod.fst c1); exact c c1)]
      refine ⟨l1, x, l2 ++ [y], by rw [e]; simp, rfl, h1, ?_⟩
      intro z hz
      rcases List.mem_append.1 hz with hz | hz
      · exact h2 z hz
      · rw [List.mem_singleton.1 hz]; omega
theorem bestP_congr {n : Int} {g g' : Nat → W3} : ∀ (l : List (Int × Int)), (∀ x ∈ l, g x.1.toNat = g' x.1.toNat) → bestP n g l = bestP n g' l := by
  intro l
  obtain ⟨m, hm⟩ : ∃ m, m = l.reverse := ⟨_, rfl⟩
  have hl : l = m.reverse := by rw [hm, List.reverse_reverse]
  clear hm
  subst hl
  induction m with
  | nil => intro _; rfl
  | cons y m ih =>
    intro h
    rw [List.reverse_cons] at h ⊢
    rw [bestP_snoc, bestP_snoc, ih (fun z hz => h z (List.mem_append_left _ hz))]
    unfold stepP
    rw [h y (by simp)]
theorem tabP_out (hs : List Int) (page gap : Int) : ∀ (j b : Nat), hs.length ≤ b → 1 ≤ hs.length → tabP hs page gap j b = (0, 0, 0)
  | 0, _, _, _ => rfl
  | j + 1, b, h, h1 => by
    show updW (tabP hs page gap j) (hs.length - 1 - j) _ b = _
    unfold updW; rw [if_neg (by omega)]
    exact tabP_out hs page gap j b h h1
theorem tabP_same (hs : List Int) (page gap : Int) (j b : Nat) (hj : j ≤ hs.length) (hb : hs.length - j ≤ b) (h1 : 1 ≤ hs.length) : tabP hs page gap j b = tabP hs page gap hs.length b := by
  rcases Nat.lt_or_ge b hs.length with h | h
  · rw [tabP_at hs page gap j b hj hb h, tabP_at hs page gap hs.length b (Nat.le_refl _) (by omega) h]
  · rw [tabP_out _ _ _ _ _ h h1, tabP_out _ _ _ _ _ h h1]
/-- The ways, in terms of those behind. -/
theorem tab_rec (hs : List Int) (page gap : Int) {a : Nat} (ha : a < hs.length) : tabP hs page gap hs.length a = bestP hs.length (tabP hs page gap hs.length) (partsI hs page gap a) := by
  rw [tabP_at hs page gap hs.length a (Nat.le_refl _) (by omega) ha]
  apply bestP_congr
  intro x hx
  obtain ⟨j, hj, rfl⟩ := partsI_mem hx
  have e : (itP hs page gap a j).1.toNat = a + j + 1 := by show ((a : Int) + j + 1).toNat = _; omega
  rw [e]
  exact tabP_same hs page gap (hs.length - 1 - a) (a + j + 1) (by omega) (by omega) (by omega)
/-- What a part costs. -/
def cst (hs : List Int) (page gap : Int) (a b : Nat) : Int := if b = hs.length then 0 else restI hs page gap a b * restI hs page gap a b
/-- What the way from a line on costs. -/
def totP (hs : List Int) (page gap : Int) (a : Nat) : Int := (tabP hs page gap hs.length a).2.2
def val (hs : List Int) (page gap : Int) (a j : Nat) : Int := cst hs page gap a (a + j + 1) + totP hs page gap (a + j + 1)
theorem sq_le {r n : Int} (h0 : 0 ≤ r) (h1 : r ≤ n) : 0 ≤ r * r ∧ r * r ≤ n * n := ⟨Int.mul_nonneg h0 h0, Int.mul_le_mul h1 h1 h0 (by omega)⟩
/-- Which parts may stand on a page. -/
theorem fit_lt {hs : List Int} {page gap : Int} (L : Lns hs page gap) {a j : Nat} (hb : a + j + 1 ≤ hs.length) : j < mP hs page gap a ↔ 0 ≤ restI hs page gap a (a + j + 1) := by
  obtain ⟨h1, h2, h3⟩ := mP_spec hs page gap a
  constructor
  · intro h; exact h2 j h
  · intro h
    rcases Nat.lt_or_ge j (mP hs page gap a) with h' | h'
    · exact h'
    · have h4 := h3 (by omega)
      have mono : ∀ d : Nat, a + mP hs page gap a + 1 + d ≤ hs.length → restI hs page gap a (a + mP hs page gap a + 1 + d) ≤ restI hs page gap a (a + mP hs page gap a + 1) := by
        intro d
        induction d with
        | zero => intro _; exact Int.le_refl _
        | succ d ih =>
          intro hd
          have := ih (by omega)
          have hlt : a + mP hs page gap a + 1 + d < hs.length := by omega
          rw [← Nat.add_assoc, restI_step hs page gap a _ (by omega) hlt]
          have := L.h _ (List.getElem_mem hlt)
          have := L.gap1
          omega
      have := mono (j - mP hs page gap a) (by omega)
      rw [show a + mP hs page gap a + 1 + (j - mP hs page gap a) = a + j + 1 by omega] at this
      omega
theorem rest_fit {hs : List Int} {page gap : Int} (L : Lns hs page gap) {a j : Nat} (hj : j < mP hs page gap a) : a + j + 1 ≤ hs.length ∧ 0 ≤ restI hs page gap a (a + j + 1) ∧ restI hs page gap a (a + j + 1) ≤ page ∧ page ≤ 100000 := by
  obtain ⟨h1, h2, h3⟩ := mP_spec hs page gap a
  have hr := restI_range L (a := a) j (by omega)
  have hlt : a + j < hs.length := by omega
  rw [restI_step hs page gap a (a + j) (by omega) hlt] at *
  have := L.h _ (List.getElem_mem hlt)
  have h4 := h2 j hj
  rw [restI_step hs page gap a (a + j) (by omega) hlt] at h4
  exact ⟨by omega, h4, by omega, L.page2⟩
theorem cst_range {hs : List Int} {page gap : Int} (L : Lns hs page gap) {a j : Nat} (hj : j < mP hs page gap a) : 0 ≤ cst hs page gap a (a + j + 1) ∧ cst hs page gap a (a + j + 1) ≤ 10000000000 := by
  obtain ⟨h1, h2, h3, h4⟩ := rest_fit L hj
  have := sq_le h2 (show restI hs page gap a (a + j + 1) ≤ 100000 by omega)
  unfold cst
  split <;> omega
theorem totP_end (hs : List Int) (page gap : Int) (h : 1 ≤ hs.length) : totP hs page gap hs.length = 0 := by
  unfold totP; rw [tabP_out _ _ _ _ _ (Nat.le_refl _) h]
theorem vv_itP {hs : List Int} {page gap : Int} (L : Lns hs page gap) {a j : Nat} (hj : j < mP hs page gap a) (h : 0 ≤ totP hs page gap (a + j + 1) ∧ totP hs page gap (a + j + 1) ≤ 1000000000000) : vv hs.length (tabP hs page gap hs.length) (itP hs page gap a j) = val hs page gap a j := by
  have e : (itP hs page gap a j).1.toNat = a + j + 1 := by show ((a : Int) + j + 1).toNat = _; omega
  have r := cst_range L hj
  have h2 : costP hs.length (itP hs page gap a j) = cst hs page gap a (a + j + 1) := by
    obtain ⟨h1, h2, h3, h4⟩ := rest_fit L hj
    have := sq_le h2 (show restI hs page gap a (a + j + 1) ≤ 100000 by omega)
    unfold costP cst
    show (if (a : Int) + j + 1 = hs.length then 0 else wrap64 (restI hs page gap a (a + j + 1) * restI hs page gap a (a + j + 1))) = _
    by_cases c : a + j + 1 = hs.length
    · rw [if_pos (by omega), if_pos c]
    · rw [if_neg (by omega), if_neg c, w64 (by omega)]
  unfold vv
  rw [e, h2]
  show wrap64 (cst hs page gap a (a + j + 1) + totP hs page gap (a + j + 1)) = _
  rw [w64 (by omega)]; rfl
theorem range_split {n : Nat} {β : Type} {f : Nat → β} {l1 : List β} {x : β} {l2 : List β} (h : (List.range n).map f = l1 ++ x :: l2) : ∃ j, j < n ∧ x = f j ∧ (∀ i, i < j → f i ∈ l1) ∧ (∀ i, j < i → i < n → f i ∈ l2) := by
  have hn : n = l1.length + (l2.length + 1) := by have := congrArg List.length h; simpa using this
  have hget : ∀ i, i < n → (l1 ++ x :: l2)[i]? = some (f i) := by
    intro i hi
    rw [← h, List.getElem?_map, List.getElem?_range hi]; rfl
  refine ⟨l1.length, by omega, ?_, ?_, ?_⟩
  · have := hget l1.length (by omega)
    rw [List.getElem?_append_right (Nat.le_refl _)] at this
    simpa using this
  · intro i hi
    have := hget i (by omega)
    rw [List.getElem?_append_left hi] at this
    exact List.mem_of_getElem? this
  · intro i hi hin
    have := hget i hin
    rw [List.getElem?_append_right (by omega), show i - l1.length = (i - l1.length - 1) + 1 by omega, List.getElem?_cons_succ] at this
    exact List.mem_of_getElem? this
/-- Which part is taken: the longest one of the best. -/
theorem tab_spec {hs : List Int} {page gap : Int} (L : Lns hs page gap) (F : ∀ x ∈ hs, x ≤ page) : ∀ (d a : Nat), hs.length - a = d → a < hs.length →
    (0 ≤ totP hs page gap a ∧ totP hs page gap a ≤ 10000000000 * ((hs.length : Int) - a)) ∧ ∃ j, j < mP hs page gap a ∧ tabP hs page gap hs.length a = (((a + j + 1 : Nat) : Int), restI hs page gap a (a + j + 1), val hs page gap a j) ∧ ∀ i, i < mP hs page gap a → val hs page gap a j ≤ val hs page gap a i ∧ (j < i → val hs page gap a j < val hs page gap a i) := by
  intro d
  induction d using Nat.strongRecOn with
  | _ d ih =>
    intro a had ha
    have hM := (mP_spec hs page gap a).1
    have hT : ∀ i, i < mP hs page gap a → 0 ≤ totP hs page gap (a + i + 1) ∧ totP hs page gap (a + i + 1) ≤ 10000000000 * ((hs.length : Int) - (a + i + 1 : Nat)) := by
      intro i hi
      rcases Nat.lt_or_ge (a + i + 1) hs.length with h | h
      · exact (ih (hs.length - (a + i + 1)) (by omega) (a + i + 1) rfl h).1
      · have : a + i + 1 = hs.length := by omega
        rw [this, totP_end _ _ _ (by omega)]; omega
    have hlen := L.len
    have hT2 : ∀ i, i < mP hs page gap a → vv hs.length (tabP hs page gap hs.length) (itP hs page gap a i) = val hs page gap a i := fun i hi => vv_itP L hi (by have := hT i hi; omega)
    have hne : partsI hs page gap a ≠ [] := by
      intro e
      have := congrArg List.length e
      unfold partsI at this
      have h1 := mP_pos L F ha
      simp at this
      omega
    obtain ⟨l1, x, l2, e, hb, h1, h2⟩ := bestP_spec hs.length (tabP hs page gap hs.length) (partsI hs page gap a) (fun x hx => by obtain ⟨j, _, rfl⟩ := partsI_mem hx; show (a : Int) + j + 1 ≠ 0; omega) hne
    unfold partsI at e
    obtain ⟨j, hj, rfl, k1, k2⟩ := range_split e
    have ht : tabP hs page gap hs.length a = (((a + j + 1 : Nat) : Int), restI hs page gap a (a + j + 1), val hs page gap a j) := by
      rw [tab_rec hs page gap ha, hb, hT2 j hj]; rfl
    refine ⟨?_, j, hj, ht, fun i hi => ?_⟩
    · have e1 : totP hs page gap a = val hs page gap a j := by unfold totP; rw [ht]
      have r := cst_range L hj
      have t := hT j hj
      rw [e1]; unfold val; omega
    · rcases Nat.lt_trichotomy i j with h | h | h
      · have := h1 _ (k1 i h)
        rw [hT2 i hi, hT2 j hj] at this
        exact ⟨this, fun h' => absurd h' (by omega)⟩
      · subst h; exact ⟨Int.le_refl _, fun h' => absurd h' (by omega)⟩
      · have := h2 _ (k2 i h hi)
        rw [hT2 i hi, hT2 j hj] at this
        exact ⟨by omega, fun _ => this⟩
theorem totP_range {hs : List Int} {page gap : Int} (L : Lns hs page gap) (F : ∀ x ∈ hs, x ≤ page) {a : Nat} (ha : a ≤ hs.length) : 0 ≤ totP hs page gap a ∧ totP hs page gap a ≤ 10000000000 * ((hs.length : Int) - a) := by
  rcases Nat.lt_or_ge a hs.length with h | h
  · exact (tab_spec L F _ a rfl h).1
  · have : a = hs.length := by omega
    subst this
    rcases Nat.eq_zero_or_pos hs.length with h0 | h0
    · have : hs = [] := List.length_eq_zero_iff.1 h0
      subst this; exact ⟨Int.le_refl _, Int.le_refl 0⟩
    · rw [totP_end _ _ _ h0]; omega
/-- The page from one line up to another. -/
def pg (hs : List Int) (page gap : Int) (a b : Nat) : S37 := ⟨(a : Int), (b : Int), topsI hs gap a (lrest hs b (restI hs page gap a b)) ((b : Int) - a - 1) (b - a)⟩
/-- The pages, one at a time. -/
theorem out_step {hs : List Int} {page gap : Int} (L : Lns hs page gap) (F : ∀ x ∈ hs, x ≤ page) {a d : Nat} (ha : a < hs.length) : ∃ j, j < mP hs page gap a ∧ outP hs gap (tabP hs page gap hs.length) (d + 1) a = pg hs page gap a (a + j + 1) :: outP hs gap (tabP hs page gap hs.length) d (a + j + 1) ∧ totP hs page gap a = val hs page gap a j ∧ ∀ i, i < mP hs page gap a → val hs page gap a j ≤ val hs page gap a i ∧ (j < i → val hs page gap a j < val hs page gap a i) := by
  obtain ⟨-, j, hj, ht, hm⟩ := tab_spec L F _ a rfl ha
  refine ⟨j, hj, ?_, by unfold totP; rw [ht], hm⟩
  show (if a < hs.length then _ else _) = _
  rw [if_pos ha, ht]
  unfold pageP
  rw [ht]
  simp only [Int.toNat_natCast]
  rfl
theorem out_end (hs : List Int) (gap : Int) (g : Nat → W3) (d a : Nat) (h : hs.length ≤ a) : outP hs gap g d a = [] := by
  cases d with
  | zero => rfl
  | succ d => show (if a < hs.length then _ else _) = _; rw [if_neg (by omega)]
end Go.Proofs.YtbpcilbplgbonaaDoor.Pure
