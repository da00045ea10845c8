/- The best ways, plainly: which system is taken, what the ways behind it cost. No conditions. -/
import Derived.Test.YtneaoicjbiebkaaDoorSP1
namespace Go.Proofs.YtneaoicjbiebkaaDoor.Pure
open Go.RowKit Go.Proofs.YtneaoicjbiebkaaDoor.Q Go.Proofs.YtneaoicjbiebkaaDoorW.PrintWords Go.Proofs.YtneaoicjbiebkaaDoorW.PrintMore
set_option linter.unusedVariables false
def vv (g : Int → Q.Way) (x : Int × Int × Int) : Int := wrap64 (wrap64 (x.2.2 + 10) + (g x.2.1).2.2.2)
theorem bestW_spec (g : Int → Q.Way) (l : List (Int × Int × Int)) (h : ∀ x ∈ l, x.2.1 ≠ 0) (hne : l ≠ []) : ∃ l1 x l2, l = l1 ++ x :: l2 ∧ bestW g l = (x.1, x.2.1, x.2.2, vv g x) ∧ (∀ y ∈ l1, vv g x ≤ vv g y) ∧ (∀ y ∈ l2, vv g x < vv g y) := by
  obtain ⟨m, hm⟩ : ∃ m, m = l.reverse := ⟨_, rfl⟩
  have hl : l = m.reverse := by rw [hm, List.reverse_reverse]
  clear hm
  subst hl
  induction m with
  | nil => exact absurd rfl hne
  | cons y m ih =>
    rw [List.reverse_cons] at h ⊢
    rw [bestW_snoc]
    unfold stepW
    by_cases hm : m.reverse = []
    · rw [hm]
      exact ⟨[], y, [], rfl, by simp [bestW, vv], by simp, by simp⟩
    obtain ⟨l1, x, l2, e, hb, h1, h2⟩ := ih (fun z hz => h z (List.mem_append_left _ hz)) hm
    have hx : x.2.1 ≠ 0 := h x (by rw [e]; simp)
    rw [hb]
    by_cases c : vv g y ≤ vv g x
    · rw [if_pos (.inr c)]
      refine ⟨m.reverse, y, [], rfl, rfl, ?_, by simp⟩
      intro z hz
      rw [e] at hz
      rcases List.mem_append.1 hz with hz | hz
      · have := h1 z hz; omega
      · rcases List.mem_cons.1 hz with rfl | hz
        · exact c
        · have := h2 z hz; omega
    · rw [if_neg (by rintro (c1 | c1); exact hx c1; exact c c1)]
      refine ⟨l1, x, l2 ++ [y], by rw [e]; simp, rfl, h1, ?_⟩
      intro z hz
      rcases List.mem_append.1 hz with hz | hz
      · exact h2 z hz
      · rw [List.mem_singleton.1 hz]; omega
theorem bestW_congr {g g' : Int → Q.Way} : ∀ (l : List (Int × Int × Int)), (∀ x ∈ l, g x.2.1 = g' x.2.1) → bestW g l = bestW g' l := by
  intro l
  obtain ⟨m, hm⟩ : ∃ m, m = l.reverse := ⟨_, rfl⟩
  have hl : l = m.reverse := by rw [hm, List.reverse_reverse]
  clear hm
  subst hl
  induction m with
  | nil => intro _; rfl
  | cons y m ih =>
    intro h
    rw [List.reverse_cons] at h ⊢
    rw [bestW_snoc, bestW_snoc, ih (fun z hz => h z (List.mem_append_left _ hz))]
    unfold stepW
    rw [h y (by simp)]
theorem tabI_out (ws ss : List Int) (line : Int) : ∀ (j : Nat) (b : Nat), ws.length ≤ b → 1 ≤ ws.length → tabI ws ss line j b = (0, 0, 0, 0)
  | 0, _, _, _ => rfl
  | j + 1, b, h, h1 => by
    show (if (b : Int) = ((ws.length - 1 - j : Nat) : Int) then _ else tabI ws ss line j b) = _
    rw [if_neg (by omega)]
    exact tabI_out ws ss line j b h h1
theorem tabI_same (ws ss : List Int) (line : Int) (j b : Nat) (hj : j ≤ ws.length) (hb : ws.length - j ≤ b) (h1 : 1 ≤ ws.length) : tabI ws ss line j b = tabI ws ss line ws.length b := by
  rcases Nat.lt_or_ge b ws.length with h | h
  · rw [tabI_at ws ss line j b hj hb h, tabI_at ws ss line ws.length b (Nat.le_refl _) (by omega) h]
  · rw [tabI_out _ _ _ _ _ h h1, tabI_out _ _ _ _ _ h h1]
/-- The ways, in terms of those behind. -/
theorem tab_rec (ws ss : List Int) (line : Int) {a : Nat} (ha : a < ws.length) : tabI ws ss line ws.length a = bestW (tabI ws ss line ws.length) (itI ws ss line a) := by
  rw [tabI_at ws ss line ws.length a (Nat.le_refl _) (by omega) ha]
  apply bestW_congr
  intro x hx
  obtain ⟨j, hj, rfl⟩ := itI_mem hx
  have := tabI_same ws ss line (ws.length - 1 - a) (a + j + 1) (by omega) (by omega) (by omega)
  show tabI ws ss line _ ((a : Int) + j + 1) = tabI ws ss line _ ((a : Int) + j + 1)
  rw [show (a : Int) + j + 1 = ((a + j + 1 : Nat) : Int) by omega]
  exact this
/-- What a system costs. -/
def cst (ws ss : List Int) (line : Int) (a b : Nat) : Int := if b = ws.length then 0 else (costI (sumF ws a b) (sumF ss a b) line).1
/-- What the way from a bar on costs. -/
def totI (ws ss : List Int) (line : Int) (a : Nat) : Int := (tabI ws ss line ws.length a).2.2.2
theorem cst_range (ws ss : List Int) (line : Int) (a b : Nat) : 0 ≤ cst ws ss line a b ∧ cst ws ss line a b ≤ 10000 := by
  unfold cst; split
  · exact ⟨Int.le_refl _, by decide⟩
  · exact costI_range _ _ _
theorem totI_end (ws ss : List Int) (line : Int) (h : 1 ≤ ws.length) : totI ws ss line ws.length = 0 := by
  unfold totI; rw [tabI_out _ _ _ _ _ (Nat.le_refl _) h]
def itJ (ws ss : List Int) (line : Int) (a j : Nat) : Int × Int × Int := ((a : Int), (a : Int) + j + 1, cst ws ss line a (a + j + 1))
theorem itI_eq (ws ss : List Int) (line : Int) (a : Nat) : itI ws ss line a = (List.range (mFrom ws ss line a)).map (itJ ws ss line a) := rfl
def val (ws ss : List Int) (line : Int) (a j : Nat) : Int := cst ws ss line a (a + j + 1) + 10 + totI ws ss line (a + j + 1)
theorem vv_itJ (ws ss : List Int) (line : Int) (a j : Nat) (h : 0 ≤ totI ws ss line (a + j + 1) ∧ totI ws ss line (a + j + 1) ≤ 2000000) : vv (tabI ws ss line ws.length) (itJ ws ss line a j) = val ws ss line a j := by
  have e : (tabI ws ss line ws.length ((a : Int) + j + 1)).2.2.2 = totI ws ss line (a + j + 1) := by
    unfold totI; rw [show (a : Int) + j + 1 = ((a + j + 1 : Nat) : Int) by omega]
  have r := cst_range ws ss line a (a + j + 1)
  show wrap64 (wrap64 (cst ws ss line a (a + j + 1) + 10) + (tabI ws ss line ws.length ((a : Int) + j + 1)).2.2.2) = _
  rw [e, wrap64_id_ (n := cst ws ss line a (a + j + 1) + 10) (by omega), wrap64_id_ (by omega)]
  rfl
theorem range_split {n : Nat} {β : Type} {f : Nat → β} {l1 : List β} {x : β} {l2 : List β} (h : (List.range n).map f = l1 ++ x :: l2) : ∃ j, j < n ∧ x = f j ∧ (∀ i, i < j → f i ∈ l1) ∧ (∀ i, j < i → i < n → f i ∈ l2) := by
  have hn : n = l1.length + (l2.length + 1) := by have := congrArg List.length h; simpa using this
  have hget : ∀ i, i < n → (l1 ++ x :: l2)[i]? = some (f i) := by
    intro i hi
    rw [← h, List.getElem?_map, List.getElem?_range hi]; rfl
  refine ⟨l1.length, by omega, ?_, ?_, ?_⟩
  · have := hget l1.length (by omega)
    rw [List.getElem?_append_right (Nat.le_refl _)] at this
    simpa using this
  · intro i hi
    have := hget i (by omega)
    rw [List.getElem?_append_left hi] at this
    exact List.mem_of_getElem? this
  · intro i hi hin
    have := hget i hin
    rw [List.getElem?_append_right (by omega), show i - l1.length = (i - l1.length - 1) + 1 by omega, List.getElem?_cons_succ] at this
    exact List.mem_of_getElem? this
/-- Which system is taken: the longest one of the best. -/
theorem tab_spec {ws ss : List Int} {line : Int} (R : Right ws ss line) : ∀ (d a : Nat), ws.length - a = d → a < ws.length →
    (0 ≤ totI ws ss line a ∧ totI ws ss line a ≤ 10010 * ((ws.length : Int) - a)) ∧ ∃ j, j < mFrom ws ss line a ∧ tabI ws ss line ws.length a = ((a : Int), (a : Int) + j + 1, cst ws ss line a (a + j + 1), val ws ss line a j) ∧ ∀ i, i < mFrom ws ss line a → val ws ss line a j ≤ val ws ss line a i ∧ (j < i → val ws ss line a j < val ws ss line a i) := by
  intro d
  induction d using Nat.strongRecOn with
  | _ d ih =>
    intro a had ha
    have hM := (mFrom_spec ws ss line a).1
    have hT : ∀ i, i < mFrom ws ss line a → 0 ≤ totI ws ss line (a + i + 1) ∧ totI ws ss line (a + i + 1) ≤ 10010 * ((ws.length : Int) - (a + i + 1 : Nat)) := by
      intro i hi
      rcases Nat.lt_or_ge (a + i + 1) ws.length with h | h
      · exact (ih (ws.length - (a + i + 1)) (by omega) (a + i + 1) rfl h).1
      · have : a + i + 1 = ws.length := by omega
        rw [this, totI_end _ _ _ (by omega)]; omega
    have hlen := R.len
    have hT2 : ∀ i, i < mFrom ws ss line a → vv (tabI ws ss line ws.length) (itJ ws ss line a i) = val ws ss line a i := fun i hi => vv_itJ _ _ _ _ _ (by have := hT i hi; omega)
    have hne : itI ws ss line a ≠ [] := by
      intro e
      have := congrArg List.length e
      rw [itI_eq] at this
      have h1 := mFrom_pos R ha
      simp at this
      omega
    obtain ⟨l1, x, l2, e, hb, h1, h2⟩ := bestW_spec (tabI ws ss line ws.length) (itI ws ss line a) (fun x hx => by obtain ⟨j, _, rfl⟩ := itI_mem hx; show (a : Int) + j + 1 ≠ 0; omega) hne
    rw [itI_eq] at e
    obtain ⟨j, hj, rfl, k1, k2⟩ := range_split e
    have ht : tabI ws ss line ws.length a = ((a : Int), (a : Int) + j + 1, cst ws ss line a (a + j + 1), val ws ss line a j) := by
      rw [tab_rec ws ss line ha, hb, hT2 j hj]; rfl
    refine ⟨?_, j, hj, ht, fun i hi => ?_⟩
    · have e1 : totI ws ss line a = val ws ss line a j := by unfold totI; rw [ht]
      have r := cst_range ws ss line a (a + j + 1)
      have t := hT j hj
      rw [e1]; unfold val; omega
    · rcases Nat.lt_trichotomy i j with h | h | h
      · have := h1 _ (k1 i h)
        rw [hT2 i hi, hT2 j hj] at this
        exact ⟨this, fun h' => absurd h' (by omega)⟩
      · subst h; exact ⟨Int.le_refl _, fun h' => absurd h' (by omega)⟩
      · have := h2 _ (k2 i h hi)
        rw [hT2 i hi, hT2 j hj] at this
        exact ⟨by omega, fun _ => this⟩
theorem totI_range {ws ss : List Int} {line : Int} (R : Right ws ss line) {a : Nat} (ha : a ≤ ws.length) : 0 ≤ totI ws ss line a ∧ totI ws ss line a ≤ 10010 * ((ws.length : Int) - a) := by
  rcases Nat.lt_or_ge a ws.length with h | h
  · exact (tab_spec R _ a rfl h).1
  · have : a = ws.length := by omega
    subst this
    rcases Nat.eq_zero_or_pos ws.length with h0 | h0
    · have : ws = [] := List.length_eq_zero_iff.1 h0
      subst this; exact ⟨Int.le_refl _, Int.le_refl 0⟩
    · rw [totI_end _ _ _ h0]; omega
/-- Bars fit just if they are not wider than the line. -/
theorem fit_iff {ws ss : List Int} {line : Int} (R : Right ws ss line) {a b : Nat} (hab : a < b) (hb : b ≤ ws.length) : (costI (sumF ws a b) (sumF ss a b) line).2 = true ↔ sumF ws a b ≤ line := by
  have h1 := R.line1
  have h2 := R.line2
  have h3 := R.len
  have h4 := sumF_le (l := ss) (by omega) R.s1 a b
  have h5 := sumF_le (l := ws) (B := 100000) (by omega) (fun x hx => by have := R.w1 x hx; omega) a b
  have h6 := R.eq
  have h7 : 1 ≤ sumF ws a b := by
    obtain ⟨k, rfl⟩ : ∃ k, b = a + (k + 1) := ⟨b - a - 1, by omega⟩
    rw [sumF_succ ws a k (by omega)]
    have h8 := R.w1 _ (rd_mem (l := ws) (a := a + k) (by omega))
    have h9 := sumF_le (l := ws) (B := 100000) (by omega) (fun x hx => by have := R.w1 x hx; omega) a (a + k)
    omega
  constructor
  · intro h; exact (costI_ok h).1.2.2.2.2.2.2
  · intro h; unfold costI; rw [if_pos (by omega)]
theorem sumF_mono {l : List Int} (h : ∀ x ∈ l, 0 ≤ x) {a b c : Nat} (hab : a ≤ b) (hbc : b ≤ c) (hc : c ≤ l.length) : sumF l a b ≤ sumF l a c := by
  obtain ⟨k, rfl⟩ : ∃ k, c = b + k := ⟨c - b, by omega⟩
  clear hbc
  induction k with
  | zero => exact Int.le_refl _
  | succ k ih =>
    have := ih (by omega)
    obtain ⟨m, rfl⟩ : ∃ m, b = a + m := ⟨b - a, by omega⟩
    have e := sumF_succ l a (m + k) (by omega)
    have h1 := h _ (rd_mem (l := l) (a := a + (m + k)) (by omega))
    rw [show a + m + (k + 1) = a + (m + k + 1) by omega, e, show a + (m + k) = a + m + k by omega] at *
    omega
theorem fit_lt {ws ss : List Int} {line : Int} (R : Right ws ss line) {a j : Nat} (hb : a + j + 1 ≤ ws.length) : j < mFrom ws ss line a ↔ sumF ws a (a + j + 1) ≤ line := by
  obtain ⟨h1, h2, h3⟩ := mFrom_spec ws ss line a
  constructor
  · intro h; exact (fit_iff R (by omega) hb).1 (h2 j h)
  · intro h
    rcases Nat.lt_or_ge j (mFrom ws ss line a) with h' | h'
    · exact h'
    · have h4 := h3 (by omega)
      have h5 := sumF_mono (l := ws) (fun x hx => by have := R.w1 x hx; omega) (a := a) (b := a + mFrom ws ss line a + 1) (c := a + j + 1) (by omega) (by omega) hb
      have h6 := (fit_iff R (a := a) (b := a + mFrom ws ss line a + 1) (by omega) (by omega)).2 (by omega)
      rw [h6] at h4; cases h4
/-- The break, a system at a time. -/
theorem out_step {ws ss : List Int} {line : Int} (R : Right ws ss line) {a d : Nat} (ha : a < ws.length) : ∃ j, j < mFrom ws ss line a ∧ outI (tabI ws ss line ws.length) ws.length (d + 1) a = ⟨(a : Int), (a + j + 1 : Nat), cst ws ss line a (a + j + 1)⟩ :: outI (tabI ws ss line ws.length) ws.length d (a + j + 1 : Nat) ∧ totI ws ss line a = val ws ss line a j ∧ ∀ i, i < mFrom ws ss line a → val ws ss line a j ≤ val ws ss line a i ∧ (j < i → val ws ss line a j < val ws ss line a i) := by
  obtain ⟨-, j, hj, ht, hm⟩ := tab_spec R _ a rfl ha
  refine ⟨j, hj, ?_, by unfold totI; rw [ht], hm⟩
  show (if (a : Int) < ws.length then _ else _) = _
  rw [if_pos (by omega), ht]
  simp only []
  rw [show (a : Int) + j + 1 = ((a + j + 1 : Nat) : Int) by omega]
theorem out_end (g : Int → Q.Way) (n d a : Nat) (h : n ≤ a) : outI g n d a = [] := by
  cases d with
  | zero => rfl
  | succ d => show (if (a : Int) < n then _ else _) = _; rw [if_neg (by omega)]
end Go.Proofs.YtneaoicjbiebkaaDoor.Pure
