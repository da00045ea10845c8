/- The systems, plainly: what a line costs, how many systems fit from a bar on, the best ways, the break. No program in sight but the printed Cost and the lists of Iter, From2. No conditions. -/
import Derived.Test.YtneaoicjbiebkaaDoorFrom2
import Derived.Test.YtneaoicjbiebkaaDoorCheck
namespace Go.Proofs.YtneaoicjbiebkaaDoor.Q
open Go.RowKit Go.Proofs.YtneaoicjbiebkaaDoorW.PrintWords Go.Proofs.YtneaoicjbiebkaaDoorW.PrintLast Go.Proofs.YtneaoicjbiebkaaDoorW.PrintMore
set_option linter.unusedVariables false
set_option linter.unusedSimpArgs false
def badI (g s : Int) : Int := if g = 0 then 0 else if s = 0 then 10000 else if g ≥ 5 * s then 10000 else if s ≥ 5 * g then 0 else mn 10000 (Int.tdiv (100 * (g * g * g)) (s * s * s))
def costI (w s l : Int) : Int × Bool := if 1 ≤ w ∧ w ≤ 100000 ∧ 1 ≤ l ∧ l ≤ 100000 ∧ 0 ≤ s ∧ s ≤ 10000000 ∧ w ≤ l then (badI (l - w) s, true) else (0, false)
theorem cube_le {a : Int} {n : Int} (h0 : 0 ≤ a) (h1 : a ≤ n) : 0 ≤ a * a * a ∧ a * a * a ≤ n * n * n := by
  have h2 : 0 ≤ a * a := Int.mul_nonneg h0 h0
  have h3 : a * a ≤ n * n := Int.mul_le_mul h1 h1 h0 (by omega)
  exact ⟨Int.mul_nonneg h2 h0, Int.mul_le_mul h3 h1 h0 (Int.mul_nonneg (by omega) (by omega))⟩
theorem bad_f (g s : Int) (hg : 0 ≤ g ∧ g ≤ 100000) (hs : 0 ≤ s ∧ s ≤ 10000000) : systems_bad.f g s = some (badI g s) := by
  unfold systems_bad.f badI
  have e1 : wrap64 (5 * s) = 5 * s := wrap64_id_ (by omega)
  have e2 : wrap64 (5 * g) = 5 * g := wrap64_id_ (by omega)
  rw [e1, e2]
  by_cases c1 : g = 0
  · rw [if_pos c1, if_pos c1]
  rw [if_neg c1, if_neg c1]
  by_cases c2 : s = 0
  · rw [if_pos c2, if_pos c2]
  rw [if_neg c2, if_neg c2]
  by_cases c3 : g ≥ 5 * s
  · rw [if_pos c3, if_pos c3]
  rw [if_neg c3, if_neg c3]
  by_cases c4 : s ≥ 5 * g
  · rw [if_pos c4, if_pos c4]
  rw [if_neg c4, if_neg c4]
  have hs' : s ≤ 500000 := by omega
  obtain ⟨a1, a2⟩ := cube_le hg.1 hg.2
  obtain ⟨b1, b2⟩ := cube_le hs.1 hs'
  have a3 : 0 ≤ g * g := Int.mul_nonneg hg.1 hg.1
  have a4 : g * g ≤ 100000 * 100000 := Int.mul_le_mul hg.2 hg.2 hg.1 (by omega)
  have b3 : 0 ≤ s * s := Int.mul_nonneg hs.1 hs.1
  have b4 : s * s ≤ 500000 * 500000 := Int.mul_le_mul hs' hs' hs.1 (by omega)
  have b5 : s * s * s ≠ 0 := by
    intro e
    rcases Int.mul_eq_zero.1 e with e | e
    · rcases Int.mul_eq_zero.1 e with e | e <;> exact c2 e
    · exact c2 e
  have e3 : systems_cube.f g = some (g * g * g) := by unfold systems_cube.f; rw [wrap64_id_ (n := g * g) (by omega), wrap64_id_ (by omega)]
  have e4 : systems_cube.f s = some (s * s * s) := by unfold systems_cube.f; rw [wrap64_id_ (n := s * s) (by omega), wrap64_id_ (by omega)]
  rw [e3, Option.bind_some, e4, Option.bind_some, if_neg b5, wrap64_id_ (n := 100 * (g * g * g)) (by omega)]
  have e5 : 0 ≤ Int.tdiv (100 * (g * g * g)) (s * s * s) := Int.tdiv_nonneg (by omega) b1
  have e6 : Int.tdiv (100 * (g * g * g)) (s * s * s) ≤ 100 * (g * g * g) := by
    rw [Int.tdiv_eq_ediv_of_nonneg (by omega)]; exact Int.ediv_le_self _ (by omega)
  rw [wrap64_id_ (by omega)]
theorem Cost_f (K : Nat) (hK : 4 ≤ K) (w s l : Int) : systems_Cost.f K w s l = some (costI w s l) := by
  unfold systems_Cost.f
  rw [isFrom_f _ _ _ K (by simp) (by simp; omega), isFrom_f _ _ _ K (by simp) (by simp; omega), Option.bind_some]
  unfold costI inB
  simp only [List.all_cons, List.all_nil, Bool.and_true, Bool.and_eq_true, decide_eq_true_eq, Option.bind_some]
  by_cases c1 : (1 ≤ w ∧ w ≤ 100000) ∧ 1 ≤ l ∧ l ≤ 100000
  · rw [if_pos c1]
    by_cases c2 : 0 ≤ s ∧ s ≤ 10000000
    · rw [if_pos c2]
      by_cases c3 : w > l
      · rw [if_pos c3, if_neg (by omega)]
      · rw [if_neg c3, if_pos (by omega), wrap64_id_ (by omega), bad_f _ _ (by omega) c2, Option.bind_some]
    · rw [if_neg c2, if_neg (by omega)]
  · rw [if_neg c1, if_neg (by omega)]
theorem costS_eq (ws ss : List Int) (line : Int) (a b : Nat) : costS 9 ws ss line a b = costI (sumF ws a b) (sumF ss a b) line := by
  unfold costS; rw [Cost_f 9 (by omega)]; rfl
def runN (p : Nat → Bool) : Nat → Nat → Nat
  | 0, _ => 0
  | d + 1, k => if p k = true then runN p d (k + 1) + 1 else 0
theorem runN_spec (p : Nat → Bool) : ∀ d k, runN p d k ≤ d ∧ (∀ j, j < runN p d k → p (k + j) = true) ∧ (runN p d k < d → p (k + runN p d k) = false)
  | 0, k => ⟨Nat.le_refl _, fun j h => absurd h (by simp [runN]), fun h => absurd h (by simp [runN])⟩
  | d + 1, k => by
    obtain ⟨h1, h2, h3⟩ := runN_spec p d (k + 1)
    unfold runN
    by_cases c : p k = true
    · rw [if_pos c]
      refine ⟨by omega, fun j hj => ?_, fun h => ?_⟩
      · rcases j with _ | j
        · exact c
        · have := h2 j (by omega); rwa [show k + 1 + j = k + (j + 1) by omega] at this
      · have := h3 (by omega); rwa [show k + 1 + runN p d (k + 1) = k + (runN p d (k + 1) + 1) by omega] at this
    · rw [if_neg c]
      exact ⟨by omega, fun j hj => absurd hj (by omega), fun _ => by simpa using c⟩
/-- How many systems that begin at a bar fit. -/
def mFrom (ws ss : List Int) (line : Int) (a : Nat) : Nat := runN (fun k => (costI (sumF ws a (a + k + 1)) (sumF ss a (a + k + 1)) line).2) (ws.length - a) 0
theorem mFrom_spec (ws ss : List Int) (line : Int) (a : Nat) : mFrom ws ss line a ≤ ws.length - a ∧ (∀ k, k < mFrom ws ss line a → (costI (sumF ws a (a + k + 1)) (sumF ss a (a + k + 1)) line).2 = true) ∧ (mFrom ws ss line a < ws.length - a → (costI (sumF ws a (a + mFrom ws ss line a + 1)) (sumF ss a (a + mFrom ws ss line a + 1)) line).2 = false) := by
  have := runN_spec (fun k => (costI (sumF ws a (a + k + 1)) (sumF ss a (a + k + 1)) line).2) (ws.length - a) 0
  simp only [Nat.zero_add] at this
  exact this
/-- The systems that begin at a bar, and fit. -/
def itI (ws ss : List Int) (line : Int) (a : Nat) : List (Int × Int × Int) := (List.range (mFrom ws ss line a)).map fun (j : Nat) => ((a : Int), (a : Int) + j + 1, if a + j + 1 = ws.length then 0 else (costI (sumF ws a (a + j + 1)) (sumF ss a (a + j + 1)) line).1)
theorem itS_itI (ws ss : List Int) (line : Int) (a : Nat) : itS 9 ws ss line a (mFrom ws ss line a) = itI ws ss line a := by
  unfold itS itI
  apply List.map_congr_left
  intro j _
  rw [costS_eq]
/-- The ways behind so many bars from the end. -/
def tabI (ws ss : List Int) (line : Int) : Nat → Int → Way
  | 0 => fun _ => (0, 0, 0, 0)
  | j + 1 => fun i => if i = ((ws.length - 1 - j : Nat) : Int) then bestW (tabI ws ss line j) (itI ws ss line (ws.length - 1 - j)) else tabI ws ss line j i
/-- The way from a bar on, followed. -/
def outI (g : Int → Way) (n : Int) : Nat → Int → List S38
  | 0, _ => []
  | d + 1, a => if a < n then ⟨(g a).1, (g a).2.1, (g a).2.2.1⟩ :: outI g n d (g a).2.1 else []
def breakI (ws ss : List Int) (line : Int) : List S38 × Int := if chkI ws ss line = 0 then (outI (tabI ws ss line ws.length) ws.length ws.length 0, 0) else ([], chkI ws ss line)
def systems_Break.f (l0 l1 : List Int) (a2 : Int) : Option (List S38 × Int) := some (breakI l0 l1 a2)
/-- What is known of bars that are right. -/
structure Right (ws ss : List Int) (line : Int) : Prop where
  len : ws.length ≤ 100
  eq : ss.length = ws.length
  line1 : 1 ≤ line
  line2 : line ≤ 100000
  w1 : ∀ x ∈ ws, 1 ≤ x ∧ x ≤ line
  s1 : ∀ x ∈ ss, 0 ≤ x ∧ x ≤ 100000
theorem inB_iff {lo hi : Int} {l : List Int} : inB lo hi l = true ↔ ∀ x ∈ l, lo ≤ x ∧ x ≤ hi := by
  unfold inB; rw [List.all_eq_true]; simp
theorem right_of {ws ss : List Int} {line : Int} (h : chkI ws ss line = 0) : Right ws ss line := by
  unfold chkI at h
  split at h
  · cases h
  rename_i c1
  split at h
  · cases h
  rename_i c2
  split at h
  · cases h
  rename_i c3
  split at h
  · cases h
  rename_i c4
  split at h
  · cases h
  rename_i c5
  split at h
  · cases h
  rename_i c6
  have h3 := inB_iff.1 (by simpa using c3) line (List.mem_singleton.2 rfl)
  have h5 := inB_iff.1 (by simpa using c5)
  have h6 := inB_iff.1 (by simpa using c6)
  exact ⟨by omega, by omega, h3.1, h3.2, h6, h5⟩
theorem sumF_le {l : List Int} {B : Int} (hB : 0 ≤ B) (h : ∀ x ∈ l, 0 ≤ x ∧ x ≤ B) (a b : Nat) : 0 ≤ sumF l a b ∧ sumF l a b ≤ l.length * B := by
  unfold sumF
  have key : ∀ m : List Int, (∀ x ∈ m, 0 ≤ x ∧ x ≤ B) → 0 ≤ m.sum ∧ m.sum ≤ m.length * B := by
    intro m
    induction m with
    | nil => intro _; simp
    | cons x m ih =>
      intro h
      have h1 := h x (by simp)
      have h2 := ih (fun y hy => h y (by simp [hy]))
      rw [List.sum_cons, List.length_cons]
      have : ((m.length + 1 : Nat) : Int) * B = m.length * B + B := by rw [Int.natCast_add, Int.add_mul]; simp
      omega
  have h1 := key ((l.take b).drop a) (fun x hx => h x (List.mem_of_mem_take (List.mem_of_mem_drop hx)))
  refine ⟨h1.1, Int.le_trans h1.2 ?_⟩
  exact Int.mul_le_mul_of_nonneg_right (by have : ((l.take b).drop a).length ≤ l.length := by simp; omega
                                           omega) hB
theorem sumF_one (l : List Int) (a : Nat) (h : a < l.length) : sumF l a (a + 0 + 1) = rd l a := by
  have := sumF_succ l a 0 (by omega)
  rw [sumF_zero, Nat.add_zero, Int.zero_add] at this
  simpa using this
theorem rd_mem {l : List Int} {a : Nat} (h : a < l.length) : rd l a ∈ l := by
  unfold rd; rw [show ((a : Nat) : Int).toNat = a from Int.toNat_natCast _, List.getD_eq_getElem?_getD, List.getElem?_eq_getElem h]; exact List.getElem_mem h
theorem mFrom_pos {ws ss : List Int} {line : Int} (R : Right ws ss line) {a : Nat} (ha : a < ws.length) : 1 ≤ mFrom ws ss line a := by
  obtain ⟨h1, h2, h3⟩ := mFrom_spec ws ss line a
  rcases Nat.lt_or_ge 0 (mFrom ws ss line a) with h | h
  · exact h
  · have e : mFrom ws ss line a = 0 := by omega
    rw [e] at h3
    have := h3 (by omega)
    rw [sumF_one ws a ha, sumF_one ss a (by have := R.eq; omega)] at this
    have g1 := R.w1 _ (rd_mem ha)
    have g2 := R.s1 _ (rd_mem (l := ss) (a := a) (by have := R.eq; omega))
    have g3 := R.line2
    unfold costI at this
    rw [if_pos (by omega)] at this
    cases this
theorem bestW_to (g : Int → Way) (l : List (Int × Int × Int)) (h : ∀ x ∈ l, x.2.1 ≠ 0) : (l ≠ [] → ∃ x ∈ l, (bestW g l).1 = x.1 ∧ (bestW g l).2.1 = x.2.1 ∧ (bestW g l).2.2.1 = x.2.2) ∧ (l = [] → bestW g l = (0, 0, 0, 0)) := by
  refine ⟨?_, fun e => by rw [e]; rfl⟩
  obtain ⟨m, hm⟩ : ∃ m, m = l.reverse := ⟨_, rfl⟩
  have hl : l = m.reverse := by rw [hm, List.reverse_reverse]
  clear hm
  subst hl
  induction m with
  | nil => intro h; exact absurd rfl h
  | cons x m ih =>
    intro _
    rw [List.reverse_cons, bestW_snoc]
    unfold stepW
    by_cases c : (bestW g m.reverse).2.1 = 0 ∨ wrap64 (wrap64 (x.2.2 + 10) + (g x.2.1).2.2.2) ≤ (bestW g m.reverse).2.2.2
    · rw [if_pos c]; exact ⟨x, by simp, rfl, rfl, rfl⟩
    · rw [if_neg c]
      have hne : m.reverse ≠ [] := by
        intro e
        rw [e] at c
        exact c (.inl rfl)
      obtain ⟨y, hy, r⟩ := ih (fun z hz => h z (by rw [List.reverse_cons]; exact List.mem_append_left _ hz)) hne
      exact ⟨y, List.mem_append_left _ hy, r⟩
theorem itI_mem {ws ss : List Int} {line : Int} {a : Nat} {x : Int × Int × Int} (h : x ∈ itI ws ss line a) : ∃ j, j < mFrom ws ss line a ∧ x = ((a : Int), (a : Int) + j + 1, if a + j + 1 = ws.length then 0 else (costI (sumF ws a (a + j + 1)) (sumF ss a (a + j + 1)) line).1) := by
  unfold itI at h
  obtain ⟨j, hj, e⟩ := List.mem_map.1 h
  exact ⟨j, List.mem_range.1 hj, e.symm⟩
theorem tabI_at (ws ss : List Int) (line : Int) : ∀ (j : Nat) (a : Nat), j ≤ ws.length → ws.length - j ≤ a → a < ws.length → tabI ws ss line j a = bestW (tabI ws ss line (ws.length - 1 - a)) (itI ws ss line a)
  | 0, a, _, h1, h2 => absurd h2 (by omega)
  | j + 1, a, hj, h1, h2 => by
    show (if (a : Int) = ((ws.length - 1 - j : Nat) : Int) then bestW (tabI ws ss line j) (itI ws ss line (ws.length - 1 - j)) else tabI ws ss line j a) = _
    by_cases c : a = ws.length - 1 - j
    · rw [if_pos (by omega)]
      have e : ws.length - 1 - a = j := by omega
      rw [e, ← c]
    · rw [if_neg (by omega)]
      exact tabI_at ws ss line j a (by omega) (by omega) h2
/-- A way's first system begins where it should, and ends behind that. -/
theorem tabI_to {ws ss : List Int} {line : Int} (R : Right ws ss line) {a : Nat} (ha : a < ws.length) : ∃ b : Nat, (tabI ws ss line ws.length a).2.1 = b ∧ a < b ∧ b ≤ ws.length := by
  rw [tabI_at ws ss line ws.length a (Nat.le_refl _) (by omega) ha]
  have h0 : ∀ x ∈ itI ws ss line a, x.2.1 ≠ 0 := by
    intro x hx
    obtain ⟨j, _, rfl⟩ := itI_mem hx
    show (a : Int) + j + 1 ≠ 0
    omega
  have hne : itI ws ss line a ≠ [] := by
    intro e
    have := congrArg List.length e
    unfold itI at this
    have h1 := mFrom_pos R ha
    simp at this
    omega
  obtain ⟨x, hx, h1, h2, h3⟩ := (bestW_to _ _ h0).1 hne
  obtain ⟨j, hj, rfl⟩ := itI_mem hx
  have := (mFrom_spec ws ss line a).1
  exact ⟨a + j + 1, by rw [h2]; show (a : Int) + j + 1 = _; omega, by omega, by omega⟩
end Go.Proofs.YtneaoicjbiebkaaDoor.Q
