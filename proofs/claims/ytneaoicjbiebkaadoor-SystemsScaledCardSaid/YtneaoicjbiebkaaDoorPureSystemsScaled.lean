/- SystemsScaled: the plain law. No conditions. -/
import Derived.Test.YtneaoicjbiebkaaDoorSP4
import Derived.Test.YtneaoicjbiebkaaDoorQ12
namespace Go.Proofs.YtneaoicjbiebkaaDoor.Pure
open Go.RowKit Go.Proofs.YtneaoicjbiebkaaDoor.Q Go.Proofs.YtneaoicjbiebkaaDoorW.PrintWords Go.Proofs.YtneaoicjbiebkaaDoorW.PrintMore
set_option linter.unusedVariables false
theorem div_le {k x : Int} (hk : 0 < k) : x ≤ 100000 / k ↔ k * x ≤ 100000 := by
  rw [Int.le_ediv_iff_mul_le hk, Int.mul_comm]
theorem sumF_bound {l : List Int} {B : Int} (hB : 0 ≤ B) (h : ∀ x ∈ l, 0 ≤ x ∧ x ≤ B) (hl : l.length ≤ 100) (a b : Nat) : 0 ≤ sumF l a b ∧ sumF l a b ≤ 100 * B := by
  have h1 := sumF_le hB h a b
  refine ⟨h1.1, Int.le_trans h1.2 (Int.mul_le_mul_of_nonneg_right (by omega) hB)⟩
theorem cost_scale {ws ss : List Int} {line k : Int} (R : Right ws ss line) (hk : 0 < k) (hk9 : k ≤ 9) (hline : k * line ≤ 100000) (hs : ∀ x ∈ ss, k * x ≤ 100000) (a b : Nat) (hab : a < b) (hb : b ≤ ws.length) :
    costI (sumF (ws.map (k * ·)) a b) (sumF (ss.map (k * ·)) a b) (k * line) = costI (sumF ws a b) (sumF ss a b) line := by
  have hlen := R.len
  have heq := R.eq
  have z1 := sumF_bound (l := ss) (by omega) R.s1 (by omega) a b
  have z2 : 0 ≤ sumF (ss.map (k * ·)) a b ∧ sumF (ss.map (k * ·)) a b ≤ 100 * 100000 := by
    refine sumF_bound (by omega) ?_ (by rw [List.length_map]; omega) a b
    intro x hx
    obtain ⟨y, hy, rfl⟩ := List.mem_map.1 hx
    exact ⟨Int.mul_nonneg (by omega) (R.s1 y hy).1, hs y hy⟩
  have z3 : 1 ≤ sumF ws a b := by
    obtain ⟨m, rfl⟩ : ∃ m, b = a + (m + 1) := ⟨b - a - 1, by omega⟩
    rw [sumF_succ ws a m (by omega)]
    have h8 := R.w1 _ (rd_mem (l := ws) (a := a + m) (by omega))
    have h9 := sumF_le (l := ws) (B := 100000) (by omega) (fun x hx => by have := R.w1 x hx; have := R.line2; omega) a (a + m)
    omega
  rw [sumF_scale] at z2 ⊢
  rw [sumF_scale]
  have l1 := R.line1
  have l2 := R.line2
  have e1 : k * line ≥ k := by have := Int.mul_le_mul_of_nonneg_left l1 (Int.le_of_lt hk); omega
  by_cases c : sumF ws a b ≤ line
  · have e2 : k * sumF ws a b ≤ k * line := Int.mul_le_mul_of_nonneg_left c (by omega)
    have e3 : k * 1 ≤ k * sumF ws a b := Int.mul_le_mul_of_nonneg_left z3 (by omega)
    unfold costI
    rw [if_pos (by omega), if_pos (by omega), ← Int.mul_sub, badI_scale hk (by omega) z1.1]
  · have e2 : ¬ k * sumF ws a b ≤ k * line := fun h => c (Int.le_of_mul_le_mul_left h hk)
    unfold costI
    rw [if_neg (by omega), if_neg (by omega)]
theorem right_scale {ws ss : List Int} {line k : Int} (R : Right ws ss line) (hk : 0 < k) (hline : k * line ≤ 100000) (hs : ∀ x ∈ ss, k * x ≤ 100000) : Right (ws.map (k * ·)) (ss.map (k * ·)) (k * line) := by
  have l1 := R.line1
  refine ⟨by rw [List.length_map]; exact R.len, by rw [List.length_map, List.length_map, R.eq], ?_, hline, ?_, ?_⟩
  · have := Int.mul_le_mul_of_nonneg_left l1 (Int.le_of_lt hk); omega
  · intro x hx
    obtain ⟨y, hy, rfl⟩ := List.mem_map.1 hx
    have h := R.w1 y hy
    have h1 := Int.mul_le_mul_of_nonneg_left h.1 (Int.le_of_lt hk)
    exact ⟨by omega, Int.mul_le_mul_of_nonneg_left h.2 (by omega)⟩
  · intro x hx
    obtain ⟨y, hy, rfl⟩ := List.mem_map.1 hx
    exact ⟨Int.mul_nonneg (by omega) (R.s1 y hy).1, hs y hy⟩
theorem break_scale {ws ss : List Int} {line k : Int} (R : Right ws ss line) (hk : 0 < k) (hk9 : k ≤ 9) (hline : k * line ≤ 100000) (hs : ∀ x ∈ ss, k * x ≤ 100000) : breakI (ws.map (k * ·)) (ss.map (k * ·)) (k * line) = breakI ws ss line := by
  rw [breakI_yes (chk_of R), breakI_yes (chk_of (right_scale R hk hline hs)), List.length_map, tab_congr (by rw [List.length_map]) (fun a b h1 h2 => cost_scale R hk hk9 hline hs a b h1 h2) ws.length (Nat.le_refl _)]
theorem scaled_l0 {ws ss : List Int} {line n : Int} (R : Right ws ss line) (hk : 0 < n) (hk9 : n ≤ 9) (hline : n * line ≤ 100000) : ∀ (d i k : Nat), ws.length = i + d → 2 * d + 2000 ≤ k → (∀ j, j < i → n * rd ss (j : Int) ≤ 100000) →
    partitalaw25_SystemsScaled.l0 k ws ss line n true (breakI ws ss line).1 ((ws.take i).map (n * ·)) ((ss.take i).map (n * ·)) i = some true
  | 0, i, k, e, hk1, h => by
    obtain rfl : i = ws.length := by omega
    obtain ⟨k, rfl⟩ : ∃ k', k = k' + 1 + 1 := ⟨k - 2, by omega⟩
    have l1 := R.line1
    have l2 := R.line2
    have heq := R.eq
    simp only [partitalaw25_SystemsScaled.l0, partitalaw25_SystemsScaled.j2]
    rw [if_neg (by omega), if_neg (by simp), List.take_length, show ss.take ws.length = ss by rw [← heq, List.take_length], wrap64_id_ (n := n * line) (by have := Int.mul_nonneg (a := n) (b := line) (by omega) (by omega); omega)]
    have hs : ∀ x ∈ ss, n * x ≤ 100000 := by
      intro x hx
      obtain ⟨j, hj, rfl⟩ := List.mem_iff_getElem.1 hx
      have := h j (by omega)
      rwa [rd_at hj] at this
    show (some (breakI _ _ _)).bind _ = _
    rw [Option.bind_some, break_scale R hk hk9 hline hs, if_pos trivial, breakI_yes (chk_of R), if_pos rfl]
    have := out_len R ws.length 0
    have := R.len
    dsimp only
    rw [same_self _ (by omega) (by omega)]; rfl
  | d + 1, i, k, e, hk1, h => by
    obtain ⟨k, rfl⟩ : ∃ k', k = k' + 1 + 1 := ⟨k - 2, by omega⟩
    have heq := R.eq
    have hlen := R.len
    have hi : i < ws.length := by omega
    have his : i < ss.length := by omega
    simp only [partitalaw25_SystemsScaled.l0, partitalaw25_SystemsScaled.j2]
    rw [if_pos (by omega), if_pos (by simp; omega), if_pos (by omega), if_pos (by omega), if_neg (by omega)]
    have q1 := Int.ediv_nonneg (a := 100000) (b := n) (by omega) (by omega)
    have q2 := Int.ediv_le_self (a := 100000) n (by omega)
    rw [wrap64_id_ (n := 100000 / n) (by omega)]
    by_cases c : rd ss (i : Int) > 100000 / n
    · rw [if_pos c]
    · rw [if_neg c, if_pos (by omega), if_pos (by rw [List.length_map, List.length_take]; omega), if_pos (by rw [List.length_map, List.length_take]; omega)]
      have c' : n * rd ss (i : Int) ≤ 100000 := (div_le hk).1 (by omega)
      have w := R.w1 _ (rd_mem (l := ws) (a := i) hi)
      have s := R.s1 _ (rd_mem (l := ss) (a := i) his)
      have w2 := Int.mul_le_mul_of_nonneg_left w.2 (Int.le_of_lt hk)
      have w3 := Int.mul_nonneg (a := n) (b := rd ws (i : Int)) (by omega) (by omega)
      have s3 := Int.mul_nonneg (a := n) (b := rd ss (i : Int)) (by omega) (by omega)
      rw [wrap64_id_ (n := n * rd ws (i : Int)) (by omega), wrap64_id_ (n := n * rd ss (i : Int)) (by omega), show wrap64 ((i : Int) + 1) = ((i + 1 : Nat) : Int) by unfold wrap64; omega]
      have t1 : (ws.take i).map (n * ·) ++ [n * rd ws (i : Int)] = (ws.take (i + 1)).map (n * ·) := by rw [List.take_add_one, List.getElem?_eq_getElem hi, rd_at hi, List.map_append]; rfl
      have t2 : (ss.take i).map (n * ·) ++ [n * rd ss (i : Int)] = (ss.take (i + 1)).map (n * ·) := by rw [List.take_add_one, List.getElem?_eq_getElem his, rd_at his, List.map_append]; rfl
      rw [t1, t2]
      exact scaled_l0 R hk hk9 hline d (i + 1) k (by omega) (by omega) (fun j hj => by
        rcases Nat.lt_or_ge j i with h' | h'
        · exact h j h'
        · obtain rfl : j = i := by omega
          exact c')
theorem SystemsScaled : ∀ (l0 : List Int) (l1 : List Int) (a2 : Int) (a3 : Int), (l0.length * 8 ≤ 140737488351232 ∧ ∀ y ∈ l0, (Lit.int .i64 y).wf = true) → (l1.length * 8 ≤ 140737488351232 ∧ ∀ y ∈ l1, (Lit.int .i64 y).wf = true) → ((Lit.int .i64 a2).wf = true) → ((Lit.int .i64 a3).wf = true) → ∃ k, partitalaw25_SystemsScaled.f k l0 l1 a2 a3 = some true := by
  intro l0 l1 line a3 _ _ _ _
  refine ⟨4000, ?_⟩
  unfold partitalaw25_SystemsScaled.f
  rw [shown_ok (by omega), Option.bind_some, few_if _ 101 (by omega), Option.bind_some, few_if _ 101 (by omega), Option.bind_some]
  obtain ⟨ws, hws⟩ : ∃ ws, l0.take ((mn (l0.length : Int) 101) : Int).toNat = ws := ⟨_, rfl⟩
  obtain ⟨ss, hss⟩ : ∃ ss, l1.take ((mn (l1.length : Int) 101) : Int).toNat = ss := ⟨_, rfl⟩
  have hn : ws.length ≤ 101 := by rw [← hws]; exact few_len l0 101
  rw [hws, hss]
  obtain ⟨n, hN⟩ : ∃ n, mn (mx a3 1) 9 = n := ⟨_, rfl⟩
  have n1 : 0 < n ∧ n ≤ 9 := by rw [← hN]; unfold mn mx; (repeat' split) <;> omega
  rw [hN]
  show ((some (breakI ws ss line)).bind _) = _
  rw [Option.bind_some, show (4000 : Nat) = 3999 + 1 from rfl]
  by_cases c : chkI ws ss line = 0
  · have R := right_of c
    have e2 : (breakI ws ss line).2 = 0 := by rw [breakI_yes c]
    rw [if_pos e2, if_neg (by omega)]
    simp only [partitalaw25_SystemsScaled.j0]
    by_cases c2 : line > 100000 / n
    · rw [if_pos (by simpa using c2), if_pos trivial, breakI_yes c]
      have := out_len R ws.length 0
      congr 1
      rw [decide_eq_true_eq]
      simp only []
      omega
    · rw [if_neg (by simpa using c2)]
      have := R.len
      exact scaled_l0 R n1.1 n1.2 ((div_le n1.1).1 (by omega)) ws.length 0 3999 (by omega) (by omega) (fun j hj => absurd hj (by omega))
  · rw [breakI_no c, if_neg c]
    simp only [partitalaw25_SystemsScaled.j0]
    rw [if_pos trivial, if_pos trivial]
    congr 1
end Go.Proofs.YtneaoicjbiebkaaDoor.Pure
