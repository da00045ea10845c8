/- The document's break is the program's. No conditions. -/
import Derived.Test.YtneaoicjbiebkaaDoorSP3
import Derived.Test.YtneaoicjbiebkaaDoorQ6
namespace Go.Proofs.YtneaoicjbiebkaaDoor.Pure
open Go.RowKit Go.Proofs.YtneaoicjbiebkaaDoor.Q Go.Proofs.YtneaoicjbiebkaaDoorW.PrintWords Go.Proofs.YtneaoicjbiebkaaDoorW.PrintMore
set_option linter.unusedVariables false
theorem refCost_f (k : Nat) (hk : 3 ≤ k) (w s l : Int) (hw : (Lit.int .i64 w).wf = true) : partitaref25_Cost.f k w s l = some (costI w s l) := by
  obtain ⟨k, rfl⟩ : ∃ k', k = k' + 1 + 1 := ⟨k - 2, by omega⟩
  have no : ∀ P : Prop, (P → False) → ¬ (1 ≤ w ∧ w ≤ 100000 ∧ 1 ≤ l ∧ l ≤ 100000 ∧ 0 ≤ s ∧ s ≤ 10000000 ∧ w ≤ l) → partitaref25_Cost.j0 (k + 1 + 1) w s l true = some (costI w s l) := by
    intro _ _ h
    simp only [partitaref25_Cost.j0]
    rw [if_pos trivial]
    unfold costI
    rw [if_neg h]
  unfold partitaref25_Cost.f
  by_cases c1 : w < 1
  · rw [if_pos c1]; exact no False id (by omega)
  rw [if_neg c1]
  by_cases c2 : w > 100000
  · rw [if_pos c2]; exact no False id (by omega)
  rw [if_neg c2]
  by_cases c3 : s < 0
  · rw [if_pos c3]; exact no False id (by omega)
  rw [if_neg c3]
  by_cases c4 : s > 10000000
  · rw [if_pos c4]; exact no False id (by omega)
  rw [if_neg c4]
  by_cases c5 : l < 1
  · rw [if_pos c5]; exact no False id (by omega)
  rw [if_neg c5]
  by_cases c6 : l > 100000
  · rw [if_pos c6]; exact no False id (by omega)
  rw [if_neg c6]
  by_cases c7 : w > l
  · rw [decide_eq_true c7]; exact no False id (by omega)
  rw [decide_eq_false c7]
  have hcost : costI w s l = (badI (l - w) s, true) := by unfold costI; rw [if_pos (by omega)]
  rw [hcost]
  simp only [partitaref25_Cost.j0]
  rw [if_neg (by simp), wrap64_id_ (n := l - w) (by omega)]
  obtain ⟨g, hg⟩ : ∃ g, l - w = g := ⟨_, rfl⟩
  have hg0 : 0 ≤ g ∧ g ≤ 100000 := by omega
  rw [hg]
  clear no hg hcost c1 c2 c5 c6 c7 hw
  unfold badI
  by_cases d1 : g = 0
  · rw [if_pos d1, if_pos d1]
  rw [if_neg d1, if_neg d1]
  by_cases d2 : s = 0
  · rw [if_pos d2, if_pos d2]
    simp only [partitaref25_Cost.j1]
    rw [if_pos trivial]
  rw [if_neg d2, if_neg d2, wrap64_id_ (n := 5 * s) (by omega)]
  by_cases d3 : g ≥ 5 * s
  · rw [decide_eq_true d3, if_pos d3]
    simp only [partitaref25_Cost.j1]
    rw [if_pos trivial]
  rw [decide_eq_false d3, if_neg d3]
  simp only [partitaref25_Cost.j1]
  rw [if_neg (by simp), wrap64_id_ (n := 5 * g) (by omega)]
  by_cases d4 : s ≥ 5 * g
  · rw [if_pos d4, if_pos d4]
  rw [if_neg d4, if_neg d4]
  have hs' : s ≤ 500000 := by omega
  obtain ⟨a1, a2⟩ := cube_le hg0.1 hg0.2
  obtain ⟨b1, b2⟩ := cube_le (a := s) (by omega) hs'
  have a3 : 0 ≤ g * g := Int.mul_nonneg hg0.1 hg0.1
  have a4 : g * g ≤ 100000 * 100000 := Int.mul_le_mul hg0.2 hg0.2 hg0.1 (by omega)
  have b3 : 0 ≤ s * s := Int.mul_nonneg (by omega) (by omega)
  have b4 : s * s ≤ 500000 * 500000 := Int.mul_le_mul hs' hs' (by omega) (by omega)
  have b5 := cube_pos (s := s) (by omega)
  have e1 : 100 * g * g = 100 * (g * g) := by rw [Int.mul_assoc]
  have e2 : 100 * g * g * g = 100 * (g * g * g) := by rw [Int.mul_assoc 100, Int.mul_assoc 100]
  rw [wrap64_id_ (n := s * s) (by omega), wrap64_id_ (n := s * s * s) (by omega), if_neg (by omega), wrap64_id_ (n := 100 * g) (by omega), wrap64_id_ (n := 100 * g * g) (by omega), wrap64_id_ (n := 100 * g * g * g) (by omega), e2]
  have e5 : 0 ≤ Int.tdiv (100 * (g * g * g)) (s * s * s) := Int.tdiv_nonneg (by omega) b1
  have e6 : Int.tdiv (100 * (g * g * g)) (s * s * s) ≤ 100 * (g * g * g) := by
    rw [Int.tdiv_eq_ediv_of_nonneg (by omega)]; exact Int.ediv_le_self _ (by omega)
  rw [wrap64_id_ (by omega)]
/-- The document's check is the program's. -/
theorem refcheck_l1 (ws : List Int) (line : Int) (hn : ws.length ≤ 1000) : ∀ (d i k : Nat), ws.length = i + d → d + 1 ≤ k → partitaref25_check.l1 k ws line i = some (if ∀ x ∈ ws.drop i, x ≤ line then 0 else 250)
  | 0, i, k, e, hk => by
    obtain ⟨k, rfl⟩ : ∃ k', k = k' + 1 := ⟨k - 1, by omega⟩
    simp only [partitaref25_check.l1]
    rw [if_neg (by omega), List.drop_eq_nil_of_le (by omega), if_pos (by simp)]
  | d + 1, i, k, e, hk => by
    obtain ⟨k, rfl⟩ : ∃ k', k = k' + 1 := ⟨k - 1, by omega⟩
    have hi : i < ws.length := by omega
    simp only [partitaref25_check.l1]
    rw [if_pos (by omega), if_pos (by omega), rd_at hi, List.drop_eq_getElem_cons hi]
    by_cases c : ws[i] > line
    · rw [if_pos c, if_neg (by intro h; have := h _ (List.mem_cons_self ..); omega)]
    · rw [if_neg c, show wrap64 ((i : Int) + 1) = ((i + 1 : Nat) : Int) by unfold wrap64; omega, refcheck_l1 ws line hn d (i + 1) k (by omega) (by omega)]
      congr 1
      by_cases h : ∀ x ∈ ws.drop (i + 1), x ≤ line
      · rw [if_pos h, if_pos (by intro x hx; rcases List.mem_cons.1 hx with rfl | hx; omega; exact h x hx)]
      · rw [if_neg h, if_neg (fun h' => h fun x hx => h' x (List.mem_cons_of_mem _ hx))]
theorem refcheck_l0 (ws ss : List Int) (line : Int) (hn : ws.length ≤ 1000) (hq : ss.length = ws.length) : ∀ (d i k : Nat), ws.length = i + d → d + ws.length + 10 ≤ k → partitaref25_check.l0 k ws ss line i = some (if (∀ x ∈ ws.drop i, 1 ≤ x ∧ x ≤ 100000) ∧ (∀ x ∈ ss.drop i, 0 ≤ x ∧ x ≤ 100000) then (if ∀ x ∈ ws, x ≤ line then 0 else 250) else 2)
  | 0, i, k, e, hk => by
    obtain ⟨k, rfl⟩ : ∃ k', k = k' + 1 := ⟨k - 1, by omega⟩
    simp only [partitaref25_check.l0]
    rw [if_neg (by omega), List.drop_eq_nil_of_le (by omega), List.drop_eq_nil_of_le (by omega), if_pos (by simp)]
    have := refcheck_l1 ws line hn ws.length 0 k (by omega) (by omega)
    simpa using this
  | d + 1, i, k, e, hk => by
    obtain ⟨k, rfl⟩ : ∃ k', k = k' + 1 := ⟨k - 1, by omega⟩
    have hi : i < ws.length := by omega
    have his : i < ss.length := by omega
    simp only [partitaref25_check.l0]
    rw [if_pos (by omega), if_pos (by omega), rd_at hi, rd_at his, List.drop_eq_getElem_cons hi, List.drop_eq_getElem_cons his]
    by_cases c1 : ws[i] < 1
    · rw [if_pos c1, if_neg (by intro h; have := h.1 _ (List.mem_cons_self ..); omega)]
    rw [if_neg c1]
    by_cases c2 : ws[i] > 100000
    · rw [if_pos c2, if_neg (by intro h; have := h.1 _ (List.mem_cons_self ..); omega)]
    rw [if_neg c2, if_pos (by omega)]
    by_cases c3 : ss[i] < 0
    · rw [if_pos c3, if_neg (by intro h; have := h.2 _ (List.mem_cons_self ..); omega)]
    rw [if_neg c3]
    by_cases c4 : ss[i] > 100000
    · rw [if_pos c4, if_neg (by intro h; have := h.2 _ (List.mem_cons_self ..); omega)]
    rw [if_neg c4, show wrap64 ((i : Int) + 1) = ((i + 1 : Nat) : Int) by unfold wrap64; omega, refcheck_l0 ws ss line hn hq d (i + 1) k (by omega) (by omega)]
    congr 1
    by_cases h : (∀ x ∈ ws.drop (i + 1), 1 ≤ x ∧ x ≤ 100000) ∧ (∀ x ∈ ss.drop (i + 1), 0 ≤ x ∧ x ≤ 100000)
    · have h' : (∀ x ∈ ws[i] :: ws.drop (i + 1), 1 ≤ x ∧ x ≤ 100000) ∧ (∀ x ∈ ss[i] :: ss.drop (i + 1), 0 ≤ x ∧ x ≤ 100000) := ⟨by intro x hx; rcases List.mem_cons.1 hx with rfl | hx; omega; exact h.1 x hx, by intro x hx; rcases List.mem_cons.1 hx with rfl | hx; omega; exact h.2 x hx⟩
      rw [if_pos h, if_pos h']
    · rw [if_neg h, if_neg (fun h' => h ⟨fun x hx => h'.1 x (List.mem_cons_of_mem _ hx), fun x hx => h'.2 x (List.mem_cons_of_mem _ hx)⟩)]
theorem refcheck_f (ws ss : List Int) (line : Int) (hn : ws.length ≤ 1000) {k : Nat} (hk : 2 * ws.length + 20 ≤ k) : partitaref25_check.f k ws ss line = some (chkI ws ss line) := by
  obtain ⟨k, rfl⟩ : ∃ k', k = k' + 1 := ⟨k - 1, by omega⟩
  unfold partitaref25_check.f chkI
  by_cases c1 : ws.length > 100
  · rw [if_pos (by omega), if_pos c1]; simp only [partitaref25_check.j0]; rw [if_pos trivial]
  rw [if_neg (by omega), if_neg c1]
  by_cases c2 : ws.length ≠ ss.length
  · rw [if_neg (by omega), if_pos c2]; simp only [partitaref25_check.j0]; rw [if_pos trivial]
  rw [if_pos (by omega), if_neg c2]
  by_cases c3 : line < 1
  · rw [if_pos c3, if_pos (by rw [Bool.eq_false_iff]; intro h; have := inB_iff.1 h line (List.mem_singleton.2 rfl); omega)]
    simp only [partitaref25_check.j0]; rw [if_pos trivial]
  rw [if_neg c3]
  by_cases c4 : line > 100000
  · rw [decide_eq_true c4, if_pos (by rw [Bool.eq_false_iff]; intro h; have := inB_iff.1 h line (List.mem_singleton.2 rfl); omega)]
    simp only [partitaref25_check.j0]; rw [if_pos trivial]
  rw [decide_eq_false c4, if_neg (by rw [inB_iff.2 (fun x hx => by rw [List.mem_singleton.1 hx]; omega)]; simp)]
  simp only [partitaref25_check.j0]
  rw [if_neg (by simp)]
  have := refcheck_l0 ws ss line hn (by omega) ws.length 0 k (by omega) (by omega)
  simp only [List.drop_zero] at this
  rw [show ((0 : Nat) : Int) = 0 from rfl] at this
  rw [this]
  congr 1
  by_cases h1 : inB 1 100000 ws = false
  · rw [if_pos h1, if_neg (fun h => by rw [inB_iff.2 h.1] at h1; cases h1)]
  rw [if_neg h1]
  by_cases h2 : inB 0 100000 ss = false
  · rw [if_pos h2, if_neg (fun h => by rw [inB_iff.2 h.2] at h2; cases h2)]
  rw [if_neg h2]
  have h1' := inB_iff.1 (by simpa using h1)
  have h2' := inB_iff.1 (by simpa using h2)
  rw [if_pos ⟨h1', h2'⟩]
  by_cases h3 : inB 1 line ws = false
  · rw [if_pos h3, if_neg (fun h => by rw [inB_iff.2 (fun x hx => ⟨(h1' x hx).1, h x hx⟩)] at h3; cases h3)]
  · rw [if_neg h3, if_pos (fun x hx => (inB_iff.1 (by simpa using h3) x hx).2)]
theorem one_l0 {ws ss : List Int} {line : Int} (R : Right ws ss line) (a b : Nat) (hb : b ≤ ws.length) : ∀ (d i k : Nat), b = i + d → a ≤ i → d + 10 ≤ k → partitaref25_one.l0 k ws ss line a b (sumF ws a i) (sumF ss a i) i = some ((a : Int), (b : Int), cst ws ss line a b, (costI (sumF ws a b) (sumF ss a b) line).2)
  | 0, i, k, e, ha, hk => by
    obtain rfl : i = b := by omega
    obtain ⟨k, rfl⟩ : ∃ k', k = k' + 1 := ⟨k - 1, by omega⟩
    have hl := R.len
    have b1 := sumF_le (l := ws) (B := 100000) (by omega) (fun x hx => by have := R.w1 x hx; have := R.line2; omega) a i
    simp only [partitaref25_one.l0]
    rw [if_neg (by omega), refCost_f k (by omega) _ _ _ (by rw [show (Lit.int .i64 (sumF ws a i)).wf = true ↔ IntKind.i64.min ≤ sumF ws a i ∧ sumF ws a i ≤ IntKind.i64.max by simp [Lit.wf]]; exact ⟨by show -9223372036854775808 ≤ _; omega, by show _ ≤ (9223372036854775807 : Int); omega⟩), Option.bind_some]
    unfold cst
    by_cases c : i = ws.length
    · rw [if_pos (by omega), if_pos c]
    · rw [if_neg (by omega), if_neg c]
  | d + 1, i, k, e, ha, hk => by
    obtain ⟨k, rfl⟩ : ∃ k', k = k' + 1 := ⟨k - 1, by omega⟩
    have hl := R.len
    have hq := R.eq
    obtain ⟨m, rfl⟩ : ∃ m, i = a + m := ⟨i - a, by omega⟩
    have e1 := sumF_succ ws a m (by omega)
    have e2 := sumF_succ ss a m (by omega)
    have b1 := sumF_le (l := ws) (B := 100000) (by omega) (fun x hx => by have := R.w1 x hx; have := R.line2; omega) a (a + (m + 1))
    have b2 := sumF_le (l := ss) (B := 100000) (by omega) R.s1 a (a + (m + 1))
    simp only [partitaref25_one.l0]
    rw [if_pos (by omega), if_pos (by omega), if_pos (by omega), if_pos (by omega), ← e1, ← e2, wrap64_id_ (n := sumF ws a (a + (m + 1))) (by omega), wrap64_id_ (n := sumF ss a (a + (m + 1))) (by omega), show wrap64 (((a + m : Nat) : Int) + 1) = ((a + m + 1 : Nat) : Int) by unfold wrap64; omega]
    exact one_l0 R a b hb d (a + m + 1) k (by omega) (by omega) (by omega)
theorem one_f {ws ss : List Int} {line : Int} (R : Right ws ss line) (a b : Nat) (hab : a ≤ b) (hb : b ≤ ws.length) {k : Nat} (hk : 200 ≤ k) : partitaref25_one.f k ws ss line a b = some ((a : Int), (b : Int), cst ws ss line a b, (costI (sumF ws a b) (sumF ss a b) line).2) := by
  unfold partitaref25_one.f
  have hl := R.len
  have z1 : sumF ws a a = 0 := by have := sumF_zero ws a; simpa using this
  have z2 : sumF ss a a = 0 := by have := sumF_zero ss a; simpa using this
  have := one_l0 R a b hb (b - a) a k (by omega) (Nat.le_refl _) (by omega)
  rw [z1, z2] at this
  exact this
end Go.Proofs.YtneaoicjbiebkaaDoor.Pure
