/- Plain facts on meters: which are right, their groups, raw ones. No conditions. -/
import Derived.Test.YtbncdlnnjhadgaaMP1
import Derived.Test.YtbncdlnnjhadgaaKinds
import Derived.Test.YtbncdlnnjhadgaaQ3
import Derived.Test.YtbncdlnnjhadgaaQ3
import Derived.Test.YtbncdlnnjhadgaaQ6
namespace Go.Proofs.Ytbncdlnnjhadgaa.Q
open Go.RowKit Go.Proofs.YtbncdlnnjhadgaaW.PrintWords Go.Proofs.YtbncdlnnjhadgaaW.PrintMore
set_option linter.unusedVariables false
set_option linter.unusedSimpArgs false
theorem pick_f {a n : Int} (ha : i64 a) (hn : 0 < n) (hn2 : n ≤ 1000000000) : ∃ r, partitalaw05_pick.f a n = some r ∧ 0 ≤ r ∧ r < n := by
  unfold partitalaw05_pick.f
  unfold i64 at ha
  by_cases h : a < 0
  · rw [if_pos h, if_neg (by omega), wrap64_id (n := a + 1) (by unfold i64; omega), wrap64_id (n := -(a + 1)) (by unfold i64; omega)]
    exact ⟨_, rfl, Int.tmod_nonneg _ (by omega), Int.tmod_lt_of_pos _ hn⟩
  · rw [if_neg h, if_neg (by omega)]
    exact ⟨_, rfl, Int.tmod_nonneg _ (by omega), Int.tmod_lt_of_pos _ hn⟩
theorem rd_mem {l : List Int} {i : Int} (h0 : 0 ≤ i) (h1 : i < l.length) : rd l i ∈ l := by
  unfold rd
  rw [List.getD_eq_getElem?_getD, List.getElem?_eq_getElem (by omega), Option.getD_some]
  exact List.getElem_mem _
theorem rd_drop {l : List Int} {i : Nat} (h : i < l.length) : l.drop i = rd l i :: l.drop (i + 1) := by
  rw [List.drop_eq_getElem_cons h]
  congr 1
  simp [rd, List.getD, h]
/-- Do groups fill what is left? e: there are none at all. -/
def okG (e : Bool) : Int → List Int → Bool
  | left, [] => left == 0 || e
  | left, g :: G => decide (1 ≤ g) && decide (g ≤ left) && okG e (left - g) G
theorem right_l0 {l : List Int} (hl : l.length ≤ 17592186044416) (n d : Int) : ∀ (m k i : Nat) (left : Int), i + m = l.length → m + 1 ≤ k → 0 ≤ left → left ≤ 32 →
    meter_Right.l0 k left l (l.length : Int) i n d l = some (okG (l.length == 0) left (l.drop i)) := by
  intro m
  induction m with
  | zero =>
    intro k i left hi hk h0 h1
    obtain ⟨k, rfl⟩ : ∃ j, k = j + 1 := ⟨k - 1, by omega⟩
    rw [meter_Right.l0, if_neg (by omega), List.drop_of_length_le (by omega), okG]
    by_cases h : left = 0
    · rw [if_pos h, h]; rfl
    · rw [if_neg h]
      congr 1
      rw [show (left == 0) = false by simpa using h, Bool.false_or]
      rw [Bool.eq_iff_iff]; simp
  | succ m ih =>
    intro k i left hi hk h0 h1
    obtain ⟨k, rfl⟩ : ∃ j, k = j + 1 := ⟨k - 1, by omega⟩
    rw [meter_Right.l0, if_pos (by omega), if_pos (by omega), if_pos (by omega), rd_drop (by omega), okG]
    by_cases c1 : rd l i < 1
    · rw [if_pos c1, decide_eq_false (by omega)]; simp
    · rw [if_neg c1, decide_eq_true (by omega), Bool.true_and]
      by_cases c2 : rd l i > left
      · rw [if_pos c2, decide_eq_false (by omega)]; simp
      · rw [if_neg c2, decide_eq_true (by omega), Bool.true_and, wrap64_id (n := left - rd l i) (by unfold i64; omega), wrap64_id (n := (i : Int) + 1) (by unfold i64; omega)]
        exact ih k (i + 1) (left - rd l i) (by omega) (by omega) (by omega) (by omega)
def dOK (d : Int) : Bool := !(Go.bits .and .i64 d (wrap64 (d - 1)) != 0)
def rightM (n d : Int) (l : List Int) : Bool := decide (1 ≤ n) && (decide (n ≤ 32) && (decide (1 ≤ d) && (decide (d ≤ 64) && (dOK d && okG (l.length == 0) n l))))
theorem right_f {n d : Int} {l : List Int} (hl : l.length ≤ 17592186044416) {k : Nat} (hk : l.length + 3 ≤ k) : meter_Right.f k n d l = some (rightM n d l) := by
  obtain ⟨k, rfl⟩ : ∃ j, k = j + 1 := ⟨k - 1, by omega⟩
  unfold meter_Right.f rightM
  by_cases c1 : n < 1
  · rw [if_pos c1, decide_eq_false (by omega)]; simp [meter_Right.j0]
  rw [if_neg c1, decide_eq_true (show 1 ≤ n by omega), Bool.true_and]
  by_cases c2 : n > 32
  · rw [if_pos c2, decide_eq_false (by omega)]; simp [meter_Right.j0]
  rw [if_neg c2, decide_eq_true (show n ≤ 32 by omega), Bool.true_and]
  by_cases c3 : d < 1
  · rw [if_pos c3, decide_eq_false (by omega)]; simp [meter_Right.j0]
  rw [if_neg c3, decide_eq_true (show 1 ≤ d by omega), Bool.true_and]
  by_cases c4 : d > 64
  · rw [if_pos c4, decide_eq_false (by omega)]; simp [meter_Right.j0]
  rw [if_neg c4, decide_eq_true (show d ≤ 64 by omega), Bool.true_and]
  unfold dOK
  cases hb : (Go.bits .and .i64 d (wrap64 (d - 1)) != 0) with
  | true => simp [meter_Right.j0]
  | false =>
    rw [meter_Right.j0, if_neg (by decide), Bool.not_false, Bool.true_and]
    have := right_l0 hl n d l.length k 0 n (by omega) (by omega) (by omega) (by omega)
    simpa using this
/-- A meter that is right. -/
structure GM (n d : Int) (l : List Int) : Prop where
  n1 : 1 ≤ n
  n2 : n ≤ 32
  d1 : d = 1 ∨ d = 2 ∨ d = 4 ∨ d = 8 ∨ d = 16 ∨ d = 32 ∨ d = 64
  pos : ∀ g ∈ l, 1 ≤ g ∧ g ≤ 32
  sum : l = [] ∨ l.sum = n
theorem GM.d64 {n d : Int} {l : List Int} (h : GM n d l) : 1 ≤ d ∧ d ≤ 64 := by rcases h.d1 with h | h | h | h | h | h | h <;> omega
theorem len_le_sum : ∀ {l : List Int}, (∀ g ∈ l, 1 ≤ g ∧ g ≤ 32) → (l.length : Int) ≤ l.sum
  | [], _ => by simp
  | g :: l, h => by
    have h1 := h g (by simp)
    have h2 := len_le_sum (l := l) (fun x hx => h x (by simp [hx]))
    rw [List.sum_cons, List.length_cons]; omega
theorem okG_pos {e : Bool} : ∀ {l : List Int} {left : Int}, (∀ g ∈ l, 1 ≤ g ∧ g ≤ 32) → l.sum = left → okG e left l = true
  | [], left, _, h => by simp at h; rw [okG, ← h]; simp
  | g :: l, left, hp, h => by
    have h1 := hp g (by simp)
    have h2 := len_le_sum (l := l) (fun x hx => hp x (by simp [hx]))
    rw [List.sum_cons] at h
    rw [okG, decide_eq_true (by omega), decide_eq_true (by omega), Bool.true_and, Bool.true_and]
    exact okG_pos (fun x hx => hp x (by simp [hx])) (by omega)
theorem GM.right {n d : Int} {l : List Int} (h : GM n d l) : rightM n d l = true := by
  unfold rightM
  have hd := h.d64
  rw [decide_eq_true h.n1, decide_eq_true h.n2, decide_eq_true hd.1, decide_eq_true hd.2]
  simp only [Bool.true_and, Bool.and_eq_true]
  refine ⟨by rcases h.d1 with h | h | h | h | h | h | h <;> subst h <;> decide +kernel, ?_⟩
  rcases h.sum with rfl | hs
  · simp [okG]
  · exact okG_pos h.pos hs
theorem GM.len {n d : Int} {l : List Int} (h : GM n d l) : l.length ≤ 32 := by
  rcases h.sum with rfl | hs
  · simp
  · have := len_le_sum h.pos; have := h.n2; omega
theorem sum_rep (m : Nat) (v : Int) : (List.replicate m v).sum = m * v := by
  induction m with
  | zero => simp
  | succ m ih => rw [List.replicate_succ, List.sum_cons, ih, Int.natCast_succ, Int.add_mul]; omega
theorem grp_ok {n d : Int} {l : List Int} (h : GM n d l) : (grp n d l).sum = n ∧ (∀ g ∈ grp n d l, 1 ≤ g ∧ g ≤ 32) ∧ 1 ≤ (grp n d l).length ∧ (grp n d l).length ≤ 32 := by
  have key : (grp n d l).sum = n ∧ (∀ g ∈ grp n d l, 1 ≤ g ∧ g ≤ 32) := by
    have h1 := h.n1
    have h2 := h.n2
    unfold grp
    split
    · rename_i h0
      rcases h.sum with rfl | hs
      · simp at h0
      · exact ⟨hs, h.pos⟩
    · split
      · rename_i hc
        refine ⟨by rw [sum_rep]; omega, fun g hg => by rw [(List.mem_replicate.1 hg).2]; omega⟩
      · refine ⟨by rw [sum_rep]; omega, fun g hg => by rw [(List.mem_replicate.1 hg).2]; omega⟩
  have hl := len_le_sum key.2
  have h1 := h.n1
  have h2 := h.n2
  refine ⟨key.1, key.2, ?_, by omega⟩
  cases hg : grp n d l with
  | nil => rw [hg] at key; simp at key; omega
  | cons a t => simp
theorem GM.good {n d : Int} {l : List Int} (h : GM n d l) : goodM n d l = true := by
  obtain ⟨g1, g2, g3, g4⟩ := grp_ok h
  have hd := h.d64
  unfold goodM
  rw [decide_eq_true h.n1, decide_eq_true h.n2, decide_eq_true hd.1, decide_eq_true hd.2, decide_eq_true g4]
  simp only [Bool.true_and, List.all_eq_true, Bool.and_eq_true, decide_eq_true_eq]
  exact g2
theorem meter_l0 {l2 : List Int} (hw : ∀ y ∈ l2, i64 y) (hl : l2.length ≤ 17592186044416) (N D a b : Int) : ∀ (m k i : Nat) (left : Int) (G : List Int), left.toNat ≤ m → 2 * m + 3 ≤ k → 0 ≤ left → left ≤ 32 → i ≤ 32 → i + left.toNat ≤ 32 → (∀ g ∈ G, 1 ≤ g ∧ g ≤ 32) → G.length = i → G.sum + left = N →
    ∃ G', partitalaw05_Meter.l0 k true left i a b l2 N D G = some (N, D, G') ∧ (∀ g ∈ G', 1 ≤ g ∧ g ≤ 32) ∧ G'.sum = N := by
  intro m
  induction m with
  | zero =>
    intro k i left G hm hk h0 h1 hi hi2 hG hGl hs
    obtain ⟨k, rfl⟩ : ∃ j, k = j + 2 := ⟨k - 2, by omega⟩
    refine ⟨G, ?_, hG, by omega⟩
    rw [partitalaw05_Meter.l0, if_neg (by omega), partitalaw05_Meter.j1, if_neg (by decide)]
  | succ m ih =>
    intro k i left G hm hk h0 h1 hi hi2 hG hGl hs
    obtain ⟨k, rfl⟩ : ∃ j, k = j + 2 := ⟨k - 2, by omega⟩
    by_cases hz : left = 0
    · refine ⟨G, ?_, hG, by omega⟩
      rw [partitalaw05_Meter.l0, if_neg (by omega), partitalaw05_Meter.j1, if_neg (by decide)]
    rw [partitalaw05_Meter.l0, if_pos (by omega), partitalaw05_Meter.j1, if_pos rfl]
    have go : ∀ g : Int, 1 ≤ g → g ≤ left → ∃ G', (if G.length < 17592186044416 then partitalaw05_Meter.l0 k true (wrap64 (left - g)) (wrap64 ((i : Int) + 1)) a b l2 N D (G ++ [g]) else none) = some (N, D, G') ∧ (∀ g ∈ G', 1 ≤ g ∧ g ≤ 32) ∧ G'.sum = N := by
      intro g hg1 hg2
      rw [if_pos (by omega), wrap64_id (n := left - g) (by unfold i64; omega), wrap64_id (n := (i : Int) + 1) (by unfold i64; omega)]
      refine ih k (i + 1) (left - g) (G ++ [g]) (by omega) (by omega) (by omega) (by omega) (by omega) (by omega) ?_ (by simp [hGl]) (by simp; omega)
      intro x hx
      rcases List.mem_append.1 hx with hx | hx
      · exact hG x hx
      · rw [List.mem_singleton.1 hx]; omega
    by_cases hc : (i : Int) < l2.length
    · rw [if_pos hc, if_pos (by omega)]
      obtain ⟨r, hr, r0, r1⟩ := pick_f (hw _ (rd_mem (l := l2) (i := (i : Int)) (by omega) hc)) (n := 5) (by omega) (by omega)
      rw [hr]
      simp only [Option.bind_some]
      rw [wrap64_id (n := 1 + r) (by unfold i64; omega)]
      exact go _ (by unfold mn; split <;> omega) (by unfold mn; split <;> omega)
    · rw [if_neg hc]
      exact go left (by omega) (Int.le_refl _)
/-- A raw meter is right; with groups, if these were asked for. -/
theorem meter_f {a b : Int} {l2 : List Int} (ha : i64 a) (hb : i64 b) (hw : ∀ y ∈ l2, i64 y) (hl : l2.length ≤ 17592186044416) (g : Bool) {k : Nat} (hk : 80 ≤ k) : ∃ n d G, partitalaw05_Meter.f k a b l2 g = some (n, d, G) ∧ GM n d G ∧ (g = false → G = []) ∧ (g = true → G.sum = n) := by
  obtain ⟨x, hx, x0, x1⟩ := pick_f ha (n := 32) (by omega) (by omega)
  obtain ⟨y, hy, y0, y1⟩ := pick_f hb (n := 7) (by omega) (by omega)
  unfold partitalaw05_Meter.f
  rw [hx, hy]
  simp only [Option.bind_some]
  rw [if_pos y0, wrap64_id (n := 1 + x) (by unfold i64; omega)]
  have hsh : shl .i64 1 y = 1 ∨ shl .i64 1 y = 2 ∨ shl .i64 1 y = 4 ∨ shl .i64 1 y = 8 ∨ shl .i64 1 y = 16 ∨ shl .i64 1 y = 32 ∨ shl .i64 1 y = 64 := by
    obtain h | h | h | h | h | h | h : y = 0 ∨ y = 1 ∨ y = 2 ∨ y = 3 ∨ y = 4 ∨ y = 5 ∨ y = 6 := by omega
    all_goals subst h; decide
  generalize shl .i64 1 y = d at hsh
  obtain ⟨k, rfl⟩ : ∃ j, k = j + 2 := ⟨k - 2, by omega⟩
  cases g with
  | false =>
    refine ⟨1 + x, d, [], ?_, ⟨by omega, by omega, hsh, by simp, .inl rfl⟩, fun _ => rfl, fun h => by cases h⟩
    rw [partitalaw05_Meter.l0, if_pos (by omega), partitalaw05_Meter.j1, if_neg (by decide)]
  | true =>
    obtain ⟨G, h1, h2, h3⟩ := meter_l0 hw hl (1 + x) d a b 32 (k + 2) 0 (1 + x) [] (by omega) (by omega) (by omega) (by omega) (by omega) (by omega) (by simp) rfl (by simp)
    exact ⟨1 + x, d, G, h1, ⟨by omega, by omega, hsh, h2, .inr h3⟩, fun h => (by cases h), fun _ => h3⟩
end Go.Proofs.Ytbncdlnnjhadgaa.Q
