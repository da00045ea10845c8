/- A block that holds three cells and a row of triples of numbers: what is read of it, what a write of a triple makes of it. No program in sight. -/
import Derived.OrdersIn
namespace Go.Proofs
abbrev W3 := Int × Int × Int
def cellsW (g : Nat → W3) (n : Nat) : List Value := (List.range n).flatMap fun i => [.int .i64 (g i).1, .int .i64 (g i).2.1, .int .i64 (g i).2.2]
theorem cellsW_succ (g : Nat → W3) (n : Nat) : cellsW g (n + 1) = cellsW g n ++ [.int .i64 (g n).1, .int .i64 (g n).2.1, .int .i64 (g n).2.2] := by
  unfold cellsW; rw [List.range_succ, List.flatMap_append]; simp
theorem cellsW_len (g : Nat → W3) : ∀ n, (cellsW g n).length = 3 * n
  | 0 => rfl
  | n + 1 => by rw [cellsW_succ, List.length_append, cellsW_len g n]; simp; omega
theorem cellsW_get (g : Nat → W3) : ∀ (n i : Nat), i < n → (cellsW g n)[3 * i]? = some (.int .i64 (g i).1) ∧ (cellsW g n)[3 * i + 1]? = some (.int .i64 (g i).2.1) ∧ (cellsW g n)[3 * i + 2]? = some (.int .i64 (g i).2.2)
  | 0, i, h => absurd h (Nat.not_lt_zero _)
  | n + 1, i, h => by
    rw [cellsW_succ]
    have hl := cellsW_len g n
    rcases Nat.lt_or_ge i n with c | c
    · obtain ⟨h1, h2, h3⟩ := cellsW_get g n i c
      rw [List.getElem?_append_left (by omega), List.getElem?_append_left (by omega), List.getElem?_append_left (by omega)]
      exact ⟨h1, h2, h3⟩
    · obtain rfl : i = n := by omega
      rw [List.getElem?_append_right (by omega), List.getElem?_append_right (by omega), List.getElem?_append_right (by omega), hl]
      rw [show 3 * i - 3 * i = 0 by omega, show 3 * i + 1 - 3 * i = 1 by omega, show 3 * i + 2 - 3 * i = 2 by omega]
      exact ⟨rfl, rfl, rfl⟩
def updW (g : Nat → W3) (i : Nat) (x : W3) : Nat → W3 := fun j => if j = i then x else g j
theorem cellsW_congr {g g' : Nat → W3} : ∀ n, (∀ i, i < n → g i = g' i) → cellsW g n = cellsW g' n
  | 0, _ => rfl
  | n + 1, h => by rw [cellsW_succ, cellsW_succ, cellsW_congr n (fun i hi => h i (by omega)), h n (by omega)]
theorem cellsW_set (g : Nat → W3) (x : W3) : ∀ (n i : Nat), i < n → ((((cellsW g n).set (3 * i) (.int .i64 x.1)).set (3 * i + 1) (.int .i64 x.2.1)).set (3 * i + 2) (.int .i64 x.2.2)) = cellsW (updW g i x) n
  | 0, i, h => absurd h (Nat.not_lt_zero _)
  | n + 1, i, h => by
    rw [cellsW_succ, cellsW_succ]
    have hl := cellsW_len g n
    rcases Nat.lt_or_ge i n with c | c
    · have ih := cellsW_set g x n i c
      rw [List.set_append_left _ _ (by omega), List.set_append_left _ _ (by rw [List.length_set]; omega), List.set_append_left _ _ (by rw [List.length_set, List.length_set]; omega), ih]
      have e : updW g i x n = g n := by unfold updW; rw [if_neg (by omega)]
      rw [e]
    · obtain rfl : i = n := by omega
      rw [List.set_append_right _ _ (by omega), List.set_append_right _ _ (by omega), List.set_append_right _ _ (by omega), hl]
      rw [show 3 * i - 3 * i = 0 by omega, show 3 * i + 1 - 3 * i = 1 by omega, show 3 * i + 2 - 3 * i = 2 by omega]
      have e : updW g i x i = x := by unfold updW; rw [if_pos rfl]
      rw [e, cellsW_congr (g := g) (g' := updW g i x) i (fun j hj => by unfold updW; rw [if_neg (by omega)])]
      rfl
/-- Three cells, then the triples. -/
def blkW (a b c : Value) (g : Nat → W3) (n : Nat) : Array Value := ([a, b, c] ++ cellsW g n).toArray
theorem blkW_head (a b c : Value) (g : Nat → W3) (n : Nat) : (blkW a b c g n)[0]? = some a ∧ (blkW a b c g n)[1]? = some b ∧ (blkW a b c g n)[2]? = some c := ⟨rfl, rfl, rfl⟩
theorem blkW_get (a b c : Value) (g : Nat → W3) (n i : Nat) (h : i < n) : (blkW a b c g n)[3 + 3 * i]? = some (.int .i64 (g i).1) ∧ (blkW a b c g n)[3 + 3 * i + 1]? = some (.int .i64 (g i).2.1) ∧ (blkW a b c g n)[3 + 3 * i + 2]? = some (.int .i64 (g i).2.2) := by
  obtain ⟨h1, h2, h3⟩ := cellsW_get g n i h
  unfold blkW
  simp only [List.getElem?_toArray]
  rw [List.getElem?_append_right (by simp), List.getElem?_append_right (by simp; omega), List.getElem?_append_right (by simp; omega)]
  simp only [List.length_cons, List.length_nil]
  rw [show 3 + 3 * i - (0 + 1 + 1 + 1) = 3 * i by omega, show 3 + 3 * i + 1 - (0 + 1 + 1 + 1) = 3 * i + 1 by omega, show 3 + 3 * i + 2 - (0 + 1 + 1 + 1) = 3 * i + 2 by omega]
  exact ⟨h1, h2, h3⟩
theorem blkW_set (a b c : Value) (g : Nat → W3) (n i : Nat) (x : W3) (h : i < n) : (((blkW a b c g n).setIfInBounds (3 + 3 * i) (.int .i64 x.1)).setIfInBounds (3 + 3 * i + 1) (.int .i64 x.2.1)).setIfInBounds (3 + 3 * i + 2) (.int .i64 x.2.2) = blkW a b c (updW g i x) n := by
  unfold blkW
  rw [List.setIfInBounds_toArray, List.setIfInBounds_toArray, List.setIfInBounds_toArray, ← cellsW_set g x n i h]
  congr 1
  rw [List.set_append_right _ _ (by simp), List.set_append_right _ _ (by simp; omega), List.set_append_right _ _ (by simp; omega)]
  simp only [List.length_cons, List.length_nil]
  rw [show 3 + 3 * i - (0 + 1 + 1 + 1) = 3 * i by omega, show 3 + 3 * i + 1 - (0 + 1 + 1 + 1) = 3 * i + 1 by omega, show 3 + 3 * i + 2 - (0 + 1 + 1 + 1) = 3 * i + 2 by omega]
end Go.Proofs
