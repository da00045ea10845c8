/- Sameness, lengths, totals of breaks. No conditions. -/
import Derived.Test.YtneaoicjbiebkaaDoorSP2
import Derived.Test.YtneaoicjbiebkaaDoorQ8
namespace Go.Proofs.YtneaoicjbiebkaaDoor.Pure
open Go.RowKit Go.Proofs.YtneaoicjbiebkaaDoor.Q Go.Proofs.YtneaoicjbiebkaaDoorW.PrintWords Go.Proofs.YtneaoicjbiebkaaDoorW.PrintMore
set_option linter.unusedVariables false
theorem out_len {ws ss : List Int} {line : Int} (R : Right ws ss line) : ∀ (d a : Nat), (outI (tabI ws ss line ws.length) ws.length d a).length ≤ ws.length - a
  | 0, a => Nat.zero_le _
  | d + 1, a => by
    rcases Nat.lt_or_ge a ws.length with h | h
    · obtain ⟨j, hj, e, -⟩ := out_step R (d := d) h
      rw [e, List.length_cons]
      have := out_len R d (a + j + 1)
      have := (mFrom_spec ws ss line a).1
      omega
    · rw [out_end _ _ _ _ h]; exact Nat.zero_le _
theorem rd38_at {l : List S38} {i : Nat} (h : i < l.length) : rd_T38 l (i : Int) = l[i] := by
  unfold rd_T38; rw [show ((i : Nat) : Int).toNat = i from Int.toNat_natCast _, List.getD_eq_getElem?_getD, List.getElem?_eq_getElem h]; rfl
theorem rd_at {l : List Int} {i : Nat} (h : i < l.length) : rd l (i : Int) = l[i] := by
  unfold rd; rw [show ((i : Nat) : Int).toNat = i from Int.toNat_natCast _, List.getD_eq_getElem?_getD, List.getElem?_eq_getElem h]; rfl
theorem same_l0 (a : List S38) (hb : a.length ≤ 1000000) : ∀ (d i k : Nat), a.length = i + d → d + 1 ≤ k → partitaref25_Same.l0 k a a i = some true
  | 0, i, k, h1, h2 => by
    obtain ⟨k, rfl⟩ : ∃ k', k = k' + 1 := ⟨k - 1, by omega⟩
    simp only [partitaref25_Same.l0]; rw [if_neg (by omega)]
  | d + 1, i, k, h1, h2 => by
    obtain ⟨k, rfl⟩ : ∃ k', k = k' + 1 := ⟨k - 1, by omega⟩
    simp only [partitaref25_Same.l0]
    rw [if_pos (by omega), if_pos (by omega), if_pos (by omega), if_neg (by simp), show wrap64 ((i : Int) + 1) = ((i + 1 : Nat) : Int) by unfold wrap64; omega]
    exact same_l0 a hb d (i + 1) k (by omega) (by omega)
theorem same_self (a : List S38) (hb : a.length ≤ 1000000) {k : Nat} (hk : a.length + 1 ≤ k) : partitaref25_Same.f k a a = some true := by
  unfold partitaref25_Same.f
  rw [if_pos rfl]
  exact same_l0 a hb a.length 0 k (by omega) hk
def totL (l : List S38) : Int := (l.map fun x => x.f2 + 10).sum
theorem total_l0 (a : List S38) (hb : a.length ≤ 1000) (hc : ∀ x ∈ a, 0 ≤ x.f2 ∧ x.f2 ≤ 10000) : ∀ (d i k : Nat) (s : Int), a.length = i + d → d + 1 ≤ k → 0 ≤ s → s ≤ 10010 * i → partitaref25_Total.l0 k a s i = some (s + totL (a.drop i))
  | 0, i, k, s, h1, h2, _, _ => by
    obtain ⟨k, rfl⟩ : ∃ k', k = k' + 1 := ⟨k - 1, by omega⟩
    simp only [partitaref25_Total.l0]; rw [if_neg (by omega), List.drop_eq_nil_of_le (by omega)]; simp [totL]
  | d + 1, i, k, s, h1, h2, h3, h4 => by
    obtain ⟨k, rfl⟩ : ∃ k', k = k' + 1 := ⟨k - 1, by omega⟩
    simp only [partitaref25_Total.l0]
    have hi : i < a.length := by omega
    have hx := hc _ (List.getElem_mem hi)
    rw [if_pos (by omega), if_pos (by omega), rd38_at hi, wrap64_id_ (n := s + a[i].f2) (by omega), wrap64_id_ (n := s + a[i].f2 + 10) (by omega), show wrap64 ((i : Int) + 1) = ((i + 1 : Nat) : Int) by unfold wrap64; omega,
      total_l0 a hb hc d (i + 1) k (s + a[i].f2 + 10) (by omega) (by omega) (by omega) (by omega), List.drop_eq_getElem_cons hi]
    unfold totL
    rw [List.map_cons, List.sum_cons]
    congr 1; omega
theorem total_f (a : List S38) (hb : a.length ≤ 1000) (hc : ∀ x ∈ a, 0 ≤ x.f2 ∧ x.f2 ≤ 10000) {k : Nat} (hk : a.length + 1 ≤ k) : partitaref25_Total.f k a = some (totL a) := by
  unfold partitaref25_Total.f
  have := total_l0 a hb hc a.length 0 k 0 (by omega) hk (Int.le_refl _) (by omega)
  simpa using this
theorem few_if {α : Type} (n : Nat) (c : Int) (hc : 0 ≤ c) (x : Option α) : (if 0 ≤ mn (n : Int) c then (if mn (n : Int) c ≤ (n : Int) then x else none) else none) = x := by
  rw [if_pos (by unfold mn; split <;> omega), if_pos (by unfold mn; split <;> omega)]
theorem few_len {α : Type} (l : List α) (c : Nat) : (l.take ((mn (l.length : Int) (c : Int)) : Int).toNat).length ≤ c := by
  rw [List.length_take]; unfold mn; split <;> omega
theorem breakI_no {ws ss : List Int} {line : Int} (h : chkI ws ss line ≠ 0) : breakI ws ss line = ([], chkI ws ss line) := by unfold breakI; rw [if_neg h]
theorem breakI_yes {ws ss : List Int} {line : Int} (h : chkI ws ss line = 0) : breakI ws ss line = (outI (tabI ws ss line ws.length) ws.length ws.length (0 : Nat), 0) := by unfold breakI; rw [if_pos h]; rfl
end Go.Proofs.YtneaoicjbiebkaaDoor.Pure
