/- Places and rows of ratios. No conditions. -/
import Derived.Test.YtbncdlnnjhadgaaMP2
import Derived.Test.YtbncdlnnjhadgaaQ9
namespace Go.Proofs.Ytbncdlnnjhadgaa.Q
open Go.RowKit Go.Proofs.YtbncdlnnjhadgaaW.PrintWords Go.Proofs.YtbncdlnnjhadgaaW.PrintMore
set_option linter.unusedVariables false
set_option linter.unusedSimpArgs false
theorem mul_pos2 {a b : Int} (ha : 0 < a) (hb : 0 < b) : 0 < a * b := Int.mul_pos ha hb
theorem nd_bd {d D : Int} (hd : 1 ≤ d) (hd2 : d ≤ 64) (h1 : 1 ≤ D) (h2 : D ≤ 12) : 1 ≤ d * D ∧ d * D ≤ 768 := by
  have a1 : 1 * 1 ≤ d * D := Int.mul_le_mul hd h1 (by omega) (by omega)
  have a2 : d * D ≤ 64 * 12 := Int.mul_le_mul hd2 h2 (by omega) (by omega)
  omega
theorem nD_bd {n D : Int} (hn : 1 ≤ n) (hn2 : n ≤ 32) (h1 : 1 ≤ D) (h2 : D ≤ 12) : 1 ≤ n * D ∧ n * D ≤ 384 := by
  have a1 : 1 * 1 ≤ n * D := Int.mul_le_mul hn h1 (by omega) (by omega)
  have a2 : n * D ≤ 32 * 12 := Int.mul_le_mul hn2 h2 (by omega) (by omega)
  omega
theorem rows_get {L : List (Int × Int)} {i : Nat} {q : Int × Int} (h : L[i]? = some q) : rd_T26 (rowsP L) (i : Int) = ⟨q.1, q.2⟩ := by
  unfold rd_T26 rowsP
  rw [List.getD_eq_getElem?_getD, Int.toNat_natCast, List.getElem?_map, h]; rfl
theorem rows_len (L : List (Int × Int)) : (rowsP L).length = L.length := by simp [rowsP]
theorem place_f {n d : Int} {G : List Int} (h : GM n d G) {a b : Int} (ha : i64 a) (hb : i64 b) {k : Nat} (hk : 1 ≤ k) : ∃ D t x y, partitalaw05_place.f k n d G a b = some (x, y) ∧ partitalaw05_pick.f b 12 = some (D - 1) ∧ 1 ≤ D ∧ D ≤ 12 ∧ 0 ≤ t ∧ t < n * D ∧ At (d * D) t x y := by
  have hd := h.d64
  obtain ⟨r, hr, r0, r1⟩ := pick_f hb (n := 12) (by omega) (by omega)
  have hN := nd_bd hd.1 hd.2 (show 1 ≤ 1 + r by omega) (by omega)
  have hnD := nD_bd h.n1 h.n2 (show 1 ≤ 1 + r by omega) (by omega)
  obtain ⟨t, ht, t0, t1⟩ := pick_f ha (n := n * (1 + r)) (by omega) (by omega)
  obtain ⟨x, y, hq, hat⟩ := at_new (N := d * (1 + r)) (x := t) (by omega) (by omega) (by omega)
  refine ⟨1 + r, t, x, y, ?_, by rw [hr]; congr 1; omega, by omega, by omega, t0, t1, hat⟩
  unfold partitalaw05_place.f
  rw [hr]
  simp only [Option.bind_some]
  rw [wrap64_id (n := 1 + r) (by unfold i64; omega), wrap64_id (n := n * (1 + r)) (by unfold i64; omega), wrap64_id (n := d * (1 + r)) (by unfold i64; omega), ht]
  simp only [Option.bind_some]
  obtain ⟨k, rfl⟩ : ∃ j, k = j + 1 := ⟨k - 1, by omega⟩
  rw [refOf (by unfold i64; omega) (by unfold i64; omega), hq]
  rfl
end Go.Proofs.Ytbncdlnnjhadgaa.Q
