/- Plain facts: raw places; how cuts are walked along. No conditions. -/
import Derived.Test.YtbncdlnnjhadgaaMP4
import Derived.Test.YtbncdlnnjhadgaaQ9
namespace Go.Proofs.Ytbncdlnnjhadgaa.Q
open Go.RowKit Go.Proofs.YtbncdlnnjhadgaaW.PrintWords Go.Proofs.YtbncdlnnjhadgaaW.PrintMore
set_option linter.unusedVariables false
set_option linter.unusedSimpArgs false
theorem rows_get {L : List (Int × Int)} {i : Nat} {q : Int × Int} (h : L[i]? = some q) : rd_T26 (rowsP L) (i : Int) = ⟨q.1, q.2⟩ := by
  unfold rd_T26 rowsP
  rw [List.getD_eq_getElem?_getD, Int.toNat_natCast, List.getElem?_map, h]; rfl
theorem rows_len (L : List (Int × Int)) : (rowsP L).length = L.length := by simp [rowsP]
def lastP : Int → List Int → Int
  | p, [] => p
  | _, q :: ps => lastP q ps
theorem lastP_snoc : ∀ (p : Int) (ps : List Int) (e : Int), lastP p (ps ++ [e]) = e
  | _, [], _ => rfl
  | _, q :: ps, e => lastP_snoc q ps e
theorem okP_le {B : List Int} : ∀ {ps : List Int} {p : Int}, okP B p ps → p ≤ lastP p ps ∧ ∀ q ∈ ps, p < q ∧ q ≤ lastP p ps
  | [], p, _ => ⟨Int.le_refl _, by simp⟩
  | q :: ps, p, h => by
    obtain ⟨h1, h2⟩ := okP_le h.2.2
    have h0 := h.1
    refine ⟨by show p ≤ lastP q ps; omega, fun x hx => ?_⟩
    rcases List.mem_cons.1 hx with rfl | hx
    · exact ⟨h0, h1⟩
    · have := h2 x hx
      exact ⟨by omega, this.2⟩
/-- A raw place of a bar: a whole number of parts of its parts. -/
theorem place_f {n d : Int} {G : List Int} (h : GM n d G) {a b : Int} (ha : i64 a) (hb : i64 b) {k : Nat} (hk : 1 ≤ k) : ∃ D t x y, partitalaw05_place.f k n d G a b = some (x, y) ∧ partitalaw05_pick.f b 12 = some (D - 1) ∧ 1 ≤ D ∧ D ≤ 12 ∧ 0 ≤ t ∧ t < n * D ∧ At (d * D) t x y := by
  have hd := h.d64
  obtain ⟨r, hr, r0, r1⟩ := pick_f hb (n := 12) (by omega) (by omega)
  have hN := nd_bd hd.1 hd.2 (show 1 ≤ 1 + r by omega) (by omega)
  have hnD := nD_bd h.n1 h.n2 (show 1 ≤ 1 + r by omega) (by omega)
  obtain ⟨t, ht, t0, t1⟩ := pick_f ha (n := n * (1 + r)) (by omega) (by omega)
  obtain ⟨x, y, hq, hat⟩ := at_new (N := d * (1 + r)) (x := t) (by omega) (by omega) (by omega)
  refine ⟨1 + r, t, x, y, ?_, by rw [hr]; congr 1; omega, by omega, by omega, t0, t1, hat⟩
  unfold partitalaw05_place.f
  rw [hr]
  simp only [Option.bind_some]
  rw [wrap64_id (n := 1 + r) (by unfold i64; omega), wrap64_id (n := n * (1 + r)) (by unfold i64; omega), wrap64_id (n := d * (1 + r)) (by unfold i64; omega), ht]
  simp only [Option.bind_some]
  obtain ⟨k, rfl⟩ : ∃ j, k = j + 1 := ⟨k - 1, by omega⟩
  rw [refOf (by unfold i64; omega) (by unfold i64; omega), hq]
  rfl
theorem at_zero {N : Int} : At N 0 0 1 := ⟨⟨by omega, by omega, by omega, by omega, by decide⟩, by simp⟩
end Go.Proofs.Ytbncdlnnjhadgaa.Q
