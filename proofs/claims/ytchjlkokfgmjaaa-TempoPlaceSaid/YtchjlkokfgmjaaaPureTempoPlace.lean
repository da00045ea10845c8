/- TempoPlace: the plain law. No conditions. -/
import Derived.Test.YtchjlkokfgmjaaaTP5
import Derived.Test.YtchjlkokfgmjaaaTP7
import Derived.Test.YtchjlkokfgmjaaaQ16
namespace Go.Proofs.Ytchjlkokfgmjaaa.Pure
open Go.RowKit Go.Proofs.Ytchjlkokfgmjaaa.Q Go.Proofs.YtchjlkokfgmjaaaW.PrintWords Go.Proofs.YtchjlkokfgmjaaaW.PrintMore
set_option linter.unusedVariables false
theorem TempoPlace : ∀ (l0 : List (S36)) (a1 : Int) (a2 : Int), (l0.length * 32 ≤ 140737488351232 ∧ ∀ y ∈ l0, wf36 y) → ((Lit.int .i64 a1).wf = true) → ((Lit.int .i64 a2).wf = true) → ∃ k, partitalaw11_TempoPlace.f k l0 a1 a2 = some true := by
  intro l a b hw ha hb
  obtain ⟨G, hG, hlen, hM⟩ := map_f hw (k := 100) (by omega)
  obtain ⟨s, hs, s0, s1⟩ := pick_f (i64_of ha) (n := 400000000) (by omega) (by omega)
  obtain ⟨d, hd, d0, d1⟩ := pick_f (i64_of hb) (n := 40000000) (by omega) (by omega)
  obtain ⟨x, n1, e1, p1, q1, t1, x0, x1, x2, x3⟩ := place_f hG (by omega) (k := 100) (by omega) (s := s) (by omega)
  obtain ⟨y, n2, e2, p2, q2, t2, y0, y1, y2, y3⟩ := place_f hG (by omega) (k := 100) (by omega) (s := s + d) (by omega)
  have z := micG_zero hG
  have sx := micG_step hG (x := 0) (y := x) (by omega) x0
  have sy := micG_step hG (x := 0) (y := y) (by omega) y0
  have hx3 := x3 (by omega)
  have hy3 := y3 (by omega)
  have hxy : x ≤ y := by
    by_cases h : x ≤ y
    · exact h
    · have := micG_step hG (x := y + 1) (y := x) (by omega) (by omega)
      omega
  have one96 : At 1 1 96 := ⟨⟨by omega, by omega, by omega, by omega, by decide⟩, by omega⟩
  obtain ⟨n3, e3, p3, t3⟩ := at_add t1 one96 x0 (by omega) (by omega)
  have dd := t1.den
  refine ⟨100, ?_⟩
  unfold partitalaw11_TempoPlace.f
  rw [awake_f, Option.bind_some, hM, Option.bind_some, hs, Option.bind_some, hd, Option.bind_some, p1, Option.bind_some, wrap64_id (n := s + d) (by unfold i64; omega), p2, Option.bind_some]
  simp only
  rw [micros_f hG (by omega) (by omega) t1 x0 (by omega), Option.bind_some, p3, Option.bind_some]
  simp only
  rw [micros_f hG (by omega) (by omega) t3 (by omega) (by omega), Option.bind_some]
  simp only [if_true]
  rw [if_pos x2, if_pos hx3]
  simp only [ratio_Compare.f, Option.bind_some]
  rw [at_cmp t1 t2 x0 (by omega) y0 (by omega), if_pos (by split <;> (try split) <;> omega), if_neg (by omega), Int.emod_eq_zero_of_dvd dd.2.2]
  rfl
end Go.Proofs.Ytchjlkokfgmjaaa.Pure
