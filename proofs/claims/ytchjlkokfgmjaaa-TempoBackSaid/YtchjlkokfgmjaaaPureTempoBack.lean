/- TempoBack: the plain law. No conditions. -/
import Derived.Test.YtchjlkokfgmjaaaTP5
import Derived.Test.YtchjlkokfgmjaaaTP7
import Derived.Test.YtchjlkokfgmjaaaQ13
namespace Go.Proofs.Ytchjlkokfgmjaaa.Pure
open Go.RowKit Go.Proofs.Ytchjlkokfgmjaaa.Q Go.Proofs.YtchjlkokfgmjaaaW.PrintWords Go.Proofs.YtchjlkokfgmjaaaW.PrintMore
set_option linter.unusedVariables false
theorem TempoBack : ∀ (l0 : List (S36)) (a1 : Int), (l0.length * 32 ≤ 140737488351232 ∧ ∀ y ∈ l0, wf36 y) → ((Lit.int .i64 a1).wf = true) → ∃ k, partitalaw11_TempoBack.f k l0 a1 = some true := by
  intro l a hw ha
  obtain ⟨G, hG, hlen, hM⟩ := map_f hw (k := 100) (by omega)
  obtain ⟨x, hx, x0, x1⟩ := pick_f (i64_of ha) (n := 2880) (by omega) (by omega)
  obtain ⟨n1, e1, r1, q1, t1⟩ := ref96 (x := x) x0 (by omega) (k := 100) (by omega)
  have s0 := micG_step hG (x := 0) (y := x) (by omega) x0
  have z := micG_zero hG
  obtain ⟨y, n2, e2, p1, q2, t2, y0, y1, y2, y3⟩ := place_f hG (by omega) (k := 100) (by omega) (s := micG G x) (by omega)
  have hyx : y = x := by
    by_cases h1 : y ≤ x
    · by_cases h2 : x ≤ y
      · omega
      · have h4 := y3 (by omega)
        have := micG_step hG (x := y + 1) (y := x) (by omega) (by omega)
        omega
    · have := micG_step hG (x := x) (y := y) (by omega) (by omega)
      omega
  subst hyx
  rw [q1] at q2
  simp only [Prod.mk.injEq, and_true] at q2
  obtain ⟨rfl, rfl⟩ := q2
  refine ⟨100, ?_⟩
  unfold partitalaw11_TempoBack.f
  rw [awake_f, Option.bind_some, hM, Option.bind_some, hx, Option.bind_some, r1, Option.bind_some, micros_f hG (by omega) (by omega) t1 x0 (by omega), Option.bind_some, p1, Option.bind_some]
  simp only [if_true, beq_self_eq_true, Bool.not_true, Bool.or_self]
  show partitalaw11_TempoBack.j0 (99 + 1) true (toL G) y (micG G y) false = some true
  simp only [partitalaw11_TempoBack.j0, Bool.false_eq_true, if_false, if_true]
  by_cases h0 : y = 0
  · rw [if_pos h0, h0, z]; rfl
  · rw [if_neg h0]
    have s1 := micG_step hG (x := 0) (y := y) (by omega) x0
    obtain ⟨n3, e3, r3, q3, t3⟩ := ref96 (x := y - 1) (by omega) (by omega) (k := 99) (by omega)
    obtain ⟨v, n4, e4, p4, q4, t4, v0, v1, v2, v3⟩ := place_f hG (by omega) (k := 99) (by omega) (s := micG G y - 1) (by omega)
    have hv : v = y - 1 := by
      by_cases h1 : y ≤ v
      · have := micG_step hG (x := y) (y := v) (by omega) h1
        omega
      · by_cases h2 : v = y - 1
        · exact h2
        · have h4 := v3 (by omega)
          have := micG_step hG (x := v + 1) (y := y) (by omega) (by omega)
          omega
    subst hv
    rw [q3] at q4
    simp only [Prod.mk.injEq, and_true] at q4
    obtain ⟨rfl, rfl⟩ := q4
    have sb := micG_step hG (x := 0) (y := y) (by omega) x0
    rw [wrap64_id (n := y - 1) (by unfold i64; omega), r3, Option.bind_some, wrap64_id (n := micG G y - 1) (by unfold i64; omega), p4, Option.bind_some]
    simp
end Go.Proofs.Ytchjlkokfgmjaaa.Pure
