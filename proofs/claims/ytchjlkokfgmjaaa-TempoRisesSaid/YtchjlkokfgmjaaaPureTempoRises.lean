/- TempoRises: the plain law. No conditions. -/
import Derived.Test.YtchjlkokfgmjaaaTP5
import Derived.Test.YtchjlkokfgmjaaaTP6
import Derived.Test.YtchjlkokfgmjaaaQ9
namespace Go.Proofs.Ytchjlkokfgmjaaa.Pure
open Go.RowKit Go.Proofs.Ytchjlkokfgmjaaa.Q Go.Proofs.YtchjlkokfgmjaaaW.PrintWords Go.Proofs.YtchjlkokfgmjaaaW.PrintMore
set_option linter.unusedVariables false
set_option linter.unusedSimpArgs false
theorem TempoRises : ∀ (l0 : List (S36)) (a1 : Int) (a2 : Int), (l0.length * 32 ≤ 140737488351232 ∧ ∀ y ∈ l0, wf36 y) → ((Lit.int .i64 a1).wf = true) → ((Lit.int .i64 a2).wf = true) → ∃ k, partitalaw11_TempoRises.f k l0 a1 a2 = some true := by
  intro l a b hw ha hb
  obtain ⟨G, hG, hlen, hM⟩ := map_f hw (k := 100) (by omega)
  obtain ⟨x, hx, x0, x1⟩ := pick_f (i64_of ha) (n := 2880) (by omega) (by omega)
  obtain ⟨d, hd, d0, d1⟩ := pick_f (i64_of hb) (n := 960) (by omega) (by omega)
  obtain ⟨n1, e1, r1, _, t1⟩ := ref96 (x := x) x0 (by omega) (k := 100) (by omega)
  obtain ⟨n2, e2, r2, _, t2⟩ := ref96 (x := x + d) (by omega) (by omega) (k := 100) (by omega)
  have st := micG_step hG (x := x) (y := x + d) x0 (by omega)
  have s0 := micG_step hG (x := 0) (y := x) (by omega) x0
  have z := micG_zero hG
  refine ⟨100, ?_⟩
  unfold partitalaw11_TempoRises.f
  rw [awake_f, Option.bind_some, hM, Option.bind_some, hx, Option.bind_some, hd, Option.bind_some, r1, Option.bind_some, wrap64_id (n := x + d) (by unfold i64; omega), r2, Option.bind_some,
    micros_f hG (by omega) (by omega) t1 x0 (by omega), Option.bind_some, micros_f hG (by omega) (by omega) t2 (by omega) (by omega), Option.bind_some]
  simp only [if_true]
  rw [wrap64_id (n := micG G (x + d) - micG G x) (by unfold i64; omega), show x + d - x = d by omega, wrap64_id (n := d) (by unfold i64; omega), wrap64_id (n := 4166 * d) (by unfold i64; omega), wrap64_id (n := 4166 * d - 10) (by unfold i64; omega), wrap64_id (n := 166667 * d) (by unfold i64; omega), wrap64_id (n := 166667 * d + 10) (by unfold i64; omega)]
  rw [show x + d - x = d by omega] at st
  rw [if_pos (by omega), if_pos (by omega)]
  have fin : (if x > 0 then some true else some (micG G x == 0)) = some true := by
    by_cases h : x > 0
    · rw [if_pos h]
    · rw [if_neg h, show x = 0 by omega, z]; rfl
  by_cases h : d = 0
  · rw [if_pos h]; exact fin
  · rw [if_neg h, if_pos (by omega)]; exact fin
end Go.Proofs.Ytchjlkokfgmjaaa.Pure
