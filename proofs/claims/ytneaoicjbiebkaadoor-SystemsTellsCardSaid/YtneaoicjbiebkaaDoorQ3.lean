-- Written by a program of this session (myprint.py), function by function.
import Derived.Test.YtneaoicjbiebkaaDoorQ0
import Derived.Test.YtneaoicjbiebkaaDoorBreak
namespace Go.Proofs.YtneaoicjbiebkaaDoor.Q
open Go.RowKit Go.Proofs.YtneaoicjbiebkaaDoorW.PrintWords Go.Proofs.YtneaoicjbiebkaaDoorW.PrintLast Go.Proofs.YtneaoicjbiebkaaDoorW.PrintMore
attribute [local go_sem] max2_int min2_int max_two min_two max_three min_three max_four min_four   -- for this text's walks alone
set_option linter.unusedVariables false
set_option linter.unusedSimpArgs false

/-! ### systems_Break: function 14 -/
theorem systems_Break.calls (A0 : Option Addr) (c0 : Nat) (l0 : List Int) (A1 : Option Addr) (c1 : Nat) (l1 : List Int) (a2 : Int) (r1 : List (S38)) (r2 : Int) (w : World) (hr0 : Kd.C (Kd.int .i64) w A0 l0.length l0) (hc0 : l0.length ≤ c0) (hr1 : Kd.C (Kd.int .i64) w A1 l1.length l1) (hc1 : l1.length ≤ c1) (h : systems_Break.f l0 l1 a2 = some (r1, r2)) (SENTS : Aside0 (SentsE w) := by exact sents_step (by assumption) (by repeat (first | (with_reducible first | exact (by assumption : Aside0 (Below _ _ _)).out | apply below_alloc | apply pw_below_drewN | apply below_drew1)))) :
 Calls Tryd.prog 14 #[.slice A0 l0.length c0, .slice A1 l1.length c1, .int .i64 a2] w fun e w' => ∃ v0_ : Value, e = .returned (.tuple #[v0_, .int .i64 r2]) ∧ Kd.R k38 38 w' w.heap.size (fun _ => True) v0_ r1 ∧ Below w.heap.size w w' := by
  obtain ⟨a0, a1, hS⟩ := SENTS.out
  exact systems_Break.calls_ a0 a1 A0 A1 c0 c1 l0 l1 a2 r1 r2 w hr0 hc0 hr1 hc1 hS (Option.some.inj h)

end Go.Proofs.YtneaoicjbiebkaaDoor.Q
