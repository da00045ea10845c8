-- Written by a program of this session (myprint.py), function by function.
import Derived.Test.YtbpcilbplgbonaaDoorQ0
import Derived.Test.YtbpcilbplgbonaaDoorBreak
namespace Go.Proofs.YtbpcilbplgbonaaDoor.Q
open Go.RowKit Go.Proofs.YtbpcilbplgbonaaDoorW.PrintWords Go.Proofs.YtbpcilbplgbonaaDoorW.PrintLast Go.Proofs.YtbpcilbplgbonaaDoorW.PrintMore
attribute [local go_sem] max2_int min2_int max_two min_two max_three min_three max_four min_four   -- for this text's walks alone
set_option linter.unusedVariables false
set_option linter.unusedSimpArgs false

/-! ### pages_Break: function 12 -/
def pages_Break.f (l0 : List Int) (a1 : Int) (a2 : Int) : Option (List S37 × Int) := some (breakP l0 a1 a2)
theorem pages_Break.calls (A0 : Option Addr) (c0 : Nat) (l0 : List Int) (a1 : Int) (a2 : Int) (r1 : List (S37)) (r2 : Int) (w : World) (hr0 : Kd.C (Kd.int .i64) w A0 l0.length l0) (hc0 : l0.length ≤ c0) (h : pages_Break.f l0 a1 a2 = some (r1, r2)) (SENTS : Aside0 (SentsE w) := by exact sents_step (by assumption) (by repeat (first | (with_reducible first | exact (by assumption : Aside0 (Below _ _ _)).out | apply below_alloc | apply pw_below_drewN | apply below_drew1)))) :
 Calls Tryd.prog 12 #[.slice A0 l0.length c0, .int .i64 a1, .int .i64 a2] w fun e w' => ∃ v0_ : Value, e = .returned (.tuple #[v0_, .int .i64 r2]) ∧ Kd.S k37 37 w' w.heap.size (fun _ => True) v0_ r1 ∧ Below w.heap.size w w' :=
  break_calls A0 c0 l0 a1 a2 r1 r2 w hr0 hc0 SENTS.out (Option.some.inj h)

end Go.Proofs.YtbpcilbplgbonaaDoor.Q
