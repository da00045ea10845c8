-- Written by a program of this session (myprint.py), function by function.
import Derived.Test.YtbpcilbplgbonaaDoorQ0
import Derived.Test.YtbpcilbplgbonaaDoorTold
namespace Go.Proofs.YtbpcilbplgbonaaDoor.Q
open Go.RowKit Go.Proofs.YtbpcilbplgbonaaDoorW.PrintWords Go.Proofs.YtbpcilbplgbonaaDoorW.PrintLast Go.Proofs.YtbpcilbplgbonaaDoorW.PrintMore
attribute [local go_sem] max2_int min2_int max_two min_two max_three min_three max_four min_four   -- for this text's walks alone
set_option linter.unusedVariables false
set_option linter.unusedSimpArgs false

-- NOT PRINTED: function 32 (reflectlite_ValueOf)

-- NOT PRINTED: function 33 (reflectlite_Value_Type)

-- NOT PRINTED: function 34 (reflectlite_Value_IsNil)

-- NOT PRINTED: function 37 (reflectlite_TypeOf)

-- NOT PRINTED: function 38 (reflectlite_Value_Elem)

-- NOT PRINTED: function 39 (reflectlite_Value_Set)

-- NOT PRINTED: function 35 (errors_as)

-- NOT PRINTED: function 29 (errors_As)

/-! ### pages_told: function 19 -/
/-- What an error is as a number. -/
def pages_told.f (e : Option Int) : Option Int := some (e.getD 0)
theorem pages_told.calls (a0 : Option Int) (r : Int) (w : World) (h : pages_told.f a0 = some r) (SENTS : Aside0 (SentsE w) := by exact sents_step (by assumption) (by repeat (first | (with_reducible first | exact (by assumption : Aside0 (Below _ _ _)).out | apply below_alloc | apply pw_below_drewN | apply below_drew1)))) :
 Calls Tryd.prog 19 #[errW a0] w fun e w' => e = .returned (.int .i64 r) ∧ Below w.heap.size w w' := by
  obtain rfl := Option.some.inj h
  cases a0 with
  | none => exact told_none w
  | some c => exact told_some c w SENTS.out

-- NOT PRINTED: function 20 (slices_Backward_int_int)

-- NOT PRINTED: function 21 (pages_breaker_from)

-- NOT PRINTED: function 22 (pages_breaker_laid)

end Go.Proofs.YtbpcilbplgbonaaDoor.Q
