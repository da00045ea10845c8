-- Written by a program of this session (myprint.py), function by function.
import Derived.Test.YtllccnijipgncaaDoorQ0
import Derived.Test.YtllccnijipgncaaDoorPrintW
namespace Go.Proofs.YtllccnijipgncaaDoor.Q
open Go.RowKit Go.Proofs.YtllccnijipgncaaDoorW.PrintWords Go.Proofs.YtllccnijipgncaaDoorW.PrintLast Go.Proofs.YtllccnijipgncaaDoorW.PrintMore
attribute [local go_sem] max2_int min2_int max_two min_two max_three min_three max_four min_four   -- for this text's walks alone
set_option linter.unusedVariables false
set_option linter.unusedSimpArgs false

/-! ### lex_Print: function 17 -/
/-- Pieces as they stand. -/
def lex_Print.f (l0 : List S35) : Option (ByteArray × Int) := if l0.length ≤ 100000 ∧ (l0.all fun x => decide (x.f1.size ≤ 1000000)) = true then prL 5 l0 [] else none
theorem lex_Print.calls (A0 : Option Addr) (c0 : Nat) (l0 : List S35) (r1 : ByteArray) (r2 : Int) (w : World) (hr0 : Kd.C k35 w A0 l0.length l0) (hc0 : l0.length ≤ c0) (h : lex_Print.f l0 = some (r1, r2)) (TABS : Aside0 (TabsW w) := by exact tabs_step (by assumption) (by repeat (first | (with_reducible first | exact (by assumption : Aside0 (Below _ _ _)).out | apply below_alloc | apply pw_below_drewN | apply below_drew1)))) :
 Calls Tryd.prog 17 #[.slice A0 l0.length c0] w fun e w' => e = .returned (.tuple #[.string r1, .int .i64 r2]) ∧ Below w.heap.size w w' := by
  unfold lex_Print.f at h
  by_cases c : l0.length ≤ 100000 ∧ (l0.all fun x => decide (x.f1.size ≤ 1000000)) = true
  · rw [if_pos c] at h
    exact print_calls A0 c0 l0 r1 r2 w hr0 hc0 c.1 (fun x hx => of_decide_eq_true (List.all_eq_true.1 c.2 x hx)) h TABS.out
  · rw [if_neg c] at h; cases h

end Go.Proofs.YtllccnijipgncaaDoor.Q
