-- Written by a program of this session (myprint.py), function by function.
import Derived.Test.YtbpcilbplgbonaaDoorQ0
import Derived.Test.YtbpcilbplgbonaaDoorFind
import Derived.Test.YtbpcilbplgbonaaDoorPg2
namespace Go.Proofs.YtbpcilbplgbonaaDoor.Q
open Go.RowKit Go.Proofs.YtbpcilbplgbonaaDoorW.PrintWords Go.Proofs.YtbpcilbplgbonaaDoorW.PrintLast Go.Proofs.YtbpcilbplgbonaaDoorW.PrintMore
attribute [local go_sem] max2_int min2_int max_two min_two max_three min_three max_four min_four   -- for this text's walks alone
set_option linter.unusedVariables false
set_option linter.unusedSimpArgs false

/-! ### pages_lines_find: function 26 -/
/-- The part from a line up to another one; nothing is said of lines that are not right. -/
def pages_lines_find.f (l0_0 : List Int) (a0_1 : Int) (a0_2 : Int) (a1 : Int) (a2 : Int) : Option (Int × Int × Bool) :=
  if chkP l0_0 a0_1 a0_2 ≠ some 2 ∧ 0 ≤ a1 ∧ a1 ≤ (l0_0.length : Int) then some ((findI l0_0 a0_1 a0_2 a1.toNat a2).1.1, (findI l0_0 a0_1 a0_2 a1.toNat a2).1.2, (findI l0_0 a0_1 a0_2 a1.toNat a2).2) else none
theorem pages_lines_find.calls (A0_0 : Option Addr) (c0_0 : Nat) (l0_0 : List Int) (a0_1 : Int) (a0_2 : Int) (a1 : Int) (a2 : Int) (r1 : Int) (r2 : Int) (r3 : Bool) (w : World) (hr0_0 : Kd.C (Kd.int .i64) w A0_0 l0_0.length l0_0) (hc0_0 : l0_0.length ≤ c0_0) (h : pages_lines_find.f l0_0 a0_1 a0_2 a1 a2 = some (r1, r2, r3)) :
 Calls Tryd.prog 26 #[.agg #[.slice A0_0 l0_0.length c0_0, .int .i64 a0_1, .int .i64 a0_2], .int .i64 a1, .int .i64 a2] w fun e w' => e = .returned (.tuple #[.agg #[.int .i64 r1, .int .i64 r2], .bool r3]) ∧ Below w.heap.size w w' := by
  unfold pages_lines_find.f at h
  by_cases c : chkP l0_0 a0_1 a0_2 ≠ some 2 ∧ 0 ≤ a1 ∧ a1 ≤ (l0_0.length : Int)
  · rw [if_pos c] at h
    obtain ⟨rfl, h2⟩ := Prod.mk.inj (Option.some.inj h)
    obtain ⟨rfl, rfl⟩ := Prod.mk.inj h2
    have e : ((a1.toNat : Nat) : Int) = a1 := by omega
    have := find_calls a1.toNat c0_0 a2 A0_0 l0_0 a0_1 a0_2 w hr0_0 (lns_of c.1) (by omega)
    rw [e] at this
    exact this
  · rw [if_neg c] at h; cases h

end Go.Proofs.YtbpcilbplgbonaaDoor.Q
