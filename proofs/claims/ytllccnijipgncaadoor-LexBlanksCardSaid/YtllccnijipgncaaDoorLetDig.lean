/- Letters and digits as the printed functions tell them. No conditions. -/
import Derived.Test.YtllccnijipgncaaDoorRun
import Derived.Test.YtllccnijipgncaaDoorQ2
namespace Go.Proofs.YtllccnijipgncaaDoor.Q
theorem letter_f (c : UInt8) : lex_letter.f (c.toNat : Int) = some (letB c) := by
  unfold lex_letter.f letB
  repeat' split
  all_goals (first | (congr 1; rw [decide_eq_decide]; omega) | (congr 1; symm; rw [decide_eq_true_iff]; omega) | (congr 1; symm; rw [decide_eq_false_iff_not]; omega))
theorem digit_f (c : UInt8) : lex_digit.f (c.toNat : Int) = some (digB c) := by
  unfold lex_digit.f digB
  repeat' split
  all_goals (first | (congr 1; rw [decide_eq_decide]; omega) | (congr 1; symm; rw [decide_eq_true_iff]; omega) | (congr 1; symm; rw [decide_eq_false_iff_not]; omega))
end Go.Proofs.YtllccnijipgncaaDoor.Q
