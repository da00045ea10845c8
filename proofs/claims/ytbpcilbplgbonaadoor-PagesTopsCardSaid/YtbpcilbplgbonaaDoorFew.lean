import Derived.Test.YtbpcilbplgbonaaDoorTold
set_option linter.unusedVariables false
namespace Go.Proofs.YtbpcilbplgbonaaDoor.Q
open Go.RowKit Go.Proofs.YtbpcilbplgbonaaDoorW.PrintWords Go.Proofs.YtbpcilbplgbonaaDoorW.PrintLast
set_option maxHeartbeats 1000000 in
set_option maxRecDepth 100000 in
/-- Few cuts what came in. -/
theorem Few_cut (A : Option Addr) (l y : List Int) (c : Nat) (j : Int) (w : World) (hj : (if 101 < (l.length : Int) then 101 else (l.length : Int)) = j) (hy : Aside0 (y = l.take (j : Int).toNat)) (hc : l.length ≤ c) : Calls Tryd.prog 10 #[.slice A l.length c] w fun e w' => e = .returned (.slice A y.length c) ∧ w' = w := by
  have h0 : 0 ≤ j := by rw [← hj]; split <;> omega
  have h1 : j ≤ (l.length : Int) := by rw [← hj]; split <;> omega
  have h2 : j ≤ (c : Int) := by omega
  have e : (l.take j.toNat).length = j.toNat := by rw [List.length_take]; omega
  rw [hy.out, e]
  go_enter Tryd.func10, Tryd.ntmps10
  go_wp2
  go_ret
  exact ⟨rfl, rfl⟩
end Go.Proofs.YtbpcilbplgbonaaDoor.Q
