/- What the listed variable holds, for a walk; a world that meets the condition. No conditions. -/
import Derived.Test.YtbpcilbplgbonaaDoorRows
import Derived.Test.YtbpcilbplgbonaaDoorTold
import Derived.ProofKit
import Derived.ChangeSame
import Derived.ChangeVars
import Derived.JoinedOf
import Derived.RowKit
import Derived.RowKitTokens
import Derived.LaidLaws
import Derived.LaidHandle
import Derived.Stop.Joined
namespace Go.Proofs.YtbpcilbplgbonaaDoor.Laid
open Go.ChangeShapes Go.WideShapes Go.RowKit
open Go.Proofs.YtbpcilbplgbonaaDoorW.PrintWords
theorem et : Tryd.prog.globalNamed "errors.errorType" = some 0 := by kernel_rfl
theorem rt : (Tryd.prog.cutTypes.find? (·.1 == "internal/reflectlite.rtype")).map (·.2) = some 87 := by kernel_rfl
theorem oneRow : ((List.range 129).filter fun t => Tryd.prog.rowNamed t [101, 114, 114, 111, 114]) = [51] := by kernel_rfl
theorem size : Tryd.prog.types.size = 129 := by kernel_rfl
abbrev list1 : List (String × DataW Unit) := [("errors.errorType", Rows.laid_errors_errorType)]
theorem sents_of_laid {W : World} (h : laidMetH Tryd.prog list1 W) : Aside0 (Q.SentsE W) := by
  have h' : laidMet Tryd.prog [] W ∧ handlesMet Tryd.prog list1 W := h
  obtain ⟨name, u, ty, e1, e2, e3, e4, e5⟩ := h'.2 _ (List.mem_singleton.2 rfl)
  have en : name = [101, 114, 114, 111, 114] := (Option.some.inj e1).symm
  subst en
  obtain rfl := Option.some.inj (rt.symm.trans e2)
  have hm : ty ∈ (List.range 129).filter fun t => Tryd.prog.rowNamed t [101, 114, 114, 111, 114] := List.mem_filter.2 ⟨List.mem_range.2 (by rw [← size]; exact e3), e4⟩
  rw [oneRow] at hm
  obtain rfl := List.mem_singleton.1 hm
  have hh : typeHandle Tryd.prog 51 = .pointer (some ⟨1, 51, none⟩) := by kernel_rfl
  rw [hh] at e5
  have := World.var?_cell et e5 0
  exact ⟨by simpa [Q.SentsE] using this⟩
noncomputable def laidWorld (os : Os) : World :=
  let w0 := World.holding Tryd.prog os ⟨#[], #[], []⟩
  { w0 with heap := w0.heap.modify 0 fun
      | .cells _ t frozen => .cells #[.iface 87 (.agg #[.pointer (some ⟨1, 51, none⟩)])] t frozen
      | o => o }
theorem laid_met (os : Os) (args : Array Value) : laidMetH Tryd.prog list1 ((laidWorld os).forCall (fun _ _ => 0) ⟨#[], args, []⟩).memory :=
  laidMetH_of_parts (laidMet_nil _ _) (by kernel_rfl)
end Go.Proofs.YtbpcilbplgbonaaDoor.Laid
