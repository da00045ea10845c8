/-
  NARROWER THAN 'FOR EVERY INPUT', by the rows' own cells (each row's printed sentence says how): PagesTells: laid · PagesBest: laid · PagesTops: laid · PagesBehind: laid · PagesOne: laid · PagesScaled: laid.
  DERIVED. THE GIVEN ROWS OF THIS SEAT. 6 by the template 'for every input the law returns true; each argument reads behind the call as it read before'; 0 by the template 'total and deterministic' (their statements: YtbpcilbplgbonaaDoorTotals.lean).
  GIVEN WITH THE SEED: the statements are not yours to turn. If you find one false, say at which input.
  Laid BY PROGRAM, IN A SANDBOX (cutbox-rows.mjs): the forced cells as the released guide's own fill.sh prints them over the translation 88c4a877f15c7724… (all of the seat's roots in one cut). By AI agents, Wed Nov 11 2026. No macro, syntax, notation, axiom, sorry.
-/
import Derived.Test.YtbpcilbplgbonaaDoorChecked
import GoSem.Claim
import GoSem.ClaimJoined
import GoSem.ClaimMapViews
import Derived.JoinedTies
import Derived.KernelRfl
namespace Go.Proofs.YtbpcilbplgbonaaDoor
/- THE CELL 'sum', in the pinned program and in every row, IS THE sha256 OF THE DUMP (.gsa) THAT YtbpcilbplgbonaaDoorProg.lean LOADS. Nothing in Lean hashes anything: it is a label: what it is worth is what the hold of that sum in a sandbox is worth. -/
noncomputable def Tryd.pinned : Pinned := { name := "ytbpcilbplgbonaadoor", sum := "88c4a877f15c7724c153092a99186641025e1fc70c93e982376f3ae5cf28b7c1", checked := Tryd.checked }
namespace Rows
def none {H : Type} : Left H := { results := [], args := [] }

/- WHAT THE LISTED PACKAGE-LEVEL VARIABLES READ AS WHEN THE CALL BEGINS. Each datum BY PROGRAM (the guide's laid-datum.mjs) off the statement by which the dump's own 'gosem.cut.vars' lays the variable. In a bare row this is a premise. The card (YtbpcilbplgbonaaDoorCards.lean) ties it to the program's text. -/
def laid_errors_errorType {H : Type} : DataW H := .iface "internal/reflectlite.rtype" (.agg [.ptr (.lit (.string [101, 114, 114, 111, 114]))])

/-- 'partitalaw26.PagesTells': WHATEVER THE INPUT: true; the input reads as it did. -/
def pagesTellsSpec : ChangeSpec := { name := "pagesTells", fn := fun _ => fun
  | [d1, d2, d3, d4] => { results := [.lit (.bool true)], args := [d1, d2, d3, d4] }
  | _ => none }
def pagesTellsRow : OpenClaim := { program := "ytbpcilbplgbonaadoor", sum := "88c4a877f15c7724c153092a99186641025e1fc70c93e982376f3ae5cf28b7c1", func := "partita/partitalaw26.PagesTells", spec := "pagesTells", inPlace := ["internal/reflectlite.ValueOf", "(internal/reflectlite.Value).Type", "(internal/reflectlite.Value).IsNil", "internal/reflectlite.TypeOf", "(internal/reflectlite.Value).Elem", "(internal/reflectlite.Value).Set"], unfollowed := true, recurses := true, named := ["errors.errorType"], apart := false, laid := [("errors.errorType", laid_errors_errorType)] }
def PagesTellsSaid : Prop := pagesTellsRow.holds Tryd.pinned (OpenSpec.ofChange pagesTellsSpec)

/-- ITS FALSE NEIGHBOUR: 'it returns false'. Refute it at one input. -/
def pagesTellsWrong : ChangeSpec := { name := "pagesTells", fn := fun _ => fun
  | [d1, d2, d3, d4] => { results := [.lit (.bool false)], args := [d1, d2, d3, d4] }
  | _ => none }
def PagesTellsWrongFalsely : Prop := pagesTellsRow.holds Tryd.pinned (OpenSpec.ofChange pagesTellsWrong)

/-- 'partitalaw26.PagesBest': WHATEVER THE INPUT: true; the input reads as it did. -/
def pagesBestSpec : ChangeSpec := { name := "pagesBest", fn := fun _ => fun
  | [d1, d2, d3, d4] => { results := [.lit (.bool true)], args := [d1, d2, d3, d4] }
  | _ => none }
def pagesBestRow : OpenClaim := { program := "ytbpcilbplgbonaadoor", sum := "88c4a877f15c7724c153092a99186641025e1fc70c93e982376f3ae5cf28b7c1", func := "partita/partitalaw26.PagesBest", spec := "pagesBest", inPlace := ["internal/reflectlite.ValueOf", "(internal/reflectlite.Value).Type", "(internal/reflectlite.Value).IsNil", "internal/reflectlite.TypeOf", "(internal/reflectlite.Value).Elem", "(internal/reflectlite.Value).Set"], unfollowed := true, recurses := true, named := ["errors.errorType"], apart := false, laid := [("errors.errorType", laid_errors_errorType)] }
def PagesBestSaid : Prop := pagesBestRow.holds Tryd.pinned (OpenSpec.ofChange pagesBestSpec)

/-- ITS FALSE NEIGHBOUR: 'it returns false'. Refute it at one input. -/
def pagesBestWrong : ChangeSpec := { name := "pagesBest", fn := fun _ => fun
  | [d1, d2, d3, d4] => { results := [.lit (.bool false)], args := [d1, d2, d3, d4] }
  | _ => none }
def PagesBestWrongFalsely : Prop := pagesBestRow.holds Tryd.pinned (OpenSpec.ofChange pagesBestWrong)

/-- 'partitalaw26.PagesTops': WHATEVER THE INPUT: true; the input reads as it did. -/
def pagesTopsSpec : ChangeSpec := { name := "pagesTops", fn := fun _ => fun
  | [d1, d2, d3] => { results := [.lit (.bool true)], args := [d1, d2, d3] }
  | _ => none }
def pagesTopsRow : OpenClaim := { program := "ytbpcilbplgbonaadoor", sum := "88c4a877f15c7724c153092a99186641025e1fc70c93e982376f3ae5cf28b7c1", func := "partita/partitalaw26.PagesTops", spec := "pagesTops", inPlace := ["internal/reflectlite.ValueOf", "(internal/reflectlite.Value).Type", "(internal/reflectlite.Value).IsNil", "internal/reflectlite.TypeOf", "(internal/reflectlite.Value).Elem", "(internal/reflectlite.Value).Set"], unfollowed := true, recurses := true, named := ["errors.errorType"], apart := false, laid := [("errors.errorType", laid_errors_errorType)] }
def PagesTopsSaid : Prop := pagesTopsRow.holds Tryd.pinned (OpenSpec.ofChange pagesTopsSpec)

/-- ITS FALSE NEIGHBOUR: 'it returns false'. Refute it at one input. -/
def pagesTopsWrong : ChangeSpec := { name := "pagesTops", fn := fun _ => fun
  | [d1, d2, d3] => { results := [.lit (.bool false)], args := [d1, d2, d3] }
  | _ => none }
def PagesTopsWrongFalsely : Prop := pagesTopsRow.holds Tryd.pinned (OpenSpec.ofChange pagesTopsWrong)

/-- 'partitalaw26.PagesBehind': WHATEVER THE INPUT: true; the input reads as it did. -/
def pagesBehindSpec : ChangeSpec := { name := "pagesBehind", fn := fun _ => fun
  | [d1, d2, d3] => { results := [.lit (.bool true)], args := [d1, d2, d3] }
  | _ => none }
def pagesBehindRow : OpenClaim := { program := "ytbpcilbplgbonaadoor", sum := "88c4a877f15c7724c153092a99186641025e1fc70c93e982376f3ae5cf28b7c1", func := "partita/partitalaw26.PagesBehind", spec := "pagesBehind", inPlace := ["internal/reflectlite.ValueOf", "(internal/reflectlite.Value).Type", "(internal/reflectlite.Value).IsNil", "internal/reflectlite.TypeOf", "(internal/reflectlite.Value).Elem", "(internal/reflectlite.Value).Set"], unfollowed := true, recurses := true, named := ["errors.errorType"], apart := false, laid := [("errors.errorType", laid_errors_errorType)] }
def PagesBehindSaid : Prop := pagesBehindRow.holds Tryd.pinned (OpenSpec.ofChange pagesBehindSpec)

/-- ITS FALSE NEIGHBOUR: 'it returns false'. Refute it at one input. -/
def pagesBehindWrong : ChangeSpec := { name := "pagesBehind", fn := fun _ => fun
  | [d1, d2, d3] => { results := [.lit (.bool false)], args := [d1, d2, d3] }
  | _ => none }
def PagesBehindWrongFalsely : Prop := pagesBehindRow.holds Tryd.pinned (OpenSpec.ofChange pagesBehindWrong)

/-- 'partitalaw26.PagesOne': WHATEVER THE INPUT: true; the input reads as it did. -/
def pagesOneSpec : ChangeSpec := { name := "pagesOne", fn := fun _ => fun
  | [d1, d2, d3] => { results := [.lit (.bool true)], args := [d1, d2, d3] }
  | _ => none }
def pagesOneRow : OpenClaim := { program := "ytbpcilbplgbonaadoor", sum := "88c4a877f15c7724c153092a99186641025e1fc70c93e982376f3ae5cf28b7c1", func := "partita/partitalaw26.PagesOne", spec := "pagesOne", inPlace := ["internal/reflectlite.ValueOf", "(internal/reflectlite.Value).Type", "(internal/reflectlite.Value).IsNil", "internal/reflectlite.TypeOf", "(internal/reflectlite.Value).Elem", "(internal/reflectlite.Value).Set"], unfollowed := true, recurses := true, named := ["errors.errorType"], apart := false, laid := [("errors.errorType", laid_errors_errorType)] }
def PagesOneSaid : Prop := pagesOneRow.holds Tryd.pinned (OpenSpec.ofChange pagesOneSpec)

/-- ITS FALSE NEIGHBOUR: 'it returns false'. Refute it at one input. -/
def pagesOneWrong : ChangeSpec := { name := "pagesOne", fn := fun _ => fun
  | [d1, d2, d3] => { results := [.lit (.bool false)], args := [d1, d2, d3] }
  | _ => none }
def PagesOneWrongFalsely : Prop := pagesOneRow.holds Tryd.pinned (OpenSpec.ofChange pagesOneWrong)

/-- 'partitalaw26.PagesScaled': WHATEVER THE INPUT: true; the input reads as it did. -/
def pagesScaledSpec : ChangeSpec := { name := "pagesScaled", fn := fun _ => fun
  | [d1, d2, d3, d4] => { results := [.lit (.bool true)], args := [d1, d2, d3, d4] }
  | _ => none }
def pagesScaledRow : OpenClaim := { program := "ytbpcilbplgbonaadoor", sum := "88c4a877f15c7724c153092a99186641025e1fc70c93e982376f3ae5cf28b7c1", func := "partita/partitalaw26.PagesScaled", spec := "pagesScaled", inPlace := ["internal/reflectlite.ValueOf", "(internal/reflectlite.Value).Type", "(internal/reflectlite.Value).IsNil", "internal/reflectlite.TypeOf", "(internal/reflectlite.Value).Elem", "(internal/reflectlite.Value).Set"], unfollowed := true, recurses := true, named := ["errors.errorType"], apart := false, laid := [("errors.errorType", laid_errors_errorType)] }
def PagesScaledSaid : Prop := pagesScaledRow.holds Tryd.pinned (OpenSpec.ofChange pagesScaledSpec)

/-- ITS FALSE NEIGHBOUR: 'it returns false'. Refute it at one input. -/
def pagesScaledWrong : ChangeSpec := { name := "pagesScaled", fn := fun _ => fun
  | [d1, d2, d3, d4] => { results := [.lit (.bool false)], args := [d1, d2, d3, d4] }
  | _ => none }
def PagesScaledWrongFalsely : Prop := pagesScaledRow.holds Tryd.pinned (OpenSpec.ofChange pagesScaledWrong)

/- THE SECOND FORM. 'bulk': how many values and letters a reading holds, each counted each time it is reached (what is shared counts as often as it is met; a slice's spare places count too). A statement '..UptoSaid' is the law's where the arguments, and the package variables that the reading takes, are together of bulk at most 1048576: NARROWER than '..Said'. Prove '..Said' where nothing that the law and all that it calls make is longer than what came in: it says more and counts as full. Else prove '..UptoSaid'. A law counts once. -/
mutual
def uptoBulk {H : Type} : DataW H → Nat
  | .lit (.string bytes) => bytes.length + 1
  | .lit _ => 1
  | .nil => 1
  | .ptr d => uptoBulk d + 1
  | .slice elems spare => uptoBulkAll elems + uptoBulkAll spare + 1
  | .agg parts => uptoBulkAll parts + 1
  | .iface _ d => uptoBulk d + 1
  | .map entries => uptoBulkEntries entries + 1
  | .held _ => 1
def uptoBulkAll {H : Type} : List (DataW H) → Nat
  | [] => 0
  | d :: r => uptoBulk d + uptoBulkAll r
def uptoBulkEntries {H : Type} : List (Lit × DataW H) → Nat
  | [] => 0
  | x :: r => uptoBulkEntry x + uptoBulkEntries r
def uptoBulkEntry {H : Type} : Lit × DataW H → Nat
  | (.string bytes, d) => bytes.length + uptoBulk d + 1
  | (_, d) => uptoBulk d + 1
 end
def uptoSmall : (H : Type) → List (DataW H) → Bool := fun _ ds => decide (uptoBulkAll ds ≤ 1048576)
def OpenSpec.upto (s : _root_.Go.ChangeSpec) : _root_.Go.OpenSpec := { _root_.Go.OpenSpec.ofChange s with cond := some uptoSmall }

/-- 'partitalaw26.PagesTells', WHERE WHAT IT READS IS OF BULK AT MOST 1048576: true; the input reads as it did. -/
def pagesTellsUptoRow : OpenClaim := { program := "ytbpcilbplgbonaadoor", sum := "88c4a877f15c7724c153092a99186641025e1fc70c93e982376f3ae5cf28b7c1", func := "partita/partitalaw26.PagesTells", spec := "pagesTells", inPlace := ["internal/reflectlite.ValueOf", "(internal/reflectlite.Value).Type", "(internal/reflectlite.Value).IsNil", "internal/reflectlite.TypeOf", "(internal/reflectlite.Value).Elem", "(internal/reflectlite.Value).Set"], unfollowed := true, recurses := true, named := ["errors.errorType"], apart := false, laid := [("errors.errorType", laid_errors_errorType)], narrowed := true }
def PagesTellsUptoSaid : Prop := pagesTellsUptoRow.holds Tryd.pinned (OpenSpec.upto pagesTellsSpec)

/-- 'partitalaw26.PagesBest', WHERE WHAT IT READS IS OF BULK AT MOST 1048576: true; the input reads as it did. -/
def pagesBestUptoRow : OpenClaim := { program := "ytbpcilbplgbonaadoor", sum := "88c4a877f15c7724c153092a99186641025e1fc70c93e982376f3ae5cf28b7c1", func := "partita/partitalaw26.PagesBest", spec := "pagesBest", inPlace := ["internal/reflectlite.ValueOf", "(internal/reflectlite.Value).Type", "(internal/reflectlite.Value).IsNil", "internal/reflectlite.TypeOf", "(internal/reflectlite.Value).Elem", "(internal/reflectlite.Value).Set"], unfollowed := true, recurses := true, named := ["errors.errorType"], apart := false, laid := [("errors.errorType", laid_errors_errorType)], narrowed := true }
def PagesBestUptoSaid : Prop := pagesBestUptoRow.holds Tryd.pinned (OpenSpec.upto pagesBestSpec)

/-- 'partitalaw26.PagesTops', WHERE WHAT IT READS IS OF BULK AT MOST 1048576: true; the input reads as it did. -/
def pagesTopsUptoRow : OpenClaim := { program := "ytbpcilbplgbonaadoor", sum := "88c4a877f15c7724c153092a99186641025e1fc70c93e982376f3ae5cf28b7c1", func := "partita/partitalaw26.PagesTops", spec := "pagesTops", inPlace := ["internal/reflectlite.ValueOf", "(internal/reflectlite.Value).Type", "(internal/reflectlite.Value).IsNil", "internal/reflectlite.TypeOf", "(internal/reflectlite.Value).Elem", "(internal/reflectlite.Value).Set"], unfollowed := true, recurses := true, named := ["errors.errorType"], apart := false, laid := [("errors.errorType", laid_errors_errorType)], narrowed := true }
def PagesTopsUptoSaid : Prop := pagesTopsUptoRow.holds Tryd.pinned (OpenSpec.upto pagesTopsSpec)

/-- 'partitalaw26.PagesBehind', WHERE WHAT IT READS IS OF BULK AT MOST 1048576: true; the input reads as it did. -/
def pagesBehindUptoRow : OpenClaim := { program := "ytbpcilbplgbonaadoor", sum := "88c4a877f15c7724c153092a99186641025e1fc70c93e982376f3ae5cf28b7c1", func := "partita/partitalaw26.PagesBehind", spec := "pagesBehind", inPlace := ["internal/reflectlite.ValueOf", "(internal/reflectlite.Value).Type", "(internal/reflectlite.Value).IsNil", "internal/reflectlite.TypeOf", "(internal/reflectlite.Value).Elem", "(internal/reflectlite.Value).Set"], unfollowed := true, recurses := true, named := ["errors.errorType"], apart := false, laid := [("errors.errorType", laid_errors_errorType)], narrowed := true }
def PagesBehindUptoSaid : Prop := pagesBehindUptoRow.holds Tryd.pinned (OpenSpec.upto pagesBehindSpec)

/-- 'partitalaw26.PagesOne', WHERE WHAT IT READS IS OF BULK AT MOST 1048576: true; the input reads as it did. -/
def pagesOneUptoRow : OpenClaim := { program := "ytbpcilbplgbonaadoor", sum := "88c4a877f15c7724c153092a99186641025e1fc70c93e982376f3ae5cf28b7c1", func := "partita/partitalaw26.PagesOne", spec := "pagesOne", inPlace := ["internal/reflectlite.ValueOf", "(internal/reflectlite.Value).Type", "(internal/reflectlite.Value).IsNil", "internal/reflectlite.TypeOf", "(internal/reflectlite.Value).Elem", "(internal/reflectlite.Value).Set"], unfollowed := true, recurses := true, named := ["errors.errorType"], apart := false, laid := [("errors.errorType", laid_errors_errorType)], narrowed := true }
def PagesOneUptoSaid : Prop := pagesOneUptoRow.holds Tryd.pinned (OpenSpec.upto pagesOneSpec)

/-- 'partitalaw26.PagesScaled', WHERE WHAT IT READS IS OF BULK AT MOST 1048576: true; the input reads as it did. -/
def pagesScaledUptoRow : OpenClaim := { program := "ytbpcilbplgbonaadoor", sum := "88c4a877f15c7724c153092a99186641025e1fc70c93e982376f3ae5cf28b7c1", func := "partita/partitalaw26.PagesScaled", spec := "pagesScaled", inPlace := ["internal/reflectlite.ValueOf", "(internal/reflectlite.Value).Type", "(internal/reflectlite.Value).IsNil", "internal/reflectlite.TypeOf", "(internal/reflectlite.Value).Elem", "(internal/reflectlite.Value).Set"], unfollowed := true, recurses := true, named := ["errors.errorType"], apart := false, laid := [("errors.errorType", laid_errors_errorType)], narrowed := true }
def PagesScaledUptoSaid : Prop := pagesScaledUptoRow.holds Tryd.pinned (OpenSpec.upto pagesScaledSpec)

end Rows
end Go.Proofs.YtbpcilbplgbonaaDoor
