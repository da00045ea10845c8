/-
  NARROWER THAN 'FOR EVERY INPUT', by the rows' own cells (each row's printed sentence says how): SystemsTells: laid · SystemsBest: laid · SystemsWhole: laid · SystemsBehind: laid · SystemsScaled: laid · SystemsOne: laid · SystemsCosts: laid.
  DERIVED. THE GIVEN ROWS OF THIS SEAT. 7 by the template 'for every input the law returns true; each argument reads behind the call as it read before'; 0 by the template 'total and deterministic' (their statements: YtneaoicjbiebkaaDoorTotals.lean).
  GIVEN WITH THE SEED: the statements are not yours to turn. If you find one false, say at which input.
  Laid BY PROGRAM, IN A SANDBOX (cutbox-rows.mjs): the forced cells as the released guide's own fill.sh prints them over the translation 3001024124379613… (all of the seat's roots in one cut). By AI agents, Wed Nov 11 2026. No macro, syntax, notation, axiom, sorry.
-/
import Derived.Test.YtneaoicjbiebkaaDoorChecked
import GoSem.Claim
import GoSem.ClaimJoined
import GoSem.ClaimMapViews
import Derived.JoinedTies
import Derived.KernelRfl
namespace Go.Proofs.YtneaoicjbiebkaaDoor
/- THE CELL 'sum', in the pinned program and in every row, IS THE sha256 OF THE DUMP (.gsa) THAT YtneaoicjbiebkaaDoorProg.lean LOADS. Nothing in Lean hashes anything: it is a label: what it is worth is what the hold of that sum in a sandbox is worth. -/
noncomputable def Tryd.pinned : Pinned := { name := "ytneaoicjbiebkaadoor", sum := "30010241243796135ebd8abfe5668da58de2aee9ddfb5cea54a0b4e9bcf4bdb4", checked := Tryd.checked }
namespace Rows
def none {H : Type} : Left H := { results := [], args := [] }

/- WHAT THE LISTED PACKAGE-LEVEL VARIABLES READ AS WHEN THE CALL BEGINS. Each datum BY PROGRAM (the guide's laid-datum.mjs) off the statement by which the dump's own 'gosem.cut.vars' lays the variable. In a bare row this is a premise. The card (YtneaoicjbiebkaaDoorCards.lean) ties it to the program's text. -/
def laid_partita_systems_errArg {H : Type} : DataW H := .iface "*errors.errorString" (.ptr (.agg [.lit (.string [110, 111, 32, 98, 97, 114, 115])]))
def laid_partita_systems_errBreak {H : Type} : DataW H := .iface "*errors.errorString" (.ptr (.agg [.lit (.string [116, 111, 111, 32, 119, 105, 100, 101])]))

/-- 'partitalaw25.SystemsTells': WHATEVER THE INPUT: true; the input reads as it did. -/
def systemsTellsSpec : ChangeSpec := { name := "systemsTells", fn := fun _ => fun
  | [d1, d2, d3, d4, d5, d6] => { results := [.lit (.bool true)], args := [d1, d2, d3, d4, d5, d6] }
  | _ => none }
def systemsTellsRow : OpenClaim := { program := "ytneaoicjbiebkaadoor", sum := "30010241243796135ebd8abfe5668da58de2aee9ddfb5cea54a0b4e9bcf4bdb4", func := "partita/partitalaw25.SystemsTells", spec := "systemsTells", inPlace := ["internal/reflectlite.TypeOf"], unfollowed := true, recurses := true, named := ["partita/systems.errArg", "partita/systems.errBreak"], apart := false, laid := [("partita/systems.errArg", laid_partita_systems_errArg), ("partita/systems.errBreak", laid_partita_systems_errBreak)] }
def SystemsTellsSaid : Prop := systemsTellsRow.holds Tryd.pinned (OpenSpec.ofChange systemsTellsSpec)

/-- ITS FALSE NEIGHBOUR: 'it returns false'. Refute it at one input. -/
def systemsTellsWrong : ChangeSpec := { name := "systemsTells", fn := fun _ => fun
  | [d1, d2, d3, d4, d5, d6] => { results := [.lit (.bool false)], args := [d1, d2, d3, d4, d5, d6] }
  | _ => none }
def SystemsTellsWrongFalsely : Prop := systemsTellsRow.holds Tryd.pinned (OpenSpec.ofChange systemsTellsWrong)

/-- 'partitalaw25.SystemsBest': WHATEVER THE INPUT: true; the input reads as it did. -/
def systemsBestSpec : ChangeSpec := { name := "systemsBest", fn := fun _ => fun
  | [d1, d2, d3, d4] => { results := [.lit (.bool true)], args := [d1, d2, d3, d4] }
  | _ => none }
def systemsBestRow : OpenClaim := { program := "ytneaoicjbiebkaadoor", sum := "30010241243796135ebd8abfe5668da58de2aee9ddfb5cea54a0b4e9bcf4bdb4", func := "partita/partitalaw25.SystemsBest", spec := "systemsBest", inPlace := ["internal/reflectlite.TypeOf"], unfollowed := true, recurses := true, named := ["partita/systems.errArg", "partita/systems.errBreak"], apart := false, laid := [("partita/systems.errArg", laid_partita_systems_errArg), ("partita/systems.errBreak", laid_partita_systems_errBreak)] }
def SystemsBestSaid : Prop := systemsBestRow.holds Tryd.pinned (OpenSpec.ofChange systemsBestSpec)

/-- ITS FALSE NEIGHBOUR: 'it returns false'. Refute it at one input. -/
def systemsBestWrong : ChangeSpec := { name := "systemsBest", fn := fun _ => fun
  | [d1, d2, d3, d4] => { results := [.lit (.bool false)], args := [d1, d2, d3, d4] }
  | _ => none }
def SystemsBestWrongFalsely : Prop := systemsBestRow.holds Tryd.pinned (OpenSpec.ofChange systemsBestWrong)

/-- 'partitalaw25.SystemsWhole': WHATEVER THE INPUT: true; the input reads as it did. -/
def systemsWholeSpec : ChangeSpec := { name := "systemsWhole", fn := fun _ => fun
  | [d1, d2, d3] => { results := [.lit (.bool true)], args := [d1, d2, d3] }
  | _ => none }
def systemsWholeRow : OpenClaim := { program := "ytneaoicjbiebkaadoor", sum := "30010241243796135ebd8abfe5668da58de2aee9ddfb5cea54a0b4e9bcf4bdb4", func := "partita/partitalaw25.SystemsWhole", spec := "systemsWhole", inPlace := ["internal/reflectlite.TypeOf"], unfollowed := true, recurses := true, named := ["partita/systems.errArg", "partita/systems.errBreak"], apart := false, laid := [("partita/systems.errArg", laid_partita_systems_errArg), ("partita/systems.errBreak", laid_partita_systems_errBreak)] }
def SystemsWholeSaid : Prop := systemsWholeRow.holds Tryd.pinned (OpenSpec.ofChange systemsWholeSpec)

/-- ITS FALSE NEIGHBOUR: 'it returns false'. Refute it at one input. -/
def systemsWholeWrong : ChangeSpec := { name := "systemsWhole", fn := fun _ => fun
  | [d1, d2, d3] => { results := [.lit (.bool false)], args := [d1, d2, d3] }
  | _ => none }
def SystemsWholeWrongFalsely : Prop := systemsWholeRow.holds Tryd.pinned (OpenSpec.ofChange systemsWholeWrong)

/-- 'partitalaw25.SystemsBehind': WHATEVER THE INPUT: true; the input reads as it did. -/
def systemsBehindSpec : ChangeSpec := { name := "systemsBehind", fn := fun _ => fun
  | [d1, d2, d3] => { results := [.lit (.bool true)], args := [d1, d2, d3] }
  | _ => none }
def systemsBehindRow : OpenClaim := { program := "ytneaoicjbiebkaadoor", sum := "30010241243796135ebd8abfe5668da58de2aee9ddfb5cea54a0b4e9bcf4bdb4", func := "partita/partitalaw25.SystemsBehind", spec := "systemsBehind", inPlace := ["internal/reflectlite.TypeOf"], unfollowed := true, recurses := true, named := ["partita/systems.errArg", "partita/systems.errBreak"], apart := false, laid := [("partita/systems.errArg", laid_partita_systems_errArg), ("partita/systems.errBreak", laid_partita_systems_errBreak)] }
def SystemsBehindSaid : Prop := systemsBehindRow.holds Tryd.pinned (OpenSpec.ofChange systemsBehindSpec)

/-- ITS FALSE NEIGHBOUR: 'it returns false'. Refute it at one input. -/
def systemsBehindWrong : ChangeSpec := { name := "systemsBehind", fn := fun _ => fun
  | [d1, d2, d3] => { results := [.lit (.bool false)], args := [d1, d2, d3] }
  | _ => none }
def SystemsBehindWrongFalsely : Prop := systemsBehindRow.holds Tryd.pinned (OpenSpec.ofChange systemsBehindWrong)

/-- 'partitalaw25.SystemsScaled': WHATEVER THE INPUT: true; the input reads as it did. -/
def systemsScaledSpec : ChangeSpec := { name := "systemsScaled", fn := fun _ => fun
  | [d1, d2, d3, d4] => { results := [.lit (.bool true)], args := [d1, d2, d3, d4] }
  | _ => none }
def systemsScaledRow : OpenClaim := { program := "ytneaoicjbiebkaadoor", sum := "30010241243796135ebd8abfe5668da58de2aee9ddfb5cea54a0b4e9bcf4bdb4", func := "partita/partitalaw25.SystemsScaled", spec := "systemsScaled", inPlace := ["internal/reflectlite.TypeOf"], unfollowed := true, recurses := true, named := ["partita/systems.errArg", "partita/systems.errBreak"], apart := false, laid := [("partita/systems.errArg", laid_partita_systems_errArg), ("partita/systems.errBreak", laid_partita_systems_errBreak)] }
def SystemsScaledSaid : Prop := systemsScaledRow.holds Tryd.pinned (OpenSpec.ofChange systemsScaledSpec)

/-- ITS FALSE NEIGHBOUR: 'it returns false'. Refute it at one input. -/
def systemsScaledWrong : ChangeSpec := { name := "systemsScaled", fn := fun _ => fun
  | [d1, d2, d3, d4] => { results := [.lit (.bool false)], args := [d1, d2, d3, d4] }
  | _ => none }
def SystemsScaledWrongFalsely : Prop := systemsScaledRow.holds Tryd.pinned (OpenSpec.ofChange systemsScaledWrong)

/-- 'partitalaw25.SystemsOne': WHATEVER THE INPUT: true; the input reads as it did. -/
def systemsOneSpec : ChangeSpec := { name := "systemsOne", fn := fun _ => fun
  | [d1, d2, d3] => { results := [.lit (.bool true)], args := [d1, d2, d3] }
  | _ => none }
def systemsOneRow : OpenClaim := { program := "ytneaoicjbiebkaadoor", sum := "30010241243796135ebd8abfe5668da58de2aee9ddfb5cea54a0b4e9bcf4bdb4", func := "partita/partitalaw25.SystemsOne", spec := "systemsOne", inPlace := ["internal/reflectlite.TypeOf"], unfollowed := true, recurses := true, named := ["partita/systems.errArg", "partita/systems.errBreak"], apart := false, laid := [("partita/systems.errArg", laid_partita_systems_errArg), ("partita/systems.errBreak", laid_partita_systems_errBreak)] }
def SystemsOneSaid : Prop := systemsOneRow.holds Tryd.pinned (OpenSpec.ofChange systemsOneSpec)

/-- ITS FALSE NEIGHBOUR: 'it returns false'. Refute it at one input. -/
def systemsOneWrong : ChangeSpec := { name := "systemsOne", fn := fun _ => fun
  | [d1, d2, d3] => { results := [.lit (.bool false)], args := [d1, d2, d3] }
  | _ => none }
def SystemsOneWrongFalsely : Prop := systemsOneRow.holds Tryd.pinned (OpenSpec.ofChange systemsOneWrong)

/-- 'partitalaw25.SystemsCosts': WHATEVER THE INPUT: true; the input reads as it did. -/
def systemsCostsSpec : ChangeSpec := { name := "systemsCosts", fn := fun _ => fun
  | [d1, d2, d3] => { results := [.lit (.bool true)], args := [d1, d2, d3] }
  | _ => none }
def systemsCostsRow : OpenClaim := { program := "ytneaoicjbiebkaadoor", sum := "30010241243796135ebd8abfe5668da58de2aee9ddfb5cea54a0b4e9bcf4bdb4", func := "partita/partitalaw25.SystemsCosts", spec := "systemsCosts", inPlace := ["internal/reflectlite.TypeOf"], unfollowed := true, recurses := true, named := ["partita/systems.errArg", "partita/systems.errBreak"], apart := false, laid := [("partita/systems.errArg", laid_partita_systems_errArg), ("partita/systems.errBreak", laid_partita_systems_errBreak)] }
def SystemsCostsSaid : Prop := systemsCostsRow.holds Tryd.pinned (OpenSpec.ofChange systemsCostsSpec)

/-- ITS FALSE NEIGHBOUR: 'it returns false'. Refute it at one input. -/
def systemsCostsWrong : ChangeSpec := { name := "systemsCosts", fn := fun _ => fun
  | [d1, d2, d3] => { results := [.lit (.bool false)], args := [d1, d2, d3] }
  | _ => none }
def SystemsCostsWrongFalsely : Prop := systemsCostsRow.holds Tryd.pinned (OpenSpec.ofChange systemsCostsWrong)

/- THE SECOND FORM. 'bulk': how many values and letters a reading holds, each counted each time it is reached (what is shared counts as often as it is met; a slice's spare places count too). A statement '..UptoSaid' is the law's where the arguments, and the package variables that the reading takes, are together of bulk at most 1048576: NARROWER than '..Said'. Prove '..Said' where nothing that the law and all that it calls make is longer than what came in: it says more and counts as full. Else prove '..UptoSaid'. A law counts once. -/
mutual
def uptoBulk {H : Type} : DataW H → Nat
  | .lit (.string bytes) => bytes.length + 1
  | .lit _ => 1
  | .nil => 1
  | .ptr d => uptoBulk d + 1
  | .slice elems spare => uptoBulkAll elems + uptoBulkAll spare + 1
  | .agg parts => uptoBulkAll parts + 1
  | .iface _ d => uptoBulk d + 1
  | .map entries => uptoBulkEntries entries + 1
  | .held _ => 1
def uptoBulkAll {H : Type} : List (DataW H) → Nat
  | [] => 0
  | d :: r => uptoBulk d + uptoBulkAll r
def uptoBulkEntries {H : Type} : List (Lit × DataW H) → Nat
  | [] => 0
  | x :: r => uptoBulkEntry x + uptoBulkEntries r
def uptoBulkEntry {H : Type} : Lit × DataW H → Nat
  | (.string bytes, d) => bytes.length + uptoBulk d + 1
  | (_, d) => uptoBulk d + 1
 end
def uptoSmall : (H : Type) → List (DataW H) → Bool := fun _ ds => decide (uptoBulkAll ds ≤ 1048576)
def OpenSpec.upto (s : _root_.Go.ChangeSpec) : _root_.Go.OpenSpec := { _root_.Go.OpenSpec.ofChange s with cond := some uptoSmall }

/-- 'partitalaw25.SystemsTells', WHERE WHAT IT READS IS OF BULK AT MOST 1048576: true; the input reads as it did. -/
def systemsTellsUptoRow : OpenClaim := { program := "ytneaoicjbiebkaadoor", sum := "30010241243796135ebd8abfe5668da58de2aee9ddfb5cea54a0b4e9bcf4bdb4", func := "partita/partitalaw25.SystemsTells", spec := "systemsTells", inPlace := ["internal/reflectlite.TypeOf"], unfollowed := true, recurses := true, named := ["partita/systems.errArg", "partita/systems.errBreak"], apart := false, laid := [("partita/systems.errArg", laid_partita_systems_errArg), ("partita/systems.errBreak", laid_partita_systems_errBreak)], narrowed := true }
def SystemsTellsUptoSaid : Prop := systemsTellsUptoRow.holds Tryd.pinned (OpenSpec.upto systemsTellsSpec)

/-- 'partitalaw25.SystemsBest', WHERE WHAT IT READS IS OF BULK AT MOST 1048576: true; the input reads as it did. -/
def systemsBestUptoRow : OpenClaim := { program := "ytneaoicjbiebkaadoor", sum := "30010241243796135ebd8abfe5668da58de2aee9ddfb5cea54a0b4e9bcf4bdb4", func := "partita/partitalaw25.SystemsBest", spec := "systemsBest", inPlace := ["internal/reflectlite.TypeOf"], unfollowed := true, recurses := true, named := ["partita/systems.errArg", "partita/systems.errBreak"], apart := false, laid := [("partita/systems.errArg", laid_partita_systems_errArg), ("partita/systems.errBreak", laid_partita_systems_errBreak)], narrowed := true }
def SystemsBestUptoSaid : Prop := systemsBestUptoRow.holds Tryd.pinned (OpenSpec.upto systemsBestSpec)

/-- 'partitalaw25.SystemsWhole', WHERE WHAT IT READS IS OF BULK AT MOST 1048576: true; the input reads as it did. -/
def systemsWholeUptoRow : OpenClaim := { program := "ytneaoicjbiebkaadoor", sum := "30010241243796135ebd8abfe5668da58de2aee9ddfb5cea54a0b4e9bcf4bdb4", func := "partita/partitalaw25.SystemsWhole", spec := "systemsWhole", inPlace := ["internal/reflectlite.TypeOf"], unfollowed := true, recurses := true, named := ["partita/systems.errArg", "partita/systems.errBreak"], apart := false, laid := [("partita/systems.errArg", laid_partita_systems_errArg), ("partita/systems.errBreak", laid_partita_systems_errBreak)], narrowed := true }
def SystemsWholeUptoSaid : Prop := systemsWholeUptoRow.holds Tryd.pinned (OpenSpec.upto systemsWholeSpec)

/-- 'partitalaw25.SystemsBehind', WHERE WHAT IT READS IS OF BULK AT MOST 1048576: true; the input reads as it did. -/
def systemsBehindUptoRow : OpenClaim := { program := "ytneaoicjbiebkaadoor", sum := "30010241243796135ebd8abfe5668da58de2aee9ddfb5cea54a0b4e9bcf4bdb4", func := "partita/partitalaw25.SystemsBehind", spec := "systemsBehind", inPlace := ["internal/reflectlite.TypeOf"], unfollowed := true, recurses := true, named := ["partita/systems.errArg", "partita/systems.errBreak"], apart := false, laid := [("partita/systems.errArg", laid_partita_systems_errArg), ("partita/systems.errBreak", laid_partita_systems_errBreak)], narrowed := true }
def SystemsBehindUptoSaid : Prop := systemsBehindUptoRow.holds Tryd.pinned (OpenSpec.upto systemsBehindSpec)

/-- 'partitalaw25.SystemsScaled', WHERE WHAT IT READS IS OF BULK AT MOST 1048576: true; the input reads as it did. -/
def systemsScaledUptoRow : OpenClaim := { program := "ytneaoicjbiebkaadoor", sum := "30010241243796135ebd8abfe5668da58de2aee9ddfb5cea54a0b4e9bcf4bdb4", func := "partita/partitalaw25.SystemsScaled", spec := "systemsScaled", inPlace := ["internal/reflectlite.TypeOf"], unfollowed := true, recurses := true, named := ["partita/systems.errArg", "partita/systems.errBreak"], apart := false, laid := [("partita/systems.errArg", laid_partita_systems_errArg), ("partita/systems.errBreak", laid_partita_systems_errBreak)], narrowed := true }
def SystemsScaledUptoSaid : Prop := systemsScaledUptoRow.holds Tryd.pinned (OpenSpec.upto systemsScaledSpec)

/-- 'partitalaw25.SystemsOne', WHERE WHAT IT READS IS OF BULK AT MOST 1048576: true; the input reads as it did. -/
def systemsOneUptoRow : OpenClaim := { program := "ytneaoicjbiebkaadoor", sum := "30010241243796135ebd8abfe5668da58de2aee9ddfb5cea54a0b4e9bcf4bdb4", func := "partita/partitalaw25.SystemsOne", spec := "systemsOne", inPlace := ["internal/reflectlite.TypeOf"], unfollowed := true, recurses := true, named := ["partita/systems.errArg", "partita/systems.errBreak"], apart := false, laid := [("partita/systems.errArg", laid_partita_systems_errArg), ("partita/systems.errBreak", laid_partita_systems_errBreak)], narrowed := true }
def SystemsOneUptoSaid : Prop := systemsOneUptoRow.holds Tryd.pinned (OpenSpec.upto systemsOneSpec)

/-- 'partitalaw25.SystemsCosts', WHERE WHAT IT READS IS OF BULK AT MOST 1048576: true; the input reads as it did. -/
def systemsCostsUptoRow : OpenClaim := { program := "ytneaoicjbiebkaadoor", sum := "30010241243796135ebd8abfe5668da58de2aee9ddfb5cea54a0b4e9bcf4bdb4", func := "partita/partitalaw25.SystemsCosts", spec := "systemsCosts", inPlace := ["internal/reflectlite.TypeOf"], unfollowed := true, recurses := true, named := ["partita/systems.errArg", "partita/systems.errBreak"], apart := false, laid := [("partita/systems.errArg", laid_partita_systems_errArg), ("partita/systems.errBreak", laid_partita_systems_errBreak)], narrowed := true }
def SystemsCostsUptoSaid : Prop := systemsCostsUptoRow.holds Tryd.pinned (OpenSpec.upto systemsCostsSpec)

end Rows
end Go.Proofs.YtneaoicjbiebkaaDoor
