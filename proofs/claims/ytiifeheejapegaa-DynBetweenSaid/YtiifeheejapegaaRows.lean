/-
  No cell of these rows narrows 'for every input' (looked for: loops, veiled, ifaces, maps, wideKeys, modest, calm, conditions, laid).
  DERIVED. THE GIVEN ROWS OF THIS SEAT. 9 by the template 'for every input the law returns true; each argument reads behind the call as it read before'; 0 by the template 'total and deterministic' (their statements: YtiifeheejapegaaTotals.lean).
  GIVEN WITH THE SEED: the statements are not yours to turn. If you find one false, say at which input.
  Laid BY PROGRAM, IN A SANDBOX (cutbox-rows.mjs): the forced cells as the released guide's own fill.sh prints them over the translation fe713e1761b80006… (all of the seat's roots in one cut). By AI agents, Wed Nov 11 2026. No macro, syntax, notation, axiom, sorry.
-/
import Derived.Test.YtiifeheejapegaaChecked
import GoSem.Claim
import GoSem.ClaimJoined
import GoSem.ClaimMapViews
import Derived.JoinedTies
import Derived.KernelRfl
namespace Go.Proofs.Ytiifeheejapegaa
/- THE CELL 'sum', in the pinned program and in every row, IS THE sha256 OF THE DUMP (.gsa) THAT YtiifeheejapegaaProg.lean LOADS. Nothing in Lean hashes anything: it is a label: what it is worth is what the hold of that sum in a sandbox is worth. -/
noncomputable def Try.pinned : Pinned := { name := "ytiifeheejapegaa", sum := "fe713e1761b80006068c69c0a6c9ca578b23da04a098d6ee6b3784f2b54c2c18", checked := Try.checked }
namespace Rows
def none {H : Type} : Left H := { results := [], args := [] }

/-- 'partitalaw12.DynChecks': WHATEVER THE INPUT: true; the input reads as it did. -/
def dynChecksSpec : ChangeSpec := { name := "dynChecks", fn := fun _ => fun
  | [d] => { results := [.lit (.bool true)], args := [d] }
  | _ => none }
def dynChecksRow : OpenClaim := { program := "ytiifeheejapegaa", sum := "fe713e1761b80006068c69c0a6c9ca578b23da04a098d6ee6b3784f2b54c2c18", func := "partita/partitalaw12.DynChecks", spec := "dynChecks", unfollowed := true, recurses := true, apart := false }
def DynChecksSaid : Prop := dynChecksRow.holds Try.pinned (OpenSpec.ofChange dynChecksSpec)

/-- ITS FALSE NEIGHBOUR: 'it returns false'. Refute it at one input. -/
def dynChecksWrong : ChangeSpec := { name := "dynChecks", fn := fun _ => fun
  | [d] => { results := [.lit (.bool false)], args := [d] }
  | _ => none }
def DynChecksWrongFalsely : Prop := dynChecksRow.holds Try.pinned (OpenSpec.ofChange dynChecksWrong)

/-- 'partitalaw12.DynLevels': WHATEVER THE INPUT: true; the input reads as it did. -/
def dynLevelsSpec : ChangeSpec := { name := "dynLevels", fn := fun _ => fun
  | [d1, d2] => { results := [.lit (.bool true)], args := [d1, d2] }
  | _ => none }
def dynLevelsRow : OpenClaim := { program := "ytiifeheejapegaa", sum := "fe713e1761b80006068c69c0a6c9ca578b23da04a098d6ee6b3784f2b54c2c18", func := "partita/partitalaw12.DynLevels", spec := "dynLevels", unfollowed := true, recurses := true, apart := false }
def DynLevelsSaid : Prop := dynLevelsRow.holds Try.pinned (OpenSpec.ofChange dynLevelsSpec)

/-- ITS FALSE NEIGHBOUR: 'it returns false'. Refute it at one input. -/
def dynLevelsWrong : ChangeSpec := { name := "dynLevels", fn := fun _ => fun
  | [d1, d2] => { results := [.lit (.bool false)], args := [d1, d2] }
  | _ => none }
def DynLevelsWrongFalsely : Prop := dynLevelsRow.holds Try.pinned (OpenSpec.ofChange dynLevelsWrong)

/-- 'partitalaw12.DynVelocities': WHATEVER THE INPUT: true; the input reads as it did. -/
def dynVelocitiesSpec : ChangeSpec := { name := "dynVelocities", fn := fun _ => fun
  | [d1, d2, d3] => { results := [.lit (.bool true)], args := [d1, d2, d3] }
  | _ => none }
def dynVelocitiesRow : OpenClaim := { program := "ytiifeheejapegaa", sum := "fe713e1761b80006068c69c0a6c9ca578b23da04a098d6ee6b3784f2b54c2c18", func := "partita/partitalaw12.DynVelocities", spec := "dynVelocities", unfollowed := true, recurses := true, apart := false }
def DynVelocitiesSaid : Prop := dynVelocitiesRow.holds Try.pinned (OpenSpec.ofChange dynVelocitiesSpec)

/-- ITS FALSE NEIGHBOUR: 'it returns false'. Refute it at one input. -/
def dynVelocitiesWrong : ChangeSpec := { name := "dynVelocities", fn := fun _ => fun
  | [d1, d2, d3] => { results := [.lit (.bool false)], args := [d1, d2, d3] }
  | _ => none }
def DynVelocitiesWrongFalsely : Prop := dynVelocitiesRow.holds Try.pinned (OpenSpec.ofChange dynVelocitiesWrong)

/-- 'partitalaw12.DynBetween': WHATEVER THE INPUT: true; the input reads as it did. -/
def dynBetweenSpec : ChangeSpec := { name := "dynBetween", fn := fun _ => fun
  | [d1, d2] => { results := [.lit (.bool true)], args := [d1, d2] }
  | _ => none }
def dynBetweenRow : OpenClaim := { program := "ytiifeheejapegaa", sum := "fe713e1761b80006068c69c0a6c9ca578b23da04a098d6ee6b3784f2b54c2c18", func := "partita/partitalaw12.DynBetween", spec := "dynBetween", unfollowed := true, recurses := true, apart := false }
def DynBetweenSaid : Prop := dynBetweenRow.holds Try.pinned (OpenSpec.ofChange dynBetweenSpec)

/-- ITS FALSE NEIGHBOUR: 'it returns false'. Refute it at one input. -/
def dynBetweenWrong : ChangeSpec := { name := "dynBetween", fn := fun _ => fun
  | [d1, d2] => { results := [.lit (.bool false)], args := [d1, d2] }
  | _ => none }
def DynBetweenWrongFalsely : Prop := dynBetweenRow.holds Try.pinned (OpenSpec.ofChange dynBetweenWrong)

/-- 'partitalaw12.DynEven': WHATEVER THE INPUT: true; the input reads as it did. -/
def dynEvenSpec : ChangeSpec := { name := "dynEven", fn := fun _ => fun
  | [d1, d2, d3] => { results := [.lit (.bool true)], args := [d1, d2, d3] }
  | _ => none }
def dynEvenRow : OpenClaim := { program := "ytiifeheejapegaa", sum := "fe713e1761b80006068c69c0a6c9ca578b23da04a098d6ee6b3784f2b54c2c18", func := "partita/partitalaw12.DynEven", spec := "dynEven", unfollowed := true, recurses := true, apart := false }
def DynEvenSaid : Prop := dynEvenRow.holds Try.pinned (OpenSpec.ofChange dynEvenSpec)

/-- ITS FALSE NEIGHBOUR: 'it returns false'. Refute it at one input. -/
def dynEvenWrong : ChangeSpec := { name := "dynEven", fn := fun _ => fun
  | [d1, d2, d3] => { results := [.lit (.bool false)], args := [d1, d2, d3] }
  | _ => none }
def DynEvenWrongFalsely : Prop := dynEvenRow.holds Try.pinned (OpenSpec.ofChange dynEvenWrong)

/-- 'partitalaw12.DynStays': WHATEVER THE INPUT: true; the input reads as it did. -/
def dynStaysSpec : ChangeSpec := { name := "dynStays", fn := fun _ => fun
  | [d1, d2] => { results := [.lit (.bool true)], args := [d1, d2] }
  | _ => none }
def dynStaysRow : OpenClaim := { program := "ytiifeheejapegaa", sum := "fe713e1761b80006068c69c0a6c9ca578b23da04a098d6ee6b3784f2b54c2c18", func := "partita/partitalaw12.DynStays", spec := "dynStays", unfollowed := true, recurses := true, apart := false }
def DynStaysSaid : Prop := dynStaysRow.holds Try.pinned (OpenSpec.ofChange dynStaysSpec)

/-- ITS FALSE NEIGHBOUR: 'it returns false'. Refute it at one input. -/
def dynStaysWrong : ChangeSpec := { name := "dynStays", fn := fun _ => fun
  | [d1, d2] => { results := [.lit (.bool false)], args := [d1, d2] }
  | _ => none }
def DynStaysWrongFalsely : Prop := dynStaysRow.holds Try.pinned (OpenSpec.ofChange dynStaysWrong)

/-- 'partitalaw12.DynBegin': WHATEVER THE INPUT: true; the input reads as it did. -/
def dynBeginSpec : ChangeSpec := { name := "dynBegin", fn := fun _ => fun
  | [d1, d2, d3] => { results := [.lit (.bool true)], args := [d1, d2, d3] }
  | _ => none }
def dynBeginRow : OpenClaim := { program := "ytiifeheejapegaa", sum := "fe713e1761b80006068c69c0a6c9ca578b23da04a098d6ee6b3784f2b54c2c18", func := "partita/partitalaw12.DynBegin", spec := "dynBegin", unfollowed := true, recurses := true, apart := false }
def DynBeginSaid : Prop := dynBeginRow.holds Try.pinned (OpenSpec.ofChange dynBeginSpec)

/-- ITS FALSE NEIGHBOUR: 'it returns false'. Refute it at one input. -/
def dynBeginWrong : ChangeSpec := { name := "dynBegin", fn := fun _ => fun
  | [d1, d2, d3] => { results := [.lit (.bool false)], args := [d1, d2, d3] }
  | _ => none }
def DynBeginWrongFalsely : Prop := dynBeginRow.holds Try.pinned (OpenSpec.ofChange dynBeginWrong)

/-- 'partitalaw12.DynLouder': WHATEVER THE INPUT: true; the input reads as it did. -/
def dynLouderSpec : ChangeSpec := { name := "dynLouder", fn := fun _ => fun
  | [d1, d2, d3] => { results := [.lit (.bool true)], args := [d1, d2, d3] }
  | _ => none }
def dynLouderRow : OpenClaim := { program := "ytiifeheejapegaa", sum := "fe713e1761b80006068c69c0a6c9ca578b23da04a098d6ee6b3784f2b54c2c18", func := "partita/partitalaw12.DynLouder", spec := "dynLouder", unfollowed := true, recurses := true, apart := false }
def DynLouderSaid : Prop := dynLouderRow.holds Try.pinned (OpenSpec.ofChange dynLouderSpec)

/-- ITS FALSE NEIGHBOUR: 'it returns false'. Refute it at one input. -/
def dynLouderWrong : ChangeSpec := { name := "dynLouder", fn := fun _ => fun
  | [d1, d2, d3] => { results := [.lit (.bool false)], args := [d1, d2, d3] }
  | _ => none }
def DynLouderWrongFalsely : Prop := dynLouderRow.holds Try.pinned (OpenSpec.ofChange dynLouderWrong)

/-- 'partitalaw12.DynMiddle': WHATEVER THE INPUT: true; the input reads as it did. -/
def dynMiddleSpec : ChangeSpec := { name := "dynMiddle", fn := fun _ => fun
  | [d1, d2, d3] => { results := [.lit (.bool true)], args := [d1, d2, d3] }
  | _ => none }
def dynMiddleRow : OpenClaim := { program := "ytiifeheejapegaa", sum := "fe713e1761b80006068c69c0a6c9ca578b23da04a098d6ee6b3784f2b54c2c18", func := "partita/partitalaw12.DynMiddle", spec := "dynMiddle", unfollowed := true, recurses := true, apart := false }
def DynMiddleSaid : Prop := dynMiddleRow.holds Try.pinned (OpenSpec.ofChange dynMiddleSpec)

/-- ITS FALSE NEIGHBOUR: 'it returns false'. Refute it at one input. -/
def dynMiddleWrong : ChangeSpec := { name := "dynMiddle", fn := fun _ => fun
  | [d1, d2, d3] => { results := [.lit (.bool false)], args := [d1, d2, d3] }
  | _ => none }
def DynMiddleWrongFalsely : Prop := dynMiddleRow.holds Try.pinned (OpenSpec.ofChange dynMiddleWrong)

/- THE SECOND FORM. 'bulk': how many values and letters a reading holds, each counted each time it is reached (what is shared counts as often as it is met; a slice's spare places count too). A statement '..UptoSaid' is the law's where the arguments, and the package variables that the reading takes, are together of bulk at most 1048576: NARROWER than '..Said'. Prove '..Said' where nothing that the law and all that it calls make is longer than what came in: it says more and counts as full. Else prove '..UptoSaid'. A law counts once. -/
mutual
def uptoBulk {H : Type} : DataW H → Nat
  | .lit (.string bytes) => bytes.length + 1
  | .lit _ => 1
  | .nil => 1
  | .ptr d => uptoBulk d + 1
  | .slice elems spare => uptoBulkAll elems + uptoBulkAll spare + 1
  | .agg parts => uptoBulkAll parts + 1
  | .iface _ d => uptoBulk d + 1
  | .map entries => uptoBulkEntries entries + 1
  | .held _ => 1
def uptoBulkAll {H : Type} : List (DataW H) → Nat
  | [] => 0
  | d :: r => uptoBulk d + uptoBulkAll r
def uptoBulkEntries {H : Type} : List (Lit × DataW H) → Nat
  | [] => 0
  | x :: r => uptoBulkEntry x + uptoBulkEntries r
def uptoBulkEntry {H : Type} : Lit × DataW H → Nat
  | (.string bytes, d) => bytes.length + uptoBulk d + 1
  | (_, d) => uptoBulk d + 1
 end
def uptoSmall : (H : Type) → List (DataW H) → Bool := fun _ ds => decide (uptoBulkAll ds ≤ 1048576)
def OpenSpec.upto (s : _root_.Go.ChangeSpec) : _root_.Go.OpenSpec := { _root_.Go.OpenSpec.ofChange s with cond := some uptoSmall }

/-- 'partitalaw12.DynChecks', WHERE WHAT IT READS IS OF BULK AT MOST 1048576: true; the input reads as it did. -/
def dynChecksUptoRow : OpenClaim := { program := "ytiifeheejapegaa", sum := "fe713e1761b80006068c69c0a6c9ca578b23da04a098d6ee6b3784f2b54c2c18", func := "partita/partitalaw12.DynChecks", spec := "dynChecks", unfollowed := true, recurses := true, apart := false, narrowed := true }
def DynChecksUptoSaid : Prop := dynChecksUptoRow.holds Try.pinned (OpenSpec.upto dynChecksSpec)

/-- 'partitalaw12.DynLevels', WHERE WHAT IT READS IS OF BULK AT MOST 1048576: true; the input reads as it did. -/
def dynLevelsUptoRow : OpenClaim := { program := "ytiifeheejapegaa", sum := "fe713e1761b80006068c69c0a6c9ca578b23da04a098d6ee6b3784f2b54c2c18", func := "partita/partitalaw12.DynLevels", spec := "dynLevels", unfollowed := true, recurses := true, apart := false, narrowed := true }
def DynLevelsUptoSaid : Prop := dynLevelsUptoRow.holds Try.pinned (OpenSpec.upto dynLevelsSpec)

/-- 'partitalaw12.DynVelocities', WHERE WHAT IT READS IS OF BULK AT MOST 1048576: true; the input reads as it did. -/
def dynVelocitiesUptoRow : OpenClaim := { program := "ytiifeheejapegaa", sum := "fe713e1761b80006068c69c0a6c9ca578b23da04a098d6ee6b3784f2b54c2c18", func := "partita/partitalaw12.DynVelocities", spec := "dynVelocities", unfollowed := true, recurses := true, apart := false, narrowed := true }
def DynVelocitiesUptoSaid : Prop := dynVelocitiesUptoRow.holds Try.pinned (OpenSpec.upto dynVelocitiesSpec)

/-- 'partitalaw12.DynBetween', WHERE WHAT IT READS IS OF BULK AT MOST 1048576: true; the input reads as it did. -/
def dynBetweenUptoRow : OpenClaim := { program := "ytiifeheejapegaa", sum := "fe713e1761b80006068c69c0a6c9ca578b23da04a098d6ee6b3784f2b54c2c18", func := "partita/partitalaw12.DynBetween", spec := "dynBetween", unfollowed := true, recurses := true, apart := false, narrowed := true }
def DynBetweenUptoSaid : Prop := dynBetweenUptoRow.holds Try.pinned (OpenSpec.upto dynBetweenSpec)

/-- 'partitalaw12.DynEven', WHERE WHAT IT READS IS OF BULK AT MOST 1048576: true; the input reads as it did. -/
def dynEvenUptoRow : OpenClaim := { program := "ytiifeheejapegaa", sum := "fe713e1761b80006068c69c0a6c9ca578b23da04a098d6ee6b3784f2b54c2c18", func := "partita/partitalaw12.DynEven", spec := "dynEven", unfollowed := true, recurses := true, apart := false, narrowed := true }
def DynEvenUptoSaid : Prop := dynEvenUptoRow.holds Try.pinned (OpenSpec.upto dynEvenSpec)

/-- 'partitalaw12.DynStays', WHERE WHAT IT READS IS OF BULK AT MOST 1048576: true; the input reads as it did. -/
def dynStaysUptoRow : OpenClaim := { program := "ytiifeheejapegaa", sum := "fe713e1761b80006068c69c0a6c9ca578b23da04a098d6ee6b3784f2b54c2c18", func := "partita/partitalaw12.DynStays", spec := "dynStays", unfollowed := true, recurses := true, apart := false, narrowed := true }
def DynStaysUptoSaid : Prop := dynStaysUptoRow.holds Try.pinned (OpenSpec.upto dynStaysSpec)

/-- 'partitalaw12.DynBegin', WHERE WHAT IT READS IS OF BULK AT MOST 1048576: true; the input reads as it did. -/
def dynBeginUptoRow : OpenClaim := { program := "ytiifeheejapegaa", sum := "fe713e1761b80006068c69c0a6c9ca578b23da04a098d6ee6b3784f2b54c2c18", func := "partita/partitalaw12.DynBegin", spec := "dynBegin", unfollowed := true, recurses := true, apart := false, narrowed := true }
def DynBeginUptoSaid : Prop := dynBeginUptoRow.holds Try.pinned (OpenSpec.upto dynBeginSpec)

/-- 'partitalaw12.DynLouder', WHERE WHAT IT READS IS OF BULK AT MOST 1048576: true; the input reads as it did. -/
def dynLouderUptoRow : OpenClaim := { program := "ytiifeheejapegaa", sum := "fe713e1761b80006068c69c0a6c9ca578b23da04a098d6ee6b3784f2b54c2c18", func := "partita/partitalaw12.DynLouder", spec := "dynLouder", unfollowed := true, recurses := true, apart := false, narrowed := true }
def DynLouderUptoSaid : Prop := dynLouderUptoRow.holds Try.pinned (OpenSpec.upto dynLouderSpec)

/-- 'partitalaw12.DynMiddle', WHERE WHAT IT READS IS OF BULK AT MOST 1048576: true; the input reads as it did. -/
def dynMiddleUptoRow : OpenClaim := { program := "ytiifeheejapegaa", sum := "fe713e1761b80006068c69c0a6c9ca578b23da04a098d6ee6b3784f2b54c2c18", func := "partita/partitalaw12.DynMiddle", spec := "dynMiddle", unfollowed := true, recurses := true, apart := false, narrowed := true }
def DynMiddleUptoSaid : Prop := dynMiddleUptoRow.holds Try.pinned (OpenSpec.upto dynMiddleSpec)

end Rows
end Go.Proofs.Ytiifeheejapegaa
