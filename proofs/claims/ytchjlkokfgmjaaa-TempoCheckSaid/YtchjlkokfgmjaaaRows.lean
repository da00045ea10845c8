/-
  No cell of these rows narrows 'for every input' (looked for: loops, veiled, ifaces, maps, wideKeys, modest, calm, conditions, laid).
  DERIVED. THE GIVEN ROWS OF THIS SEAT. 8 by the template 'for every input the law returns true; each argument reads behind the call as it read before'; 0 by the template 'total and deterministic' (their statements: YtchjlkokfgmjaaaTotals.lean).
  GIVEN WITH THE SEED: the statements are not yours to turn. If you find one false, say at which input.
  Laid BY PROGRAM, IN A SANDBOX (cutbox-rows.mjs): the forced cells as the released guide's own fill.sh prints them over the translation 8fc33ae8682cf739… (all of the seat's roots in one cut). By AI agents, Wed Nov 11 2026. No macro, syntax, notation, axiom, sorry.
-/
import Derived.Test.YtchjlkokfgmjaaaChecked
import GoSem.Claim
import GoSem.ClaimJoined
import GoSem.ClaimMapViews
import Derived.JoinedTies
import Derived.KernelRfl
namespace Go.Proofs.Ytchjlkokfgmjaaa
/- THE CELL 'sum', in the pinned program and in every row, IS THE sha256 OF THE DUMP (.gsa) THAT YtchjlkokfgmjaaaProg.lean LOADS. Nothing in Lean hashes anything: it is a label: what it is worth is what the hold of that sum in a sandbox is worth. -/
noncomputable def Try.pinned : Pinned := { name := "ytchjlkokfgmjaaa", sum := "8fc33ae8682cf7395d40d409655d65723e4d2b1fd16c554239a6ff4c896a3c5e", checked := Try.checked }
namespace Rows
def none {H : Type} : Left H := { results := [], args := [] }

/-- 'partitalaw11.TempoRises': WHATEVER THE INPUT: true; the input reads as it did. -/
def tempoRisesSpec : ChangeSpec := { name := "tempoRises", fn := fun _ => fun
  | [d1, d2, d3] => { results := [.lit (.bool true)], args := [d1, d2, d3] }
  | _ => none }
def tempoRisesRow : OpenClaim := { program := "ytchjlkokfgmjaaa", sum := "8fc33ae8682cf7395d40d409655d65723e4d2b1fd16c554239a6ff4c896a3c5e", func := "partita/partitalaw11.TempoRises", spec := "tempoRises", unfollowed := true, recurses := true, named := ["math/bits.divideError", "math/bits.overflowError"], apart := false }
def TempoRisesSaid : Prop := tempoRisesRow.holds Try.pinned (OpenSpec.ofChange tempoRisesSpec)

/-- ITS FALSE NEIGHBOUR: 'it returns false'. Refute it at one input. -/
def tempoRisesWrong : ChangeSpec := { name := "tempoRises", fn := fun _ => fun
  | [d1, d2, d3] => { results := [.lit (.bool false)], args := [d1, d2, d3] }
  | _ => none }
def TempoRisesWrongFalsely : Prop := tempoRisesRow.holds Try.pinned (OpenSpec.ofChange tempoRisesWrong)

/-- 'partitalaw11.TempoPlain': WHATEVER THE INPUT: true; the input reads as it did. -/
def tempoPlainSpec : ChangeSpec := { name := "tempoPlain", fn := fun _ => fun
  | [d1, d2, d3, d4] => { results := [.lit (.bool true)], args := [d1, d2, d3, d4] }
  | _ => none }
def tempoPlainRow : OpenClaim := { program := "ytchjlkokfgmjaaa", sum := "8fc33ae8682cf7395d40d409655d65723e4d2b1fd16c554239a6ff4c896a3c5e", func := "partita/partitalaw11.TempoPlain", spec := "tempoPlain", unfollowed := true, recurses := true, named := ["math/bits.divideError", "math/bits.overflowError"], apart := false }
def TempoPlainSaid : Prop := tempoPlainRow.holds Try.pinned (OpenSpec.ofChange tempoPlainSpec)

/-- ITS FALSE NEIGHBOUR: 'it returns false'. Refute it at one input. -/
def tempoPlainWrong : ChangeSpec := { name := "tempoPlain", fn := fun _ => fun
  | [d1, d2, d3, d4] => { results := [.lit (.bool false)], args := [d1, d2, d3, d4] }
  | _ => none }
def TempoPlainWrongFalsely : Prop := tempoPlainRow.holds Try.pinned (OpenSpec.ofChange tempoPlainWrong)

/-- 'partitalaw11.TempoMiddle': WHATEVER THE INPUT: true; the input reads as it did. -/
def tempoMiddleSpec : ChangeSpec := { name := "tempoMiddle", fn := fun _ => fun
  | [d1, d2, d3, d4, d5] => { results := [.lit (.bool true)], args := [d1, d2, d3, d4, d5] }
  | _ => none }
def tempoMiddleRow : OpenClaim := { program := "ytchjlkokfgmjaaa", sum := "8fc33ae8682cf7395d40d409655d65723e4d2b1fd16c554239a6ff4c896a3c5e", func := "partita/partitalaw11.TempoMiddle", spec := "tempoMiddle", unfollowed := true, recurses := true, named := ["math/bits.divideError", "math/bits.overflowError"], apart := false }
def TempoMiddleSaid : Prop := tempoMiddleRow.holds Try.pinned (OpenSpec.ofChange tempoMiddleSpec)

/-- ITS FALSE NEIGHBOUR: 'it returns false'. Refute it at one input. -/
def tempoMiddleWrong : ChangeSpec := { name := "tempoMiddle", fn := fun _ => fun
  | [d1, d2, d3, d4, d5] => { results := [.lit (.bool false)], args := [d1, d2, d3, d4, d5] }
  | _ => none }
def TempoMiddleWrongFalsely : Prop := tempoMiddleRow.holds Try.pinned (OpenSpec.ofChange tempoMiddleWrong)

/-- 'partitalaw11.TempoBack': WHATEVER THE INPUT: true; the input reads as it did. -/
def tempoBackSpec : ChangeSpec := { name := "tempoBack", fn := fun _ => fun
  | [d1, d2] => { results := [.lit (.bool true)], args := [d1, d2] }
  | _ => none }
def tempoBackRow : OpenClaim := { program := "ytchjlkokfgmjaaa", sum := "8fc33ae8682cf7395d40d409655d65723e4d2b1fd16c554239a6ff4c896a3c5e", func := "partita/partitalaw11.TempoBack", spec := "tempoBack", unfollowed := true, recurses := true, named := ["math/bits.divideError", "math/bits.overflowError"], apart := false }
def TempoBackSaid : Prop := tempoBackRow.holds Try.pinned (OpenSpec.ofChange tempoBackSpec)

/-- ITS FALSE NEIGHBOUR: 'it returns false'. Refute it at one input. -/
def tempoBackWrong : ChangeSpec := { name := "tempoBack", fn := fun _ => fun
  | [d1, d2] => { results := [.lit (.bool false)], args := [d1, d2] }
  | _ => none }
def TempoBackWrongFalsely : Prop := tempoBackRow.holds Try.pinned (OpenSpec.ofChange tempoBackWrong)

/-- 'partitalaw11.TempoAhead': WHATEVER THE INPUT: true; the input reads as it did. -/
def tempoAheadSpec : ChangeSpec := { name := "tempoAhead", fn := fun _ => fun
  | [d1, d2, d3] => { results := [.lit (.bool true)], args := [d1, d2, d3] }
  | _ => none }
def tempoAheadRow : OpenClaim := { program := "ytchjlkokfgmjaaa", sum := "8fc33ae8682cf7395d40d409655d65723e4d2b1fd16c554239a6ff4c896a3c5e", func := "partita/partitalaw11.TempoAhead", spec := "tempoAhead", unfollowed := true, recurses := true, named := ["math/bits.divideError", "math/bits.overflowError"], apart := false }
def TempoAheadSaid : Prop := tempoAheadRow.holds Try.pinned (OpenSpec.ofChange tempoAheadSpec)

/-- ITS FALSE NEIGHBOUR: 'it returns false'. Refute it at one input. -/
def tempoAheadWrong : ChangeSpec := { name := "tempoAhead", fn := fun _ => fun
  | [d1, d2, d3] => { results := [.lit (.bool false)], args := [d1, d2, d3] }
  | _ => none }
def TempoAheadWrongFalsely : Prop := tempoAheadRow.holds Try.pinned (OpenSpec.ofChange tempoAheadWrong)

/-- 'partitalaw11.TempoSplit': WHATEVER THE INPUT: true; the input reads as it did. -/
def tempoSplitSpec : ChangeSpec := { name := "tempoSplit", fn := fun _ => fun
  | [d1, d2, d3] => { results := [.lit (.bool true)], args := [d1, d2, d3] }
  | _ => none }
def tempoSplitRow : OpenClaim := { program := "ytchjlkokfgmjaaa", sum := "8fc33ae8682cf7395d40d409655d65723e4d2b1fd16c554239a6ff4c896a3c5e", func := "partita/partitalaw11.TempoSplit", spec := "tempoSplit", unfollowed := true, recurses := true, named := ["math/bits.divideError", "math/bits.overflowError"], apart := false }
def TempoSplitSaid : Prop := tempoSplitRow.holds Try.pinned (OpenSpec.ofChange tempoSplitSpec)

/-- ITS FALSE NEIGHBOUR: 'it returns false'. Refute it at one input. -/
def tempoSplitWrong : ChangeSpec := { name := "tempoSplit", fn := fun _ => fun
  | [d1, d2, d3] => { results := [.lit (.bool false)], args := [d1, d2, d3] }
  | _ => none }
def TempoSplitWrongFalsely : Prop := tempoSplitRow.holds Try.pinned (OpenSpec.ofChange tempoSplitWrong)

/-- 'partitalaw11.TempoCheck': WHATEVER THE INPUT: true; the input reads as it did. -/
def tempoCheckSpec : ChangeSpec := { name := "tempoCheck", fn := fun _ => fun
  | [d1, d2, d3, d4] => { results := [.lit (.bool true)], args := [d1, d2, d3, d4] }
  | _ => none }
def tempoCheckRow : OpenClaim := { program := "ytchjlkokfgmjaaa", sum := "8fc33ae8682cf7395d40d409655d65723e4d2b1fd16c554239a6ff4c896a3c5e", func := "partita/partitalaw11.TempoCheck", spec := "tempoCheck", unfollowed := true, recurses := true, named := ["math/bits.divideError", "math/bits.overflowError"], apart := false }
def TempoCheckSaid : Prop := tempoCheckRow.holds Try.pinned (OpenSpec.ofChange tempoCheckSpec)

/-- ITS FALSE NEIGHBOUR: 'it returns false'. Refute it at one input. -/
def tempoCheckWrong : ChangeSpec := { name := "tempoCheck", fn := fun _ => fun
  | [d1, d2, d3, d4] => { results := [.lit (.bool false)], args := [d1, d2, d3, d4] }
  | _ => none }
def TempoCheckWrongFalsely : Prop := tempoCheckRow.holds Try.pinned (OpenSpec.ofChange tempoCheckWrong)

/-- 'partitalaw11.TempoPlace': WHATEVER THE INPUT: true; the input reads as it did. -/
def tempoPlaceSpec : ChangeSpec := { name := "tempoPlace", fn := fun _ => fun
  | [d1, d2, d3] => { results := [.lit (.bool true)], args := [d1, d2, d3] }
  | _ => none }
def tempoPlaceRow : OpenClaim := { program := "ytchjlkokfgmjaaa", sum := "8fc33ae8682cf7395d40d409655d65723e4d2b1fd16c554239a6ff4c896a3c5e", func := "partita/partitalaw11.TempoPlace", spec := "tempoPlace", unfollowed := true, recurses := true, named := ["math/bits.divideError", "math/bits.overflowError"], apart := false }
def TempoPlaceSaid : Prop := tempoPlaceRow.holds Try.pinned (OpenSpec.ofChange tempoPlaceSpec)

/-- ITS FALSE NEIGHBOUR: 'it returns false'. Refute it at one input. -/
def tempoPlaceWrong : ChangeSpec := { name := "tempoPlace", fn := fun _ => fun
  | [d1, d2, d3] => { results := [.lit (.bool false)], args := [d1, d2, d3] }
  | _ => none }
def TempoPlaceWrongFalsely : Prop := tempoPlaceRow.holds Try.pinned (OpenSpec.ofChange tempoPlaceWrong)

/- THE SECOND FORM. 'bulk': how many values and letters a reading holds, each counted each time it is reached (what is shared counts as often as it is met; a slice's spare places count too). A statement '..UptoSaid' is the law's where the arguments, and the package variables that the reading takes, are together of bulk at most 1048576: NARROWER than '..Said'. Prove '..Said' where nothing that the law and all that it calls make is longer than what came in: it says more and counts as full. Else prove '..UptoSaid'. A law counts once. -/
mutual
def uptoBulk {H : Type} : DataW H → Nat
  | .lit (.string bytes) => bytes.length + 1
  | .lit _ => 1
  | .nil => 1
  | .ptr d => uptoBulk d + 1
  | .slice elems spare => uptoBulkAll elems + uptoBulkAll spare + 1
  | .agg parts => uptoBulkAll parts + 1
  | .iface _ d => uptoBulk d + 1
  | .map entries => uptoBulkEntries entries + 1
  | .held _ => 1
def uptoBulkAll {H : Type} : List (DataW H) → Nat
  | [] => 0
  | d :: r => uptoBulk d + uptoBulkAll r
def uptoBulkEntries {H : Type} : List (Lit × DataW H) → Nat
  | [] => 0
  | x :: r => uptoBulkEntry x + uptoBulkEntries r
def uptoBulkEntry {H : Type} : Lit × DataW H → Nat
  | (.string bytes, d) => bytes.length + uptoBulk d + 1
  | (_, d) => uptoBulk d + 1
 end
def uptoSmall : (H : Type) → List (DataW H) → Bool := fun _ ds => decide (uptoBulkAll ds ≤ 1048576)
def OpenSpec.upto (s : _root_.Go.ChangeSpec) : _root_.Go.OpenSpec := { _root_.Go.OpenSpec.ofChange s with cond := some uptoSmall }

/-- 'partitalaw11.TempoRises', WHERE WHAT IT READS IS OF BULK AT MOST 1048576: true; the input reads as it did. -/
def tempoRisesUptoRow : OpenClaim := { program := "ytchjlkokfgmjaaa", sum := "8fc33ae8682cf7395d40d409655d65723e4d2b1fd16c554239a6ff4c896a3c5e", func := "partita/partitalaw11.TempoRises", spec := "tempoRises", unfollowed := true, recurses := true, named := ["math/bits.divideError", "math/bits.overflowError"], apart := false, narrowed := true }
def TempoRisesUptoSaid : Prop := tempoRisesUptoRow.holds Try.pinned (OpenSpec.upto tempoRisesSpec)

/-- 'partitalaw11.TempoPlain', WHERE WHAT IT READS IS OF BULK AT MOST 1048576: true; the input reads as it did. -/
def tempoPlainUptoRow : OpenClaim := { program := "ytchjlkokfgmjaaa", sum := "8fc33ae8682cf7395d40d409655d65723e4d2b1fd16c554239a6ff4c896a3c5e", func := "partita/partitalaw11.TempoPlain", spec := "tempoPlain", unfollowed := true, recurses := true, named := ["math/bits.divideError", "math/bits.overflowError"], apart := false, narrowed := true }
def TempoPlainUptoSaid : Prop := tempoPlainUptoRow.holds Try.pinned (OpenSpec.upto tempoPlainSpec)

/-- 'partitalaw11.TempoMiddle', WHERE WHAT IT READS IS OF BULK AT MOST 1048576: true; the input reads as it did. -/
def tempoMiddleUptoRow : OpenClaim := { program := "ytchjlkokfgmjaaa", sum := "8fc33ae8682cf7395d40d409655d65723e4d2b1fd16c554239a6ff4c896a3c5e", func := "partita/partitalaw11.TempoMiddle", spec := "tempoMiddle", unfollowed := true, recurses := true, named := ["math/bits.divideError", "math/bits.overflowError"], apart := false, narrowed := true }
def TempoMiddleUptoSaid : Prop := tempoMiddleUptoRow.holds Try.pinned (OpenSpec.upto tempoMiddleSpec)

/-- 'partitalaw11.TempoBack', WHERE WHAT IT READS IS OF BULK AT MOST 1048576: true; the input reads as it did. -/
def tempoBackUptoRow : OpenClaim := { program := "ytchjlkokfgmjaaa", sum := "8fc33ae8682cf7395d40d409655d65723e4d2b1fd16c554239a6ff4c896a3c5e", func := "partita/partitalaw11.TempoBack", spec := "tempoBack", unfollowed := true, recurses := true, named := ["math/bits.divideError", "math/bits.overflowError"], apart := false, narrowed := true }
def TempoBackUptoSaid : Prop := tempoBackUptoRow.holds Try.pinned (OpenSpec.upto tempoBackSpec)

/-- 'partitalaw11.TempoAhead', WHERE WHAT IT READS IS OF BULK AT MOST 1048576: true; the input reads as it did. -/
def tempoAheadUptoRow : OpenClaim := { program := "ytchjlkokfgmjaaa", sum := "8fc33ae8682cf7395d40d409655d65723e4d2b1fd16c554239a6ff4c896a3c5e", func := "partita/partitalaw11.TempoAhead", spec := "tempoAhead", unfollowed := true, recurses := true, named := ["math/bits.divideError", "math/bits.overflowError"], apart := false, narrowed := true }
def TempoAheadUptoSaid : Prop := tempoAheadUptoRow.holds Try.pinned (OpenSpec.upto tempoAheadSpec)

/-- 'partitalaw11.TempoSplit', WHERE WHAT IT READS IS OF BULK AT MOST 1048576: true; the input reads as it did. -/
def tempoSplitUptoRow : OpenClaim := { program := "ytchjlkokfgmjaaa", sum := "8fc33ae8682cf7395d40d409655d65723e4d2b1fd16c554239a6ff4c896a3c5e", func := "partita/partitalaw11.TempoSplit", spec := "tempoSplit", unfollowed := true, recurses := true, named := ["math/bits.divideError", "math/bits.overflowError"], apart := false, narrowed := true }
def TempoSplitUptoSaid : Prop := tempoSplitUptoRow.holds Try.pinned (OpenSpec.upto tempoSplitSpec)

/-- 'partitalaw11.TempoCheck', WHERE WHAT IT READS IS OF BULK AT MOST 1048576: true; the input reads as it did. -/
def tempoCheckUptoRow : OpenClaim := { program := "ytchjlkokfgmjaaa", sum := "8fc33ae8682cf7395d40d409655d65723e4d2b1fd16c554239a6ff4c896a3c5e", func := "partita/partitalaw11.TempoCheck", spec := "tempoCheck", unfollowed := true, recurses := true, named := ["math/bits.divideError", "math/bits.overflowError"], apart := false, narrowed := true }
def TempoCheckUptoSaid : Prop := tempoCheckUptoRow.holds Try.pinned (OpenSpec.upto tempoCheckSpec)

/-- 'partitalaw11.TempoPlace', WHERE WHAT IT READS IS OF BULK AT MOST 1048576: true; the input reads as it did. -/
def tempoPlaceUptoRow : OpenClaim := { program := "ytchjlkokfgmjaaa", sum := "8fc33ae8682cf7395d40d409655d65723e4d2b1fd16c554239a6ff4c896a3c5e", func := "partita/partitalaw11.TempoPlace", spec := "tempoPlace", unfollowed := true, recurses := true, named := ["math/bits.divideError", "math/bits.overflowError"], apart := false, narrowed := true }
def TempoPlaceUptoSaid : Prop := tempoPlaceUptoRow.holds Try.pinned (OpenSpec.upto tempoPlaceSpec)

end Rows
end Go.Proofs.Ytchjlkokfgmjaaa
