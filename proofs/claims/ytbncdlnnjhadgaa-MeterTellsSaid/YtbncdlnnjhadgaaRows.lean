/-
  No cell of these rows narrows 'for every input' (looked for: loops, veiled, ifaces, maps, wideKeys, modest, calm, conditions, laid).
  DERIVED. THE GIVEN ROWS OF THIS SEAT. 7 by the template 'for every input the law returns true; each argument reads behind the call as it read before'; 0 by the template 'total and deterministic' (their statements: YtbncdlnnjhadgaaTotals.lean).
  GIVEN WITH THE SEED: the statements are not yours to turn. If you find one false, say at which input.
  Laid BY PROGRAM, IN A SANDBOX (cutbox-rows.mjs): the forced cells as the released guide's own fill.sh prints them over the translation 3aa73dda32f00c43… (all of the seat's roots in one cut). By AI agents, Wed Nov 11 2026. No macro, syntax, notation, axiom, sorry.
-/
import Derived.Test.YtbncdlnnjhadgaaChecked
import GoSem.Claim
import GoSem.ClaimJoined
import GoSem.ClaimMapViews
import Derived.JoinedTies
import Derived.KernelRfl
namespace Go.Proofs.Ytbncdlnnjhadgaa
/- THE CELL 'sum', in the pinned program and in every row, IS THE sha256 OF THE DUMP (.gsa) THAT YtbncdlnnjhadgaaProg.lean LOADS. Nothing in Lean hashes anything: it is a label: what it is worth is what the hold of that sum in a sandbox is worth. -/
noncomputable def Try.pinned : Pinned := { name := "ytbncdlnnjhadgaa", sum := "3aa73dda32f00c43f6bdda83ceba670d128cd5b476cdf0027a05bb0f25679d24", checked := Try.checked }
namespace Rows
def none {H : Type} : Left H := { results := [], args := [] }

/-- 'partitalaw05.MeterTells': WHATEVER THE INPUT: true; the input reads as it did. -/
def meterTellsSpec : ChangeSpec := { name := "meterTells", fn := fun _ => fun
  | [d1, d2, d3, d4, d5, d6, d7, d8] => { results := [.lit (.bool true)], args := [d1, d2, d3, d4, d5, d6, d7, d8] }
  | _ => none }
def meterTellsRow : OpenClaim := { program := "ytbncdlnnjhadgaa", sum := "3aa73dda32f00c43f6bdda83ceba670d128cd5b476cdf0027a05bb0f25679d24", func := "partita/partitalaw05.MeterTells", spec := "meterTells", unfollowed := true, recurses := true, apart := false }
def MeterTellsSaid : Prop := meterTellsRow.holds Try.pinned (OpenSpec.ofChange meterTellsSpec)

/-- ITS FALSE NEIGHBOUR: 'it returns false'. Refute it at one input. -/
def meterTellsWrong : ChangeSpec := { name := "meterTells", fn := fun _ => fun
  | [d1, d2, d3, d4, d5, d6, d7, d8] => { results := [.lit (.bool false)], args := [d1, d2, d3, d4, d5, d6, d7, d8] }
  | _ => none }
def MeterTellsWrongFalsely : Prop := meterTellsRow.holds Try.pinned (OpenSpec.ofChange meterTellsWrong)

/-- 'partitalaw05.MeterWeights': WHATEVER THE INPUT: true; the input reads as it did. -/
def meterWeightsSpec : ChangeSpec := { name := "meterWeights", fn := fun _ => fun
  | [d1, d2, d3, d4] => { results := [.lit (.bool true)], args := [d1, d2, d3, d4] }
  | _ => none }
def meterWeightsRow : OpenClaim := { program := "ytbncdlnnjhadgaa", sum := "3aa73dda32f00c43f6bdda83ceba670d128cd5b476cdf0027a05bb0f25679d24", func := "partita/partitalaw05.MeterWeights", spec := "meterWeights", unfollowed := true, recurses := true, apart := false }
def MeterWeightsSaid : Prop := meterWeightsRow.holds Try.pinned (OpenSpec.ofChange meterWeightsSpec)

/-- ITS FALSE NEIGHBOUR: 'it returns false'. Refute it at one input. -/
def meterWeightsWrong : ChangeSpec := { name := "meterWeights", fn := fun _ => fun
  | [d1, d2, d3, d4] => { results := [.lit (.bool false)], args := [d1, d2, d3, d4] }
  | _ => none }
def MeterWeightsWrongFalsely : Prop := meterWeightsRow.holds Try.pinned (OpenSpec.ofChange meterWeightsWrong)

/-- 'partitalaw05.MeterCut': WHATEVER THE INPUT: true; the input reads as it did. -/
def meterCutSpec : ChangeSpec := { name := "meterCut", fn := fun _ => fun
  | [d1, d2, d3, d4, d5] => { results := [.lit (.bool true)], args := [d1, d2, d3, d4, d5] }
  | _ => none }
def meterCutRow : OpenClaim := { program := "ytbncdlnnjhadgaa", sum := "3aa73dda32f00c43f6bdda83ceba670d128cd5b476cdf0027a05bb0f25679d24", func := "partita/partitalaw05.MeterCut", spec := "meterCut", unfollowed := true, recurses := true, apart := false }
def MeterCutSaid : Prop := meterCutRow.holds Try.pinned (OpenSpec.ofChange meterCutSpec)

/-- ITS FALSE NEIGHBOUR: 'it returns false'. Refute it at one input. -/
def meterCutWrong : ChangeSpec := { name := "meterCut", fn := fun _ => fun
  | [d1, d2, d3, d4, d5] => { results := [.lit (.bool false)], args := [d1, d2, d3, d4, d5] }
  | _ => none }
def MeterCutWrongFalsely : Prop := meterCutRow.holds Try.pinned (OpenSpec.ofChange meterCutWrong)

/-- 'partitalaw05.MeterAgain': WHATEVER THE INPUT: true; the input reads as it did. -/
def meterAgainSpec : ChangeSpec := { name := "meterAgain", fn := fun _ => fun
  | [d1, d2, d3, d4] => { results := [.lit (.bool true)], args := [d1, d2, d3, d4] }
  | _ => none }
def meterAgainRow : OpenClaim := { program := "ytbncdlnnjhadgaa", sum := "3aa73dda32f00c43f6bdda83ceba670d128cd5b476cdf0027a05bb0f25679d24", func := "partita/partitalaw05.MeterAgain", spec := "meterAgain", unfollowed := true, recurses := true, apart := false }
def MeterAgainSaid : Prop := meterAgainRow.holds Try.pinned (OpenSpec.ofChange meterAgainSpec)

/-- ITS FALSE NEIGHBOUR: 'it returns false'. Refute it at one input. -/
def meterAgainWrong : ChangeSpec := { name := "meterAgain", fn := fun _ => fun
  | [d1, d2, d3, d4] => { results := [.lit (.bool false)], args := [d1, d2, d3, d4] }
  | _ => none }
def MeterAgainWrongFalsely : Prop := meterAgainRow.holds Try.pinned (OpenSpec.ofChange meterAgainWrong)

/-- 'partitalaw05.MeterParts': WHATEVER THE INPUT: true; the input reads as it did. -/
def meterPartsSpec : ChangeSpec := { name := "meterParts", fn := fun _ => fun
  | [d1, d2, d3, d4] => { results := [.lit (.bool true)], args := [d1, d2, d3, d4] }
  | _ => none }
def meterPartsRow : OpenClaim := { program := "ytbncdlnnjhadgaa", sum := "3aa73dda32f00c43f6bdda83ceba670d128cd5b476cdf0027a05bb0f25679d24", func := "partita/partitalaw05.MeterParts", spec := "meterParts", unfollowed := true, recurses := true, apart := false }
def MeterPartsSaid : Prop := meterPartsRow.holds Try.pinned (OpenSpec.ofChange meterPartsSpec)

/-- ITS FALSE NEIGHBOUR: 'it returns false'. Refute it at one input. -/
def meterPartsWrong : ChangeSpec := { name := "meterParts", fn := fun _ => fun
  | [d1, d2, d3, d4] => { results := [.lit (.bool false)], args := [d1, d2, d3, d4] }
  | _ => none }
def MeterPartsWrongFalsely : Prop := meterPartsRow.holds Try.pinned (OpenSpec.ofChange meterPartsWrong)

/-- 'partitalaw05.MeterSame': WHATEVER THE INPUT: true; the input reads as it did. -/
def meterSameSpec : ChangeSpec := { name := "meterSame", fn := fun _ => fun
  | [d1, d2] => { results := [.lit (.bool true)], args := [d1, d2] }
  | _ => none }
def meterSameRow : OpenClaim := { program := "ytbncdlnnjhadgaa", sum := "3aa73dda32f00c43f6bdda83ceba670d128cd5b476cdf0027a05bb0f25679d24", func := "partita/partitalaw05.MeterSame", spec := "meterSame", unfollowed := true, recurses := true, apart := false }
def MeterSameSaid : Prop := meterSameRow.holds Try.pinned (OpenSpec.ofChange meterSameSpec)

/-- ITS FALSE NEIGHBOUR: 'it returns false'. Refute it at one input. -/
def meterSameWrong : ChangeSpec := { name := "meterSame", fn := fun _ => fun
  | [d1, d2] => { results := [.lit (.bool false)], args := [d1, d2] }
  | _ => none }
def MeterSameWrongFalsely : Prop := meterSameRow.holds Try.pinned (OpenSpec.ofChange meterSameWrong)

/-- 'partitalaw05.MeterBeats': WHATEVER THE INPUT: true; the input reads as it did. -/
def meterBeatsSpec : ChangeSpec := { name := "meterBeats", fn := fun _ => fun
  | [d1, d2] => { results := [.lit (.bool true)], args := [d1, d2] }
  | _ => none }
def meterBeatsRow : OpenClaim := { program := "ytbncdlnnjhadgaa", sum := "3aa73dda32f00c43f6bdda83ceba670d128cd5b476cdf0027a05bb0f25679d24", func := "partita/partitalaw05.MeterBeats", spec := "meterBeats", unfollowed := true, recurses := true, apart := false }
def MeterBeatsSaid : Prop := meterBeatsRow.holds Try.pinned (OpenSpec.ofChange meterBeatsSpec)

/-- ITS FALSE NEIGHBOUR: 'it returns false'. Refute it at one input. -/
def meterBeatsWrong : ChangeSpec := { name := "meterBeats", fn := fun _ => fun
  | [d1, d2] => { results := [.lit (.bool false)], args := [d1, d2] }
  | _ => none }
def MeterBeatsWrongFalsely : Prop := meterBeatsRow.holds Try.pinned (OpenSpec.ofChange meterBeatsWrong)

/- THE SECOND FORM. 'bulk': how many values and letters a reading holds, each counted each time it is reached (what is shared counts as often as it is met; a slice's spare places count too). A statement '..UptoSaid' is the law's where the arguments, and the package variables that the reading takes, are together of bulk at most 1048576: NARROWER than '..Said'. Prove '..Said' where nothing that the law and all that it calls make is longer than what came in: it says more and counts as full. Else prove '..UptoSaid'. A law counts once. -/
mutual
def uptoBulk {H : Type} : DataW H → Nat
  | .lit (.string bytes) => bytes.length + 1
  | .lit _ => 1
  | .nil => 1
  | .ptr d => uptoBulk d + 1
  | .slice elems spare => uptoBulkAll elems + uptoBulkAll spare + 1
  | .agg parts => uptoBulkAll parts + 1
  | .iface _ d => uptoBulk d + 1
  | .map entries => uptoBulkEntries entries + 1
  | .held _ => 1
def uptoBulkAll {H : Type} : List (DataW H) → Nat
  | [] => 0
  | d :: r => uptoBulk d + uptoBulkAll r
def uptoBulkEntries {H : Type} : List (Lit × DataW H) → Nat
  | [] => 0
  | x :: r => uptoBulkEntry x + uptoBulkEntries r
def uptoBulkEntry {H : Type} : Lit × DataW H → Nat
  | (.string bytes, d) => bytes.length + uptoBulk d + 1
  | (_, d) => uptoBulk d + 1
 end
def uptoSmall : (H : Type) → List (DataW H) → Bool := fun _ ds => decide (uptoBulkAll ds ≤ 1048576)
def OpenSpec.upto (s : _root_.Go.ChangeSpec) : _root_.Go.OpenSpec := { _root_.Go.OpenSpec.ofChange s with cond := some uptoSmall }

/-- 'partitalaw05.MeterTells', WHERE WHAT IT READS IS OF BULK AT MOST 1048576: true; the input reads as it did. -/
def meterTellsUptoRow : OpenClaim := { program := "ytbncdlnnjhadgaa", sum := "3aa73dda32f00c43f6bdda83ceba670d128cd5b476cdf0027a05bb0f25679d24", func := "partita/partitalaw05.MeterTells", spec := "meterTells", unfollowed := true, recurses := true, apart := false, narrowed := true }
def MeterTellsUptoSaid : Prop := meterTellsUptoRow.holds Try.pinned (OpenSpec.upto meterTellsSpec)

/-- 'partitalaw05.MeterWeights', WHERE WHAT IT READS IS OF BULK AT MOST 1048576: true; the input reads as it did. -/
def meterWeightsUptoRow : OpenClaim := { program := "ytbncdlnnjhadgaa", sum := "3aa73dda32f00c43f6bdda83ceba670d128cd5b476cdf0027a05bb0f25679d24", func := "partita/partitalaw05.MeterWeights", spec := "meterWeights", unfollowed := true, recurses := true, apart := false, narrowed := true }
def MeterWeightsUptoSaid : Prop := meterWeightsUptoRow.holds Try.pinned (OpenSpec.upto meterWeightsSpec)

/-- 'partitalaw05.MeterCut', WHERE WHAT IT READS IS OF BULK AT MOST 1048576: true; the input reads as it did. -/
def meterCutUptoRow : OpenClaim := { program := "ytbncdlnnjhadgaa", sum := "3aa73dda32f00c43f6bdda83ceba670d128cd5b476cdf0027a05bb0f25679d24", func := "partita/partitalaw05.MeterCut", spec := "meterCut", unfollowed := true, recurses := true, apart := false, narrowed := true }
def MeterCutUptoSaid : Prop := meterCutUptoRow.holds Try.pinned (OpenSpec.upto meterCutSpec)

/-- 'partitalaw05.MeterAgain', WHERE WHAT IT READS IS OF BULK AT MOST 1048576: true; the input reads as it did. -/
def meterAgainUptoRow : OpenClaim := { program := "ytbncdlnnjhadgaa", sum := "3aa73dda32f00c43f6bdda83ceba670d128cd5b476cdf0027a05bb0f25679d24", func := "partita/partitalaw05.MeterAgain", spec := "meterAgain", unfollowed := true, recurses := true, apart := false, narrowed := true }
def MeterAgainUptoSaid : Prop := meterAgainUptoRow.holds Try.pinned (OpenSpec.upto meterAgainSpec)

/-- 'partitalaw05.MeterParts', WHERE WHAT IT READS IS OF BULK AT MOST 1048576: true; the input reads as it did. -/
def meterPartsUptoRow : OpenClaim := { program := "ytbncdlnnjhadgaa", sum := "3aa73dda32f00c43f6bdda83ceba670d128cd5b476cdf0027a05bb0f25679d24", func := "partita/partitalaw05.MeterParts", spec := "meterParts", unfollowed := true, recurses := true, apart := false, narrowed := true }
def MeterPartsUptoSaid : Prop := meterPartsUptoRow.holds Try.pinned (OpenSpec.upto meterPartsSpec)

/-- 'partitalaw05.MeterSame', WHERE WHAT IT READS IS OF BULK AT MOST 1048576: true; the input reads as it did. -/
def meterSameUptoRow : OpenClaim := { program := "ytbncdlnnjhadgaa", sum := "3aa73dda32f00c43f6bdda83ceba670d128cd5b476cdf0027a05bb0f25679d24", func := "partita/partitalaw05.MeterSame", spec := "meterSame", unfollowed := true, recurses := true, apart := false, narrowed := true }
def MeterSameUptoSaid : Prop := meterSameUptoRow.holds Try.pinned (OpenSpec.upto meterSameSpec)

/-- 'partitalaw05.MeterBeats', WHERE WHAT IT READS IS OF BULK AT MOST 1048576: true; the input reads as it did. -/
def meterBeatsUptoRow : OpenClaim := { program := "ytbncdlnnjhadgaa", sum := "3aa73dda32f00c43f6bdda83ceba670d128cd5b476cdf0027a05bb0f25679d24", func := "partita/partitalaw05.MeterBeats", spec := "meterBeats", unfollowed := true, recurses := true, apart := false, narrowed := true }
def MeterBeatsUptoSaid : Prop := meterBeatsUptoRow.holds Try.pinned (OpenSpec.upto meterBeatsSpec)

end Rows
end Go.Proofs.Ytbncdlnnjhadgaa
