/-
  NARROWER THAN 'FOR EVERY INPUT', by the rows' own cells (each row's printed sentence says how): BeamMirrors: laid · BeamPitches: laid · BeamTells: laid · BeamSlopes: laid · BeamParts: laid · BeamJoins: laid · BeamRests: laid · BeamNear: laid.
  DERIVED. THE GIVEN ROWS OF THIS SEAT. 8 by the template 'for every input the law returns true; each argument reads behind the call as it read before'; 0 by the template 'total and deterministic' (their statements: YtocjbedacnlaaaaGreatDoorTotals.lean).
  GIVEN WITH THE SEED: the statements are not yours to turn. If you find one false, say at which input.
  Laid BY PROGRAM, IN A SANDBOX (cutbox-rows.mjs): the forced cells as the released guide's own fill.sh prints them over the translation 5b29cd2d657bdc26… (all of the seat's roots in one cut). By AI agents, Wed Nov 11 2026. No macro, syntax, notation, axiom, sorry.
-/
import Derived.Test.YtocjbedacnlaaaaGreatDoorChecked
import GoSem.PinnedTables
import GoSem.Claim
import GoSem.ClaimJoined
import GoSem.ClaimMapViews
import Derived.JoinedTies
import Derived.KernelRfl
namespace Go.Proofs.YtocjbedacnlaaaaGreatDoor
/- THE CELL 'sum', in the pinned program and in every row, IS THE sha256 OF THE DUMP (.gsa) THAT YtocjbedacnlaaaaGreatDoorProg.lean LOADS. Nothing in Lean hashes anything: it is a label: what it is worth is what the hold of that sum in a sandbox is worth. -/
noncomputable def Tryz.pinned : Pinned := { name := "ytocjbedacnlaaaagreatdoor", sum := "5b29cd2d657bdc26c8a095dca6a74eca2ff4496150d7b4ce41c89513452f58d1", checked := Tryz.checked }
namespace Rows
def none {H : Type} : Left H := { results := [], args := [] }

/- WHAT THE LISTED PACKAGE-LEVEL VARIABLES READ AS WHEN THE CALL BEGINS. Each datum BY PROGRAM (the guide's laid-datum.mjs) off the statement by which the dump's own 'gosem.cut.vars' lays the variable. In a bare row this is a premise. The card (YtocjbedacnlaaaaGreatDoorCards.lean) ties it to the program's text. -/
def laid_unicode_utf8_acceptRanges {H : Type} : DataW H := .agg [.agg [.lit (.int .u8 128), .lit (.int .u8 191)], .agg [.lit (.int .u8 160), .lit (.int .u8 191)], .agg [.lit (.int .u8 128), .lit (.int .u8 159)], .agg [.lit (.int .u8 144), .lit (.int .u8 191)], .agg [.lit (.int .u8 128), .lit (.int .u8 143)], .agg [.lit (.int .u8 0), .lit (.int .u8 0)], .agg [.lit (.int .u8 0), .lit (.int .u8 0)], .agg [.lit (.int .u8 0), .lit (.int .u8 0)], .agg [.lit (.int .u8 0), .lit (.int .u8 0)], .agg [.lit (.int .u8 0), .lit (.int .u8 0)], .agg [.lit (.int .u8 0), .lit (.int .u8 0)], .agg [.lit (.int .u8 0), .lit (.int .u8 0)], .agg [.lit (.int .u8 0), .lit (.int .u8 0)], .agg [.lit (.int .u8 0), .lit (.int .u8 0)], .agg [.lit (.int .u8 0), .lit (.int .u8 0)], .agg [.lit (.int .u8 0), .lit (.int .u8 0)]]
def laid_errors_errorType {H : Type} : DataW H := .iface "internal/reflectlite.rtype" (.agg [.ptr (.lit (.string [101, 114, 114, 111, 114]))])
def laid_partita_pitch_halfTones {H : Type} : DataW H := .agg [.lit (.int .i64 0), .lit (.int .i64 2), .lit (.int .i64 4), .lit (.int .i64 5), .lit (.int .i64 7), .lit (.int .i64 9), .lit (.int .i64 11)]
def laid_partita_value_dotted {H : Type} : DataW H := .agg [.agg [.lit (.int .i64 1), .lit (.int .i64 1)], .agg [.lit (.int .i64 3), .lit (.int .i64 2)], .agg [.lit (.int .i64 7), .lit (.int .i64 4)]]
/-- One of Go's own tables, pinned by name: the form's constant. -/
def laid_unicode_utf8_first : DataW Unit := Go.Pinned.utf8First

/-- 'partitalaw23.BeamMirrors': WHATEVER THE INPUT: true; the input reads as it did. -/
def beamMirrorsSpec : ChangeSpec := { name := "beamMirrors", fn := fun _ => fun
  | [d1, d2] => { results := [.lit (.bool true)], args := [d1, d2] }
  | _ => none }
def beamMirrorsRow : OpenClaim := { program := "ytocjbedacnlaaaagreatdoor", sum := "5b29cd2d657bdc26c8a095dca6a74eca2ff4496150d7b4ce41c89513452f58d1", func := "partita/partitalaw23.BeamMirrors", spec := "beamMirrors", inPlace := ["internal/reflectlite.ValueOf", "(internal/reflectlite.Value).Type", "(internal/reflectlite.Value).IsNil", "internal/reflectlite.TypeOf", "(internal/reflectlite.Value).Elem", "(internal/reflectlite.Value).Set"], unfollowed := true, recurses := true, named := ["unicode/utf8.first", "unicode/utf8.acceptRanges", "partita/pitch.halfTones", "partita/value.dotted", "errors.errorType"], plainKeys := false, apart := false, laid := [("unicode/utf8.acceptRanges", laid_unicode_utf8_acceptRanges), ("errors.errorType", laid_errors_errorType), ("partita/pitch.halfTones", laid_partita_pitch_halfTones), ("partita/value.dotted", laid_partita_value_dotted), ("unicode/utf8.first", laid_unicode_utf8_first)] }
def BeamMirrorsSaid : Prop := beamMirrorsRow.holds Tryz.pinned (OpenSpec.ofChange beamMirrorsSpec)

/-- ITS FALSE NEIGHBOUR: 'it returns false'. Refute it at one input. -/
def beamMirrorsWrong : ChangeSpec := { name := "beamMirrors", fn := fun _ => fun
  | [d1, d2] => { results := [.lit (.bool false)], args := [d1, d2] }
  | _ => none }
def BeamMirrorsWrongFalsely : Prop := beamMirrorsRow.holds Tryz.pinned (OpenSpec.ofChange beamMirrorsWrong)

/-- 'partitalaw23.BeamPitches': WHATEVER THE INPUT: true; the input reads as it did. -/
def beamPitchesSpec : ChangeSpec := { name := "beamPitches", fn := fun _ => fun
  | [d1, d2] => { results := [.lit (.bool true)], args := [d1, d2] }
  | _ => none }
def beamPitchesRow : OpenClaim := { program := "ytocjbedacnlaaaagreatdoor", sum := "5b29cd2d657bdc26c8a095dca6a74eca2ff4496150d7b4ce41c89513452f58d1", func := "partita/partitalaw23.BeamPitches", spec := "beamPitches", inPlace := ["internal/reflectlite.ValueOf", "(internal/reflectlite.Value).Type", "(internal/reflectlite.Value).IsNil", "internal/reflectlite.TypeOf", "(internal/reflectlite.Value).Elem", "(internal/reflectlite.Value).Set"], unfollowed := true, recurses := true, named := ["unicode/utf8.first", "unicode/utf8.acceptRanges", "partita/pitch.halfTones", "partita/value.dotted", "errors.errorType"], plainKeys := false, apart := false, laid := [("unicode/utf8.acceptRanges", laid_unicode_utf8_acceptRanges), ("errors.errorType", laid_errors_errorType), ("partita/pitch.halfTones", laid_partita_pitch_halfTones), ("partita/value.dotted", laid_partita_value_dotted), ("unicode/utf8.first", laid_unicode_utf8_first)] }
def BeamPitchesSaid : Prop := beamPitchesRow.holds Tryz.pinned (OpenSpec.ofChange beamPitchesSpec)

/-- ITS FALSE NEIGHBOUR: 'it returns false'. Refute it at one input. -/
def beamPitchesWrong : ChangeSpec := { name := "beamPitches", fn := fun _ => fun
  | [d1, d2] => { results := [.lit (.bool false)], args := [d1, d2] }
  | _ => none }
def BeamPitchesWrongFalsely : Prop := beamPitchesRow.holds Tryz.pinned (OpenSpec.ofChange beamPitchesWrong)

/-- 'partitalaw23.BeamTells': WHATEVER THE INPUT: true; the input reads as it did. -/
def beamTellsSpec : ChangeSpec := { name := "beamTells", fn := fun _ => fun
  | [d1, d2] => { results := [.lit (.bool true)], args := [d1, d2] }
  | _ => none }
def beamTellsRow : OpenClaim := { program := "ytocjbedacnlaaaagreatdoor", sum := "5b29cd2d657bdc26c8a095dca6a74eca2ff4496150d7b4ce41c89513452f58d1", func := "partita/partitalaw23.BeamTells", spec := "beamTells", inPlace := ["internal/reflectlite.ValueOf", "(internal/reflectlite.Value).Type", "(internal/reflectlite.Value).IsNil", "internal/reflectlite.TypeOf", "(internal/reflectlite.Value).Elem", "(internal/reflectlite.Value).Set"], unfollowed := true, recurses := true, named := ["unicode/utf8.first", "unicode/utf8.acceptRanges", "partita/pitch.halfTones", "partita/value.dotted", "errors.errorType"], plainKeys := false, apart := false, laid := [("unicode/utf8.acceptRanges", laid_unicode_utf8_acceptRanges), ("errors.errorType", laid_errors_errorType), ("partita/pitch.halfTones", laid_partita_pitch_halfTones), ("partita/value.dotted", laid_partita_value_dotted), ("unicode/utf8.first", laid_unicode_utf8_first)] }
def BeamTellsSaid : Prop := beamTellsRow.holds Tryz.pinned (OpenSpec.ofChange beamTellsSpec)

/-- ITS FALSE NEIGHBOUR: 'it returns false'. Refute it at one input. -/
def beamTellsWrong : ChangeSpec := { name := "beamTells", fn := fun _ => fun
  | [d1, d2] => { results := [.lit (.bool false)], args := [d1, d2] }
  | _ => none }
def BeamTellsWrongFalsely : Prop := beamTellsRow.holds Tryz.pinned (OpenSpec.ofChange beamTellsWrong)

/-- 'partitalaw23.BeamSlopes': WHATEVER THE INPUT: true; the input reads as it did. -/
def beamSlopesSpec : ChangeSpec := { name := "beamSlopes", fn := fun _ => fun
  | [d1, d2] => { results := [.lit (.bool true)], args := [d1, d2] }
  | _ => none }
def beamSlopesRow : OpenClaim := { program := "ytocjbedacnlaaaagreatdoor", sum := "5b29cd2d657bdc26c8a095dca6a74eca2ff4496150d7b4ce41c89513452f58d1", func := "partita/partitalaw23.BeamSlopes", spec := "beamSlopes", inPlace := ["internal/reflectlite.ValueOf", "(internal/reflectlite.Value).Type", "(internal/reflectlite.Value).IsNil", "internal/reflectlite.TypeOf", "(internal/reflectlite.Value).Elem", "(internal/reflectlite.Value).Set"], unfollowed := true, recurses := true, named := ["unicode/utf8.first", "unicode/utf8.acceptRanges", "partita/pitch.halfTones", "partita/value.dotted", "errors.errorType"], plainKeys := false, apart := false, laid := [("unicode/utf8.acceptRanges", laid_unicode_utf8_acceptRanges), ("errors.errorType", laid_errors_errorType), ("partita/pitch.halfTones", laid_partita_pitch_halfTones), ("partita/value.dotted", laid_partita_value_dotted), ("unicode/utf8.first", laid_unicode_utf8_first)] }
def BeamSlopesSaid : Prop := beamSlopesRow.holds Tryz.pinned (OpenSpec.ofChange beamSlopesSpec)

/-- ITS FALSE NEIGHBOUR: 'it returns false'. Refute it at one input. -/
def beamSlopesWrong : ChangeSpec := { name := "beamSlopes", fn := fun _ => fun
  | [d1, d2] => { results := [.lit (.bool false)], args := [d1, d2] }
  | _ => none }
def BeamSlopesWrongFalsely : Prop := beamSlopesRow.holds Tryz.pinned (OpenSpec.ofChange beamSlopesWrong)

/-- 'partitalaw23.BeamParts': WHATEVER THE INPUT: true; the input reads as it did. -/
def beamPartsSpec : ChangeSpec := { name := "beamParts", fn := fun _ => fun
  | [d1, d2] => { results := [.lit (.bool true)], args := [d1, d2] }
  | _ => none }
def beamPartsRow : OpenClaim := { program := "ytocjbedacnlaaaagreatdoor", sum := "5b29cd2d657bdc26c8a095dca6a74eca2ff4496150d7b4ce41c89513452f58d1", func := "partita/partitalaw23.BeamParts", spec := "beamParts", inPlace := ["internal/reflectlite.ValueOf", "(internal/reflectlite.Value).Type", "(internal/reflectlite.Value).IsNil", "internal/reflectlite.TypeOf", "(internal/reflectlite.Value).Elem", "(internal/reflectlite.Value).Set"], unfollowed := true, recurses := true, named := ["unicode/utf8.first", "unicode/utf8.acceptRanges", "partita/pitch.halfTones", "partita/value.dotted", "errors.errorType"], plainKeys := false, apart := false, laid := [("unicode/utf8.acceptRanges", laid_unicode_utf8_acceptRanges), ("errors.errorType", laid_errors_errorType), ("partita/pitch.halfTones", laid_partita_pitch_halfTones), ("partita/value.dotted", laid_partita_value_dotted), ("unicode/utf8.first", laid_unicode_utf8_first)] }
def BeamPartsSaid : Prop := beamPartsRow.holds Tryz.pinned (OpenSpec.ofChange beamPartsSpec)

/-- ITS FALSE NEIGHBOUR: 'it returns false'. Refute it at one input. -/
def beamPartsWrong : ChangeSpec := { name := "beamParts", fn := fun _ => fun
  | [d1, d2] => { results := [.lit (.bool false)], args := [d1, d2] }
  | _ => none }
def BeamPartsWrongFalsely : Prop := beamPartsRow.holds Tryz.pinned (OpenSpec.ofChange beamPartsWrong)

/-- 'partitalaw23.BeamJoins': WHATEVER THE INPUT: true; the input reads as it did. -/
def beamJoinsSpec : ChangeSpec := { name := "beamJoins", fn := fun _ => fun
  | [d1, d2] => { results := [.lit (.bool true)], args := [d1, d2] }
  | _ => none }
def beamJoinsRow : OpenClaim := { program := "ytocjbedacnlaaaagreatdoor", sum := "5b29cd2d657bdc26c8a095dca6a74eca2ff4496150d7b4ce41c89513452f58d1", func := "partita/partitalaw23.BeamJoins", spec := "beamJoins", inPlace := ["internal/reflectlite.ValueOf", "(internal/reflectlite.Value).Type", "(internal/reflectlite.Value).IsNil", "internal/reflectlite.TypeOf", "(internal/reflectlite.Value).Elem", "(internal/reflectlite.Value).Set"], unfollowed := true, recurses := true, named := ["unicode/utf8.first", "unicode/utf8.acceptRanges", "partita/pitch.halfTones", "partita/value.dotted", "errors.errorType"], plainKeys := false, apart := false, laid := [("unicode/utf8.acceptRanges", laid_unicode_utf8_acceptRanges), ("errors.errorType", laid_errors_errorType), ("partita/pitch.halfTones", laid_partita_pitch_halfTones), ("partita/value.dotted", laid_partita_value_dotted), ("unicode/utf8.first", laid_unicode_utf8_first)] }
def BeamJoinsSaid : Prop := beamJoinsRow.holds Tryz.pinned (OpenSpec.ofChange beamJoinsSpec)

/-- ITS FALSE NEIGHBOUR: 'it returns false'. Refute it at one input. -/
def beamJoinsWrong : ChangeSpec := { name := "beamJoins", fn := fun _ => fun
  | [d1, d2] => { results := [.lit (.bool false)], args := [d1, d2] }
  | _ => none }
def BeamJoinsWrongFalsely : Prop := beamJoinsRow.holds Tryz.pinned (OpenSpec.ofChange beamJoinsWrong)

/-- 'partitalaw23.BeamRests': WHATEVER THE INPUT: true; the input reads as it did. -/
def beamRestsSpec : ChangeSpec := { name := "beamRests", fn := fun _ => fun
  | [d1, d2] => { results := [.lit (.bool true)], args := [d1, d2] }
  | _ => none }
def beamRestsRow : OpenClaim := { program := "ytocjbedacnlaaaagreatdoor", sum := "5b29cd2d657bdc26c8a095dca6a74eca2ff4496150d7b4ce41c89513452f58d1", func := "partita/partitalaw23.BeamRests", spec := "beamRests", inPlace := ["internal/reflectlite.ValueOf", "(internal/reflectlite.Value).Type", "(internal/reflectlite.Value).IsNil", "internal/reflectlite.TypeOf", "(internal/reflectlite.Value).Elem", "(internal/reflectlite.Value).Set"], unfollowed := true, recurses := true, named := ["unicode/utf8.first", "unicode/utf8.acceptRanges", "partita/pitch.halfTones", "partita/value.dotted", "errors.errorType"], plainKeys := false, apart := false, laid := [("unicode/utf8.acceptRanges", laid_unicode_utf8_acceptRanges), ("errors.errorType", laid_errors_errorType), ("partita/pitch.halfTones", laid_partita_pitch_halfTones), ("partita/value.dotted", laid_partita_value_dotted), ("unicode/utf8.first", laid_unicode_utf8_first)] }
def BeamRestsSaid : Prop := beamRestsRow.holds Tryz.pinned (OpenSpec.ofChange beamRestsSpec)

/-- ITS FALSE NEIGHBOUR: 'it returns false'. Refute it at one input. -/
def beamRestsWrong : ChangeSpec := { name := "beamRests", fn := fun _ => fun
  | [d1, d2] => { results := [.lit (.bool false)], args := [d1, d2] }
  | _ => none }
def BeamRestsWrongFalsely : Prop := beamRestsRow.holds Tryz.pinned (OpenSpec.ofChange beamRestsWrong)

/-- 'partitalaw23.BeamNear': WHATEVER THE INPUT: true; the input reads as it did. -/
def beamNearSpec : ChangeSpec := { name := "beamNear", fn := fun _ => fun
  | [d1, d2] => { results := [.lit (.bool true)], args := [d1, d2] }
  | _ => none }
def beamNearRow : OpenClaim := { program := "ytocjbedacnlaaaagreatdoor", sum := "5b29cd2d657bdc26c8a095dca6a74eca2ff4496150d7b4ce41c89513452f58d1", func := "partita/partitalaw23.BeamNear", spec := "beamNear", inPlace := ["internal/reflectlite.ValueOf", "(internal/reflectlite.Value).Type", "(internal/reflectlite.Value).IsNil", "internal/reflectlite.TypeOf", "(internal/reflectlite.Value).Elem", "(internal/reflectlite.Value).Set"], unfollowed := true, recurses := true, named := ["unicode/utf8.first", "unicode/utf8.acceptRanges", "partita/pitch.halfTones", "partita/value.dotted", "errors.errorType"], plainKeys := false, apart := false, laid := [("unicode/utf8.acceptRanges", laid_unicode_utf8_acceptRanges), ("errors.errorType", laid_errors_errorType), ("partita/pitch.halfTones", laid_partita_pitch_halfTones), ("partita/value.dotted", laid_partita_value_dotted), ("unicode/utf8.first", laid_unicode_utf8_first)] }
def BeamNearSaid : Prop := beamNearRow.holds Tryz.pinned (OpenSpec.ofChange beamNearSpec)

/-- ITS FALSE NEIGHBOUR: 'it returns false'. Refute it at one input. -/
def beamNearWrong : ChangeSpec := { name := "beamNear", fn := fun _ => fun
  | [d1, d2] => { results := [.lit (.bool false)], args := [d1, d2] }
  | _ => none }
def BeamNearWrongFalsely : Prop := beamNearRow.holds Tryz.pinned (OpenSpec.ofChange beamNearWrong)

/- THE SECOND FORM. 'bulk': how many values and letters a reading holds, each counted each time it is reached (what is shared counts as often as it is met; a slice's spare places count too). A statement '..UptoSaid' is the law's where the arguments, and the package variables that the reading takes, are together of bulk at most 1048576: NARROWER than '..Said'. Prove '..Said' where nothing that the law and all that it calls make is longer than what came in: it says more and counts as full. Else prove '..UptoSaid'. A law counts once. -/
mutual
def uptoBulk {H : Type} : DataW H → Nat
  | .lit (.string bytes) => bytes.length + 1
  | .lit _ => 1
  | .nil => 1
  | .ptr d => uptoBulk d + 1
  | .slice elems spare => uptoBulkAll elems + uptoBulkAll spare + 1
  | .agg parts => uptoBulkAll parts + 1
  | .iface _ d => uptoBulk d + 1
  | .map entries => uptoBulkEntries entries + 1
  | .held _ => 1
def uptoBulkAll {H : Type} : List (DataW H) → Nat
  | [] => 0
  | d :: r => uptoBulk d + uptoBulkAll r
def uptoBulkEntries {H : Type} : List (Lit × DataW H) → Nat
  | [] => 0
  | x :: r => uptoBulkEntry x + uptoBulkEntries r
def uptoBulkEntry {H : Type} : Lit × DataW H → Nat
  | (.string bytes, d) => bytes.length + uptoBulk d + 1
  | (_, d) => uptoBulk d + 1
 end
def uptoSmall : (H : Type) → List (DataW H) → Bool := fun _ ds => decide (uptoBulkAll ds ≤ 1048576)
def OpenSpec.upto (s : _root_.Go.ChangeSpec) : _root_.Go.OpenSpec := { _root_.Go.OpenSpec.ofChange s with cond := some uptoSmall }

/-- 'partitalaw23.BeamMirrors', WHERE WHAT IT READS IS OF BULK AT MOST 1048576: true; the input reads as it did. -/
def beamMirrorsUptoRow : OpenClaim := { program := "ytocjbedacnlaaaagreatdoor", sum := "5b29cd2d657bdc26c8a095dca6a74eca2ff4496150d7b4ce41c89513452f58d1", func := "partita/partitalaw23.BeamMirrors", spec := "beamMirrors", inPlace := ["internal/reflectlite.ValueOf", "(internal/reflectlite.Value).Type", "(internal/reflectlite.Value).IsNil", "internal/reflectlite.TypeOf", "(internal/reflectlite.Value).Elem", "(internal/reflectlite.Value).Set"], unfollowed := true, recurses := true, named := ["unicode/utf8.first", "unicode/utf8.acceptRanges", "partita/pitch.halfTones", "partita/value.dotted", "errors.errorType"], plainKeys := false, apart := false, laid := [("unicode/utf8.acceptRanges", laid_unicode_utf8_acceptRanges), ("errors.errorType", laid_errors_errorType), ("partita/pitch.halfTones", laid_partita_pitch_halfTones), ("partita/value.dotted", laid_partita_value_dotted), ("unicode/utf8.first", laid_unicode_utf8_first)], narrowed := true }
def BeamMirrorsUptoSaid : Prop := beamMirrorsUptoRow.holds Tryz.pinned (OpenSpec.upto beamMirrorsSpec)

/-- 'partitalaw23.BeamPitches', WHERE WHAT IT READS IS OF BULK AT MOST 1048576: true; the input reads as it did. -/
def beamPitchesUptoRow : OpenClaim := { program := "ytocjbedacnlaaaagreatdoor", sum := "5b29cd2d657bdc26c8a095dca6a74eca2ff4496150d7b4ce41c89513452f58d1", func := "partita/partitalaw23.BeamPitches", spec := "beamPitches", inPlace := ["internal/reflectlite.ValueOf", "(internal/reflectlite.Value).Type", "(internal/reflectlite.Value).IsNil", "internal/reflectlite.TypeOf", "(internal/reflectlite.Value).Elem", "(internal/reflectlite.Value).Set"], unfollowed := true, recurses := true, named := ["unicode/utf8.first", "unicode/utf8.acceptRanges", "partita/pitch.halfTones", "partita/value.dotted", "errors.errorType"], plainKeys := false, apart := false, laid := [("unicode/utf8.acceptRanges", laid_unicode_utf8_acceptRanges), ("errors.errorType", laid_errors_errorType), ("partita/pitch.halfTones", laid_partita_pitch_halfTones), ("partita/value.dotted", laid_partita_value_dotted), ("unicode/utf8.first", laid_unicode_utf8_first)], narrowed := true }
def BeamPitchesUptoSaid : Prop := beamPitchesUptoRow.holds Tryz.pinned (OpenSpec.upto beamPitchesSpec)

/-- 'partitalaw23.BeamTells', WHERE WHAT IT READS IS OF BULK AT MOST 1048576: true; the input reads as it did. -/
def beamTellsUptoRow : OpenClaim := { program := "ytocjbedacnlaaaagreatdoor", sum := "5b29cd2d657bdc26c8a095dca6a74eca2ff4496150d7b4ce41c89513452f58d1", func := "partita/partitalaw23.BeamTells", spec := "beamTells", inPlace := ["internal/reflectlite.ValueOf", "(internal/reflectlite.Value).Type", "(internal/reflectlite.Value).IsNil", "internal/reflectlite.TypeOf", "(internal/reflectlite.Value).Elem", "(internal/reflectlite.Value).Set"], unfollowed := true, recurses := true, named := ["unicode/utf8.first", "unicode/utf8.acceptRanges", "partita/pitch.halfTones", "partita/value.dotted", "errors.errorType"], plainKeys := false, apart := false, laid := [("unicode/utf8.acceptRanges", laid_unicode_utf8_acceptRanges), ("errors.errorType", laid_errors_errorType), ("partita/pitch.halfTones", laid_partita_pitch_halfTones), ("partita/value.dotted", laid_partita_value_dotted), ("unicode/utf8.first", laid_unicode_utf8_first)], narrowed := true }
def BeamTellsUptoSaid : Prop := beamTellsUptoRow.holds Tryz.pinned (OpenSpec.upto beamTellsSpec)

/-- 'partitalaw23.BeamSlopes', WHERE WHAT IT READS IS OF BULK AT MOST 1048576: true; the input reads as it did. -/
def beamSlopesUptoRow : OpenClaim := { program := "ytocjbedacnlaaaagreatdoor", sum := "5b29cd2d657bdc26c8a095dca6a74eca2ff4496150d7b4ce41c89513452f58d1", func := "partita/partitalaw23.BeamSlopes", spec := "beamSlopes", inPlace := ["internal/reflectlite.ValueOf", "(internal/reflectlite.Value).Type", "(internal/reflectlite.Value).IsNil", "internal/reflectlite.TypeOf", "(internal/reflectlite.Value).Elem", "(internal/reflectlite.Value).Set"], unfollowed := true, recurses := true, named := ["unicode/utf8.first", "unicode/utf8.acceptRanges", "partita/pitch.halfTones", "partita/value.dotted", "errors.errorType"], plainKeys := false, apart := false, laid := [("unicode/utf8.acceptRanges", laid_unicode_utf8_acceptRanges), ("errors.errorType", laid_errors_errorType), ("partita/pitch.halfTones", laid_partita_pitch_halfTones), ("partita/value.dotted", laid_partita_value_dotted), ("unicode/utf8.first", laid_unicode_utf8_first)], narrowed := true }
def BeamSlopesUptoSaid : Prop := beamSlopesUptoRow.holds Tryz.pinned (OpenSpec.upto beamSlopesSpec)

/-- 'partitalaw23.BeamParts', WHERE WHAT IT READS IS OF BULK AT MOST 1048576: true; the input reads as it did. -/
def beamPartsUptoRow : OpenClaim := { program := "ytocjbedacnlaaaagreatdoor", sum := "5b29cd2d657bdc26c8a095dca6a74eca2ff4496150d7b4ce41c89513452f58d1", func := "partita/partitalaw23.BeamParts", spec := "beamParts", inPlace := ["internal/reflectlite.ValueOf", "(internal/reflectlite.Value).Type", "(internal/reflectlite.Value).IsNil", "internal/reflectlite.TypeOf", "(internal/reflectlite.Value).Elem", "(internal/reflectlite.Value).Set"], unfollowed := true, recurses := true, named := ["unicode/utf8.first", "unicode/utf8.acceptRanges", "partita/pitch.halfTones", "partita/value.dotted", "errors.errorType"], plainKeys := false, apart := false, laid := [("unicode/utf8.acceptRanges", laid_unicode_utf8_acceptRanges), ("errors.errorType", laid_errors_errorType), ("partita/pitch.halfTones", laid_partita_pitch_halfTones), ("partita/value.dotted", laid_partita_value_dotted), ("unicode/utf8.first", laid_unicode_utf8_first)], narrowed := true }
def BeamPartsUptoSaid : Prop := beamPartsUptoRow.holds Tryz.pinned (OpenSpec.upto beamPartsSpec)

/-- 'partitalaw23.BeamJoins', WHERE WHAT IT READS IS OF BULK AT MOST 1048576: true; the input reads as it did. -/
def beamJoinsUptoRow : OpenClaim := { program := "ytocjbedacnlaaaagreatdoor", sum := "5b29cd2d657bdc26c8a095dca6a74eca2ff4496150d7b4ce41c89513452f58d1", func := "partita/partitalaw23.BeamJoins", spec := "beamJoins", inPlace := ["internal/reflectlite.ValueOf", "(internal/reflectlite.Value).Type", "(internal/reflectlite.Value).IsNil", "internal/reflectlite.TypeOf", "(internal/reflectlite.Value).Elem", "(internal/reflectlite.Value).Set"], unfollowed := true, recurses := true, named := ["unicode/utf8.first", "unicode/utf8.acceptRanges", "partita/pitch.halfTones", "partita/value.dotted", "errors.errorType"], plainKeys := false, apart := false, laid := [("unicode/utf8.acceptRanges", laid_unicode_utf8_acceptRanges), ("errors.errorType", laid_errors_errorType), ("partita/pitch.halfTones", laid_partita_pitch_halfTones), ("partita/value.dotted", laid_partita_value_dotted), ("unicode/utf8.first", laid_unicode_utf8_first)], narrowed := true }
def BeamJoinsUptoSaid : Prop := beamJoinsUptoRow.holds Tryz.pinned (OpenSpec.upto beamJoinsSpec)

/-- 'partitalaw23.BeamRests', WHERE WHAT IT READS IS OF BULK AT MOST 1048576: true; the input reads as it did. -/
def beamRestsUptoRow : OpenClaim := { program := "ytocjbedacnlaaaagreatdoor", sum := "5b29cd2d657bdc26c8a095dca6a74eca2ff4496150d7b4ce41c89513452f58d1", func := "partita/partitalaw23.BeamRests", spec := "beamRests", inPlace := ["internal/reflectlite.ValueOf", "(internal/reflectlite.Value).Type", "(internal/reflectlite.Value).IsNil", "internal/reflectlite.TypeOf", "(internal/reflectlite.Value).Elem", "(internal/reflectlite.Value).Set"], unfollowed := true, recurses := true, named := ["unicode/utf8.first", "unicode/utf8.acceptRanges", "partita/pitch.halfTones", "partita/value.dotted", "errors.errorType"], plainKeys := false, apart := false, laid := [("unicode/utf8.acceptRanges", laid_unicode_utf8_acceptRanges), ("errors.errorType", laid_errors_errorType), ("partita/pitch.halfTones", laid_partita_pitch_halfTones), ("partita/value.dotted", laid_partita_value_dotted), ("unicode/utf8.first", laid_unicode_utf8_first)], narrowed := true }
def BeamRestsUptoSaid : Prop := beamRestsUptoRow.holds Tryz.pinned (OpenSpec.upto beamRestsSpec)

/-- 'partitalaw23.BeamNear', WHERE WHAT IT READS IS OF BULK AT MOST 1048576: true; the input reads as it did. -/
def beamNearUptoRow : OpenClaim := { program := "ytocjbedacnlaaaagreatdoor", sum := "5b29cd2d657bdc26c8a095dca6a74eca2ff4496150d7b4ce41c89513452f58d1", func := "partita/partitalaw23.BeamNear", spec := "beamNear", inPlace := ["internal/reflectlite.ValueOf", "(internal/reflectlite.Value).Type", "(internal/reflectlite.Value).IsNil", "internal/reflectlite.TypeOf", "(internal/reflectlite.Value).Elem", "(internal/reflectlite.Value).Set"], unfollowed := true, recurses := true, named := ["unicode/utf8.first", "unicode/utf8.acceptRanges", "partita/pitch.halfTones", "partita/value.dotted", "errors.errorType"], plainKeys := false, apart := false, laid := [("unicode/utf8.acceptRanges", laid_unicode_utf8_acceptRanges), ("errors.errorType", laid_errors_errorType), ("partita/pitch.halfTones", laid_partita_pitch_halfTones), ("partita/value.dotted", laid_partita_value_dotted), ("unicode/utf8.first", laid_unicode_utf8_first)], narrowed := true }
def BeamNearUptoSaid : Prop := beamNearUptoRow.holds Tryz.pinned (OpenSpec.upto beamNearSpec)

end Rows
end Go.Proofs.YtocjbedacnlaaaaGreatDoor
