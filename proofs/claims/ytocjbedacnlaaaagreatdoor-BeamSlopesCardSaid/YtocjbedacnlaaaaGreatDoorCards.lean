/-
  DERIVED. GIVEN WITH THE SEED: THE CARDS: each row of YtocjbedacnlaaaaGreatDoorRows.lean that lists a variable, with what it lists TIED to the program's text (the seventh form; the later family's looks); each row that meets fmt, with fmt's text TOLD by the authors' own Lean function (tested against real Go, not proved from fmt's source: count such statements apart). THE CARD IS WHAT COUNTS. Prove the row's statement (the work); the ties are given (YtocjbedacnlaaaaGreatDoorTie.lean); close each card by the builder's one call (the guide's Derived/Test/ToyasCard.lean, 'card_holds'). Laid BY PROGRAM, IN A SANDBOX (cutbox-door.mjs). By AI agents, Wed Nov 11 2026. No macro, syntax, notation, axiom, sorry.
-/
import Derived.Test.YtocjbedacnlaaaaGreatDoorRows
import GoSem.ClaimSeven
namespace Go.Proofs.YtocjbedacnlaaaaGreatDoor
namespace Rows

/-- THE TIED CARD OF 'partitalaw23.BeamMirrors'. -/
def beamMirrorsCard : Claim7 := { stood := { row := beamMirrorsRow, standIns := [], harness := (true, "e7e15f9e1f68a8680e5155a2166b450afe14efbbfcbf60abf4be01c79e0ce2be"), looks := true }, kinds := [], alts := [], laidByText := true, laidKinds := [.data, .handle, .data, .data, .pinned], laidTests := true, laidLooks := .later }
def BeamMirrorsCardSaid : Prop := Claim7.holds Tryz.pinned (.plain (OpenSpec.ofChange beamMirrorsSpec)) beamMirrorsCard

/-- THE TIED CARD OF 'partitalaw23.BeamPitches'. -/
def beamPitchesCard : Claim7 := { stood := { row := beamPitchesRow, standIns := [], harness := (true, "e7e15f9e1f68a8680e5155a2166b450afe14efbbfcbf60abf4be01c79e0ce2be"), looks := true }, kinds := [], alts := [], laidByText := true, laidKinds := [.data, .handle, .data, .data, .pinned], laidTests := true, laidLooks := .later }
def BeamPitchesCardSaid : Prop := Claim7.holds Tryz.pinned (.plain (OpenSpec.ofChange beamPitchesSpec)) beamPitchesCard

/-- THE TIED CARD OF 'partitalaw23.BeamTells'. -/
def beamTellsCard : Claim7 := { stood := { row := beamTellsRow, standIns := [], harness := (true, "e7e15f9e1f68a8680e5155a2166b450afe14efbbfcbf60abf4be01c79e0ce2be"), looks := true }, kinds := [], alts := [], laidByText := true, laidKinds := [.data, .handle, .data, .data, .pinned], laidTests := true, laidLooks := .later }
def BeamTellsCardSaid : Prop := Claim7.holds Tryz.pinned (.plain (OpenSpec.ofChange beamTellsSpec)) beamTellsCard

/-- THE TIED CARD OF 'partitalaw23.BeamSlopes'. -/
def beamSlopesCard : Claim7 := { stood := { row := beamSlopesRow, standIns := [], harness := (true, "e7e15f9e1f68a8680e5155a2166b450afe14efbbfcbf60abf4be01c79e0ce2be"), looks := true }, kinds := [], alts := [], laidByText := true, laidKinds := [.data, .handle, .data, .data, .pinned], laidTests := true, laidLooks := .later }
def BeamSlopesCardSaid : Prop := Claim7.holds Tryz.pinned (.plain (OpenSpec.ofChange beamSlopesSpec)) beamSlopesCard

/-- THE TIED CARD OF 'partitalaw23.BeamParts'. -/
def beamPartsCard : Claim7 := { stood := { row := beamPartsRow, standIns := [], harness := (true, "e7e15f9e1f68a8680e5155a2166b450afe14efbbfcbf60abf4be01c79e0ce2be"), looks := true }, kinds := [], alts := [], laidByText := true, laidKinds := [.data, .handle, .data, .data, .pinned], laidTests := true, laidLooks := .later }
def BeamPartsCardSaid : Prop := Claim7.holds Tryz.pinned (.plain (OpenSpec.ofChange beamPartsSpec)) beamPartsCard

/-- THE TIED CARD OF 'partitalaw23.BeamJoins'. -/
def beamJoinsCard : Claim7 := { stood := { row := beamJoinsRow, standIns := [], harness := (true, "e7e15f9e1f68a8680e5155a2166b450afe14efbbfcbf60abf4be01c79e0ce2be"), looks := true }, kinds := [], alts := [], laidByText := true, laidKinds := [.data, .handle, .data, .data, .pinned], laidTests := true, laidLooks := .later }
def BeamJoinsCardSaid : Prop := Claim7.holds Tryz.pinned (.plain (OpenSpec.ofChange beamJoinsSpec)) beamJoinsCard

/-- THE TIED CARD OF 'partitalaw23.BeamRests'. -/
def beamRestsCard : Claim7 := { stood := { row := beamRestsRow, standIns := [], harness := (true, "e7e15f9e1f68a8680e5155a2166b450afe14efbbfcbf60abf4be01c79e0ce2be"), looks := true }, kinds := [], alts := [], laidByText := true, laidKinds := [.data, .handle, .data, .data, .pinned], laidTests := true, laidLooks := .later }
def BeamRestsCardSaid : Prop := Claim7.holds Tryz.pinned (.plain (OpenSpec.ofChange beamRestsSpec)) beamRestsCard

/-- THE TIED CARD OF 'partitalaw23.BeamNear'. -/
def beamNearCard : Claim7 := { stood := { row := beamNearRow, standIns := [], harness := (true, "e7e15f9e1f68a8680e5155a2166b450afe14efbbfcbf60abf4be01c79e0ce2be"), looks := true }, kinds := [], alts := [], laidByText := true, laidKinds := [.data, .handle, .data, .data, .pinned], laidTests := true, laidLooks := .later }
def BeamNearCardSaid : Prop := Claim7.holds Tryz.pinned (.plain (OpenSpec.ofChange beamNearSpec)) beamNearCard

/-- THE SECOND FORM's CARD OF 'partitalaw23.BeamMirrors'. -/
def beamMirrorsUptoCard : Claim7 := { stood := { row := beamMirrorsUptoRow, standIns := [], harness := (true, "e7e15f9e1f68a8680e5155a2166b450afe14efbbfcbf60abf4be01c79e0ce2be"), looks := true }, kinds := [], alts := [], laidByText := true, laidKinds := [.data, .handle, .data, .data, .pinned], laidTests := true, laidLooks := .later }
def BeamMirrorsUptoCardSaid : Prop := Claim7.holds Tryz.pinned (.plain (OpenSpec.upto beamMirrorsSpec)) beamMirrorsUptoCard

/-- THE SECOND FORM's CARD OF 'partitalaw23.BeamPitches'. -/
def beamPitchesUptoCard : Claim7 := { stood := { row := beamPitchesUptoRow, standIns := [], harness := (true, "e7e15f9e1f68a8680e5155a2166b450afe14efbbfcbf60abf4be01c79e0ce2be"), looks := true }, kinds := [], alts := [], laidByText := true, laidKinds := [.data, .handle, .data, .data, .pinned], laidTests := true, laidLooks := .later }
def BeamPitchesUptoCardSaid : Prop := Claim7.holds Tryz.pinned (.plain (OpenSpec.upto beamPitchesSpec)) beamPitchesUptoCard

/-- THE SECOND FORM's CARD OF 'partitalaw23.BeamTells'. -/
def beamTellsUptoCard : Claim7 := { stood := { row := beamTellsUptoRow, standIns := [], harness := (true, "e7e15f9e1f68a8680e5155a2166b450afe14efbbfcbf60abf4be01c79e0ce2be"), looks := true }, kinds := [], alts := [], laidByText := true, laidKinds := [.data, .handle, .data, .data, .pinned], laidTests := true, laidLooks := .later }
def BeamTellsUptoCardSaid : Prop := Claim7.holds Tryz.pinned (.plain (OpenSpec.upto beamTellsSpec)) beamTellsUptoCard

/-- THE SECOND FORM's CARD OF 'partitalaw23.BeamSlopes'. -/
def beamSlopesUptoCard : Claim7 := { stood := { row := beamSlopesUptoRow, standIns := [], harness := (true, "e7e15f9e1f68a8680e5155a2166b450afe14efbbfcbf60abf4be01c79e0ce2be"), looks := true }, kinds := [], alts := [], laidByText := true, laidKinds := [.data, .handle, .data, .data, .pinned], laidTests := true, laidLooks := .later }
def BeamSlopesUptoCardSaid : Prop := Claim7.holds Tryz.pinned (.plain (OpenSpec.upto beamSlopesSpec)) beamSlopesUptoCard

/-- THE SECOND FORM's CARD OF 'partitalaw23.BeamParts'. -/
def beamPartsUptoCard : Claim7 := { stood := { row := beamPartsUptoRow, standIns := [], harness := (true, "e7e15f9e1f68a8680e5155a2166b450afe14efbbfcbf60abf4be01c79e0ce2be"), looks := true }, kinds := [], alts := [], laidByText := true, laidKinds := [.data, .handle, .data, .data, .pinned], laidTests := true, laidLooks := .later }
def BeamPartsUptoCardSaid : Prop := Claim7.holds Tryz.pinned (.plain (OpenSpec.upto beamPartsSpec)) beamPartsUptoCard

/-- THE SECOND FORM's CARD OF 'partitalaw23.BeamJoins'. -/
def beamJoinsUptoCard : Claim7 := { stood := { row := beamJoinsUptoRow, standIns := [], harness := (true, "e7e15f9e1f68a8680e5155a2166b450afe14efbbfcbf60abf4be01c79e0ce2be"), looks := true }, kinds := [], alts := [], laidByText := true, laidKinds := [.data, .handle, .data, .data, .pinned], laidTests := true, laidLooks := .later }
def BeamJoinsUptoCardSaid : Prop := Claim7.holds Tryz.pinned (.plain (OpenSpec.upto beamJoinsSpec)) beamJoinsUptoCard

/-- THE SECOND FORM's CARD OF 'partitalaw23.BeamRests'. -/
def beamRestsUptoCard : Claim7 := { stood := { row := beamRestsUptoRow, standIns := [], harness := (true, "e7e15f9e1f68a8680e5155a2166b450afe14efbbfcbf60abf4be01c79e0ce2be"), looks := true }, kinds := [], alts := [], laidByText := true, laidKinds := [.data, .handle, .data, .data, .pinned], laidTests := true, laidLooks := .later }
def BeamRestsUptoCardSaid : Prop := Claim7.holds Tryz.pinned (.plain (OpenSpec.upto beamRestsSpec)) beamRestsUptoCard

/-- THE SECOND FORM's CARD OF 'partitalaw23.BeamNear'. -/
def beamNearUptoCard : Claim7 := { stood := { row := beamNearUptoRow, standIns := [], harness := (true, "e7e15f9e1f68a8680e5155a2166b450afe14efbbfcbf60abf4be01c79e0ce2be"), looks := true }, kinds := [], alts := [], laidByText := true, laidKinds := [.data, .handle, .data, .data, .pinned], laidTests := true, laidLooks := .later }
def BeamNearUptoCardSaid : Prop := Claim7.holds Tryz.pinned (.plain (OpenSpec.upto beamNearSpec)) beamNearUptoCard
end Rows
end Go.Proofs.YtocjbedacnlaaaaGreatDoor
