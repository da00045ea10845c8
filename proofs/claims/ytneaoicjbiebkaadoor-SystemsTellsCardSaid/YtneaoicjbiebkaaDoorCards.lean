/-
  DERIVED. GIVEN WITH THE SEED: THE CARDS: each row of YtneaoicjbiebkaaDoorRows.lean that lists a variable, with what it lists TIED to the program's text (the seventh form; the later family's looks); each row that meets fmt, with fmt's text TOLD by the authors' own Lean function (tested against real Go, not proved from fmt's source: count such statements apart). THE CARD IS WHAT COUNTS. Prove the row's statement (the work); the ties are given (YtneaoicjbiebkaaDoorTie.lean); close each card by the builder's one call (the guide's Derived/Test/ToyasCard.lean, 'card_holds'). Laid BY PROGRAM, IN A SANDBOX (cutbox-door.mjs). By AI agents, Wed Nov 11 2026. No macro, syntax, notation, axiom, sorry.
-/
import Derived.Test.YtneaoicjbiebkaaDoorRows
import GoSem.ClaimSeven
namespace Go.Proofs.YtneaoicjbiebkaaDoor
namespace Rows

/-- THE TIED CARD OF 'partitalaw25.SystemsTells'. -/
def systemsTellsCard : Claim7 := { stood := { row := systemsTellsRow, standIns := [], harness := (true, "128c7e88cb9c50398165ad61ad3d49648ef61529ae14b8add6ea774910501e10"), looks := true }, kinds := [], alts := [], laidByText := true, laidKinds := [.sentinel, .sentinel], laidTests := true, laidLooks := .later }
def SystemsTellsCardSaid : Prop := Claim7.holds Tryd.pinned (.plain (OpenSpec.ofChange systemsTellsSpec)) systemsTellsCard

/-- THE TIED CARD OF 'partitalaw25.SystemsBest'. -/
def systemsBestCard : Claim7 := { stood := { row := systemsBestRow, standIns := [], harness := (true, "128c7e88cb9c50398165ad61ad3d49648ef61529ae14b8add6ea774910501e10"), looks := true }, kinds := [], alts := [], laidByText := true, laidKinds := [.sentinel, .sentinel], laidTests := true, laidLooks := .later }
def SystemsBestCardSaid : Prop := Claim7.holds Tryd.pinned (.plain (OpenSpec.ofChange systemsBestSpec)) systemsBestCard

/-- THE TIED CARD OF 'partitalaw25.SystemsWhole'. -/
def systemsWholeCard : Claim7 := { stood := { row := systemsWholeRow, standIns := [], harness := (true, "128c7e88cb9c50398165ad61ad3d49648ef61529ae14b8add6ea774910501e10"), looks := true }, kinds := [], alts := [], laidByText := true, laidKinds := [.sentinel, .sentinel], laidTests := true, laidLooks := .later }
def SystemsWholeCardSaid : Prop := Claim7.holds Tryd.pinned (.plain (OpenSpec.ofChange systemsWholeSpec)) systemsWholeCard

/-- THE TIED CARD OF 'partitalaw25.SystemsBehind'. -/
def systemsBehindCard : Claim7 := { stood := { row := systemsBehindRow, standIns := [], harness := (true, "128c7e88cb9c50398165ad61ad3d49648ef61529ae14b8add6ea774910501e10"), looks := true }, kinds := [], alts := [], laidByText := true, laidKinds := [.sentinel, .sentinel], laidTests := true, laidLooks := .later }
def SystemsBehindCardSaid : Prop := Claim7.holds Tryd.pinned (.plain (OpenSpec.ofChange systemsBehindSpec)) systemsBehindCard

/-- THE TIED CARD OF 'partitalaw25.SystemsScaled'. -/
def systemsScaledCard : Claim7 := { stood := { row := systemsScaledRow, standIns := [], harness := (true, "128c7e88cb9c50398165ad61ad3d49648ef61529ae14b8add6ea774910501e10"), looks := true }, kinds := [], alts := [], laidByText := true, laidKinds := [.sentinel, .sentinel], laidTests := true, laidLooks := .later }
def SystemsScaledCardSaid : Prop := Claim7.holds Tryd.pinned (.plain (OpenSpec.ofChange systemsScaledSpec)) systemsScaledCard

/-- THE TIED CARD OF 'partitalaw25.SystemsOne'. -/
def systemsOneCard : Claim7 := { stood := { row := systemsOneRow, standIns := [], harness := (true, "128c7e88cb9c50398165ad61ad3d49648ef61529ae14b8add6ea774910501e10"), looks := true }, kinds := [], alts := [], laidByText := true, laidKinds := [.sentinel, .sentinel], laidTests := true, laidLooks := .later }
def SystemsOneCardSaid : Prop := Claim7.holds Tryd.pinned (.plain (OpenSpec.ofChange systemsOneSpec)) systemsOneCard

/-- THE TIED CARD OF 'partitalaw25.SystemsCosts'. -/
def systemsCostsCard : Claim7 := { stood := { row := systemsCostsRow, standIns := [], harness := (true, "128c7e88cb9c50398165ad61ad3d49648ef61529ae14b8add6ea774910501e10"), looks := true }, kinds := [], alts := [], laidByText := true, laidKinds := [.sentinel, .sentinel], laidTests := true, laidLooks := .later }
def SystemsCostsCardSaid : Prop := Claim7.holds Tryd.pinned (.plain (OpenSpec.ofChange systemsCostsSpec)) systemsCostsCard

/-- THE SECOND FORM's CARD OF 'partitalaw25.SystemsTells'. -/
def systemsTellsUptoCard : Claim7 := { stood := { row := systemsTellsUptoRow, standIns := [], harness := (true, "128c7e88cb9c50398165ad61ad3d49648ef61529ae14b8add6ea774910501e10"), looks := true }, kinds := [], alts := [], laidByText := true, laidKinds := [.sentinel, .sentinel], laidTests := true, laidLooks := .later }
def SystemsTellsUptoCardSaid : Prop := Claim7.holds Tryd.pinned (.plain (OpenSpec.upto systemsTellsSpec)) systemsTellsUptoCard

/-- THE SECOND FORM's CARD OF 'partitalaw25.SystemsBest'. -/
def systemsBestUptoCard : Claim7 := { stood := { row := systemsBestUptoRow, standIns := [], harness := (true, "128c7e88cb9c50398165ad61ad3d49648ef61529ae14b8add6ea774910501e10"), looks := true }, kinds := [], alts := [], laidByText := true, laidKinds := [.sentinel, .sentinel], laidTests := true, laidLooks := .later }
def SystemsBestUptoCardSaid : Prop := Claim7.holds Tryd.pinned (.plain (OpenSpec.upto systemsBestSpec)) systemsBestUptoCard

/-- THE SECOND FORM's CARD OF 'partitalaw25.SystemsWhole'. -/
def systemsWholeUptoCard : Claim7 := { stood := { row := systemsWholeUptoRow, standIns := [], harness := (true, "128c7e88cb9c50398165ad61ad3d49648ef61529ae14b8add6ea774910501e10"), looks := true }, kinds := [], alts := [], laidByText := true, laidKinds := [.sentinel, .sentinel], laidTests := true, laidLooks := .later }
def SystemsWholeUptoCardSaid : Prop := Claim7.holds Tryd.pinned (.plain (OpenSpec.upto systemsWholeSpec)) systemsWholeUptoCard

/-- THE SECOND FORM's CARD OF 'partitalaw25.SystemsBehind'. -/
def systemsBehindUptoCard : Claim7 := { stood := { row := systemsBehindUptoRow, standIns := [], harness := (true, "128c7e88cb9c50398165ad61ad3d49648ef61529ae14b8add6ea774910501e10"), looks := true }, kinds := [], alts := [], laidByText := true, laidKinds := [.sentinel, .sentinel], laidTests := true, laidLooks := .later }
def SystemsBehindUptoCardSaid : Prop := Claim7.holds Tryd.pinned (.plain (OpenSpec.upto systemsBehindSpec)) systemsBehindUptoCard

/-- THE SECOND FORM's CARD OF 'partitalaw25.SystemsScaled'. -/
def systemsScaledUptoCard : Claim7 := { stood := { row := systemsScaledUptoRow, standIns := [], harness := (true, "128c7e88cb9c50398165ad61ad3d49648ef61529ae14b8add6ea774910501e10"), looks := true }, kinds := [], alts := [], laidByText := true, laidKinds := [.sentinel, .sentinel], laidTests := true, laidLooks := .later }
def SystemsScaledUptoCardSaid : Prop := Claim7.holds Tryd.pinned (.plain (OpenSpec.upto systemsScaledSpec)) systemsScaledUptoCard

/-- THE SECOND FORM's CARD OF 'partitalaw25.SystemsOne'. -/
def systemsOneUptoCard : Claim7 := { stood := { row := systemsOneUptoRow, standIns := [], harness := (true, "128c7e88cb9c50398165ad61ad3d49648ef61529ae14b8add6ea774910501e10"), looks := true }, kinds := [], alts := [], laidByText := true, laidKinds := [.sentinel, .sentinel], laidTests := true, laidLooks := .later }
def SystemsOneUptoCardSaid : Prop := Claim7.holds Tryd.pinned (.plain (OpenSpec.upto systemsOneSpec)) systemsOneUptoCard

/-- THE SECOND FORM's CARD OF 'partitalaw25.SystemsCosts'. -/
def systemsCostsUptoCard : Claim7 := { stood := { row := systemsCostsUptoRow, standIns := [], harness := (true, "128c7e88cb9c50398165ad61ad3d49648ef61529ae14b8add6ea774910501e10"), looks := true }, kinds := [], alts := [], laidByText := true, laidKinds := [.sentinel, .sentinel], laidTests := true, laidLooks := .later }
def SystemsCostsUptoCardSaid : Prop := Claim7.holds Tryd.pinned (.plain (OpenSpec.upto systemsCostsSpec)) systemsCostsUptoCard
end Rows
end Go.Proofs.YtneaoicjbiebkaaDoor
