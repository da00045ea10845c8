/-
  DERIVED. GIVEN WITH THE SEED: THE CARDS: each row of YtbpcilbplgbonaaDoorRows.lean that lists a variable, with what it lists TIED to the program's text (the seventh form; the later family's looks); each row that meets fmt, with fmt's text TOLD by the authors' own Lean function (tested against real Go, not proved from fmt's source: count such statements apart). THE CARD IS WHAT COUNTS. Prove the row's statement (the work); the ties are given (YtbpcilbplgbonaaDoorTie.lean); close each card by the builder's one call (the guide's Derived/Test/ToyasCard.lean, 'card_holds'). Laid BY PROGRAM, IN A SANDBOX (cutbox-door.mjs). By AI agents, Wed Nov 11 2026. No macro, syntax, notation, axiom, sorry.
-/
import Derived.Test.YtbpcilbplgbonaaDoorRows
import GoSem.ClaimSeven
namespace Go.Proofs.YtbpcilbplgbonaaDoor
namespace Rows

/-- THE TIED CARD OF 'partitalaw26.PagesTells'. -/
def pagesTellsCard : Claim7 := { stood := { row := pagesTellsRow, standIns := [], harness := (true, "446e63703c2183d7d9a6038e7486ed8dd187ca199900f94a4ebb76648ad39ada"), looks := true }, kinds := [], alts := [], laidByText := true, laidKinds := [.handle], laidTests := true, laidLooks := .later }
def PagesTellsCardSaid : Prop := Claim7.holds Tryd.pinned (.plain (OpenSpec.ofChange pagesTellsSpec)) pagesTellsCard

/-- THE TIED CARD OF 'partitalaw26.PagesBest'. -/
def pagesBestCard : Claim7 := { stood := { row := pagesBestRow, standIns := [], harness := (true, "446e63703c2183d7d9a6038e7486ed8dd187ca199900f94a4ebb76648ad39ada"), looks := true }, kinds := [], alts := [], laidByText := true, laidKinds := [.handle], laidTests := true, laidLooks := .later }
def PagesBestCardSaid : Prop := Claim7.holds Tryd.pinned (.plain (OpenSpec.ofChange pagesBestSpec)) pagesBestCard

/-- THE TIED CARD OF 'partitalaw26.PagesTops'. -/
def pagesTopsCard : Claim7 := { stood := { row := pagesTopsRow, standIns := [], harness := (true, "446e63703c2183d7d9a6038e7486ed8dd187ca199900f94a4ebb76648ad39ada"), looks := true }, kinds := [], alts := [], laidByText := true, laidKinds := [.handle], laidTests := true, laidLooks := .later }
def PagesTopsCardSaid : Prop := Claim7.holds Tryd.pinned (.plain (OpenSpec.ofChange pagesTopsSpec)) pagesTopsCard

/-- THE TIED CARD OF 'partitalaw26.PagesBehind'. -/
def pagesBehindCard : Claim7 := { stood := { row := pagesBehindRow, standIns := [], harness := (true, "446e63703c2183d7d9a6038e7486ed8dd187ca199900f94a4ebb76648ad39ada"), looks := true }, kinds := [], alts := [], laidByText := true, laidKinds := [.handle], laidTests := true, laidLooks := .later }
def PagesBehindCardSaid : Prop := Claim7.holds Tryd.pinned (.plain (OpenSpec.ofChange pagesBehindSpec)) pagesBehindCard

/-- THE TIED CARD OF 'partitalaw26.PagesOne'. -/
def pagesOneCard : Claim7 := { stood := { row := pagesOneRow, standIns := [], harness := (true, "446e63703c2183d7d9a6038e7486ed8dd187ca199900f94a4ebb76648ad39ada"), looks := true }, kinds := [], alts := [], laidByText := true, laidKinds := [.handle], laidTests := true, laidLooks := .later }
def PagesOneCardSaid : Prop := Claim7.holds Tryd.pinned (.plain (OpenSpec.ofChange pagesOneSpec)) pagesOneCard

/-- THE TIED CARD OF 'partitalaw26.PagesScaled'. -/
def pagesScaledCard : Claim7 := { stood := { row := pagesScaledRow, standIns := [], harness := (true, "446e63703c2183d7d9a6038e7486ed8dd187ca199900f94a4ebb76648ad39ada"), looks := true }, kinds := [], alts := [], laidByText := true, laidKinds := [.handle], laidTests := true, laidLooks := .later }
def PagesScaledCardSaid : Prop := Claim7.holds Tryd.pinned (.plain (OpenSpec.ofChange pagesScaledSpec)) pagesScaledCard

/-- THE SECOND FORM's CARD OF 'partitalaw26.PagesTells'. -/
def pagesTellsUptoCard : Claim7 := { stood := { row := pagesTellsUptoRow, standIns := [], harness := (true, "446e63703c2183d7d9a6038e7486ed8dd187ca199900f94a4ebb76648ad39ada"), looks := true }, kinds := [], alts := [], laidByText := true, laidKinds := [.handle], laidTests := true, laidLooks := .later }
def PagesTellsUptoCardSaid : Prop := Claim7.holds Tryd.pinned (.plain (OpenSpec.upto pagesTellsSpec)) pagesTellsUptoCard

/-- THE SECOND FORM's CARD OF 'partitalaw26.PagesBest'. -/
def pagesBestUptoCard : Claim7 := { stood := { row := pagesBestUptoRow, standIns := [], harness := (true, "446e63703c2183d7d9a6038e7486ed8dd187ca199900f94a4ebb76648ad39ada"), looks := true }, kinds := [], alts := [], laidByText := true, laidKinds := [.handle], laidTests := true, laidLooks := .later }
def PagesBestUptoCardSaid : Prop := Claim7.holds Tryd.pinned (.plain (OpenSpec.upto pagesBestSpec)) pagesBestUptoCard

/-- THE SECOND FORM's CARD OF 'partitalaw26.PagesTops'. -/
def pagesTopsUptoCard : Claim7 := { stood := { row := pagesTopsUptoRow, standIns := [], harness := (true, "446e63703c2183d7d9a6038e7486ed8dd187ca199900f94a4ebb76648ad39ada"), looks := true }, kinds := [], alts := [], laidByText := true, laidKinds := [.handle], laidTests := true, laidLooks := .later }
def PagesTopsUptoCardSaid : Prop := Claim7.holds Tryd.pinned (.plain (OpenSpec.upto pagesTopsSpec)) pagesTopsUptoCard

/-- THE SECOND FORM's CARD OF 'partitalaw26.PagesBehind'. -/
def pagesBehindUptoCard : Claim7 := { stood := { row := pagesBehindUptoRow, standIns := [], harness := (true, "446e63703c2183d7d9a6038e7486ed8dd187ca199900f94a4ebb76648ad39ada"), looks := true }, kinds := [], alts := [], laidByText := true, laidKinds := [.handle], laidTests := true, laidLooks := .later }
def PagesBehindUptoCardSaid : Prop := Claim7.holds Tryd.pinned (.plain (OpenSpec.upto pagesBehindSpec)) pagesBehindUptoCard

/-- THE SECOND FORM's CARD OF 'partitalaw26.PagesOne'. -/
def pagesOneUptoCard : Claim7 := { stood := { row := pagesOneUptoRow, standIns := [], harness := (true, "446e63703c2183d7d9a6038e7486ed8dd187ca199900f94a4ebb76648ad39ada"), looks := true }, kinds := [], alts := [], laidByText := true, laidKinds := [.handle], laidTests := true, laidLooks := .later }
def PagesOneUptoCardSaid : Prop := Claim7.holds Tryd.pinned (.plain (OpenSpec.upto pagesOneSpec)) pagesOneUptoCard

/-- THE SECOND FORM's CARD OF 'partitalaw26.PagesScaled'. -/
def pagesScaledUptoCard : Claim7 := { stood := { row := pagesScaledUptoRow, standIns := [], harness := (true, "446e63703c2183d7d9a6038e7486ed8dd187ca199900f94a4ebb76648ad39ada"), looks := true }, kinds := [], alts := [], laidByText := true, laidKinds := [.handle], laidTests := true, laidLooks := .later }
def PagesScaledUptoCardSaid : Prop := Claim7.holds Tryd.pinned (.plain (OpenSpec.upto pagesScaledSpec)) pagesScaledUptoCard
end Rows
end Go.Proofs.YtbpcilbplgbonaaDoor
