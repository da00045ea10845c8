/-
  DERIVED. GIVEN WITH THE SEED: THE CARDS: each row of YtllccnijipgncaaDoorRows.lean that lists a variable, with what it lists TIED to the program's text (the seventh form; the later family's looks); each row that meets fmt, with fmt's text TOLD by the authors' own Lean function (tested against real Go, not proved from fmt's source: count such statements apart). THE CARD IS WHAT COUNTS. Prove the row's statement (the work); the ties are given (YtllccnijipgncaaDoorTie.lean); close each card by the builder's one call (the guide's Derived/Test/ToyasCard.lean, 'card_holds'). Laid BY PROGRAM, IN A SANDBOX (cutbox-door.mjs). By AI agents, Wed Nov 11 2026. No macro, syntax, notation, axiom, sorry.
-/
import Derived.Test.YtllccnijipgncaaDoorRows
import GoSem.ClaimSeven
namespace Go.Proofs.YtllccnijipgncaaDoor
namespace Rows

/-- THE TIED CARD OF 'partitalaw18.LexTokens'. -/
def lexTokensCard : Claim7 := { stood := { row := lexTokensRow, standIns := [], harness := (true, "ff474010508ce60d8be8103a3028f454a6523b5c029c00215c28bcdc13cb54ba"), looks := false }, kinds := [], alts := [], laidByText := true, laidKinds := [.data, .pinned], laidTests := true, laidLooks := .later }
def LexTokensCardSaid : Prop := Claim7.holds Tryd.pinned (.plain (OpenSpec.ofChange lexTokensSpec)) lexTokensCard

/-- THE TIED CARD OF 'partitalaw18.LexPrints'. -/
def lexPrintsCard : Claim7 := { stood := { row := lexPrintsRow, standIns := [], harness := (true, "ff474010508ce60d8be8103a3028f454a6523b5c029c00215c28bcdc13cb54ba"), looks := false }, kinds := [], alts := [], laidByText := true, laidKinds := [.data, .pinned], laidTests := true, laidLooks := .later }
def LexPrintsCardSaid : Prop := Claim7.holds Tryd.pinned (.plain (OpenSpec.ofChange lexPrintsSpec)) lexPrintsCard

/-- THE TIED CARD OF 'partitalaw18.LexQuotes'. -/
def lexQuotesCard : Claim7 := { stood := { row := lexQuotesRow, standIns := [], harness := (true, "ff474010508ce60d8be8103a3028f454a6523b5c029c00215c28bcdc13cb54ba"), looks := false }, kinds := [], alts := [], laidByText := true, laidKinds := [.data, .pinned], laidTests := true, laidLooks := .later }
def LexQuotesCardSaid : Prop := Claim7.holds Tryd.pinned (.plain (OpenSpec.ofChange lexQuotesSpec)) lexQuotesCard

/-- THE TIED CARD OF 'partitalaw18.LexBack'. -/
def lexBackCard : Claim7 := { stood := { row := lexBackRow, standIns := [], harness := (true, "ff474010508ce60d8be8103a3028f454a6523b5c029c00215c28bcdc13cb54ba"), looks := false }, kinds := [], alts := [], laidByText := true, laidKinds := [.data, .pinned], laidTests := true, laidLooks := .later }
def LexBackCardSaid : Prop := Claim7.holds Tryd.pinned (.plain (OpenSpec.ofChange lexBackSpec)) lexBackCard

/-- THE TIED CARD OF 'partitalaw18.LexAgain'. -/
def lexAgainCard : Claim7 := { stood := { row := lexAgainRow, standIns := [], harness := (true, "ff474010508ce60d8be8103a3028f454a6523b5c029c00215c28bcdc13cb54ba"), looks := false }, kinds := [], alts := [], laidByText := true, laidKinds := [.data, .pinned], laidTests := true, laidLooks := .later }
def LexAgainCardSaid : Prop := Claim7.holds Tryd.pinned (.plain (OpenSpec.ofChange lexAgainSpec)) lexAgainCard

/-- THE TIED CARD OF 'partitalaw18.LexQuoteBack'. -/
def lexQuoteBackCard : Claim7 := { stood := { row := lexQuoteBackRow, standIns := [], harness := (true, "ff474010508ce60d8be8103a3028f454a6523b5c029c00215c28bcdc13cb54ba"), looks := false }, kinds := [], alts := [], laidByText := true, laidKinds := [.data, .pinned], laidTests := true, laidLooks := .later }
def LexQuoteBackCardSaid : Prop := Claim7.holds Tryd.pinned (.plain (OpenSpec.ofChange lexQuoteBackSpec)) lexQuoteBackCard

/-- THE TIED CARD OF 'partitalaw18.LexPlaces'. -/
def lexPlacesCard : Claim7 := { stood := { row := lexPlacesRow, standIns := [], harness := (true, "ff474010508ce60d8be8103a3028f454a6523b5c029c00215c28bcdc13cb54ba"), looks := false }, kinds := [], alts := [], laidByText := true, laidKinds := [.data, .pinned], laidTests := true, laidLooks := .later }
def LexPlacesCardSaid : Prop := Claim7.holds Tryd.pinned (.plain (OpenSpec.ofChange lexPlacesSpec)) lexPlacesCard

/-- THE TIED CARD OF 'partitalaw18.LexBlanks'. -/
def lexBlanksCard : Claim7 := { stood := { row := lexBlanksRow, standIns := [], harness := (true, "ff474010508ce60d8be8103a3028f454a6523b5c029c00215c28bcdc13cb54ba"), looks := false }, kinds := [], alts := [], laidByText := true, laidKinds := [.data, .pinned], laidTests := true, laidLooks := .later }
def LexBlanksCardSaid : Prop := Claim7.holds Tryd.pinned (.plain (OpenSpec.ofChange lexBlanksSpec)) lexBlanksCard

/-- THE TIED CARD OF 'partitalaw18.LexCut'. -/
def lexCutCard : Claim7 := { stood := { row := lexCutRow, standIns := [], harness := (true, "ff474010508ce60d8be8103a3028f454a6523b5c029c00215c28bcdc13cb54ba"), looks := false }, kinds := [], alts := [], laidByText := true, laidKinds := [.data, .pinned], laidTests := true, laidLooks := .later }
def LexCutCardSaid : Prop := Claim7.holds Tryd.pinned (.plain (OpenSpec.ofChange lexCutSpec)) lexCutCard

/-- THE SECOND FORM's CARD OF 'partitalaw18.LexTokens'. -/
def lexTokensUptoCard : Claim7 := { stood := { row := lexTokensUptoRow, standIns := [], harness := (true, "ff474010508ce60d8be8103a3028f454a6523b5c029c00215c28bcdc13cb54ba"), looks := false }, kinds := [], alts := [], laidByText := true, laidKinds := [.data, .pinned], laidTests := true, laidLooks := .later }
def LexTokensUptoCardSaid : Prop := Claim7.holds Tryd.pinned (.plain (OpenSpec.upto lexTokensSpec)) lexTokensUptoCard

/-- THE SECOND FORM's CARD OF 'partitalaw18.LexPrints'. -/
def lexPrintsUptoCard : Claim7 := { stood := { row := lexPrintsUptoRow, standIns := [], harness := (true, "ff474010508ce60d8be8103a3028f454a6523b5c029c00215c28bcdc13cb54ba"), looks := false }, kinds := [], alts := [], laidByText := true, laidKinds := [.data, .pinned], laidTests := true, laidLooks := .later }
def LexPrintsUptoCardSaid : Prop := Claim7.holds Tryd.pinned (.plain (OpenSpec.upto lexPrintsSpec)) lexPrintsUptoCard

/-- THE SECOND FORM's CARD OF 'partitalaw18.LexQuotes'. -/
def lexQuotesUptoCard : Claim7 := { stood := { row := lexQuotesUptoRow, standIns := [], harness := (true, "ff474010508ce60d8be8103a3028f454a6523b5c029c00215c28bcdc13cb54ba"), looks := false }, kinds := [], alts := [], laidByText := true, laidKinds := [.data, .pinned], laidTests := true, laidLooks := .later }
def LexQuotesUptoCardSaid : Prop := Claim7.holds Tryd.pinned (.plain (OpenSpec.upto lexQuotesSpec)) lexQuotesUptoCard

/-- THE SECOND FORM's CARD OF 'partitalaw18.LexBack'. -/
def lexBackUptoCard : Claim7 := { stood := { row := lexBackUptoRow, standIns := [], harness := (true, "ff474010508ce60d8be8103a3028f454a6523b5c029c00215c28bcdc13cb54ba"), looks := false }, kinds := [], alts := [], laidByText := true, laidKinds := [.data, .pinned], laidTests := true, laidLooks := .later }
def LexBackUptoCardSaid : Prop := Claim7.holds Tryd.pinned (.plain (OpenSpec.upto lexBackSpec)) lexBackUptoCard

/-- THE SECOND FORM's CARD OF 'partitalaw18.LexAgain'. -/
def lexAgainUptoCard : Claim7 := { stood := { row := lexAgainUptoRow, standIns := [], harness := (true, "ff474010508ce60d8be8103a3028f454a6523b5c029c00215c28bcdc13cb54ba"), looks := false }, kinds := [], alts := [], laidByText := true, laidKinds := [.data, .pinned], laidTests := true, laidLooks := .later }
def LexAgainUptoCardSaid : Prop := Claim7.holds Tryd.pinned (.plain (OpenSpec.upto lexAgainSpec)) lexAgainUptoCard

/-- THE SECOND FORM's CARD OF 'partitalaw18.LexQuoteBack'. -/
def lexQuoteBackUptoCard : Claim7 := { stood := { row := lexQuoteBackUptoRow, standIns := [], harness := (true, "ff474010508ce60d8be8103a3028f454a6523b5c029c00215c28bcdc13cb54ba"), looks := false }, kinds := [], alts := [], laidByText := true, laidKinds := [.data, .pinned], laidTests := true, laidLooks := .later }
def LexQuoteBackUptoCardSaid : Prop := Claim7.holds Tryd.pinned (.plain (OpenSpec.upto lexQuoteBackSpec)) lexQuoteBackUptoCard

/-- THE SECOND FORM's CARD OF 'partitalaw18.LexPlaces'. -/
def lexPlacesUptoCard : Claim7 := { stood := { row := lexPlacesUptoRow, standIns := [], harness := (true, "ff474010508ce60d8be8103a3028f454a6523b5c029c00215c28bcdc13cb54ba"), looks := false }, kinds := [], alts := [], laidByText := true, laidKinds := [.data, .pinned], laidTests := true, laidLooks := .later }
def LexPlacesUptoCardSaid : Prop := Claim7.holds Tryd.pinned (.plain (OpenSpec.upto lexPlacesSpec)) lexPlacesUptoCard

/-- THE SECOND FORM's CARD OF 'partitalaw18.LexBlanks'. -/
def lexBlanksUptoCard : Claim7 := { stood := { row := lexBlanksUptoRow, standIns := [], harness := (true, "ff474010508ce60d8be8103a3028f454a6523b5c029c00215c28bcdc13cb54ba"), looks := false }, kinds := [], alts := [], laidByText := true, laidKinds := [.data, .pinned], laidTests := true, laidLooks := .later }
def LexBlanksUptoCardSaid : Prop := Claim7.holds Tryd.pinned (.plain (OpenSpec.upto lexBlanksSpec)) lexBlanksUptoCard

/-- THE SECOND FORM's CARD OF 'partitalaw18.LexCut'. -/
def lexCutUptoCard : Claim7 := { stood := { row := lexCutUptoRow, standIns := [], harness := (true, "ff474010508ce60d8be8103a3028f454a6523b5c029c00215c28bcdc13cb54ba"), looks := false }, kinds := [], alts := [], laidByText := true, laidKinds := [.data, .pinned], laidTests := true, laidLooks := .later }
def LexCutUptoCardSaid : Prop := Claim7.holds Tryd.pinned (.plain (OpenSpec.upto lexCutSpec)) lexCutUptoCard
end Rows
end Go.Proofs.YtllccnijipgncaaDoor
