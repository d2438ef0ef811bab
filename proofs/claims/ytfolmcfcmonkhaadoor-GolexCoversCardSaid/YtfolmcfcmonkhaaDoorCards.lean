/-
  DERIVED. GIVEN WITH THE SEED: THE CARDS: each row of YtfolmcfcmonkhaaDoorRows.lean that lists a variable, with what it lists TIED to the program's text (the seventh form; the later family's looks); each row that meets fmt, with fmt's text TOLD by the authors' own Lean function (tested against real Go, not proved from fmt's source: count such statements apart). THE CARD IS WHAT COUNTS. Prove the row's statement (the work); the ties are given (YtfolmcfcmonkhaaDoorTie.lean); close each card by the builder's one call (the guide's Derived/Test/ToyasCard.lean, 'card_holds'). Laid BY PROGRAM, IN A SANDBOX (cutbox-door.mjs). By AI agents, Wed Nov 11 2026. No macro, syntax, notation, axiom, sorry.
-/
import Derived.Test.YtfolmcfcmonkhaaDoorRows
import GoSem.ClaimSeven
namespace Go.Proofs.YtfolmcfcmonkhaaDoor
namespace Rows

/-- THE TIED CARD OF 'seichelaw11.GolexParts'. -/
def golexPartsCard : Claim7 := { stood := { row := golexPartsRow, standIns := [], harness := (true, "f08cd69111388f5c03b9a57fd2a51c1d2776add042bbc6488ff5a98af787f563"), looks := false }, kinds := [], alts := [], laidByText := true, laidKinds := [.data, .data, .widerDeep, .pinned], laidTests := true, laidLooks := .later }
def GolexPartsCardSaid : Prop := Claim7.holds Tryd.pinned (.plain (OpenSpec.ofChange golexPartsSpec)) golexPartsCard

/-- THE TIED CARD OF 'seichelaw11.GolexBegins'. -/
def golexBeginsCard : Claim7 := { stood := { row := golexBeginsRow, standIns := [], harness := (true, "f08cd69111388f5c03b9a57fd2a51c1d2776add042bbc6488ff5a98af787f563"), looks := false }, kinds := [], alts := [], laidByText := true, laidKinds := [.data, .data, .widerDeep, .pinned], laidTests := true, laidLooks := .later }
def GolexBeginsCardSaid : Prop := Claim7.holds Tryd.pinned (.plain (OpenSpec.ofChange golexBeginsSpec)) golexBeginsCard

/-- THE TIED CARD OF 'seichelaw11.GolexSemis'. -/
def golexSemisCard : Claim7 := { stood := { row := golexSemisRow, standIns := [], harness := (true, "f08cd69111388f5c03b9a57fd2a51c1d2776add042bbc6488ff5a98af787f563"), looks := false }, kinds := [], alts := [], laidByText := true, laidKinds := [.data, .data, .widerDeep, .pinned], laidTests := true, laidLooks := .later }
def GolexSemisCardSaid : Prop := Claim7.holds Tryd.pinned (.plain (OpenSpec.ofChange golexSemisSpec)) golexSemisCard

/-- THE TIED CARD OF 'seichelaw11.GolexAlone'. -/
def golexAloneCard : Claim7 := { stood := { row := golexAloneRow, standIns := [], harness := (true, "f08cd69111388f5c03b9a57fd2a51c1d2776add042bbc6488ff5a98af787f563"), looks := false }, kinds := [], alts := [], laidByText := true, laidKinds := [.data, .data, .widerDeep, .pinned], laidTests := true, laidLooks := .later }
def GolexAloneCardSaid : Prop := Claim7.holds Tryd.pinned (.plain (OpenSpec.ofChange golexAloneSpec)) golexAloneCard

/-- THE TIED CARD OF 'seichelaw11.GolexCovers'. -/
def golexCoversCard : Claim7 := { stood := { row := golexCoversRow, standIns := [], harness := (true, "f08cd69111388f5c03b9a57fd2a51c1d2776add042bbc6488ff5a98af787f563"), looks := false }, kinds := [], alts := [], laidByText := true, laidKinds := [.data, .data, .widerDeep, .pinned], laidTests := true, laidLooks := .later }
def GolexCoversCardSaid : Prop := Claim7.holds Tryd.pinned (.plain (OpenSpec.ofChange golexCoversSpec)) golexCoversCard

/-- THE TIED CARD OF 'seichelaw11.GolexIs'. -/
def golexIsCard : Claim7 := { stood := { row := golexIsRow, standIns := [], harness := (true, "f08cd69111388f5c03b9a57fd2a51c1d2776add042bbc6488ff5a98af787f563"), looks := false }, kinds := [], alts := [], laidByText := true, laidKinds := [.data, .data, .widerDeep, .widerDeep, .pinned], laidTests := true, laidLooks := .later }
def GolexIsCardSaid : Prop := Claim7.holds Tryd.pinned (.plain (OpenSpec.ofChange golexIsSpec)) golexIsCard

/-- THE SECOND FORM's CARD OF 'seichelaw11.GolexParts'. -/
def golexPartsUptoCard : Claim7 := { stood := { row := golexPartsUptoRow, standIns := [], harness := (true, "f08cd69111388f5c03b9a57fd2a51c1d2776add042bbc6488ff5a98af787f563"), looks := false }, kinds := [], alts := [], laidByText := true, laidKinds := [.data, .data, .widerDeep, .pinned], laidTests := true, laidLooks := .later }
def GolexPartsUptoCardSaid : Prop := Claim7.holds Tryd.pinned (.plain (OpenSpec.upto golexPartsSpec)) golexPartsUptoCard

/-- THE SECOND FORM's CARD OF 'seichelaw11.GolexBegins'. -/
def golexBeginsUptoCard : Claim7 := { stood := { row := golexBeginsUptoRow, standIns := [], harness := (true, "f08cd69111388f5c03b9a57fd2a51c1d2776add042bbc6488ff5a98af787f563"), looks := false }, kinds := [], alts := [], laidByText := true, laidKinds := [.data, .data, .widerDeep, .pinned], laidTests := true, laidLooks := .later }
def GolexBeginsUptoCardSaid : Prop := Claim7.holds Tryd.pinned (.plain (OpenSpec.upto golexBeginsSpec)) golexBeginsUptoCard

/-- THE SECOND FORM's CARD OF 'seichelaw11.GolexSemis'. -/
def golexSemisUptoCard : Claim7 := { stood := { row := golexSemisUptoRow, standIns := [], harness := (true, "f08cd69111388f5c03b9a57fd2a51c1d2776add042bbc6488ff5a98af787f563"), looks := false }, kinds := [], alts := [], laidByText := true, laidKinds := [.data, .data, .widerDeep, .pinned], laidTests := true, laidLooks := .later }
def GolexSemisUptoCardSaid : Prop := Claim7.holds Tryd.pinned (.plain (OpenSpec.upto golexSemisSpec)) golexSemisUptoCard

/-- THE SECOND FORM's CARD OF 'seichelaw11.GolexAlone'. -/
def golexAloneUptoCard : Claim7 := { stood := { row := golexAloneUptoRow, standIns := [], harness := (true, "f08cd69111388f5c03b9a57fd2a51c1d2776add042bbc6488ff5a98af787f563"), looks := false }, kinds := [], alts := [], laidByText := true, laidKinds := [.data, .data, .widerDeep, .pinned], laidTests := true, laidLooks := .later }
def GolexAloneUptoCardSaid : Prop := Claim7.holds Tryd.pinned (.plain (OpenSpec.upto golexAloneSpec)) golexAloneUptoCard

/-- THE SECOND FORM's CARD OF 'seichelaw11.GolexCovers'. -/
def golexCoversUptoCard : Claim7 := { stood := { row := golexCoversUptoRow, standIns := [], harness := (true, "f08cd69111388f5c03b9a57fd2a51c1d2776add042bbc6488ff5a98af787f563"), looks := false }, kinds := [], alts := [], laidByText := true, laidKinds := [.data, .data, .widerDeep, .pinned], laidTests := true, laidLooks := .later }
def GolexCoversUptoCardSaid : Prop := Claim7.holds Tryd.pinned (.plain (OpenSpec.upto golexCoversSpec)) golexCoversUptoCard

/-- THE SECOND FORM's CARD OF 'seichelaw11.GolexIs'. -/
def golexIsUptoCard : Claim7 := { stood := { row := golexIsUptoRow, standIns := [], harness := (true, "f08cd69111388f5c03b9a57fd2a51c1d2776add042bbc6488ff5a98af787f563"), looks := false }, kinds := [], alts := [], laidByText := true, laidKinds := [.data, .data, .widerDeep, .widerDeep, .pinned], laidTests := true, laidLooks := .later }
def GolexIsUptoCardSaid : Prop := Claim7.holds Tryd.pinned (.plain (OpenSpec.upto golexIsSpec)) golexIsUptoCard
end Rows
end Go.Proofs.YtfolmcfcmonkhaaDoor
