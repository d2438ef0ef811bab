/-
  DERIVED. GIVEN WITH THE SEED: THE CARDS: each row of YtnpbgegllphfkaaDoorRows.lean that lists a variable, with what it lists TIED to the program's text (the seventh form; the later family's looks); each row that meets fmt, with fmt's text TOLD by the authors' own Lean function (tested against real Go, not proved from fmt's source: count such statements apart). THE CARD IS WHAT COUNTS. Prove the row's statement (the work); the ties are given (YtnpbgegllphfkaaDoorTie.lean); close each card by the builder's one call (the guide's Derived/Test/ToyasCard.lean, 'card_holds'). Laid BY PROGRAM, IN A SANDBOX (cutbox-door.mjs). By AI agents, Wed Nov 11 2026. No macro, syntax, notation, axiom, sorry.
-/
import Derived.Test.YtnpbgegllphfkaaDoorRows
import GoSem.ClaimSeven
namespace Go.Proofs.YtnpbgegllphfkaaDoor
namespace Rows

/-- THE TIED CARD OF 'seichelaw15.SuffixOf'. -/
def suffixOfCard : Claim7 := { stood := { row := suffixOfRow, standIns := [], harness := (true, "c462a6462ec84b7a77f46957ff3ee5a807751906c922152c14088d193ee28a5a"), looks := false }, kinds := [], alts := [], laidByText := true, laidKinds := [.data, .widerDeep, .widerDeep, .widerDeep, .pinned], laidTests := true, laidLooks := .later }
def SuffixOfCardSaid : Prop := Claim7.holds Tryd.pinned (.plain (OpenSpec.ofChange suffixOfSpec)) suffixOfCard

/-- THE TIED CARD OF 'seichelaw15.SuffixTells'. -/
def suffixTellsCard : Claim7 := { stood := { row := suffixTellsRow, standIns := [], harness := (true, "c462a6462ec84b7a77f46957ff3ee5a807751906c922152c14088d193ee28a5a"), looks := false }, kinds := [], alts := [], laidByText := true, laidKinds := [.data, .widerDeep, .widerDeep, .widerDeep, .pinned], laidTests := true, laidLooks := .later }
def SuffixTellsCardSaid : Prop := Claim7.holds Tryd.pinned (.plain (OpenSpec.ofChange suffixTellsSpec)) suffixTellsCard

/-- THE TIED CARD OF 'seichelaw15.SuffixTests'. -/
def suffixTestsCard : Claim7 := { stood := { row := suffixTestsRow, standIns := [], harness := (true, "c462a6462ec84b7a77f46957ff3ee5a807751906c922152c14088d193ee28a5a"), looks := false }, kinds := [], alts := [], laidByText := true, laidKinds := [.data, .widerDeep, .widerDeep, .widerDeep, .pinned], laidTests := true, laidLooks := .later }
def SuffixTestsCardSaid : Prop := Claim7.holds Tryd.pinned (.plain (OpenSpec.ofChange suffixTestsSpec)) suffixTestsCard

/-- THE TIED CARD OF 'seichelaw15.SuffixKnows'. -/
def suffixKnowsCard : Claim7 := { stood := { row := suffixKnowsRow, standIns := [], harness := (true, "c462a6462ec84b7a77f46957ff3ee5a807751906c922152c14088d193ee28a5a"), looks := false }, kinds := [], alts := [], laidByText := true, laidKinds := [.data, .widerDeep, .widerDeep, .widerDeep, .pinned], laidTests := true, laidLooks := .later }
def SuffixKnowsCardSaid : Prop := Claim7.holds Tryd.pinned (.plain (OpenSpec.ofChange suffixKnowsSpec)) suffixKnowsCard

/-- THE SECOND FORM's CARD OF 'seichelaw15.SuffixOf'. -/
def suffixOfUptoCard : Claim7 := { stood := { row := suffixOfUptoRow, standIns := [], harness := (true, "c462a6462ec84b7a77f46957ff3ee5a807751906c922152c14088d193ee28a5a"), looks := false }, kinds := [], alts := [], laidByText := true, laidKinds := [.data, .widerDeep, .widerDeep, .widerDeep, .pinned], laidTests := true, laidLooks := .later }
def SuffixOfUptoCardSaid : Prop := Claim7.holds Tryd.pinned (.plain (OpenSpec.upto suffixOfSpec)) suffixOfUptoCard

/-- THE SECOND FORM's CARD OF 'seichelaw15.SuffixTells'. -/
def suffixTellsUptoCard : Claim7 := { stood := { row := suffixTellsUptoRow, standIns := [], harness := (true, "c462a6462ec84b7a77f46957ff3ee5a807751906c922152c14088d193ee28a5a"), looks := false }, kinds := [], alts := [], laidByText := true, laidKinds := [.data, .widerDeep, .widerDeep, .widerDeep, .pinned], laidTests := true, laidLooks := .later }
def SuffixTellsUptoCardSaid : Prop := Claim7.holds Tryd.pinned (.plain (OpenSpec.upto suffixTellsSpec)) suffixTellsUptoCard

/-- THE SECOND FORM's CARD OF 'seichelaw15.SuffixTests'. -/
def suffixTestsUptoCard : Claim7 := { stood := { row := suffixTestsUptoRow, standIns := [], harness := (true, "c462a6462ec84b7a77f46957ff3ee5a807751906c922152c14088d193ee28a5a"), looks := false }, kinds := [], alts := [], laidByText := true, laidKinds := [.data, .widerDeep, .widerDeep, .widerDeep, .pinned], laidTests := true, laidLooks := .later }
def SuffixTestsUptoCardSaid : Prop := Claim7.holds Tryd.pinned (.plain (OpenSpec.upto suffixTestsSpec)) suffixTestsUptoCard

/-- THE SECOND FORM's CARD OF 'seichelaw15.SuffixKnows'. -/
def suffixKnowsUptoCard : Claim7 := { stood := { row := suffixKnowsUptoRow, standIns := [], harness := (true, "c462a6462ec84b7a77f46957ff3ee5a807751906c922152c14088d193ee28a5a"), looks := false }, kinds := [], alts := [], laidByText := true, laidKinds := [.data, .widerDeep, .widerDeep, .widerDeep, .pinned], laidTests := true, laidLooks := .later }
def SuffixKnowsUptoCardSaid : Prop := Claim7.holds Tryd.pinned (.plain (OpenSpec.upto suffixKnowsSpec)) suffixKnowsUptoCard
end Rows
end Go.Proofs.YtnpbgegllphfkaaDoor
