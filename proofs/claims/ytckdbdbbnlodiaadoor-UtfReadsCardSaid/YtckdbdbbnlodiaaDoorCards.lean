/-
  DERIVED. GIVEN WITH THE SEED: THE CARDS: each row of YtckdbdbbnlodiaaDoorRows.lean that lists a variable, with what it lists TIED to the program's text (the seventh form; the later family's looks); each row that meets fmt, with fmt's text TOLD by the authors' own Lean function (tested against real Go, not proved from fmt's source: count such statements apart). THE CARD IS WHAT COUNTS. Prove the row's statement (the work); the ties are given (YtckdbdbbnlodiaaDoorTie.lean); close each card by the builder's one call (the guide's Derived/Test/ToyasCard.lean, 'card_holds'). Laid BY PROGRAM, IN A SANDBOX (cutbox-door.mjs). By AI agents, Wed Nov 11 2026. No macro, syntax, notation, axiom, sorry.
-/
import Derived.Test.YtckdbdbbnlodiaaDoorRows
import GoSem.ClaimSeven
namespace Go.Proofs.YtckdbdbbnlodiaaDoor
namespace Rows

/-- THE TIED CARD OF 'seichelaw10.UtfReads'. -/
def utfReadsCard : Claim7 := { stood := { row := utfReadsRow, standIns := [], harness := (true, "3c27f6a6a287f397a36b4a8c43fbbd3ab6aa97bca07255cd7dc2a3738816fb4b"), looks := false }, kinds := [], alts := [], laidByText := true, laidKinds := [.data, .pinned], laidTests := true, laidLooks := .later }
def UtfReadsCardSaid : Prop := Claim7.holds Tryd.pinned (.plain (OpenSpec.ofChange utfReadsSpec)) utfReadsCard

/-- THE TIED CARD OF 'seichelaw10.UtfSigns'. -/
def utfSignsCard : Claim7 := { stood := { row := utfSignsRow, standIns := [], harness := (true, "3c27f6a6a287f397a36b4a8c43fbbd3ab6aa97bca07255cd7dc2a3738816fb4b"), looks := false }, kinds := [], alts := [], laidByText := true, laidKinds := [.data, .pinned], laidTests := true, laidLooks := .later }
def UtfSignsCardSaid : Prop := Claim7.holds Tryd.pinned (.plain (OpenSpec.ofChange utfSignsSpec)) utfSignsCard

/-- THE TIED CARD OF 'seichelaw10.UtfEnds'. -/
def utfEndsCard : Claim7 := { stood := { row := utfEndsRow, standIns := [], harness := (true, "3c27f6a6a287f397a36b4a8c43fbbd3ab6aa97bca07255cd7dc2a3738816fb4b"), looks := false }, kinds := [], alts := [], laidByText := true, laidKinds := [.data, .pinned], laidTests := true, laidLooks := .later }
def UtfEndsCardSaid : Prop := Claim7.holds Tryd.pinned (.plain (OpenSpec.ofChange utfEndsSpec)) utfEndsCard

/-- THE TIED CARD OF 'seichelaw10.UtfJoins'. -/
def utfJoinsCard : Claim7 := { stood := { row := utfJoinsRow, standIns := [], harness := (true, "3c27f6a6a287f397a36b4a8c43fbbd3ab6aa97bca07255cd7dc2a3738816fb4b"), looks := false }, kinds := [], alts := [], laidByText := true, laidKinds := [.data, .pinned], laidTests := true, laidLooks := .later }
def UtfJoinsCardSaid : Prop := Claim7.holds Tryd.pinned (.plain (OpenSpec.ofChange utfJoinsSpec)) utfJoinsCard

/-- THE TIED CARD OF 'seichelaw10.UtfKinds'. -/
def utfKindsCard : Claim7 := { stood := { row := utfKindsRow, standIns := [], harness := (true, "3c27f6a6a287f397a36b4a8c43fbbd3ab6aa97bca07255cd7dc2a3738816fb4b"), looks := false }, kinds := [], alts := [], laidByText := true, laidKinds := [.data, .pinned], laidTests := true, laidLooks := .later }
def UtfKindsCardSaid : Prop := Claim7.holds Tryd.pinned (.plain (OpenSpec.ofChange utfKindsSpec)) utfKindsCard

/-- THE SECOND FORM's CARD OF 'seichelaw10.UtfReads'. -/
def utfReadsUptoCard : Claim7 := { stood := { row := utfReadsUptoRow, standIns := [], harness := (true, "3c27f6a6a287f397a36b4a8c43fbbd3ab6aa97bca07255cd7dc2a3738816fb4b"), looks := false }, kinds := [], alts := [], laidByText := true, laidKinds := [.data, .pinned], laidTests := true, laidLooks := .later }
def UtfReadsUptoCardSaid : Prop := Claim7.holds Tryd.pinned (.plain (OpenSpec.upto utfReadsSpec)) utfReadsUptoCard

/-- THE SECOND FORM's CARD OF 'seichelaw10.UtfSigns'. -/
def utfSignsUptoCard : Claim7 := { stood := { row := utfSignsUptoRow, standIns := [], harness := (true, "3c27f6a6a287f397a36b4a8c43fbbd3ab6aa97bca07255cd7dc2a3738816fb4b"), looks := false }, kinds := [], alts := [], laidByText := true, laidKinds := [.data, .pinned], laidTests := true, laidLooks := .later }
def UtfSignsUptoCardSaid : Prop := Claim7.holds Tryd.pinned (.plain (OpenSpec.upto utfSignsSpec)) utfSignsUptoCard

/-- THE SECOND FORM's CARD OF 'seichelaw10.UtfEnds'. -/
def utfEndsUptoCard : Claim7 := { stood := { row := utfEndsUptoRow, standIns := [], harness := (true, "3c27f6a6a287f397a36b4a8c43fbbd3ab6aa97bca07255cd7dc2a3738816fb4b"), looks := false }, kinds := [], alts := [], laidByText := true, laidKinds := [.data, .pinned], laidTests := true, laidLooks := .later }
def UtfEndsUptoCardSaid : Prop := Claim7.holds Tryd.pinned (.plain (OpenSpec.upto utfEndsSpec)) utfEndsUptoCard

/-- THE SECOND FORM's CARD OF 'seichelaw10.UtfJoins'. -/
def utfJoinsUptoCard : Claim7 := { stood := { row := utfJoinsUptoRow, standIns := [], harness := (true, "3c27f6a6a287f397a36b4a8c43fbbd3ab6aa97bca07255cd7dc2a3738816fb4b"), looks := false }, kinds := [], alts := [], laidByText := true, laidKinds := [.data, .pinned], laidTests := true, laidLooks := .later }
def UtfJoinsUptoCardSaid : Prop := Claim7.holds Tryd.pinned (.plain (OpenSpec.upto utfJoinsSpec)) utfJoinsUptoCard

/-- THE SECOND FORM's CARD OF 'seichelaw10.UtfKinds'. -/
def utfKindsUptoCard : Claim7 := { stood := { row := utfKindsUptoRow, standIns := [], harness := (true, "3c27f6a6a287f397a36b4a8c43fbbd3ab6aa97bca07255cd7dc2a3738816fb4b"), looks := false }, kinds := [], alts := [], laidByText := true, laidKinds := [.data, .pinned], laidTests := true, laidLooks := .later }
def UtfKindsUptoCardSaid : Prop := Claim7.holds Tryd.pinned (.plain (OpenSpec.upto utfKindsSpec)) utfKindsUptoCard
end Rows
end Go.Proofs.YtckdbdbbnlodiaaDoor
