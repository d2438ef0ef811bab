/-
  NARROWER THAN 'FOR EVERY INPUT', by the rows' own cells (each row's printed sentence says how): GolexParts: laid · GolexBegins: laid · GolexSemis: laid · GolexAlone: laid · GolexCovers: laid · GolexIs: laid.
  DERIVED. THE GIVEN ROWS OF THIS SEAT. 6 by the template 'for every input the law returns true; each argument reads behind the call as it read before'; 0 by the template 'total and deterministic' (their statements: YtfolmcfcmonkhaaDoorTotals.lean).
  GIVEN WITH THE SEED: the statements are not yours to turn. If you find one false, say at which input.
  Laid BY PROGRAM, IN A SANDBOX (cutbox-rows.mjs): the forced cells as the released guide's own fill.sh prints them over the translation 9da2dfc4301cb85a… (all of the seat's roots in one cut). By AI agents, Wed Nov 11 2026. No macro, syntax, notation, axiom, sorry.
-/
import Derived.Test.YtfolmcfcmonkhaaDoorChecked
import GoSem.PinnedTables
import GoSem.Claim
import GoSem.ClaimJoined
import GoSem.ClaimMapViews
import Derived.JoinedTies
import Derived.KernelRfl
namespace Go.Proofs.YtfolmcfcmonkhaaDoor
/- THE CELL 'sum', in the pinned program and in every row, IS THE sha256 OF THE DUMP (.gsa) THAT YtfolmcfcmonkhaaDoorProg.lean LOADS. Nothing in Lean hashes anything: it is a label: what it is worth is what the hold of that sum in a sandbox is worth. -/
noncomputable def Tryd.pinned : Pinned := { name := "ytfolmcfcmonkhaadoor", sum := "9da2dfc4301cb85ae084eddf95daf3cfe624731fa5b4c8a7d4e5904e7220a4d7", checked := Tryd.checked }
namespace Rows
def none {H : Type} : Left H := { results := [], args := [] }

/- WHAT THE LISTED PACKAGE-LEVEL VARIABLES READ AS WHEN THE CALL BEGINS. Each datum BY PROGRAM (the guide's laid-datum.mjs) off the statement by which the dump's own 'gosem.cut.vars' lays the variable. In a bare row this is a premise. The card (YtfolmcfcmonkhaaDoorCards.lean) ties it to the program's text. -/
def laid_unicode_utf8_acceptRanges {H : Type} : DataW H := .agg [.agg [.lit (.int .u8 128), .lit (.int .u8 191)], .agg [.lit (.int .u8 160), .lit (.int .u8 191)], .agg [.lit (.int .u8 128), .lit (.int .u8 159)], .agg [.lit (.int .u8 144), .lit (.int .u8 191)], .agg [.lit (.int .u8 128), .lit (.int .u8 143)], .agg [.lit (.int .u8 0), .lit (.int .u8 0)], .agg [.lit (.int .u8 0), .lit (.int .u8 0)], .agg [.lit (.int .u8 0), .lit (.int .u8 0)], .agg [.lit (.int .u8 0), .lit (.int .u8 0)], .agg [.lit (.int .u8 0), .lit (.int .u8 0)], .agg [.lit (.int .u8 0), .lit (.int .u8 0)], .agg [.lit (.int .u8 0), .lit (.int .u8 0)], .agg [.lit (.int .u8 0), .lit (.int .u8 0)], .agg [.lit (.int .u8 0), .lit (.int .u8 0)], .agg [.lit (.int .u8 0), .lit (.int .u8 0)], .agg [.lit (.int .u8 0), .lit (.int .u8 0)]]
def laid_seiche_golex_signs {H : Type} : DataW H := .slice [.lit (.string [60, 60, 61]), .lit (.string [62, 62, 61]), .lit (.string [38, 94, 61]), .lit (.string [46, 46, 46]), .lit (.string [38, 38]), .lit (.string [124, 124]), .lit (.string [60, 45]), .lit (.string [43, 43]), .lit (.string [45, 45]), .lit (.string [61, 61]), .lit (.string [33, 61]), .lit (.string [60, 61]), .lit (.string [62, 61]), .lit (.string [58, 61]), .lit (.string [43, 61]), .lit (.string [45, 61]), .lit (.string [42, 61]), .lit (.string [47, 61]), .lit (.string [37, 61]), .lit (.string [38, 61]), .lit (.string [124, 61]), .lit (.string [94, 61]), .lit (.string [60, 60]), .lit (.string [62, 62]), .lit (.string [38, 94]), .lit (.string [43]), .lit (.string [45]), .lit (.string [42]), .lit (.string [47]), .lit (.string [37]), .lit (.string [38]), .lit (.string [124]), .lit (.string [94]), .lit (.string [60]), .lit (.string [62]), .lit (.string [61]), .lit (.string [33]), .lit (.string [126]), .lit (.string [40]), .lit (.string [41]), .lit (.string [91]), .lit (.string [93]), .lit (.string [123]), .lit (.string [125]), .lit (.string [44]), .lit (.string [46]), .lit (.string [58])] []
def laid_seiche_golex_words {H : Type} : DataW H := .slice [.lit (.string [99, 97, 115, 101]), .lit (.string [99, 104, 97, 110]), .lit (.string [99, 111, 110, 115, 116]), .lit (.string [100, 101, 102, 97, 117, 108, 116]), .lit (.string [100, 101, 102, 101, 114]), .lit (.string [101, 108, 115, 101]), .lit (.string [102, 111, 114]), .lit (.string [102, 117, 110, 99]), .lit (.string [103, 111]), .lit (.string [103, 111, 116, 111]), .lit (.string [105, 102]), .lit (.string [105, 109, 112, 111, 114, 116]), .lit (.string [105, 110, 116, 101, 114, 102, 97, 99, 101]), .lit (.string [109, 97, 112]), .lit (.string [112, 97, 99, 107, 97, 103, 101]), .lit (.string [114, 97, 110, 103, 101]), .lit (.string [115, 101, 108, 101, 99, 116]), .lit (.string [115, 116, 114, 117, 99, 116]), .lit (.string [115, 119, 105, 116, 99, 104]), .lit (.string [116, 121, 112, 101]), .lit (.string [118, 97, 114])] []
/-- One of Go's own tables, pinned by name: the form's constant. -/
def laid_unicode_utf8_first : DataW Unit := Go.Pinned.utf8First
def laid_seiche_golex_others {H : Type} : DataW H := .slice [.lit (.string [98, 114, 101, 97, 107]), .lit (.string [99, 111, 110, 116, 105, 110, 117, 101]), .lit (.string [102, 97, 108, 108, 116, 104, 114, 111, 117, 103, 104]), .lit (.string [114, 101, 116, 117, 114, 110])] []

/-- 'seichelaw11.GolexParts': WHATEVER THE INPUT: true; the input reads as it did. -/
def golexPartsSpec : ChangeSpec := { name := "golexParts", fn := fun _ => fun
  | [d1, d2] => { results := [.lit (.bool true)], args := [d1, d2] }
  | _ => none }
def golexPartsRow : OpenClaim := { program := "ytfolmcfcmonkhaadoor", sum := "9da2dfc4301cb85ae084eddf95daf3cfe624731fa5b4c8a7d4e5904e7220a4d7", func := "seiche/seichelaw11.GolexParts", spec := "golexParts", inPlace := ["internal/bytealg.IndexByteString", "internal/bytealg.IndexString"], named := ["unicode/utf8.first", "unicode/utf8.acceptRanges", "seiche/golex.signs", "seiche/golex.words", "internal/bytealg.MaxLen"], apart := false, laid := [("unicode/utf8.acceptRanges", laid_unicode_utf8_acceptRanges), ("seiche/golex.signs", laid_seiche_golex_signs), ("seiche/golex.words", laid_seiche_golex_words), ("unicode/utf8.first", laid_unicode_utf8_first)] }
def GolexPartsSaid : Prop := golexPartsRow.holds Tryd.pinned (OpenSpec.ofChange golexPartsSpec)

/-- ITS FALSE NEIGHBOUR: 'it returns false'. Refute it at one input. -/
def golexPartsWrong : ChangeSpec := { name := "golexParts", fn := fun _ => fun
  | [d1, d2] => { results := [.lit (.bool false)], args := [d1, d2] }
  | _ => none }
def GolexPartsWrongFalsely : Prop := golexPartsRow.holds Tryd.pinned (OpenSpec.ofChange golexPartsWrong)

/-- 'seichelaw11.GolexBegins': WHATEVER THE INPUT: true; the input reads as it did. -/
def golexBeginsSpec : ChangeSpec := { name := "golexBegins", fn := fun _ => fun
  | [d1, d2, d3] => { results := [.lit (.bool true)], args := [d1, d2, d3] }
  | _ => none }
def golexBeginsRow : OpenClaim := { program := "ytfolmcfcmonkhaadoor", sum := "9da2dfc4301cb85ae084eddf95daf3cfe624731fa5b4c8a7d4e5904e7220a4d7", func := "seiche/seichelaw11.GolexBegins", spec := "golexBegins", inPlace := ["internal/bytealg.IndexByteString", "internal/bytealg.IndexString"], named := ["unicode/utf8.first", "unicode/utf8.acceptRanges", "seiche/golex.signs", "seiche/golex.words", "internal/bytealg.MaxLen"], apart := false, laid := [("unicode/utf8.acceptRanges", laid_unicode_utf8_acceptRanges), ("seiche/golex.signs", laid_seiche_golex_signs), ("seiche/golex.words", laid_seiche_golex_words), ("unicode/utf8.first", laid_unicode_utf8_first)] }
def GolexBeginsSaid : Prop := golexBeginsRow.holds Tryd.pinned (OpenSpec.ofChange golexBeginsSpec)

/-- ITS FALSE NEIGHBOUR: 'it returns false'. Refute it at one input. -/
def golexBeginsWrong : ChangeSpec := { name := "golexBegins", fn := fun _ => fun
  | [d1, d2, d3] => { results := [.lit (.bool false)], args := [d1, d2, d3] }
  | _ => none }
def GolexBeginsWrongFalsely : Prop := golexBeginsRow.holds Tryd.pinned (OpenSpec.ofChange golexBeginsWrong)

/-- 'seichelaw11.GolexSemis': WHATEVER THE INPUT: true; the input reads as it did. -/
def golexSemisSpec : ChangeSpec := { name := "golexSemis", fn := fun _ => fun
  | [d] => { results := [.lit (.bool true)], args := [d] }
  | _ => none }
def golexSemisRow : OpenClaim := { program := "ytfolmcfcmonkhaadoor", sum := "9da2dfc4301cb85ae084eddf95daf3cfe624731fa5b4c8a7d4e5904e7220a4d7", func := "seiche/seichelaw11.GolexSemis", spec := "golexSemis", inPlace := ["internal/bytealg.IndexByteString", "internal/bytealg.IndexString"], named := ["unicode/utf8.first", "unicode/utf8.acceptRanges", "seiche/golex.signs", "seiche/golex.words", "internal/bytealg.MaxLen"], apart := false, laid := [("unicode/utf8.acceptRanges", laid_unicode_utf8_acceptRanges), ("seiche/golex.signs", laid_seiche_golex_signs), ("seiche/golex.words", laid_seiche_golex_words), ("unicode/utf8.first", laid_unicode_utf8_first)] }
def GolexSemisSaid : Prop := golexSemisRow.holds Tryd.pinned (OpenSpec.ofChange golexSemisSpec)

/-- ITS FALSE NEIGHBOUR: 'it returns false'. Refute it at one input. -/
def golexSemisWrong : ChangeSpec := { name := "golexSemis", fn := fun _ => fun
  | [d] => { results := [.lit (.bool false)], args := [d] }
  | _ => none }
def GolexSemisWrongFalsely : Prop := golexSemisRow.holds Tryd.pinned (OpenSpec.ofChange golexSemisWrong)

/-- 'seichelaw11.GolexAlone': WHATEVER THE INPUT: true; the input reads as it did. -/
def golexAloneSpec : ChangeSpec := { name := "golexAlone", fn := fun _ => fun
  | [d] => { results := [.lit (.bool true)], args := [d] }
  | _ => none }
def golexAloneRow : OpenClaim := { program := "ytfolmcfcmonkhaadoor", sum := "9da2dfc4301cb85ae084eddf95daf3cfe624731fa5b4c8a7d4e5904e7220a4d7", func := "seiche/seichelaw11.GolexAlone", spec := "golexAlone", inPlace := ["internal/bytealg.IndexByteString", "internal/bytealg.IndexString"], named := ["unicode/utf8.first", "unicode/utf8.acceptRanges", "seiche/golex.signs", "seiche/golex.words", "internal/bytealg.MaxLen"], apart := false, laid := [("unicode/utf8.acceptRanges", laid_unicode_utf8_acceptRanges), ("seiche/golex.signs", laid_seiche_golex_signs), ("seiche/golex.words", laid_seiche_golex_words), ("unicode/utf8.first", laid_unicode_utf8_first)] }
def GolexAloneSaid : Prop := golexAloneRow.holds Tryd.pinned (OpenSpec.ofChange golexAloneSpec)

/-- ITS FALSE NEIGHBOUR: 'it returns false'. Refute it at one input. -/
def golexAloneWrong : ChangeSpec := { name := "golexAlone", fn := fun _ => fun
  | [d] => { results := [.lit (.bool false)], args := [d] }
  | _ => none }
def GolexAloneWrongFalsely : Prop := golexAloneRow.holds Tryd.pinned (OpenSpec.ofChange golexAloneWrong)

/-- 'seichelaw11.GolexCovers': WHATEVER THE INPUT: true; the input reads as it did. -/
def golexCoversSpec : ChangeSpec := { name := "golexCovers", fn := fun _ => fun
  | [d] => { results := [.lit (.bool true)], args := [d] }
  | _ => none }
def golexCoversRow : OpenClaim := { program := "ytfolmcfcmonkhaadoor", sum := "9da2dfc4301cb85ae084eddf95daf3cfe624731fa5b4c8a7d4e5904e7220a4d7", func := "seiche/seichelaw11.GolexCovers", spec := "golexCovers", inPlace := ["internal/bytealg.IndexByteString", "internal/bytealg.IndexString"], named := ["unicode/utf8.first", "unicode/utf8.acceptRanges", "seiche/golex.signs", "seiche/golex.words", "internal/bytealg.MaxLen"], apart := false, laid := [("unicode/utf8.acceptRanges", laid_unicode_utf8_acceptRanges), ("seiche/golex.signs", laid_seiche_golex_signs), ("seiche/golex.words", laid_seiche_golex_words), ("unicode/utf8.first", laid_unicode_utf8_first)] }
def GolexCoversSaid : Prop := golexCoversRow.holds Tryd.pinned (OpenSpec.ofChange golexCoversSpec)

/-- ITS FALSE NEIGHBOUR: 'it returns false'. Refute it at one input. -/
def golexCoversWrong : ChangeSpec := { name := "golexCovers", fn := fun _ => fun
  | [d] => { results := [.lit (.bool false)], args := [d] }
  | _ => none }
def GolexCoversWrongFalsely : Prop := golexCoversRow.holds Tryd.pinned (OpenSpec.ofChange golexCoversWrong)

/-- 'seichelaw11.GolexIs': WHATEVER THE INPUT: true; the input reads as it did. -/
def golexIsSpec : ChangeSpec := { name := "golexIs", fn := fun _ => fun
  | [d] => { results := [.lit (.bool true)], args := [d] }
  | _ => none }
def golexIsRow : OpenClaim := { program := "ytfolmcfcmonkhaadoor", sum := "9da2dfc4301cb85ae084eddf95daf3cfe624731fa5b4c8a7d4e5904e7220a4d7", func := "seiche/seichelaw11.GolexIs", spec := "golexIs", inPlace := ["internal/bytealg.IndexByteString", "internal/bytealg.IndexString"], named := ["unicode/utf8.first", "unicode/utf8.acceptRanges", "seiche/golex.signs", "seiche/golex.words", "internal/bytealg.MaxLen", "seiche/golex.others"], apart := false, laid := [("unicode/utf8.acceptRanges", laid_unicode_utf8_acceptRanges), ("seiche/golex.signs", laid_seiche_golex_signs), ("seiche/golex.words", laid_seiche_golex_words), ("seiche/golex.others", laid_seiche_golex_others), ("unicode/utf8.first", laid_unicode_utf8_first)] }
def GolexIsSaid : Prop := golexIsRow.holds Tryd.pinned (OpenSpec.ofChange golexIsSpec)

/-- ITS FALSE NEIGHBOUR: 'it returns false'. Refute it at one input. -/
def golexIsWrong : ChangeSpec := { name := "golexIs", fn := fun _ => fun
  | [d] => { results := [.lit (.bool false)], args := [d] }
  | _ => none }
def GolexIsWrongFalsely : Prop := golexIsRow.holds Tryd.pinned (OpenSpec.ofChange golexIsWrong)

/- THE SECOND FORM. 'bulk': how many values and letters a reading holds, each counted each time it is reached (what is shared counts as often as it is met; a slice's spare places count too). A statement '..UptoSaid' is the law's where the arguments, and the package variables that the reading takes, are together of bulk at most 1048576: NARROWER than '..Said'. Prove '..Said' where nothing that the law and all that it calls make is longer than what came in: it says more and counts as full. Else prove '..UptoSaid'. A law counts once. -/
mutual
def uptoBulk {H : Type} : DataW H → Nat
  | .lit (.string bytes) => bytes.length + 1
  | .lit _ => 1
  | .nil => 1
  | .ptr d => uptoBulk d + 1
  | .slice elems spare => uptoBulkAll elems + uptoBulkAll spare + 1
  | .agg parts => uptoBulkAll parts + 1
  | .iface _ d => uptoBulk d + 1
  | .map entries => uptoBulkEntries entries + 1
  | .held _ => 1
def uptoBulkAll {H : Type} : List (DataW H) → Nat
  | [] => 0
  | d :: r => uptoBulk d + uptoBulkAll r
def uptoBulkEntries {H : Type} : List (Lit × DataW H) → Nat
  | [] => 0
  | x :: r => uptoBulkEntry x + uptoBulkEntries r
def uptoBulkEntry {H : Type} : Lit × DataW H → Nat
  | (.string bytes, d) => bytes.length + uptoBulk d + 1
  | (_, d) => uptoBulk d + 1
 end
def uptoSmall : (H : Type) → List (DataW H) → Bool := fun _ ds => decide (uptoBulkAll ds ≤ 1048576)
def OpenSpec.upto (s : _root_.Go.ChangeSpec) : _root_.Go.OpenSpec := { _root_.Go.OpenSpec.ofChange s with cond := some uptoSmall }

/-- 'seichelaw11.GolexParts', WHERE WHAT IT READS IS OF BULK AT MOST 1048576: true; the input reads as it did. -/
def golexPartsUptoRow : OpenClaim := { program := "ytfolmcfcmonkhaadoor", sum := "9da2dfc4301cb85ae084eddf95daf3cfe624731fa5b4c8a7d4e5904e7220a4d7", func := "seiche/seichelaw11.GolexParts", spec := "golexParts", inPlace := ["internal/bytealg.IndexByteString", "internal/bytealg.IndexString"], named := ["unicode/utf8.first", "unicode/utf8.acceptRanges", "seiche/golex.signs", "seiche/golex.words", "internal/bytealg.MaxLen"], apart := false, laid := [("unicode/utf8.acceptRanges", laid_unicode_utf8_acceptRanges), ("seiche/golex.signs", laid_seiche_golex_signs), ("seiche/golex.words", laid_seiche_golex_words), ("unicode/utf8.first", laid_unicode_utf8_first)], narrowed := true }
def GolexPartsUptoSaid : Prop := golexPartsUptoRow.holds Tryd.pinned (OpenSpec.upto golexPartsSpec)

/-- 'seichelaw11.GolexBegins', WHERE WHAT IT READS IS OF BULK AT MOST 1048576: true; the input reads as it did. -/
def golexBeginsUptoRow : OpenClaim := { program := "ytfolmcfcmonkhaadoor", sum := "9da2dfc4301cb85ae084eddf95daf3cfe624731fa5b4c8a7d4e5904e7220a4d7", func := "seiche/seichelaw11.GolexBegins", spec := "golexBegins", inPlace := ["internal/bytealg.IndexByteString", "internal/bytealg.IndexString"], named := ["unicode/utf8.first", "unicode/utf8.acceptRanges", "seiche/golex.signs", "seiche/golex.words", "internal/bytealg.MaxLen"], apart := false, laid := [("unicode/utf8.acceptRanges", laid_unicode_utf8_acceptRanges), ("seiche/golex.signs", laid_seiche_golex_signs), ("seiche/golex.words", laid_seiche_golex_words), ("unicode/utf8.first", laid_unicode_utf8_first)], narrowed := true }
def GolexBeginsUptoSaid : Prop := golexBeginsUptoRow.holds Tryd.pinned (OpenSpec.upto golexBeginsSpec)

/-- 'seichelaw11.GolexSemis', WHERE WHAT IT READS IS OF BULK AT MOST 1048576: true; the input reads as it did. -/
def golexSemisUptoRow : OpenClaim := { program := "ytfolmcfcmonkhaadoor", sum := "9da2dfc4301cb85ae084eddf95daf3cfe624731fa5b4c8a7d4e5904e7220a4d7", func := "seiche/seichelaw11.GolexSemis", spec := "golexSemis", inPlace := ["internal/bytealg.IndexByteString", "internal/bytealg.IndexString"], named := ["unicode/utf8.first", "unicode/utf8.acceptRanges", "seiche/golex.signs", "seiche/golex.words", "internal/bytealg.MaxLen"], apart := false, laid := [("unicode/utf8.acceptRanges", laid_unicode_utf8_acceptRanges), ("seiche/golex.signs", laid_seiche_golex_signs), ("seiche/golex.words", laid_seiche_golex_words), ("unicode/utf8.first", laid_unicode_utf8_first)], narrowed := true }
def GolexSemisUptoSaid : Prop := golexSemisUptoRow.holds Tryd.pinned (OpenSpec.upto golexSemisSpec)

/-- 'seichelaw11.GolexAlone', WHERE WHAT IT READS IS OF BULK AT MOST 1048576: true; the input reads as it did. -/
def golexAloneUptoRow : OpenClaim := { program := "ytfolmcfcmonkhaadoor", sum := "9da2dfc4301cb85ae084eddf95daf3cfe624731fa5b4c8a7d4e5904e7220a4d7", func := "seiche/seichelaw11.GolexAlone", spec := "golexAlone", inPlace := ["internal/bytealg.IndexByteString", "internal/bytealg.IndexString"], named := ["unicode/utf8.first", "unicode/utf8.acceptRanges", "seiche/golex.signs", "seiche/golex.words", "internal/bytealg.MaxLen"], apart := false, laid := [("unicode/utf8.acceptRanges", laid_unicode_utf8_acceptRanges), ("seiche/golex.signs", laid_seiche_golex_signs), ("seiche/golex.words", laid_seiche_golex_words), ("unicode/utf8.first", laid_unicode_utf8_first)], narrowed := true }
def GolexAloneUptoSaid : Prop := golexAloneUptoRow.holds Tryd.pinned (OpenSpec.upto golexAloneSpec)

/-- 'seichelaw11.GolexCovers', WHERE WHAT IT READS IS OF BULK AT MOST 1048576: true; the input reads as it did. -/
def golexCoversUptoRow : OpenClaim := { program := "ytfolmcfcmonkhaadoor", sum := "9da2dfc4301cb85ae084eddf95daf3cfe624731fa5b4c8a7d4e5904e7220a4d7", func := "seiche/seichelaw11.GolexCovers", spec := "golexCovers", inPlace := ["internal/bytealg.IndexByteString", "internal/bytealg.IndexString"], named := ["unicode/utf8.first", "unicode/utf8.acceptRanges", "seiche/golex.signs", "seiche/golex.words", "internal/bytealg.MaxLen"], apart := false, laid := [("unicode/utf8.acceptRanges", laid_unicode_utf8_acceptRanges), ("seiche/golex.signs", laid_seiche_golex_signs), ("seiche/golex.words", laid_seiche_golex_words), ("unicode/utf8.first", laid_unicode_utf8_first)], narrowed := true }
def GolexCoversUptoSaid : Prop := golexCoversUptoRow.holds Tryd.pinned (OpenSpec.upto golexCoversSpec)

/-- 'seichelaw11.GolexIs', WHERE WHAT IT READS IS OF BULK AT MOST 1048576: true; the input reads as it did. -/
def golexIsUptoRow : OpenClaim := { program := "ytfolmcfcmonkhaadoor", sum := "9da2dfc4301cb85ae084eddf95daf3cfe624731fa5b4c8a7d4e5904e7220a4d7", func := "seiche/seichelaw11.GolexIs", spec := "golexIs", inPlace := ["internal/bytealg.IndexByteString", "internal/bytealg.IndexString"], named := ["unicode/utf8.first", "unicode/utf8.acceptRanges", "seiche/golex.signs", "seiche/golex.words", "internal/bytealg.MaxLen", "seiche/golex.others"], apart := false, laid := [("unicode/utf8.acceptRanges", laid_unicode_utf8_acceptRanges), ("seiche/golex.signs", laid_seiche_golex_signs), ("seiche/golex.words", laid_seiche_golex_words), ("seiche/golex.others", laid_seiche_golex_others), ("unicode/utf8.first", laid_unicode_utf8_first)], narrowed := true }
def GolexIsUptoSaid : Prop := golexIsUptoRow.holds Tryd.pinned (OpenSpec.upto golexIsSpec)

end Rows
end Go.Proofs.YtfolmcfcmonkhaaDoor
