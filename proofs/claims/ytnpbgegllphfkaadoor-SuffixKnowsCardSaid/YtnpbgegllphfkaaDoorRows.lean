/-
  NARROWER THAN 'FOR EVERY INPUT', by the rows' own cells (each row's printed sentence says how): SuffixOf: laid · SuffixTells: laid · SuffixTests: laid · SuffixKnows: laid.
  DERIVED. THE GIVEN ROWS OF THIS SEAT. 4 by the template 'for every input the law returns true; each argument reads behind the call as it read before'; 0 by the template 'total and deterministic' (their statements: YtnpbgegllphfkaaDoorTotals.lean).
  GIVEN WITH THE SEED: the statements are not yours to turn. If you find one false, say at which input.
  Laid BY PROGRAM, IN A SANDBOX (cutbox-rows.mjs): the forced cells as the released guide's own fill.sh prints them over the translation 351dbfc460a162b2… (all of the seat's roots in one cut). By AI agents, Wed Nov 11 2026. No macro, syntax, notation, axiom, sorry.
-/
import Derived.Test.YtnpbgegllphfkaaDoorChecked
import GoSem.PinnedTables
import GoSem.Claim
import GoSem.ClaimJoined
import GoSem.ClaimMapViews
import Derived.JoinedTies
import Derived.KernelRfl
namespace Go.Proofs.YtnpbgegllphfkaaDoor
/- THE CELL 'sum', in the pinned program and in every row, IS THE sha256 OF THE DUMP (.gsa) THAT YtnpbgegllphfkaaDoorProg.lean LOADS. Nothing in Lean hashes anything: it is a label: what it is worth is what the hold of that sum in a sandbox is worth. -/
noncomputable def Tryd.pinned : Pinned := { name := "ytnpbgegllphfkaadoor", sum := "351dbfc460a162b2c9a00e07ced90bf65d5cccf8fd4a6c830422d8ba222602f2", checked := Tryd.checked }
namespace Rows
def none {H : Type} : Left H := { results := [], args := [] }

/- WHAT THE LISTED PACKAGE-LEVEL VARIABLES READ AS WHEN THE CALL BEGINS. Each datum BY PROGRAM (the guide's laid-datum.mjs) off the statement by which the dump's own 'gosem.cut.vars' lays the variable. In a bare row this is a premise. The card (YtnpbgegllphfkaaDoorCards.lean) ties it to the program's text. -/
def laid_unicode_utf8_acceptRanges {H : Type} : DataW H := .agg [.agg [.lit (.int .u8 128), .lit (.int .u8 191)], .agg [.lit (.int .u8 160), .lit (.int .u8 191)], .agg [.lit (.int .u8 128), .lit (.int .u8 159)], .agg [.lit (.int .u8 144), .lit (.int .u8 191)], .agg [.lit (.int .u8 128), .lit (.int .u8 143)], .agg [.lit (.int .u8 0), .lit (.int .u8 0)], .agg [.lit (.int .u8 0), .lit (.int .u8 0)], .agg [.lit (.int .u8 0), .lit (.int .u8 0)], .agg [.lit (.int .u8 0), .lit (.int .u8 0)], .agg [.lit (.int .u8 0), .lit (.int .u8 0)], .agg [.lit (.int .u8 0), .lit (.int .u8 0)], .agg [.lit (.int .u8 0), .lit (.int .u8 0)], .agg [.lit (.int .u8 0), .lit (.int .u8 0)], .agg [.lit (.int .u8 0), .lit (.int .u8 0)], .agg [.lit (.int .u8 0), .lit (.int .u8 0)], .agg [.lit (.int .u8 0), .lit (.int .u8 0)]]
def laid_seiche_suffix_systems {H : Type} : DataW H := .slice [.lit (.string [97, 105, 120]), .lit (.string [97, 110, 100, 114, 111, 105, 100]), .lit (.string [100, 97, 114, 119, 105, 110]), .lit (.string [100, 114, 97, 103, 111, 110, 102, 108, 121]), .lit (.string [102, 114, 101, 101, 98, 115, 100]), .lit (.string [105, 108, 108, 117, 109, 111, 115]), .lit (.string [105, 111, 115]), .lit (.string [106, 115]), .lit (.string [108, 105, 110, 117, 120]), .lit (.string [110, 101, 116, 98, 115, 100]), .lit (.string [111, 112, 101, 110, 98, 115, 100]), .lit (.string [112, 108, 97, 110, 57]), .lit (.string [115, 111, 108, 97, 114, 105, 115]), .lit (.string [119, 97, 115, 105, 112, 49]), .lit (.string [119, 105, 110, 100, 111, 119, 115])] []
def laid_seiche_suffix_processors {H : Type} : DataW H := .slice [.lit (.string [51, 56, 54]), .lit (.string [97, 109, 100, 54, 52]), .lit (.string [97, 114, 109]), .lit (.string [97, 114, 109, 54, 52]), .lit (.string [108, 111, 111, 110, 103, 54, 52]), .lit (.string [109, 105, 112, 115]), .lit (.string [109, 105, 112, 115, 54, 52]), .lit (.string [109, 105, 112, 115, 54, 52, 108, 101]), .lit (.string [109, 105, 112, 115, 108, 101]), .lit (.string [112, 112, 99, 54, 52]), .lit (.string [112, 112, 99, 54, 52, 108, 101]), .lit (.string [114, 105, 115, 99, 118, 54, 52]), .lit (.string [115, 51, 57, 48, 120]), .lit (.string [119, 97, 115, 109])] []
def laid_seiche_suffix_alike {H : Type} : DataW H := .slice [.lit (.string [97, 105, 120]), .lit (.string [97, 110, 100, 114, 111, 105, 100]), .lit (.string [100, 97, 114, 119, 105, 110]), .lit (.string [100, 114, 97, 103, 111, 110, 102, 108, 121]), .lit (.string [102, 114, 101, 101, 98, 115, 100]), .lit (.string [105, 108, 108, 117, 109, 111, 115]), .lit (.string [105, 111, 115]), .lit (.string [108, 105, 110, 117, 120]), .lit (.string [110, 101, 116, 98, 115, 100]), .lit (.string [111, 112, 101, 110, 98, 115, 100]), .lit (.string [115, 111, 108, 97, 114, 105, 115])] []
/-- One of Go's own tables, pinned by name: the form's constant. -/
def laid_unicode_utf8_first : DataW Unit := Go.Pinned.utf8First

/-- 'seichelaw15.SuffixOf': WHATEVER THE INPUT: true; the input reads as it did. -/
def suffixOfSpec : ChangeSpec := { name := "suffixOf", fn := fun _ => fun
  | [d] => { results := [.lit (.bool true)], args := [d] }
  | _ => none }
def suffixOfRow : OpenClaim := { program := "ytnpbgegllphfkaadoor", sum := "351dbfc460a162b2c9a00e07ced90bf65d5cccf8fd4a6c830422d8ba222602f2", func := "seiche/seichelaw15.SuffixOf", spec := "suffixOf", inPlace := ["internal/bytealg.CountString", "internal/bytealg.IndexByteString", "internal/bytealg.IndexString"], named := ["unicode/utf8.first", "unicode/utf8.acceptRanges", "internal/bytealg.MaxLen", "seiche/suffix.systems", "seiche/suffix.processors", "seiche/suffix.alike"], apart := false, laid := [("unicode/utf8.acceptRanges", laid_unicode_utf8_acceptRanges), ("seiche/suffix.systems", laid_seiche_suffix_systems), ("seiche/suffix.processors", laid_seiche_suffix_processors), ("seiche/suffix.alike", laid_seiche_suffix_alike), ("unicode/utf8.first", laid_unicode_utf8_first)] }
def SuffixOfSaid : Prop := suffixOfRow.holds Tryd.pinned (OpenSpec.ofChange suffixOfSpec)

/-- ITS FALSE NEIGHBOUR: 'it returns false'. Refute it at one input. -/
def suffixOfWrong : ChangeSpec := { name := "suffixOf", fn := fun _ => fun
  | [d] => { results := [.lit (.bool false)], args := [d] }
  | _ => none }
def SuffixOfWrongFalsely : Prop := suffixOfRow.holds Tryd.pinned (OpenSpec.ofChange suffixOfWrong)

/-- 'seichelaw15.SuffixTells': WHATEVER THE INPUT: true; the input reads as it did. -/
def suffixTellsSpec : ChangeSpec := { name := "suffixTells", fn := fun _ => fun
  | [d1, d2, d3, d4] => { results := [.lit (.bool true)], args := [d1, d2, d3, d4] }
  | _ => none }
def suffixTellsRow : OpenClaim := { program := "ytnpbgegllphfkaadoor", sum := "351dbfc460a162b2c9a00e07ced90bf65d5cccf8fd4a6c830422d8ba222602f2", func := "seiche/seichelaw15.SuffixTells", spec := "suffixTells", inPlace := ["internal/bytealg.CountString", "internal/bytealg.IndexByteString", "internal/bytealg.IndexString"], named := ["unicode/utf8.first", "unicode/utf8.acceptRanges", "internal/bytealg.MaxLen", "seiche/suffix.systems", "seiche/suffix.processors", "seiche/suffix.alike"], apart := false, laid := [("unicode/utf8.acceptRanges", laid_unicode_utf8_acceptRanges), ("seiche/suffix.systems", laid_seiche_suffix_systems), ("seiche/suffix.processors", laid_seiche_suffix_processors), ("seiche/suffix.alike", laid_seiche_suffix_alike), ("unicode/utf8.first", laid_unicode_utf8_first)] }
def SuffixTellsSaid : Prop := suffixTellsRow.holds Tryd.pinned (OpenSpec.ofChange suffixTellsSpec)

/-- ITS FALSE NEIGHBOUR: 'it returns false'. Refute it at one input. -/
def suffixTellsWrong : ChangeSpec := { name := "suffixTells", fn := fun _ => fun
  | [d1, d2, d3, d4] => { results := [.lit (.bool false)], args := [d1, d2, d3, d4] }
  | _ => none }
def SuffixTellsWrongFalsely : Prop := suffixTellsRow.holds Tryd.pinned (OpenSpec.ofChange suffixTellsWrong)

/-- 'seichelaw15.SuffixTests': WHATEVER THE INPUT: true; the input reads as it did. -/
def suffixTestsSpec : ChangeSpec := { name := "suffixTests", fn := fun _ => fun
  | [d] => { results := [.lit (.bool true)], args := [d] }
  | _ => none }
def suffixTestsRow : OpenClaim := { program := "ytnpbgegllphfkaadoor", sum := "351dbfc460a162b2c9a00e07ced90bf65d5cccf8fd4a6c830422d8ba222602f2", func := "seiche/seichelaw15.SuffixTests", spec := "suffixTests", inPlace := ["internal/bytealg.CountString", "internal/bytealg.IndexByteString", "internal/bytealg.IndexString"], named := ["unicode/utf8.first", "unicode/utf8.acceptRanges", "internal/bytealg.MaxLen", "seiche/suffix.systems", "seiche/suffix.processors", "seiche/suffix.alike"], apart := false, laid := [("unicode/utf8.acceptRanges", laid_unicode_utf8_acceptRanges), ("seiche/suffix.systems", laid_seiche_suffix_systems), ("seiche/suffix.processors", laid_seiche_suffix_processors), ("seiche/suffix.alike", laid_seiche_suffix_alike), ("unicode/utf8.first", laid_unicode_utf8_first)] }
def SuffixTestsSaid : Prop := suffixTestsRow.holds Tryd.pinned (OpenSpec.ofChange suffixTestsSpec)

/-- ITS FALSE NEIGHBOUR: 'it returns false'. Refute it at one input. -/
def suffixTestsWrong : ChangeSpec := { name := "suffixTests", fn := fun _ => fun
  | [d] => { results := [.lit (.bool false)], args := [d] }
  | _ => none }
def SuffixTestsWrongFalsely : Prop := suffixTestsRow.holds Tryd.pinned (OpenSpec.ofChange suffixTestsWrong)

/-- 'seichelaw15.SuffixKnows': WHATEVER THE INPUT: true; the input reads as it did. -/
def suffixKnowsSpec : ChangeSpec := { name := "suffixKnows", fn := fun _ => fun
  | [d] => { results := [.lit (.bool true)], args := [d] }
  | _ => none }
def suffixKnowsRow : OpenClaim := { program := "ytnpbgegllphfkaadoor", sum := "351dbfc460a162b2c9a00e07ced90bf65d5cccf8fd4a6c830422d8ba222602f2", func := "seiche/seichelaw15.SuffixKnows", spec := "suffixKnows", inPlace := ["internal/bytealg.CountString", "internal/bytealg.IndexByteString", "internal/bytealg.IndexString"], named := ["unicode/utf8.first", "unicode/utf8.acceptRanges", "internal/bytealg.MaxLen", "seiche/suffix.systems", "seiche/suffix.processors", "seiche/suffix.alike"], apart := false, laid := [("unicode/utf8.acceptRanges", laid_unicode_utf8_acceptRanges), ("seiche/suffix.systems", laid_seiche_suffix_systems), ("seiche/suffix.processors", laid_seiche_suffix_processors), ("seiche/suffix.alike", laid_seiche_suffix_alike), ("unicode/utf8.first", laid_unicode_utf8_first)] }
def SuffixKnowsSaid : Prop := suffixKnowsRow.holds Tryd.pinned (OpenSpec.ofChange suffixKnowsSpec)

/-- ITS FALSE NEIGHBOUR: 'it returns false'. Refute it at one input. -/
def suffixKnowsWrong : ChangeSpec := { name := "suffixKnows", fn := fun _ => fun
  | [d] => { results := [.lit (.bool false)], args := [d] }
  | _ => none }
def SuffixKnowsWrongFalsely : Prop := suffixKnowsRow.holds Tryd.pinned (OpenSpec.ofChange suffixKnowsWrong)

/- THE SECOND FORM. 'bulk': how many values and letters a reading holds, each counted each time it is reached (what is shared counts as often as it is met; a slice's spare places count too). A statement '..UptoSaid' is the law's where the arguments, and the package variables that the reading takes, are together of bulk at most 1048576: NARROWER than '..Said'. Prove '..Said' where nothing that the law and all that it calls make is longer than what came in: it says more and counts as full. Else prove '..UptoSaid'. A law counts once. -/
mutual
def uptoBulk {H : Type} : DataW H → Nat
  | .lit (.string bytes) => bytes.length + 1
  | .lit _ => 1
  | .nil => 1
  | .ptr d => uptoBulk d + 1
  | .slice elems spare => uptoBulkAll elems + uptoBulkAll spare + 1
  | .agg parts => uptoBulkAll parts + 1
  | .iface _ d => uptoBulk d + 1
  | .map entries => uptoBulkEntries entries + 1
  | .held _ => 1
def uptoBulkAll {H : Type} : List (DataW H) → Nat
  | [] => 0
  | d :: r => uptoBulk d + uptoBulkAll r
def uptoBulkEntries {H : Type} : List (Lit × DataW H) → Nat
  | [] => 0
  | x :: r => uptoBulkEntry x + uptoBulkEntries r
def uptoBulkEntry {H : Type} : Lit × DataW H → Nat
  | (.string bytes, d) => bytes.length + uptoBulk d + 1
  | (_, d) => uptoBulk d + 1
 end
def uptoSmall : (H : Type) → List (DataW H) → Bool := fun _ ds => decide (uptoBulkAll ds ≤ 1048576)
def OpenSpec.upto (s : _root_.Go.ChangeSpec) : _root_.Go.OpenSpec := { _root_.Go.OpenSpec.ofChange s with cond := some uptoSmall }

/-- 'seichelaw15.SuffixOf', WHERE WHAT IT READS IS OF BULK AT MOST 1048576: true; the input reads as it did. -/
def suffixOfUptoRow : OpenClaim := { program := "ytnpbgegllphfkaadoor", sum := "351dbfc460a162b2c9a00e07ced90bf65d5cccf8fd4a6c830422d8ba222602f2", func := "seiche/seichelaw15.SuffixOf", spec := "suffixOf", inPlace := ["internal/bytealg.CountString", "internal/bytealg.IndexByteString", "internal/bytealg.IndexString"], named := ["unicode/utf8.first", "unicode/utf8.acceptRanges", "internal/bytealg.MaxLen", "seiche/suffix.systems", "seiche/suffix.processors", "seiche/suffix.alike"], apart := false, laid := [("unicode/utf8.acceptRanges", laid_unicode_utf8_acceptRanges), ("seiche/suffix.systems", laid_seiche_suffix_systems), ("seiche/suffix.processors", laid_seiche_suffix_processors), ("seiche/suffix.alike", laid_seiche_suffix_alike), ("unicode/utf8.first", laid_unicode_utf8_first)], narrowed := true }
def SuffixOfUptoSaid : Prop := suffixOfUptoRow.holds Tryd.pinned (OpenSpec.upto suffixOfSpec)

/-- 'seichelaw15.SuffixTells', WHERE WHAT IT READS IS OF BULK AT MOST 1048576: true; the input reads as it did. -/
def suffixTellsUptoRow : OpenClaim := { program := "ytnpbgegllphfkaadoor", sum := "351dbfc460a162b2c9a00e07ced90bf65d5cccf8fd4a6c830422d8ba222602f2", func := "seiche/seichelaw15.SuffixTells", spec := "suffixTells", inPlace := ["internal/bytealg.CountString", "internal/bytealg.IndexByteString", "internal/bytealg.IndexString"], named := ["unicode/utf8.first", "unicode/utf8.acceptRanges", "internal/bytealg.MaxLen", "seiche/suffix.systems", "seiche/suffix.processors", "seiche/suffix.alike"], apart := false, laid := [("unicode/utf8.acceptRanges", laid_unicode_utf8_acceptRanges), ("seiche/suffix.systems", laid_seiche_suffix_systems), ("seiche/suffix.processors", laid_seiche_suffix_processors), ("seiche/suffix.alike", laid_seiche_suffix_alike), ("unicode/utf8.first", laid_unicode_utf8_first)], narrowed := true }
def SuffixTellsUptoSaid : Prop := suffixTellsUptoRow.holds Tryd.pinned (OpenSpec.upto suffixTellsSpec)

/-- 'seichelaw15.SuffixTests', WHERE WHAT IT READS IS OF BULK AT MOST 1048576: true; the input reads as it did. -/
def suffixTestsUptoRow : OpenClaim := { program := "ytnpbgegllphfkaadoor", sum := "351dbfc460a162b2c9a00e07ced90bf65d5cccf8fd4a6c830422d8ba222602f2", func := "seiche/seichelaw15.SuffixTests", spec := "suffixTests", inPlace := ["internal/bytealg.CountString", "internal/bytealg.IndexByteString", "internal/bytealg.IndexString"], named := ["unicode/utf8.first", "unicode/utf8.acceptRanges", "internal/bytealg.MaxLen", "seiche/suffix.systems", "seiche/suffix.processors", "seiche/suffix.alike"], apart := false, laid := [("unicode/utf8.acceptRanges", laid_unicode_utf8_acceptRanges), ("seiche/suffix.systems", laid_seiche_suffix_systems), ("seiche/suffix.processors", laid_seiche_suffix_processors), ("seiche/suffix.alike", laid_seiche_suffix_alike), ("unicode/utf8.first", laid_unicode_utf8_first)], narrowed := true }
def SuffixTestsUptoSaid : Prop := suffixTestsUptoRow.holds Tryd.pinned (OpenSpec.upto suffixTestsSpec)

/-- 'seichelaw15.SuffixKnows', WHERE WHAT IT READS IS OF BULK AT MOST 1048576: true; the input reads as it did. -/
def suffixKnowsUptoRow : OpenClaim := { program := "ytnpbgegllphfkaadoor", sum := "351dbfc460a162b2c9a00e07ced90bf65d5cccf8fd4a6c830422d8ba222602f2", func := "seiche/seichelaw15.SuffixKnows", spec := "suffixKnows", inPlace := ["internal/bytealg.CountString", "internal/bytealg.IndexByteString", "internal/bytealg.IndexString"], named := ["unicode/utf8.first", "unicode/utf8.acceptRanges", "internal/bytealg.MaxLen", "seiche/suffix.systems", "seiche/suffix.processors", "seiche/suffix.alike"], apart := false, laid := [("unicode/utf8.acceptRanges", laid_unicode_utf8_acceptRanges), ("seiche/suffix.systems", laid_seiche_suffix_systems), ("seiche/suffix.processors", laid_seiche_suffix_processors), ("seiche/suffix.alike", laid_seiche_suffix_alike), ("unicode/utf8.first", laid_unicode_utf8_first)], narrowed := true }
def SuffixKnowsUptoSaid : Prop := suffixKnowsUptoRow.holds Tryd.pinned (OpenSpec.upto suffixKnowsSpec)

end Rows
end Go.Proofs.YtnpbgegllphfkaaDoor
