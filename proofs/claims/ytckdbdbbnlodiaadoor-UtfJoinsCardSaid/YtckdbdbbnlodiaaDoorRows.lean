/-
  NARROWER THAN 'FOR EVERY INPUT', by the rows' own cells (each row's printed sentence says how): UtfReads: laid · UtfSigns: laid · UtfEnds: laid · UtfJoins: laid · UtfKinds: laid.
  DERIVED. THE GIVEN ROWS OF THIS SEAT. 5 by the template 'for every input the law returns true; each argument reads behind the call as it read before'; 0 by the template 'total and deterministic' (their statements: YtckdbdbbnlodiaaDoorTotals.lean).
  GIVEN WITH THE SEED: the statements are not yours to turn. If you find one false, say at which input.
  Laid BY PROGRAM, IN A SANDBOX (cutbox-rows.mjs): the forced cells as the released guide's own fill.sh prints them over the translation b97ba326bb1f7d13… (all of the seat's roots in one cut). By AI agents, Wed Nov 11 2026. No macro, syntax, notation, axiom, sorry.
-/
import Derived.Test.YtckdbdbbnlodiaaDoorChecked
import GoSem.PinnedTables
import GoSem.Claim
import GoSem.ClaimJoined
import GoSem.ClaimMapViews
import Derived.JoinedTies
import Derived.KernelRfl
namespace Go.Proofs.YtckdbdbbnlodiaaDoor
/- THE CELL 'sum', in the pinned program and in every row, IS THE sha256 OF THE DUMP (.gsa) THAT YtckdbdbbnlodiaaDoorProg.lean LOADS. Nothing in Lean hashes anything: it is a label: what it is worth is what the hold of that sum in a sandbox is worth. -/
noncomputable def Tryd.pinned : Pinned := { name := "ytckdbdbbnlodiaadoor", sum := "b97ba326bb1f7d13f3228b132e464f841a5bb7dfa7056b882a801c203a6a46b5", checked := Tryd.checked }
namespace Rows
def none {H : Type} : Left H := { results := [], args := [] }

/- WHAT THE LISTED PACKAGE-LEVEL VARIABLES READ AS WHEN THE CALL BEGINS. Each datum BY PROGRAM (the guide's laid-datum.mjs) off the statement by which the dump's own 'gosem.cut.vars' lays the variable. In a bare row this is a premise. The card (YtckdbdbbnlodiaaDoorCards.lean) ties it to the program's text. -/
def laid_unicode_utf8_acceptRanges {H : Type} : DataW H := .agg [.agg [.lit (.int .u8 128), .lit (.int .u8 191)], .agg [.lit (.int .u8 160), .lit (.int .u8 191)], .agg [.lit (.int .u8 128), .lit (.int .u8 159)], .agg [.lit (.int .u8 144), .lit (.int .u8 191)], .agg [.lit (.int .u8 128), .lit (.int .u8 143)], .agg [.lit (.int .u8 0), .lit (.int .u8 0)], .agg [.lit (.int .u8 0), .lit (.int .u8 0)], .agg [.lit (.int .u8 0), .lit (.int .u8 0)], .agg [.lit (.int .u8 0), .lit (.int .u8 0)], .agg [.lit (.int .u8 0), .lit (.int .u8 0)], .agg [.lit (.int .u8 0), .lit (.int .u8 0)], .agg [.lit (.int .u8 0), .lit (.int .u8 0)], .agg [.lit (.int .u8 0), .lit (.int .u8 0)], .agg [.lit (.int .u8 0), .lit (.int .u8 0)], .agg [.lit (.int .u8 0), .lit (.int .u8 0)], .agg [.lit (.int .u8 0), .lit (.int .u8 0)]]
/-- One of Go's own tables, pinned by name: the form's constant. -/
def laid_unicode_utf8_first : DataW Unit := Go.Pinned.utf8First

/-- 'seichelaw10.UtfReads': WHATEVER THE INPUT: true; the input reads as it did. -/
def utfReadsSpec : ChangeSpec := { name := "utfReads", fn := fun _ => fun
  | [d1, d2] => { results := [.lit (.bool true)], args := [d1, d2] }
  | _ => none }
def utfReadsRow : OpenClaim := { program := "ytckdbdbbnlodiaadoor", sum := "b97ba326bb1f7d13f3228b132e464f841a5bb7dfa7056b882a801c203a6a46b5", func := "seiche/seichelaw10.UtfReads", spec := "utfReads", named := ["unicode/utf8.first", "unicode/utf8.acceptRanges"], apart := false, laid := [("unicode/utf8.acceptRanges", laid_unicode_utf8_acceptRanges), ("unicode/utf8.first", laid_unicode_utf8_first)] }
def UtfReadsSaid : Prop := utfReadsRow.holds Tryd.pinned (OpenSpec.ofChange utfReadsSpec)

/-- ITS FALSE NEIGHBOUR: 'it returns false'. Refute it at one input. -/
def utfReadsWrong : ChangeSpec := { name := "utfReads", fn := fun _ => fun
  | [d1, d2] => { results := [.lit (.bool false)], args := [d1, d2] }
  | _ => none }
def UtfReadsWrongFalsely : Prop := utfReadsRow.holds Tryd.pinned (OpenSpec.ofChange utfReadsWrong)

/-- 'seichelaw10.UtfSigns': WHATEVER THE INPUT: true; the input reads as it did. -/
def utfSignsSpec : ChangeSpec := { name := "utfSigns", fn := fun _ => fun
  | [d1, d2] => { results := [.lit (.bool true)], args := [d1, d2] }
  | _ => none }
def utfSignsRow : OpenClaim := { program := "ytckdbdbbnlodiaadoor", sum := "b97ba326bb1f7d13f3228b132e464f841a5bb7dfa7056b882a801c203a6a46b5", func := "seiche/seichelaw10.UtfSigns", spec := "utfSigns", named := ["unicode/utf8.first", "unicode/utf8.acceptRanges"], apart := false, laid := [("unicode/utf8.acceptRanges", laid_unicode_utf8_acceptRanges), ("unicode/utf8.first", laid_unicode_utf8_first)] }
def UtfSignsSaid : Prop := utfSignsRow.holds Tryd.pinned (OpenSpec.ofChange utfSignsSpec)

/-- ITS FALSE NEIGHBOUR: 'it returns false'. Refute it at one input. -/
def utfSignsWrong : ChangeSpec := { name := "utfSigns", fn := fun _ => fun
  | [d1, d2] => { results := [.lit (.bool false)], args := [d1, d2] }
  | _ => none }
def UtfSignsWrongFalsely : Prop := utfSignsRow.holds Tryd.pinned (OpenSpec.ofChange utfSignsWrong)

/-- 'seichelaw10.UtfEnds': WHATEVER THE INPUT: true; the input reads as it did. -/
def utfEndsSpec : ChangeSpec := { name := "utfEnds", fn := fun _ => fun
  | [d] => { results := [.lit (.bool true)], args := [d] }
  | _ => none }
def utfEndsRow : OpenClaim := { program := "ytckdbdbbnlodiaadoor", sum := "b97ba326bb1f7d13f3228b132e464f841a5bb7dfa7056b882a801c203a6a46b5", func := "seiche/seichelaw10.UtfEnds", spec := "utfEnds", named := ["unicode/utf8.first", "unicode/utf8.acceptRanges"], apart := false, laid := [("unicode/utf8.acceptRanges", laid_unicode_utf8_acceptRanges), ("unicode/utf8.first", laid_unicode_utf8_first)] }
def UtfEndsSaid : Prop := utfEndsRow.holds Tryd.pinned (OpenSpec.ofChange utfEndsSpec)

/-- ITS FALSE NEIGHBOUR: 'it returns false'. Refute it at one input. -/
def utfEndsWrong : ChangeSpec := { name := "utfEnds", fn := fun _ => fun
  | [d] => { results := [.lit (.bool false)], args := [d] }
  | _ => none }
def UtfEndsWrongFalsely : Prop := utfEndsRow.holds Tryd.pinned (OpenSpec.ofChange utfEndsWrong)

/-- 'seichelaw10.UtfJoins': WHATEVER THE INPUT: true; the input reads as it did. -/
def utfJoinsSpec : ChangeSpec := { name := "utfJoins", fn := fun _ => fun
  | [d] => { results := [.lit (.bool true)], args := [d] }
  | _ => none }
def utfJoinsRow : OpenClaim := { program := "ytckdbdbbnlodiaadoor", sum := "b97ba326bb1f7d13f3228b132e464f841a5bb7dfa7056b882a801c203a6a46b5", func := "seiche/seichelaw10.UtfJoins", spec := "utfJoins", named := ["unicode/utf8.first", "unicode/utf8.acceptRanges"], apart := false, laid := [("unicode/utf8.acceptRanges", laid_unicode_utf8_acceptRanges), ("unicode/utf8.first", laid_unicode_utf8_first)] }
def UtfJoinsSaid : Prop := utfJoinsRow.holds Tryd.pinned (OpenSpec.ofChange utfJoinsSpec)

/-- ITS FALSE NEIGHBOUR: 'it returns false'. Refute it at one input. -/
def utfJoinsWrong : ChangeSpec := { name := "utfJoins", fn := fun _ => fun
  | [d] => { results := [.lit (.bool false)], args := [d] }
  | _ => none }
def UtfJoinsWrongFalsely : Prop := utfJoinsRow.holds Tryd.pinned (OpenSpec.ofChange utfJoinsWrong)

/-- 'seichelaw10.UtfKinds': WHATEVER THE INPUT: true; the input reads as it did. -/
def utfKindsSpec : ChangeSpec := { name := "utfKinds", fn := fun _ => fun
  | [d] => { results := [.lit (.bool true)], args := [d] }
  | _ => none }
def utfKindsRow : OpenClaim := { program := "ytckdbdbbnlodiaadoor", sum := "b97ba326bb1f7d13f3228b132e464f841a5bb7dfa7056b882a801c203a6a46b5", func := "seiche/seichelaw10.UtfKinds", spec := "utfKinds", named := ["unicode/utf8.first", "unicode/utf8.acceptRanges"], apart := false, laid := [("unicode/utf8.acceptRanges", laid_unicode_utf8_acceptRanges), ("unicode/utf8.first", laid_unicode_utf8_first)] }
def UtfKindsSaid : Prop := utfKindsRow.holds Tryd.pinned (OpenSpec.ofChange utfKindsSpec)

/-- ITS FALSE NEIGHBOUR: 'it returns false'. Refute it at one input. -/
def utfKindsWrong : ChangeSpec := { name := "utfKinds", fn := fun _ => fun
  | [d] => { results := [.lit (.bool false)], args := [d] }
  | _ => none }
def UtfKindsWrongFalsely : Prop := utfKindsRow.holds Tryd.pinned (OpenSpec.ofChange utfKindsWrong)

/- THE SECOND FORM. 'bulk': how many values and letters a reading holds, each counted each time it is reached (what is shared counts as often as it is met; a slice's spare places count too). A statement '..UptoSaid' is the law's where the arguments, and the package variables that the reading takes, are together of bulk at most 1048576: NARROWER than '..Said'. Prove '..Said' where nothing that the law and all that it calls make is longer than what came in: it says more and counts as full. Else prove '..UptoSaid'. A law counts once. -/
mutual
def uptoBulk {H : Type} : DataW H → Nat
  | .lit (.string bytes) => bytes.length + 1
  | .lit _ => 1
  | .nil => 1
  | .ptr d => uptoBulk d + 1
  | .slice elems spare => uptoBulkAll elems + uptoBulkAll spare + 1
  | .agg parts => uptoBulkAll parts + 1
  | .iface _ d => uptoBulk d + 1
  | .map entries => uptoBulkEntries entries + 1
  | .held _ => 1
def uptoBulkAll {H : Type} : List (DataW H) → Nat
  | [] => 0
  | d :: r => uptoBulk d + uptoBulkAll r
def uptoBulkEntries {H : Type} : List (Lit × DataW H) → Nat
  | [] => 0
  | x :: r => uptoBulkEntry x + uptoBulkEntries r
def uptoBulkEntry {H : Type} : Lit × DataW H → Nat
  | (.string bytes, d) => bytes.length + uptoBulk d + 1
  | (_, d) => uptoBulk d + 1
 end
def uptoSmall : (H : Type) → List (DataW H) → Bool := fun _ ds => decide (uptoBulkAll ds ≤ 1048576)
def OpenSpec.upto (s : _root_.Go.ChangeSpec) : _root_.Go.OpenSpec := { _root_.Go.OpenSpec.ofChange s with cond := some uptoSmall }

/-- 'seichelaw10.UtfReads', WHERE WHAT IT READS IS OF BULK AT MOST 1048576: true; the input reads as it did. -/
def utfReadsUptoRow : OpenClaim := { program := "ytckdbdbbnlodiaadoor", sum := "b97ba326bb1f7d13f3228b132e464f841a5bb7dfa7056b882a801c203a6a46b5", func := "seiche/seichelaw10.UtfReads", spec := "utfReads", named := ["unicode/utf8.first", "unicode/utf8.acceptRanges"], apart := false, laid := [("unicode/utf8.acceptRanges", laid_unicode_utf8_acceptRanges), ("unicode/utf8.first", laid_unicode_utf8_first)], narrowed := true }
def UtfReadsUptoSaid : Prop := utfReadsUptoRow.holds Tryd.pinned (OpenSpec.upto utfReadsSpec)

/-- 'seichelaw10.UtfSigns', WHERE WHAT IT READS IS OF BULK AT MOST 1048576: true; the input reads as it did. -/
def utfSignsUptoRow : OpenClaim := { program := "ytckdbdbbnlodiaadoor", sum := "b97ba326bb1f7d13f3228b132e464f841a5bb7dfa7056b882a801c203a6a46b5", func := "seiche/seichelaw10.UtfSigns", spec := "utfSigns", named := ["unicode/utf8.first", "unicode/utf8.acceptRanges"], apart := false, laid := [("unicode/utf8.acceptRanges", laid_unicode_utf8_acceptRanges), ("unicode/utf8.first", laid_unicode_utf8_first)], narrowed := true }
def UtfSignsUptoSaid : Prop := utfSignsUptoRow.holds Tryd.pinned (OpenSpec.upto utfSignsSpec)

/-- 'seichelaw10.UtfEnds', WHERE WHAT IT READS IS OF BULK AT MOST 1048576: true; the input reads as it did. -/
def utfEndsUptoRow : OpenClaim := { program := "ytckdbdbbnlodiaadoor", sum := "b97ba326bb1f7d13f3228b132e464f841a5bb7dfa7056b882a801c203a6a46b5", func := "seiche/seichelaw10.UtfEnds", spec := "utfEnds", named := ["unicode/utf8.first", "unicode/utf8.acceptRanges"], apart := false, laid := [("unicode/utf8.acceptRanges", laid_unicode_utf8_acceptRanges), ("unicode/utf8.first", laid_unicode_utf8_first)], narrowed := true }
def UtfEndsUptoSaid : Prop := utfEndsUptoRow.holds Tryd.pinned (OpenSpec.upto utfEndsSpec)

/-- 'seichelaw10.UtfJoins', WHERE WHAT IT READS IS OF BULK AT MOST 1048576: true; the input reads as it did. -/
def utfJoinsUptoRow : OpenClaim := { program := "ytckdbdbbnlodiaadoor", sum := "b97ba326bb1f7d13f3228b132e464f841a5bb7dfa7056b882a801c203a6a46b5", func := "seiche/seichelaw10.UtfJoins", spec := "utfJoins", named := ["unicode/utf8.first", "unicode/utf8.acceptRanges"], apart := false, laid := [("unicode/utf8.acceptRanges", laid_unicode_utf8_acceptRanges), ("unicode/utf8.first", laid_unicode_utf8_first)], narrowed := true }
def UtfJoinsUptoSaid : Prop := utfJoinsUptoRow.holds Tryd.pinned (OpenSpec.upto utfJoinsSpec)

/-- 'seichelaw10.UtfKinds', WHERE WHAT IT READS IS OF BULK AT MOST 1048576: true; the input reads as it did. -/
def utfKindsUptoRow : OpenClaim := { program := "ytckdbdbbnlodiaadoor", sum := "b97ba326bb1f7d13f3228b132e464f841a5bb7dfa7056b882a801c203a6a46b5", func := "seiche/seichelaw10.UtfKinds", spec := "utfKinds", named := ["unicode/utf8.first", "unicode/utf8.acceptRanges"], apart := false, laid := [("unicode/utf8.acceptRanges", laid_unicode_utf8_acceptRanges), ("unicode/utf8.first", laid_unicode_utf8_first)], narrowed := true }
def UtfKindsUptoSaid : Prop := utfKindsUptoRow.holds Tryd.pinned (OpenSpec.upto utfKindsSpec)

end Rows
end Go.Proofs.YtckdbdbbnlodiaaDoor
