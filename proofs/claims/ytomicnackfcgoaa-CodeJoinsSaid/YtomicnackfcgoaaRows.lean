/-
  No cell of these rows narrows 'for every input' (looked for: loops, veiled, ifaces, maps, wideKeys, modest, calm, conditions, laid).
  DERIVED. THE GIVEN ROWS OF THIS SEAT. 6 by the template 'for every input the law returns true; each argument reads behind the call as it read before'; 0 by the template 'total and deterministic' (their statements: YtomicnackfcgoaaTotals.lean).
  GIVEN WITH THE SEED: the statements are not yours to turn. If you find one false, say at which input.
  Laid BY PROGRAM, IN A SANDBOX (cutbox-rows.mjs): the forced cells as the released guide's own fill.sh prints them over the translation c6cf0f77b6227b3d… (all of the seat's roots in one cut). By AI agents, Wed Nov 11 2026. No macro, syntax, notation, axiom, sorry.
-/
import Derived.Test.YtomicnackfcgoaaChecked
import GoSem.Claim
import GoSem.ClaimJoined
import GoSem.ClaimMapViews
import Derived.JoinedTies
import Derived.KernelRfl
namespace Go.Proofs.Ytomicnackfcgoaa
/- THE CELL 'sum', in the pinned program and in every row, IS THE sha256 OF THE DUMP (.gsa) THAT YtomicnackfcgoaaProg.lean LOADS. Nothing in Lean hashes anything: it is a label: what it is worth is what the hold of that sum in a sandbox is worth. -/
noncomputable def Try.pinned : Pinned := { name := "ytomicnackfcgoaa", sum := "c6cf0f77b6227b3d59d915bf55d87d3af4f8f1ed47ca2dc9dd92b432015734ad", checked := Try.checked }
namespace Rows
def none {H : Type} : Left H := { results := [], args := [] }

/-- 'seichelaw01.CodeJoins': WHATEVER THE INPUT: true; the input reads as it did. -/
def codeJoinsSpec : ChangeSpec := { name := "codeJoins", fn := fun _ => fun
  | [d1, d2, d3] => { results := [.lit (.bool true)], args := [d1, d2, d3] }
  | _ => none }
def codeJoinsRow : OpenClaim := { program := "ytomicnackfcgoaa", sum := "c6cf0f77b6227b3d59d915bf55d87d3af4f8f1ed47ca2dc9dd92b432015734ad", func := "seiche/seichelaw01.CodeJoins", spec := "codeJoins", apart := false }
def CodeJoinsSaid : Prop := codeJoinsRow.holds Try.pinned (OpenSpec.ofChange codeJoinsSpec)

/-- ITS FALSE NEIGHBOUR: 'it returns false'. Refute it at one input. -/
def codeJoinsWrong : ChangeSpec := { name := "codeJoins", fn := fun _ => fun
  | [d1, d2, d3] => { results := [.lit (.bool false)], args := [d1, d2, d3] }
  | _ => none }
def CodeJoinsWrongFalsely : Prop := codeJoinsRow.holds Try.pinned (OpenSpec.ofChange codeJoinsWrong)

/-- 'seichelaw01.CodeSplits': WHATEVER THE INPUT: true; the input reads as it did. -/
def codeSplitsSpec : ChangeSpec := { name := "codeSplits", fn := fun _ => fun
  | [d] => { results := [.lit (.bool true)], args := [d] }
  | _ => none }
def codeSplitsRow : OpenClaim := { program := "ytomicnackfcgoaa", sum := "c6cf0f77b6227b3d59d915bf55d87d3af4f8f1ed47ca2dc9dd92b432015734ad", func := "seiche/seichelaw01.CodeSplits", spec := "codeSplits", apart := false }
def CodeSplitsSaid : Prop := codeSplitsRow.holds Try.pinned (OpenSpec.ofChange codeSplitsSpec)

/-- ITS FALSE NEIGHBOUR: 'it returns false'. Refute it at one input. -/
def codeSplitsWrong : ChangeSpec := { name := "codeSplits", fn := fun _ => fun
  | [d] => { results := [.lit (.bool false)], args := [d] }
  | _ => none }
def CodeSplitsWrongFalsely : Prop := codeSplitsRow.holds Try.pinned (OpenSpec.ofChange codeSplitsWrong)

/-- 'seichelaw01.CodeBack': WHATEVER THE INPUT: true; the input reads as it did. -/
def codeBackSpec : ChangeSpec := { name := "codeBack", fn := fun _ => fun
  | [d] => { results := [.lit (.bool true)], args := [d] }
  | _ => none }
def codeBackRow : OpenClaim := { program := "ytomicnackfcgoaa", sum := "c6cf0f77b6227b3d59d915bf55d87d3af4f8f1ed47ca2dc9dd92b432015734ad", func := "seiche/seichelaw01.CodeBack", spec := "codeBack", apart := false }
def CodeBackSaid : Prop := codeBackRow.holds Try.pinned (OpenSpec.ofChange codeBackSpec)

/-- ITS FALSE NEIGHBOUR: 'it returns false'. Refute it at one input. -/
def codeBackWrong : ChangeSpec := { name := "codeBack", fn := fun _ => fun
  | [d] => { results := [.lit (.bool false)], args := [d] }
  | _ => none }
def CodeBackWrongFalsely : Prop := codeBackRow.holds Try.pinned (OpenSpec.ofChange codeBackWrong)

/-- 'seichelaw01.CodeOne': WHATEVER THE INPUT: true; the input reads as it did. -/
def codeOneSpec : ChangeSpec := { name := "codeOne", fn := fun _ => fun
  | [d1, d2, d3] => { results := [.lit (.bool true)], args := [d1, d2, d3] }
  | _ => none }
def codeOneRow : OpenClaim := { program := "ytomicnackfcgoaa", sum := "c6cf0f77b6227b3d59d915bf55d87d3af4f8f1ed47ca2dc9dd92b432015734ad", func := "seiche/seichelaw01.CodeOne", spec := "codeOne", apart := false }
def CodeOneSaid : Prop := codeOneRow.holds Try.pinned (OpenSpec.ofChange codeOneSpec)

/-- ITS FALSE NEIGHBOUR: 'it returns false'. Refute it at one input. -/
def codeOneWrong : ChangeSpec := { name := "codeOne", fn := fun _ => fun
  | [d1, d2, d3] => { results := [.lit (.bool false)], args := [d1, d2, d3] }
  | _ => none }
def CodeOneWrongFalsely : Prop := codeOneRow.holds Try.pinned (OpenSpec.ofChange codeOneWrong)

/-- 'seichelaw01.CodeLong': WHATEVER THE INPUT: true; the input reads as it did. -/
def codeLongSpec : ChangeSpec := { name := "codeLong", fn := fun _ => fun
  | [d] => { results := [.lit (.bool true)], args := [d] }
  | _ => none }
def codeLongRow : OpenClaim := { program := "ytomicnackfcgoaa", sum := "c6cf0f77b6227b3d59d915bf55d87d3af4f8f1ed47ca2dc9dd92b432015734ad", func := "seiche/seichelaw01.CodeLong", spec := "codeLong", apart := false }
def CodeLongSaid : Prop := codeLongRow.holds Try.pinned (OpenSpec.ofChange codeLongSpec)

/-- ITS FALSE NEIGHBOUR: 'it returns false'. Refute it at one input. -/
def codeLongWrong : ChangeSpec := { name := "codeLong", fn := fun _ => fun
  | [d] => { results := [.lit (.bool false)], args := [d] }
  | _ => none }
def CodeLongWrongFalsely : Prop := codeLongRow.holds Try.pinned (OpenSpec.ofChange codeLongWrong)

/-- 'seichelaw01.CodeWithin': WHATEVER THE INPUT: true; the input reads as it did. -/
def codeWithinSpec : ChangeSpec := { name := "codeWithin", fn := fun _ => fun
  | [d1, d2] => { results := [.lit (.bool true)], args := [d1, d2] }
  | _ => none }
def codeWithinRow : OpenClaim := { program := "ytomicnackfcgoaa", sum := "c6cf0f77b6227b3d59d915bf55d87d3af4f8f1ed47ca2dc9dd92b432015734ad", func := "seiche/seichelaw01.CodeWithin", spec := "codeWithin", apart := false }
def CodeWithinSaid : Prop := codeWithinRow.holds Try.pinned (OpenSpec.ofChange codeWithinSpec)

/-- ITS FALSE NEIGHBOUR: 'it returns false'. Refute it at one input. -/
def codeWithinWrong : ChangeSpec := { name := "codeWithin", fn := fun _ => fun
  | [d1, d2] => { results := [.lit (.bool false)], args := [d1, d2] }
  | _ => none }
def CodeWithinWrongFalsely : Prop := codeWithinRow.holds Try.pinned (OpenSpec.ofChange codeWithinWrong)

/- THE SECOND FORM. 'bulk': how many values and letters a reading holds, each counted each time it is reached (what is shared counts as often as it is met; a slice's spare places count too). A statement '..UptoSaid' is the law's where the arguments, and the package variables that the reading takes, are together of bulk at most 1048576: NARROWER than '..Said'. Prove '..Said' where nothing that the law and all that it calls make is longer than what came in: it says more and counts as full. Else prove '..UptoSaid'. A law counts once. -/
mutual
def uptoBulk {H : Type} : DataW H → Nat
  | .lit (.string bytes) => bytes.length + 1
  | .lit _ => 1
  | .nil => 1
  | .ptr d => uptoBulk d + 1
  | .slice elems spare => uptoBulkAll elems + uptoBulkAll spare + 1
  | .agg parts => uptoBulkAll parts + 1
  | .iface _ d => uptoBulk d + 1
  | .map entries => uptoBulkEntries entries + 1
  | .held _ => 1
def uptoBulkAll {H : Type} : List (DataW H) → Nat
  | [] => 0
  | d :: r => uptoBulk d + uptoBulkAll r
def uptoBulkEntries {H : Type} : List (Lit × DataW H) → Nat
  | [] => 0
  | x :: r => uptoBulkEntry x + uptoBulkEntries r
def uptoBulkEntry {H : Type} : Lit × DataW H → Nat
  | (.string bytes, d) => bytes.length + uptoBulk d + 1
  | (_, d) => uptoBulk d + 1
 end
def uptoSmall : (H : Type) → List (DataW H) → Bool := fun _ ds => decide (uptoBulkAll ds ≤ 1048576)
def OpenSpec.upto (s : _root_.Go.ChangeSpec) : _root_.Go.OpenSpec := { _root_.Go.OpenSpec.ofChange s with cond := some uptoSmall }

/-- 'seichelaw01.CodeJoins', WHERE WHAT IT READS IS OF BULK AT MOST 1048576: true; the input reads as it did. -/
def codeJoinsUptoRow : OpenClaim := { program := "ytomicnackfcgoaa", sum := "c6cf0f77b6227b3d59d915bf55d87d3af4f8f1ed47ca2dc9dd92b432015734ad", func := "seiche/seichelaw01.CodeJoins", spec := "codeJoins", apart := false, narrowed := true }
def CodeJoinsUptoSaid : Prop := codeJoinsUptoRow.holds Try.pinned (OpenSpec.upto codeJoinsSpec)

/-- 'seichelaw01.CodeSplits', WHERE WHAT IT READS IS OF BULK AT MOST 1048576: true; the input reads as it did. -/
def codeSplitsUptoRow : OpenClaim := { program := "ytomicnackfcgoaa", sum := "c6cf0f77b6227b3d59d915bf55d87d3af4f8f1ed47ca2dc9dd92b432015734ad", func := "seiche/seichelaw01.CodeSplits", spec := "codeSplits", apart := false, narrowed := true }
def CodeSplitsUptoSaid : Prop := codeSplitsUptoRow.holds Try.pinned (OpenSpec.upto codeSplitsSpec)

/-- 'seichelaw01.CodeBack', WHERE WHAT IT READS IS OF BULK AT MOST 1048576: true; the input reads as it did. -/
def codeBackUptoRow : OpenClaim := { program := "ytomicnackfcgoaa", sum := "c6cf0f77b6227b3d59d915bf55d87d3af4f8f1ed47ca2dc9dd92b432015734ad", func := "seiche/seichelaw01.CodeBack", spec := "codeBack", apart := false, narrowed := true }
def CodeBackUptoSaid : Prop := codeBackUptoRow.holds Try.pinned (OpenSpec.upto codeBackSpec)

/-- 'seichelaw01.CodeOne', WHERE WHAT IT READS IS OF BULK AT MOST 1048576: true; the input reads as it did. -/
def codeOneUptoRow : OpenClaim := { program := "ytomicnackfcgoaa", sum := "c6cf0f77b6227b3d59d915bf55d87d3af4f8f1ed47ca2dc9dd92b432015734ad", func := "seiche/seichelaw01.CodeOne", spec := "codeOne", apart := false, narrowed := true }
def CodeOneUptoSaid : Prop := codeOneUptoRow.holds Try.pinned (OpenSpec.upto codeOneSpec)

/-- 'seichelaw01.CodeLong', WHERE WHAT IT READS IS OF BULK AT MOST 1048576: true; the input reads as it did. -/
def codeLongUptoRow : OpenClaim := { program := "ytomicnackfcgoaa", sum := "c6cf0f77b6227b3d59d915bf55d87d3af4f8f1ed47ca2dc9dd92b432015734ad", func := "seiche/seichelaw01.CodeLong", spec := "codeLong", apart := false, narrowed := true }
def CodeLongUptoSaid : Prop := codeLongUptoRow.holds Try.pinned (OpenSpec.upto codeLongSpec)

/-- 'seichelaw01.CodeWithin', WHERE WHAT IT READS IS OF BULK AT MOST 1048576: true; the input reads as it did. -/
def codeWithinUptoRow : OpenClaim := { program := "ytomicnackfcgoaa", sum := "c6cf0f77b6227b3d59d915bf55d87d3af4f8f1ed47ca2dc9dd92b432015734ad", func := "seiche/seichelaw01.CodeWithin", spec := "codeWithin", apart := false, narrowed := true }
def CodeWithinUptoSaid : Prop := codeWithinUptoRow.holds Try.pinned (OpenSpec.upto codeWithinSpec)

end Rows
end Go.Proofs.Ytomicnackfcgoaa
