/-
  No cell of these rows narrows 'for every input' (looked for: loops, veiled, ifaces, maps, wideKeys, modest, calm, conditions, laid).
  DERIVED. THE GIVEN ROWS OF THIS SEAT. 7 by the template 'for every input the law returns true; each argument reads behind the call as it read before'; 0 by the template 'total and deterministic' (their statements: YtcpemjolabofnaaTotals.lean).
  GIVEN WITH THE SEED: the statements are not yours to turn. If you find one false, say at which input.
  Laid BY PROGRAM, IN A SANDBOX (cutbox-rows.mjs): the forced cells as the released guide's own fill.sh prints them over the translation 00467e760cf0067e… (all of the seat's roots in one cut). By AI agents, Wed Nov 11 2026. No macro, syntax, notation, axiom, sorry.
-/
import Derived.Test.YtcpemjolabofnaaChecked
import GoSem.Claim
import GoSem.ClaimJoined
import GoSem.ClaimMapViews
import Derived.JoinedTies
import Derived.KernelRfl
namespace Go.Proofs.Ytcpemjolabofnaa
/- THE CELL 'sum', in the pinned program and in every row, IS THE sha256 OF THE DUMP (.gsa) THAT YtcpemjolabofnaaProg.lean LOADS. Nothing in Lean hashes anything: it is a label: what it is worth is what the hold of that sum in a sandbox is worth. -/
noncomputable def Try.pinned : Pinned := { name := "ytcpemjolabofnaa", sum := "00467e760cf0067ef4ac868b0aa0dd58f713a5a63963fc9101ac0e19baf05029", checked := Try.checked }
namespace Rows
def none {H : Type} : Left H := { results := [], args := [] }

/-- 'seichelaw13.ExprLong': WHATEVER THE INPUT: true; the input reads as it did. -/
def exprLongSpec : ChangeSpec := { name := "exprLong", fn := fun _ => fun
  | [d] => { results := [.lit (.bool true)], args := [d] }
  | _ => none }
def exprLongRow : OpenClaim := { program := "ytcpemjolabofnaa", sum := "00467e760cf0067ef4ac868b0aa0dd58f713a5a63963fc9101ac0e19baf05029", func := "seiche/seichelaw13.ExprLong", spec := "exprLong", unfollowed := true, recurses := true, apart := false }
def ExprLongSaid : Prop := exprLongRow.holds Try.pinned (OpenSpec.ofChange exprLongSpec)

/-- ITS FALSE NEIGHBOUR: 'it returns false'. Refute it at one input. -/
def exprLongWrong : ChangeSpec := { name := "exprLong", fn := fun _ => fun
  | [d] => { results := [.lit (.bool false)], args := [d] }
  | _ => none }
def ExprLongWrongFalsely : Prop := exprLongRow.holds Try.pinned (OpenSpec.ofChange exprLongWrong)

/-- 'seichelaw13.ExprParses': WHATEVER THE INPUT: true; the input reads as it did. -/
def exprParsesSpec : ChangeSpec := { name := "exprParses", fn := fun _ => fun
  | [d] => { results := [.lit (.bool true)], args := [d] }
  | _ => none }
def exprParsesRow : OpenClaim := { program := "ytcpemjolabofnaa", sum := "00467e760cf0067ef4ac868b0aa0dd58f713a5a63963fc9101ac0e19baf05029", func := "seiche/seichelaw13.ExprParses", spec := "exprParses", unfollowed := true, recurses := true, apart := false }
def ExprParsesSaid : Prop := exprParsesRow.holds Try.pinned (OpenSpec.ofChange exprParsesSpec)

/-- ITS FALSE NEIGHBOUR: 'it returns false'. Refute it at one input. -/
def exprParsesWrong : ChangeSpec := { name := "exprParses", fn := fun _ => fun
  | [d] => { results := [.lit (.bool false)], args := [d] }
  | _ => none }
def ExprParsesWrongFalsely : Prop := exprParsesRow.holds Try.pinned (OpenSpec.ofChange exprParsesWrong)

/-- 'seichelaw13.ExprEvals': WHATEVER THE INPUT: true; the input reads as it did. -/
def exprEvalsSpec : ChangeSpec := { name := "exprEvals", fn := fun _ => fun
  | [d1, d2] => { results := [.lit (.bool true)], args := [d1, d2] }
  | _ => none }
def exprEvalsRow : OpenClaim := { program := "ytcpemjolabofnaa", sum := "00467e760cf0067ef4ac868b0aa0dd58f713a5a63963fc9101ac0e19baf05029", func := "seiche/seichelaw13.ExprEvals", spec := "exprEvals", unfollowed := true, recurses := true, apart := false }
def ExprEvalsSaid : Prop := exprEvalsRow.holds Try.pinned (OpenSpec.ofChange exprEvalsSpec)

/-- ITS FALSE NEIGHBOUR: 'it returns false'. Refute it at one input. -/
def exprEvalsWrong : ChangeSpec := { name := "exprEvals", fn := fun _ => fun
  | [d1, d2] => { results := [.lit (.bool false)], args := [d1, d2] }
  | _ => none }
def ExprEvalsWrongFalsely : Prop := exprEvalsRow.holds Try.pinned (OpenSpec.ofChange exprEvalsWrong)

/-- 'seichelaw13.ExprMeans': WHATEVER THE INPUT: true; the input reads as it did. -/
def exprMeansSpec : ChangeSpec := { name := "exprMeans", fn := fun _ => fun
  | [d1, d2] => { results := [.lit (.bool true)], args := [d1, d2] }
  | _ => none }
def exprMeansRow : OpenClaim := { program := "ytcpemjolabofnaa", sum := "00467e760cf0067ef4ac868b0aa0dd58f713a5a63963fc9101ac0e19baf05029", func := "seiche/seichelaw13.ExprMeans", spec := "exprMeans", unfollowed := true, recurses := true, apart := false }
def ExprMeansSaid : Prop := exprMeansRow.holds Try.pinned (OpenSpec.ofChange exprMeansSpec)

/-- ITS FALSE NEIGHBOUR: 'it returns false'. Refute it at one input. -/
def exprMeansWrong : ChangeSpec := { name := "exprMeans", fn := fun _ => fun
  | [d1, d2] => { results := [.lit (.bool false)], args := [d1, d2] }
  | _ => none }
def ExprMeansWrongFalsely : Prop := exprMeansRow.holds Try.pinned (OpenSpec.ofChange exprMeansWrong)

/-- 'seichelaw13.ExprJoins': WHATEVER THE INPUT: true; the input reads as it did. -/
def exprJoinsSpec : ChangeSpec := { name := "exprJoins", fn := fun _ => fun
  | [d1, d2, d3] => { results := [.lit (.bool true)], args := [d1, d2, d3] }
  | _ => none }
def exprJoinsRow : OpenClaim := { program := "ytcpemjolabofnaa", sum := "00467e760cf0067ef4ac868b0aa0dd58f713a5a63963fc9101ac0e19baf05029", func := "seiche/seichelaw13.ExprJoins", spec := "exprJoins", unfollowed := true, recurses := true, apart := false }
def ExprJoinsSaid : Prop := exprJoinsRow.holds Try.pinned (OpenSpec.ofChange exprJoinsSpec)

/-- ITS FALSE NEIGHBOUR: 'it returns false'. Refute it at one input. -/
def exprJoinsWrong : ChangeSpec := { name := "exprJoins", fn := fun _ => fun
  | [d1, d2, d3] => { results := [.lit (.bool false)], args := [d1, d2, d3] }
  | _ => none }
def ExprJoinsWrongFalsely : Prop := exprJoinsRow.holds Try.pinned (OpenSpec.ofChange exprJoinsWrong)

/-- 'seichelaw13.ExprDeep': WHATEVER THE INPUT: true; the input reads as it did. -/
def exprDeepSpec : ChangeSpec := { name := "exprDeep", fn := fun _ => fun
  | [d1, d2] => { results := [.lit (.bool true)], args := [d1, d2] }
  | _ => none }
def exprDeepRow : OpenClaim := { program := "ytcpemjolabofnaa", sum := "00467e760cf0067ef4ac868b0aa0dd58f713a5a63963fc9101ac0e19baf05029", func := "seiche/seichelaw13.ExprDeep", spec := "exprDeep", unfollowed := true, recurses := true, apart := false }
def ExprDeepSaid : Prop := exprDeepRow.holds Try.pinned (OpenSpec.ofChange exprDeepSpec)

/-- ITS FALSE NEIGHBOUR: 'it returns false'. Refute it at one input. -/
def exprDeepWrong : ChangeSpec := { name := "exprDeep", fn := fun _ => fun
  | [d1, d2] => { results := [.lit (.bool false)], args := [d1, d2] }
  | _ => none }
def ExprDeepWrongFalsely : Prop := exprDeepRow.holds Try.pinned (OpenSpec.ofChange exprDeepWrong)

/-- 'seichelaw13.ExprOthers': WHATEVER THE INPUT: true; the input reads as it did. -/
def exprOthersSpec : ChangeSpec := { name := "exprOthers", fn := fun _ => fun
  | [d1, d2, d3] => { results := [.lit (.bool true)], args := [d1, d2, d3] }
  | _ => none }
def exprOthersRow : OpenClaim := { program := "ytcpemjolabofnaa", sum := "00467e760cf0067ef4ac868b0aa0dd58f713a5a63963fc9101ac0e19baf05029", func := "seiche/seichelaw13.ExprOthers", spec := "exprOthers", unfollowed := true, recurses := true, apart := false }
def ExprOthersSaid : Prop := exprOthersRow.holds Try.pinned (OpenSpec.ofChange exprOthersSpec)

/-- ITS FALSE NEIGHBOUR: 'it returns false'. Refute it at one input. -/
def exprOthersWrong : ChangeSpec := { name := "exprOthers", fn := fun _ => fun
  | [d1, d2, d3] => { results := [.lit (.bool false)], args := [d1, d2, d3] }
  | _ => none }
def ExprOthersWrongFalsely : Prop := exprOthersRow.holds Try.pinned (OpenSpec.ofChange exprOthersWrong)

/- THE SECOND FORM. 'bulk': how many values and letters a reading holds, each counted each time it is reached (what is shared counts as often as it is met; a slice's spare places count too). A statement '..UptoSaid' is the law's where the arguments, and the package variables that the reading takes, are together of bulk at most 1048576: NARROWER than '..Said'. Prove '..Said' where nothing that the law and all that it calls make is longer than what came in: it says more and counts as full. Else prove '..UptoSaid'. A law counts once. -/
mutual
def uptoBulk {H : Type} : DataW H → Nat
  | .lit (.string bytes) => bytes.length + 1
  | .lit _ => 1
  | .nil => 1
  | .ptr d => uptoBulk d + 1
  | .slice elems spare => uptoBulkAll elems + uptoBulkAll spare + 1
  | .agg parts => uptoBulkAll parts + 1
  | .iface _ d => uptoBulk d + 1
  | .map entries => uptoBulkEntries entries + 1
  | .held _ => 1
def uptoBulkAll {H : Type} : List (DataW H) → Nat
  | [] => 0
  | d :: r => uptoBulk d + uptoBulkAll r
def uptoBulkEntries {H : Type} : List (Lit × DataW H) → Nat
  | [] => 0
  | x :: r => uptoBulkEntry x + uptoBulkEntries r
def uptoBulkEntry {H : Type} : Lit × DataW H → Nat
  | (.string bytes, d) => bytes.length + uptoBulk d + 1
  | (_, d) => uptoBulk d + 1
 end
def uptoSmall : (H : Type) → List (DataW H) → Bool := fun _ ds => decide (uptoBulkAll ds ≤ 1048576)
def OpenSpec.upto (s : _root_.Go.ChangeSpec) : _root_.Go.OpenSpec := { _root_.Go.OpenSpec.ofChange s with cond := some uptoSmall }

/-- 'seichelaw13.ExprLong', WHERE WHAT IT READS IS OF BULK AT MOST 1048576: true; the input reads as it did. -/
def exprLongUptoRow : OpenClaim := { program := "ytcpemjolabofnaa", sum := "00467e760cf0067ef4ac868b0aa0dd58f713a5a63963fc9101ac0e19baf05029", func := "seiche/seichelaw13.ExprLong", spec := "exprLong", unfollowed := true, recurses := true, apart := false, narrowed := true }
def ExprLongUptoSaid : Prop := exprLongUptoRow.holds Try.pinned (OpenSpec.upto exprLongSpec)

/-- 'seichelaw13.ExprParses', WHERE WHAT IT READS IS OF BULK AT MOST 1048576: true; the input reads as it did. -/
def exprParsesUptoRow : OpenClaim := { program := "ytcpemjolabofnaa", sum := "00467e760cf0067ef4ac868b0aa0dd58f713a5a63963fc9101ac0e19baf05029", func := "seiche/seichelaw13.ExprParses", spec := "exprParses", unfollowed := true, recurses := true, apart := false, narrowed := true }
def ExprParsesUptoSaid : Prop := exprParsesUptoRow.holds Try.pinned (OpenSpec.upto exprParsesSpec)

/-- 'seichelaw13.ExprEvals', WHERE WHAT IT READS IS OF BULK AT MOST 1048576: true; the input reads as it did. -/
def exprEvalsUptoRow : OpenClaim := { program := "ytcpemjolabofnaa", sum := "00467e760cf0067ef4ac868b0aa0dd58f713a5a63963fc9101ac0e19baf05029", func := "seiche/seichelaw13.ExprEvals", spec := "exprEvals", unfollowed := true, recurses := true, apart := false, narrowed := true }
def ExprEvalsUptoSaid : Prop := exprEvalsUptoRow.holds Try.pinned (OpenSpec.upto exprEvalsSpec)

/-- 'seichelaw13.ExprMeans', WHERE WHAT IT READS IS OF BULK AT MOST 1048576: true; the input reads as it did. -/
def exprMeansUptoRow : OpenClaim := { program := "ytcpemjolabofnaa", sum := "00467e760cf0067ef4ac868b0aa0dd58f713a5a63963fc9101ac0e19baf05029", func := "seiche/seichelaw13.ExprMeans", spec := "exprMeans", unfollowed := true, recurses := true, apart := false, narrowed := true }
def ExprMeansUptoSaid : Prop := exprMeansUptoRow.holds Try.pinned (OpenSpec.upto exprMeansSpec)

/-- 'seichelaw13.ExprJoins', WHERE WHAT IT READS IS OF BULK AT MOST 1048576: true; the input reads as it did. -/
def exprJoinsUptoRow : OpenClaim := { program := "ytcpemjolabofnaa", sum := "00467e760cf0067ef4ac868b0aa0dd58f713a5a63963fc9101ac0e19baf05029", func := "seiche/seichelaw13.ExprJoins", spec := "exprJoins", unfollowed := true, recurses := true, apart := false, narrowed := true }
def ExprJoinsUptoSaid : Prop := exprJoinsUptoRow.holds Try.pinned (OpenSpec.upto exprJoinsSpec)

/-- 'seichelaw13.ExprDeep', WHERE WHAT IT READS IS OF BULK AT MOST 1048576: true; the input reads as it did. -/
def exprDeepUptoRow : OpenClaim := { program := "ytcpemjolabofnaa", sum := "00467e760cf0067ef4ac868b0aa0dd58f713a5a63963fc9101ac0e19baf05029", func := "seiche/seichelaw13.ExprDeep", spec := "exprDeep", unfollowed := true, recurses := true, apart := false, narrowed := true }
def ExprDeepUptoSaid : Prop := exprDeepUptoRow.holds Try.pinned (OpenSpec.upto exprDeepSpec)

/-- 'seichelaw13.ExprOthers', WHERE WHAT IT READS IS OF BULK AT MOST 1048576: true; the input reads as it did. -/
def exprOthersUptoRow : OpenClaim := { program := "ytcpemjolabofnaa", sum := "00467e760cf0067ef4ac868b0aa0dd58f713a5a63963fc9101ac0e19baf05029", func := "seiche/seichelaw13.ExprOthers", spec := "exprOthers", unfollowed := true, recurses := true, apart := false, narrowed := true }
def ExprOthersUptoSaid : Prop := exprOthersUptoRow.holds Try.pinned (OpenSpec.upto exprOthersSpec)

end Rows
end Go.Proofs.Ytcpemjolabofnaa
