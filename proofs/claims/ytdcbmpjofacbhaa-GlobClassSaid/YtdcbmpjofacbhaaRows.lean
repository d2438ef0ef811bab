/-
  No cell of these rows narrows 'for every input' (looked for: loops, veiled, ifaces, maps, wideKeys, modest, calm, conditions, laid).
  DERIVED. THE GIVEN ROWS OF THIS SEAT. 5 by the template 'for every input the law returns true; each argument reads behind the call as it read before'; 0 by the template 'total and deterministic' (their statements: YtdcbmpjofacbhaaTotals.lean).
  GIVEN WITH THE SEED: the statements are not yours to turn. If you find one false, say at which input.
  Laid BY PROGRAM, IN A SANDBOX (cutbox-rows.mjs): the forced cells as the released guide's own fill.sh prints them over the translation c35b9d1be40eb3dc… (all of the seat's roots in one cut). By AI agents, Wed Nov 11 2026. No macro, syntax, notation, axiom, sorry.
-/
import Derived.Test.YtdcbmpjofacbhaaChecked
import GoSem.Claim
import GoSem.ClaimJoined
import GoSem.ClaimMapViews
import Derived.JoinedTies
import Derived.KernelRfl
namespace Go.Proofs.Ytdcbmpjofacbhaa
/- THE CELL 'sum', in the pinned program and in every row, IS THE sha256 OF THE DUMP (.gsa) THAT YtdcbmpjofacbhaaProg.lean LOADS. Nothing in Lean hashes anything: it is a label: what it is worth is what the hold of that sum in a sandbox is worth. -/
noncomputable def Try.pinned : Pinned := { name := "ytdcbmpjofacbhaa", sum := "c35b9d1be40eb3dcb0c18545fa74456bc9ba71b7da32eca71346f2accc304147", checked := Try.checked }
namespace Rows
def none {H : Type} : Left H := { results := [], args := [] }

/-- 'seichelaw19.GlobQuotes': WHATEVER THE INPUT: true; the input reads as it did. -/
def globQuotesSpec : ChangeSpec := { name := "globQuotes", fn := fun _ => fun
  | [d1, d2] => { results := [.lit (.bool true)], args := [d1, d2] }
  | _ => none }
def globQuotesRow : OpenClaim := { program := "ytdcbmpjofacbhaa", sum := "c35b9d1be40eb3dcb0c18545fa74456bc9ba71b7da32eca71346f2accc304147", func := "seiche/seichelaw19.GlobQuotes", spec := "globQuotes", apart := false }
def GlobQuotesSaid : Prop := globQuotesRow.holds Try.pinned (OpenSpec.ofChange globQuotesSpec)

/-- ITS FALSE NEIGHBOUR: 'it returns false'. Refute it at one input. -/
def globQuotesWrong : ChangeSpec := { name := "globQuotes", fn := fun _ => fun
  | [d1, d2] => { results := [.lit (.bool false)], args := [d1, d2] }
  | _ => none }
def GlobQuotesWrongFalsely : Prop := globQuotesRow.holds Try.pinned (OpenSpec.ofChange globQuotesWrong)

/-- 'seichelaw19.GlobJoins': WHATEVER THE INPUT: true; the input reads as it did. -/
def globJoinsSpec : ChangeSpec := { name := "globJoins", fn := fun _ => fun
  | [d1, d2, d3, d4] => { results := [.lit (.bool true)], args := [d1, d2, d3, d4] }
  | _ => none }
def globJoinsRow : OpenClaim := { program := "ytdcbmpjofacbhaa", sum := "c35b9d1be40eb3dcb0c18545fa74456bc9ba71b7da32eca71346f2accc304147", func := "seiche/seichelaw19.GlobJoins", spec := "globJoins", apart := false }
def GlobJoinsSaid : Prop := globJoinsRow.holds Try.pinned (OpenSpec.ofChange globJoinsSpec)

/-- ITS FALSE NEIGHBOUR: 'it returns false'. Refute it at one input. -/
def globJoinsWrong : ChangeSpec := { name := "globJoins", fn := fun _ => fun
  | [d1, d2, d3, d4] => { results := [.lit (.bool false)], args := [d1, d2, d3, d4] }
  | _ => none }
def GlobJoinsWrongFalsely : Prop := globJoinsRow.holds Try.pinned (OpenSpec.ofChange globJoinsWrong)

/-- 'seichelaw19.GlobLong': WHATEVER THE INPUT: true; the input reads as it did. -/
def globLongSpec : ChangeSpec := { name := "globLong", fn := fun _ => fun
  | [d1, d2, d3] => { results := [.lit (.bool true)], args := [d1, d2, d3] }
  | _ => none }
def globLongRow : OpenClaim := { program := "ytdcbmpjofacbhaa", sum := "c35b9d1be40eb3dcb0c18545fa74456bc9ba71b7da32eca71346f2accc304147", func := "seiche/seichelaw19.GlobLong", spec := "globLong", apart := false }
def GlobLongSaid : Prop := globLongRow.holds Try.pinned (OpenSpec.ofChange globLongSpec)

/-- ITS FALSE NEIGHBOUR: 'it returns false'. Refute it at one input. -/
def globLongWrong : ChangeSpec := { name := "globLong", fn := fun _ => fun
  | [d1, d2, d3] => { results := [.lit (.bool false)], args := [d1, d2, d3] }
  | _ => none }
def GlobLongWrongFalsely : Prop := globLongRow.holds Try.pinned (OpenSpec.ofChange globLongWrong)

/-- 'seichelaw19.GlobCounts': WHATEVER THE INPUT: true; the input reads as it did. -/
def globCountsSpec : ChangeSpec := { name := "globCounts", fn := fun _ => fun
  | [d1, d2] => { results := [.lit (.bool true)], args := [d1, d2] }
  | _ => none }
def globCountsRow : OpenClaim := { program := "ytdcbmpjofacbhaa", sum := "c35b9d1be40eb3dcb0c18545fa74456bc9ba71b7da32eca71346f2accc304147", func := "seiche/seichelaw19.GlobCounts", spec := "globCounts", apart := false }
def GlobCountsSaid : Prop := globCountsRow.holds Try.pinned (OpenSpec.ofChange globCountsSpec)

/-- ITS FALSE NEIGHBOUR: 'it returns false'. Refute it at one input. -/
def globCountsWrong : ChangeSpec := { name := "globCounts", fn := fun _ => fun
  | [d1, d2] => { results := [.lit (.bool false)], args := [d1, d2] }
  | _ => none }
def GlobCountsWrongFalsely : Prop := globCountsRow.holds Try.pinned (OpenSpec.ofChange globCountsWrong)

/-- 'seichelaw19.GlobClass': WHATEVER THE INPUT: true; the input reads as it did. -/
def globClassSpec : ChangeSpec := { name := "globClass", fn := fun _ => fun
  | [d1, d2, d3] => { results := [.lit (.bool true)], args := [d1, d2, d3] }
  | _ => none }
def globClassRow : OpenClaim := { program := "ytdcbmpjofacbhaa", sum := "c35b9d1be40eb3dcb0c18545fa74456bc9ba71b7da32eca71346f2accc304147", func := "seiche/seichelaw19.GlobClass", spec := "globClass", apart := false }
def GlobClassSaid : Prop := globClassRow.holds Try.pinned (OpenSpec.ofChange globClassSpec)

/-- ITS FALSE NEIGHBOUR: 'it returns false'. Refute it at one input. -/
def globClassWrong : ChangeSpec := { name := "globClass", fn := fun _ => fun
  | [d1, d2, d3] => { results := [.lit (.bool false)], args := [d1, d2, d3] }
  | _ => none }
def GlobClassWrongFalsely : Prop := globClassRow.holds Try.pinned (OpenSpec.ofChange globClassWrong)

/- THE SECOND FORM. 'bulk': how many values and letters a reading holds, each counted each time it is reached (what is shared counts as often as it is met; a slice's spare places count too). A statement '..UptoSaid' is the law's where the arguments, and the package variables that the reading takes, are together of bulk at most 1048576: NARROWER than '..Said'. Prove '..Said' where nothing that the law and all that it calls make is longer than what came in: it says more and counts as full. Else prove '..UptoSaid'. A law counts once. -/
mutual
def uptoBulk {H : Type} : DataW H → Nat
  | .lit (.string bytes) => bytes.length + 1
  | .lit _ => 1
  | .nil => 1
  | .ptr d => uptoBulk d + 1
  | .slice elems spare => uptoBulkAll elems + uptoBulkAll spare + 1
  | .agg parts => uptoBulkAll parts + 1
  | .iface _ d => uptoBulk d + 1
  | .map entries => uptoBulkEntries entries + 1
  | .held _ => 1
def uptoBulkAll {H : Type} : List (DataW H) → Nat
  | [] => 0
  | d :: r => uptoBulk d + uptoBulkAll r
def uptoBulkEntries {H : Type} : List (Lit × DataW H) → Nat
  | [] => 0
  | x :: r => uptoBulkEntry x + uptoBulkEntries r
def uptoBulkEntry {H : Type} : Lit × DataW H → Nat
  | (.string bytes, d) => bytes.length + uptoBulk d + 1
  | (_, d) => uptoBulk d + 1
 end
def uptoSmall : (H : Type) → List (DataW H) → Bool := fun _ ds => decide (uptoBulkAll ds ≤ 1048576)
def OpenSpec.upto (s : _root_.Go.ChangeSpec) : _root_.Go.OpenSpec := { _root_.Go.OpenSpec.ofChange s with cond := some uptoSmall }

/-- 'seichelaw19.GlobQuotes', WHERE WHAT IT READS IS OF BULK AT MOST 1048576: true; the input reads as it did. -/
def globQuotesUptoRow : OpenClaim := { program := "ytdcbmpjofacbhaa", sum := "c35b9d1be40eb3dcb0c18545fa74456bc9ba71b7da32eca71346f2accc304147", func := "seiche/seichelaw19.GlobQuotes", spec := "globQuotes", apart := false, narrowed := true }
def GlobQuotesUptoSaid : Prop := globQuotesUptoRow.holds Try.pinned (OpenSpec.upto globQuotesSpec)

/-- 'seichelaw19.GlobJoins', WHERE WHAT IT READS IS OF BULK AT MOST 1048576: true; the input reads as it did. -/
def globJoinsUptoRow : OpenClaim := { program := "ytdcbmpjofacbhaa", sum := "c35b9d1be40eb3dcb0c18545fa74456bc9ba71b7da32eca71346f2accc304147", func := "seiche/seichelaw19.GlobJoins", spec := "globJoins", apart := false, narrowed := true }
def GlobJoinsUptoSaid : Prop := globJoinsUptoRow.holds Try.pinned (OpenSpec.upto globJoinsSpec)

/-- 'seichelaw19.GlobLong', WHERE WHAT IT READS IS OF BULK AT MOST 1048576: true; the input reads as it did. -/
def globLongUptoRow : OpenClaim := { program := "ytdcbmpjofacbhaa", sum := "c35b9d1be40eb3dcb0c18545fa74456bc9ba71b7da32eca71346f2accc304147", func := "seiche/seichelaw19.GlobLong", spec := "globLong", apart := false, narrowed := true }
def GlobLongUptoSaid : Prop := globLongUptoRow.holds Try.pinned (OpenSpec.upto globLongSpec)

/-- 'seichelaw19.GlobCounts', WHERE WHAT IT READS IS OF BULK AT MOST 1048576: true; the input reads as it did. -/
def globCountsUptoRow : OpenClaim := { program := "ytdcbmpjofacbhaa", sum := "c35b9d1be40eb3dcb0c18545fa74456bc9ba71b7da32eca71346f2accc304147", func := "seiche/seichelaw19.GlobCounts", spec := "globCounts", apart := false, narrowed := true }
def GlobCountsUptoSaid : Prop := globCountsUptoRow.holds Try.pinned (OpenSpec.upto globCountsSpec)

/-- 'seichelaw19.GlobClass', WHERE WHAT IT READS IS OF BULK AT MOST 1048576: true; the input reads as it did. -/
def globClassUptoRow : OpenClaim := { program := "ytdcbmpjofacbhaa", sum := "c35b9d1be40eb3dcb0c18545fa74456bc9ba71b7da32eca71346f2accc304147", func := "seiche/seichelaw19.GlobClass", spec := "globClass", apart := false, narrowed := true }
def GlobClassUptoSaid : Prop := globClassUptoRow.holds Try.pinned (OpenSpec.upto globClassSpec)

end Rows
end Go.Proofs.Ytdcbmpjofacbhaa
