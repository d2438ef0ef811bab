/-
  No cell of these rows narrows 'for every input' (looked for: loops, veiled, ifaces, maps, wideKeys, modest, calm, conditions, laid).
  DERIVED. THE GIVEN ROWS OF THIS SEAT. 6 by the template 'for every input the law returns true; each argument reads behind the call as it read before'; 0 by the template 'total and deterministic' (their statements: YtclkcipakncjkaaTotals.lean).
  GIVEN WITH THE SEED: the statements are not yours to turn. If you find one false, say at which input.
  Laid BY PROGRAM, IN A SANDBOX (cutbox-rows.mjs): the forced cells as the released guide's own fill.sh prints them over the translation ee75e8346f26b094… (all of the seat's roots in one cut). By AI agents, Wed Nov 11 2026. No macro, syntax, notation, axiom, sorry.
-/
import Derived.Test.YtclkcipakncjkaaChecked
import GoSem.Claim
import GoSem.ClaimJoined
import GoSem.ClaimMapViews
import Derived.JoinedTies
import Derived.KernelRfl
namespace Go.Proofs.Ytclkcipakncjkaa
/- THE CELL 'sum', in the pinned program and in every row, IS THE sha256 OF THE DUMP (.gsa) THAT YtclkcipakncjkaaProg.lean LOADS. Nothing in Lean hashes anything: it is a label: what it is worth is what the hold of that sum in a sandbox is worth. -/
noncomputable def Try.pinned : Pinned := { name := "ytclkcipakncjkaa", sum := "ee75e8346f26b0945c19babbd89349c3775456a8485f2cc642e7b752aa2a75a0", checked := Try.checked }
namespace Rows
def none {H : Type} : Left H := { results := [], args := [] }

/-- 'seichelaw05.KvlogOrders': WHATEVER THE INPUT: true; the input reads as it did. -/
def kvlogOrdersSpec : ChangeSpec := { name := "kvlogOrders", fn := fun _ => fun
  | [d1, d2, d3] => { results := [.lit (.bool true)], args := [d1, d2, d3] }
  | _ => none }
def kvlogOrdersRow : OpenClaim := { program := "ytclkcipakncjkaa", sum := "ee75e8346f26b0945c19babbd89349c3775456a8485f2cc642e7b752aa2a75a0", func := "seiche/seichelaw05.KvlogOrders", spec := "kvlogOrders", unfollowed := true, recurses := true, apart := false }
def KvlogOrdersSaid : Prop := kvlogOrdersRow.holds Try.pinned (OpenSpec.ofChange kvlogOrdersSpec)

/-- ITS FALSE NEIGHBOUR: 'it returns false'. Refute it at one input. -/
def kvlogOrdersWrong : ChangeSpec := { name := "kvlogOrders", fn := fun _ => fun
  | [d1, d2, d3] => { results := [.lit (.bool false)], args := [d1, d2, d3] }
  | _ => none }
def KvlogOrdersWrongFalsely : Prop := kvlogOrdersRow.holds Try.pinned (OpenSpec.ofChange kvlogOrdersWrong)

/-- 'seichelaw05.KvlogDoes': WHATEVER THE INPUT: true; the input reads as it did. -/
def kvlogDoesSpec : ChangeSpec := { name := "kvlogDoes", fn := fun _ => fun
  | [d1, d2, d3] => { results := [.lit (.bool true)], args := [d1, d2, d3] }
  | _ => none }
def kvlogDoesRow : OpenClaim := { program := "ytclkcipakncjkaa", sum := "ee75e8346f26b0945c19babbd89349c3775456a8485f2cc642e7b752aa2a75a0", func := "seiche/seichelaw05.KvlogDoes", spec := "kvlogDoes", unfollowed := true, recurses := true, apart := false }
def KvlogDoesSaid : Prop := kvlogDoesRow.holds Try.pinned (OpenSpec.ofChange kvlogDoesSpec)

/-- ITS FALSE NEIGHBOUR: 'it returns false'. Refute it at one input. -/
def kvlogDoesWrong : ChangeSpec := { name := "kvlogDoes", fn := fun _ => fun
  | [d1, d2, d3] => { results := [.lit (.bool false)], args := [d1, d2, d3] }
  | _ => none }
def KvlogDoesWrongFalsely : Prop := kvlogDoesRow.holds Try.pinned (OpenSpec.ofChange kvlogDoesWrong)

/-- 'seichelaw05.KvlogFull': WHATEVER THE INPUT: true; the input reads as it did. -/
def kvlogFullSpec : ChangeSpec := { name := "kvlogFull", fn := fun _ => fun
  | [d1, d2] => { results := [.lit (.bool true)], args := [d1, d2] }
  | _ => none }
def kvlogFullRow : OpenClaim := { program := "ytclkcipakncjkaa", sum := "ee75e8346f26b0945c19babbd89349c3775456a8485f2cc642e7b752aa2a75a0", func := "seiche/seichelaw05.KvlogFull", spec := "kvlogFull", unfollowed := true, recurses := true, apart := false }
def KvlogFullSaid : Prop := kvlogFullRow.holds Try.pinned (OpenSpec.ofChange kvlogFullSpec)

/-- ITS FALSE NEIGHBOUR: 'it returns false'. Refute it at one input. -/
def kvlogFullWrong : ChangeSpec := { name := "kvlogFull", fn := fun _ => fun
  | [d1, d2] => { results := [.lit (.bool false)], args := [d1, d2] }
  | _ => none }
def KvlogFullWrongFalsely : Prop := kvlogFullRow.holds Try.pinned (OpenSpec.ofChange kvlogFullWrong)

/-- 'seichelaw05.KvlogApart': WHATEVER THE INPUT: true; the input reads as it did. -/
def kvlogApartSpec : ChangeSpec := { name := "kvlogApart", fn := fun _ => fun
  | [d1, d2] => { results := [.lit (.bool true)], args := [d1, d2] }
  | _ => none }
def kvlogApartRow : OpenClaim := { program := "ytclkcipakncjkaa", sum := "ee75e8346f26b0945c19babbd89349c3775456a8485f2cc642e7b752aa2a75a0", func := "seiche/seichelaw05.KvlogApart", spec := "kvlogApart", unfollowed := true, recurses := true, apart := false }
def KvlogApartSaid : Prop := kvlogApartRow.holds Try.pinned (OpenSpec.ofChange kvlogApartSpec)

/-- ITS FALSE NEIGHBOUR: 'it returns false'. Refute it at one input. -/
def kvlogApartWrong : ChangeSpec := { name := "kvlogApart", fn := fun _ => fun
  | [d1, d2] => { results := [.lit (.bool false)], args := [d1, d2] }
  | _ => none }
def KvlogApartWrongFalsely : Prop := kvlogApartRow.holds Try.pinned (OpenSpec.ofChange kvlogApartWrong)

/-- 'seichelaw05.KvlogLoses': WHATEVER THE INPUT: true; the input reads as it did. -/
def kvlogLosesSpec : ChangeSpec := { name := "kvlogLoses", fn := fun _ => fun
  | [d1, d2] => { results := [.lit (.bool true)], args := [d1, d2] }
  | _ => none }
def kvlogLosesRow : OpenClaim := { program := "ytclkcipakncjkaa", sum := "ee75e8346f26b0945c19babbd89349c3775456a8485f2cc642e7b752aa2a75a0", func := "seiche/seichelaw05.KvlogLoses", spec := "kvlogLoses", unfollowed := true, recurses := true, apart := false }
def KvlogLosesSaid : Prop := kvlogLosesRow.holds Try.pinned (OpenSpec.ofChange kvlogLosesSpec)

/-- ITS FALSE NEIGHBOUR: 'it returns false'. Refute it at one input. -/
def kvlogLosesWrong : ChangeSpec := { name := "kvlogLoses", fn := fun _ => fun
  | [d1, d2] => { results := [.lit (.bool false)], args := [d1, d2] }
  | _ => none }
def KvlogLosesWrongFalsely : Prop := kvlogLosesRow.holds Try.pinned (OpenSpec.ofChange kvlogLosesWrong)

/-- 'seichelaw05.KvlogAgain': WHATEVER THE INPUT: true; the input reads as it did. -/
def kvlogAgainSpec : ChangeSpec := { name := "kvlogAgain", fn := fun _ => fun
  | [d1, d2, d3, d4, d5] => { results := [.lit (.bool true)], args := [d1, d2, d3, d4, d5] }
  | _ => none }
def kvlogAgainRow : OpenClaim := { program := "ytclkcipakncjkaa", sum := "ee75e8346f26b0945c19babbd89349c3775456a8485f2cc642e7b752aa2a75a0", func := "seiche/seichelaw05.KvlogAgain", spec := "kvlogAgain", unfollowed := true, recurses := true, apart := false }
def KvlogAgainSaid : Prop := kvlogAgainRow.holds Try.pinned (OpenSpec.ofChange kvlogAgainSpec)

/-- ITS FALSE NEIGHBOUR: 'it returns false'. Refute it at one input. -/
def kvlogAgainWrong : ChangeSpec := { name := "kvlogAgain", fn := fun _ => fun
  | [d1, d2, d3, d4, d5] => { results := [.lit (.bool false)], args := [d1, d2, d3, d4, d5] }
  | _ => none }
def KvlogAgainWrongFalsely : Prop := kvlogAgainRow.holds Try.pinned (OpenSpec.ofChange kvlogAgainWrong)

/- THE SECOND FORM. 'bulk': how many values and letters a reading holds, each counted each time it is reached (what is shared counts as often as it is met; a slice's spare places count too). A statement '..UptoSaid' is the law's where the arguments, and the package variables that the reading takes, are together of bulk at most 1048576: NARROWER than '..Said'. Prove '..Said' where nothing that the law and all that it calls make is longer than what came in: it says more and counts as full. Else prove '..UptoSaid'. A law counts once. -/
mutual
def uptoBulk {H : Type} : DataW H → Nat
  | .lit (.string bytes) => bytes.length + 1
  | .lit _ => 1
  | .nil => 1
  | .ptr d => uptoBulk d + 1
  | .slice elems spare => uptoBulkAll elems + uptoBulkAll spare + 1
  | .agg parts => uptoBulkAll parts + 1
  | .iface _ d => uptoBulk d + 1
  | .map entries => uptoBulkEntries entries + 1
  | .held _ => 1
def uptoBulkAll {H : Type} : List (DataW H) → Nat
  | [] => 0
  | d :: r => uptoBulk d + uptoBulkAll r
def uptoBulkEntries {H : Type} : List (Lit × DataW H) → Nat
  | [] => 0
  | x :: r => uptoBulkEntry x + uptoBulkEntries r
def uptoBulkEntry {H : Type} : Lit × DataW H → Nat
  | (.string bytes, d) => bytes.length + uptoBulk d + 1
  | (_, d) => uptoBulk d + 1
 end
def uptoSmall : (H : Type) → List (DataW H) → Bool := fun _ ds => decide (uptoBulkAll ds ≤ 1048576)
def OpenSpec.upto (s : _root_.Go.ChangeSpec) : _root_.Go.OpenSpec := { _root_.Go.OpenSpec.ofChange s with cond := some uptoSmall }

/-- 'seichelaw05.KvlogOrders', WHERE WHAT IT READS IS OF BULK AT MOST 1048576: true; the input reads as it did. -/
def kvlogOrdersUptoRow : OpenClaim := { program := "ytclkcipakncjkaa", sum := "ee75e8346f26b0945c19babbd89349c3775456a8485f2cc642e7b752aa2a75a0", func := "seiche/seichelaw05.KvlogOrders", spec := "kvlogOrders", unfollowed := true, recurses := true, apart := false, narrowed := true }
def KvlogOrdersUptoSaid : Prop := kvlogOrdersUptoRow.holds Try.pinned (OpenSpec.upto kvlogOrdersSpec)

/-- 'seichelaw05.KvlogDoes', WHERE WHAT IT READS IS OF BULK AT MOST 1048576: true; the input reads as it did. -/
def kvlogDoesUptoRow : OpenClaim := { program := "ytclkcipakncjkaa", sum := "ee75e8346f26b0945c19babbd89349c3775456a8485f2cc642e7b752aa2a75a0", func := "seiche/seichelaw05.KvlogDoes", spec := "kvlogDoes", unfollowed := true, recurses := true, apart := false, narrowed := true }
def KvlogDoesUptoSaid : Prop := kvlogDoesUptoRow.holds Try.pinned (OpenSpec.upto kvlogDoesSpec)

/-- 'seichelaw05.KvlogFull', WHERE WHAT IT READS IS OF BULK AT MOST 1048576: true; the input reads as it did. -/
def kvlogFullUptoRow : OpenClaim := { program := "ytclkcipakncjkaa", sum := "ee75e8346f26b0945c19babbd89349c3775456a8485f2cc642e7b752aa2a75a0", func := "seiche/seichelaw05.KvlogFull", spec := "kvlogFull", unfollowed := true, recurses := true, apart := false, narrowed := true }
def KvlogFullUptoSaid : Prop := kvlogFullUptoRow.holds Try.pinned (OpenSpec.upto kvlogFullSpec)

/-- 'seichelaw05.KvlogApart', WHERE WHAT IT READS IS OF BULK AT MOST 1048576: true; the input reads as it did. -/
def kvlogApartUptoRow : OpenClaim := { program := "ytclkcipakncjkaa", sum := "ee75e8346f26b0945c19babbd89349c3775456a8485f2cc642e7b752aa2a75a0", func := "seiche/seichelaw05.KvlogApart", spec := "kvlogApart", unfollowed := true, recurses := true, apart := false, narrowed := true }
def KvlogApartUptoSaid : Prop := kvlogApartUptoRow.holds Try.pinned (OpenSpec.upto kvlogApartSpec)

/-- 'seichelaw05.KvlogLoses', WHERE WHAT IT READS IS OF BULK AT MOST 1048576: true; the input reads as it did. -/
def kvlogLosesUptoRow : OpenClaim := { program := "ytclkcipakncjkaa", sum := "ee75e8346f26b0945c19babbd89349c3775456a8485f2cc642e7b752aa2a75a0", func := "seiche/seichelaw05.KvlogLoses", spec := "kvlogLoses", unfollowed := true, recurses := true, apart := false, narrowed := true }
def KvlogLosesUptoSaid : Prop := kvlogLosesUptoRow.holds Try.pinned (OpenSpec.upto kvlogLosesSpec)

/-- 'seichelaw05.KvlogAgain', WHERE WHAT IT READS IS OF BULK AT MOST 1048576: true; the input reads as it did. -/
def kvlogAgainUptoRow : OpenClaim := { program := "ytclkcipakncjkaa", sum := "ee75e8346f26b0945c19babbd89349c3775456a8485f2cc642e7b752aa2a75a0", func := "seiche/seichelaw05.KvlogAgain", spec := "kvlogAgain", unfollowed := true, recurses := true, apart := false, narrowed := true }
def KvlogAgainUptoSaid : Prop := kvlogAgainUptoRow.holds Try.pinned (OpenSpec.upto kvlogAgainSpec)

end Rows
end Go.Proofs.Ytclkcipakncjkaa
