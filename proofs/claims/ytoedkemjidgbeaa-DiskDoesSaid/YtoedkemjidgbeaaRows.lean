/-
  No cell of these rows narrows 'for every input' (looked for: loops, veiled, ifaces, maps, wideKeys, modest, calm, conditions, laid).
  DERIVED. THE GIVEN ROWS OF THIS SEAT. 7 by the template 'for every input the law returns true; each argument reads behind the call as it read before'; 0 by the template 'total and deterministic' (their statements: YtoedkemjidgbeaaTotals.lean).
  GIVEN WITH THE SEED: the statements are not yours to turn. If you find one false, say at which input.
  Laid BY PROGRAM, IN A SANDBOX (cutbox-rows.mjs): the forced cells as the released guide's own fill.sh prints them over the translation 0d34ca6bf55da801… (all of the seat's roots in one cut). By AI agents, Wed Nov 11 2026. No macro, syntax, notation, axiom, sorry.
-/
import Derived.Test.YtoedkemjidgbeaaChecked
import GoSem.Claim
import GoSem.ClaimJoined
import GoSem.ClaimMapViews
import Derived.JoinedTies
import Derived.KernelRfl
namespace Go.Proofs.Ytoedkemjidgbeaa
/- THE CELL 'sum', in the pinned program and in every row, IS THE sha256 OF THE DUMP (.gsa) THAT YtoedkemjidgbeaaProg.lean LOADS. Nothing in Lean hashes anything: it is a label: what it is worth is what the hold of that sum in a sandbox is worth. -/
noncomputable def Try.pinned : Pinned := { name := "ytoedkemjidgbeaa", sum := "0d34ca6bf55da801113db36f29e0540d73d873a5447e0568f0b3135b60682057", checked := Try.checked }
namespace Rows
def none {H : Type} : Left H := { results := [], args := [] }

/-- 'seichelaw03.DiskKeeps': WHATEVER THE INPUT: true; the input reads as it did. -/
def diskKeepsSpec : ChangeSpec := { name := "diskKeeps", fn := fun _ => fun
  | [d] => { results := [.lit (.bool true)], args := [d] }
  | _ => none }
def diskKeepsRow : OpenClaim := { program := "ytoedkemjidgbeaa", sum := "0d34ca6bf55da801113db36f29e0540d73d873a5447e0568f0b3135b60682057", func := "seiche/seichelaw03.DiskKeeps", spec := "diskKeeps", apart := false }
def DiskKeepsSaid : Prop := diskKeepsRow.holds Try.pinned (OpenSpec.ofChange diskKeepsSpec)

/-- ITS FALSE NEIGHBOUR: 'it returns false'. Refute it at one input. -/
def diskKeepsWrong : ChangeSpec := { name := "diskKeeps", fn := fun _ => fun
  | [d] => { results := [.lit (.bool false)], args := [d] }
  | _ => none }
def DiskKeepsWrongFalsely : Prop := diskKeepsRow.holds Try.pinned (OpenSpec.ofChange diskKeepsWrong)

/-- 'seichelaw03.DiskLoses': WHATEVER THE INPUT: true; the input reads as it did. -/
def diskLosesSpec : ChangeSpec := { name := "diskLoses", fn := fun _ => fun
  | [d1, d2, d3, d4, d5] => { results := [.lit (.bool true)], args := [d1, d2, d3, d4, d5] }
  | _ => none }
def diskLosesRow : OpenClaim := { program := "ytoedkemjidgbeaa", sum := "0d34ca6bf55da801113db36f29e0540d73d873a5447e0568f0b3135b60682057", func := "seiche/seichelaw03.DiskLoses", spec := "diskLoses", apart := false }
def DiskLosesSaid : Prop := diskLosesRow.holds Try.pinned (OpenSpec.ofChange diskLosesSpec)

/-- ITS FALSE NEIGHBOUR: 'it returns false'. Refute it at one input. -/
def diskLosesWrong : ChangeSpec := { name := "diskLoses", fn := fun _ => fun
  | [d1, d2, d3, d4, d5] => { results := [.lit (.bool false)], args := [d1, d2, d3, d4, d5] }
  | _ => none }
def DiskLosesWrongFalsely : Prop := diskLosesRow.holds Try.pinned (OpenSpec.ofChange diskLosesWrong)

/-- 'seichelaw03.DiskRenames': WHATEVER THE INPUT: true; the input reads as it did. -/
def diskRenamesSpec : ChangeSpec := { name := "diskRenames", fn := fun _ => fun
  | [d1, d2, d3, d4, d5] => { results := [.lit (.bool true)], args := [d1, d2, d3, d4, d5] }
  | _ => none }
def diskRenamesRow : OpenClaim := { program := "ytoedkemjidgbeaa", sum := "0d34ca6bf55da801113db36f29e0540d73d873a5447e0568f0b3135b60682057", func := "seiche/seichelaw03.DiskRenames", spec := "diskRenames", unfollowed := true, recurses := true, apart := false }
def DiskRenamesSaid : Prop := diskRenamesRow.holds Try.pinned (OpenSpec.ofChange diskRenamesSpec)

/-- ITS FALSE NEIGHBOUR: 'it returns false'. Refute it at one input. -/
def diskRenamesWrong : ChangeSpec := { name := "diskRenames", fn := fun _ => fun
  | [d1, d2, d3, d4, d5] => { results := [.lit (.bool false)], args := [d1, d2, d3, d4, d5] }
  | _ => none }
def DiskRenamesWrongFalsely : Prop := diskRenamesRow.holds Try.pinned (OpenSpec.ofChange diskRenamesWrong)

/-- 'seichelaw03.DiskCuts': WHATEVER THE INPUT: true; the input reads as it did. -/
def diskCutsSpec : ChangeSpec := { name := "diskCuts", fn := fun _ => fun
  | [d1, d2, d3, d4] => { results := [.lit (.bool true)], args := [d1, d2, d3, d4] }
  | _ => none }
def diskCutsRow : OpenClaim := { program := "ytoedkemjidgbeaa", sum := "0d34ca6bf55da801113db36f29e0540d73d873a5447e0568f0b3135b60682057", func := "seiche/seichelaw03.DiskCuts", spec := "diskCuts", unfollowed := true, recurses := true, apart := false }
def DiskCutsSaid : Prop := diskCutsRow.holds Try.pinned (OpenSpec.ofChange diskCutsSpec)

/-- ITS FALSE NEIGHBOUR: 'it returns false'. Refute it at one input. -/
def diskCutsWrong : ChangeSpec := { name := "diskCuts", fn := fun _ => fun
  | [d1, d2, d3, d4] => { results := [.lit (.bool false)], args := [d1, d2, d3, d4] }
  | _ => none }
def DiskCutsWrongFalsely : Prop := diskCutsRow.holds Try.pinned (OpenSpec.ofChange diskCutsWrong)

/-- 'seichelaw03.DiskFull': WHATEVER THE INPUT: true; the input reads as it did. -/
def diskFullSpec : ChangeSpec := { name := "diskFull", fn := fun _ => fun
  | [d1, d2] => { results := [.lit (.bool true)], args := [d1, d2] }
  | _ => none }
def diskFullRow : OpenClaim := { program := "ytoedkemjidgbeaa", sum := "0d34ca6bf55da801113db36f29e0540d73d873a5447e0568f0b3135b60682057", func := "seiche/seichelaw03.DiskFull", spec := "diskFull", unfollowed := true, recurses := true, apart := false }
def DiskFullSaid : Prop := diskFullRow.holds Try.pinned (OpenSpec.ofChange diskFullSpec)

/-- ITS FALSE NEIGHBOUR: 'it returns false'. Refute it at one input. -/
def diskFullWrong : ChangeSpec := { name := "diskFull", fn := fun _ => fun
  | [d1, d2] => { results := [.lit (.bool false)], args := [d1, d2] }
  | _ => none }
def DiskFullWrongFalsely : Prop := diskFullRow.holds Try.pinned (OpenSpec.ofChange diskFullWrong)

/-- 'seichelaw03.DiskTwins': WHATEVER THE INPUT: true; the input reads as it did. -/
def diskTwinsSpec : ChangeSpec := { name := "diskTwins", fn := fun _ => fun
  | [d1, d2] => { results := [.lit (.bool true)], args := [d1, d2] }
  | _ => none }
def diskTwinsRow : OpenClaim := { program := "ytoedkemjidgbeaa", sum := "0d34ca6bf55da801113db36f29e0540d73d873a5447e0568f0b3135b60682057", func := "seiche/seichelaw03.DiskTwins", spec := "diskTwins", unfollowed := true, recurses := true, apart := false }
def DiskTwinsSaid : Prop := diskTwinsRow.holds Try.pinned (OpenSpec.ofChange diskTwinsSpec)

/-- ITS FALSE NEIGHBOUR: 'it returns false'. Refute it at one input. -/
def diskTwinsWrong : ChangeSpec := { name := "diskTwins", fn := fun _ => fun
  | [d1, d2] => { results := [.lit (.bool false)], args := [d1, d2] }
  | _ => none }
def DiskTwinsWrongFalsely : Prop := diskTwinsRow.holds Try.pinned (OpenSpec.ofChange diskTwinsWrong)

/-- 'seichelaw03.DiskDoes': WHATEVER THE INPUT: true; the input reads as it did. -/
def diskDoesSpec : ChangeSpec := { name := "diskDoes", fn := fun _ => fun
  | [d1, d2] => { results := [.lit (.bool true)], args := [d1, d2] }
  | _ => none }
def diskDoesRow : OpenClaim := { program := "ytoedkemjidgbeaa", sum := "0d34ca6bf55da801113db36f29e0540d73d873a5447e0568f0b3135b60682057", func := "seiche/seichelaw03.DiskDoes", spec := "diskDoes", unfollowed := true, recurses := true, apart := false }
def DiskDoesSaid : Prop := diskDoesRow.holds Try.pinned (OpenSpec.ofChange diskDoesSpec)

/-- ITS FALSE NEIGHBOUR: 'it returns false'. Refute it at one input. -/
def diskDoesWrong : ChangeSpec := { name := "diskDoes", fn := fun _ => fun
  | [d1, d2] => { results := [.lit (.bool false)], args := [d1, d2] }
  | _ => none }
def DiskDoesWrongFalsely : Prop := diskDoesRow.holds Try.pinned (OpenSpec.ofChange diskDoesWrong)

/- THE SECOND FORM. 'bulk': how many values and letters a reading holds, each counted each time it is reached (what is shared counts as often as it is met; a slice's spare places count too). A statement '..UptoSaid' is the law's where the arguments, and the package variables that the reading takes, are together of bulk at most 1048576: NARROWER than '..Said'. Prove '..Said' where nothing that the law and all that it calls make is longer than what came in: it says more and counts as full. Else prove '..UptoSaid'. A law counts once. -/
mutual
def uptoBulk {H : Type} : DataW H → Nat
  | .lit (.string bytes) => bytes.length + 1
  | .lit _ => 1
  | .nil => 1
  | .ptr d => uptoBulk d + 1
  | .slice elems spare => uptoBulkAll elems + uptoBulkAll spare + 1
  | .agg parts => uptoBulkAll parts + 1
  | .iface _ d => uptoBulk d + 1
  | .map entries => uptoBulkEntries entries + 1
  | .held _ => 1
def uptoBulkAll {H : Type} : List (DataW H) → Nat
  | [] => 0
  | d :: r => uptoBulk d + uptoBulkAll r
def uptoBulkEntries {H : Type} : List (Lit × DataW H) → Nat
  | [] => 0
  | x :: r => uptoBulkEntry x + uptoBulkEntries r
def uptoBulkEntry {H : Type} : Lit × DataW H → Nat
  | (.string bytes, d) => bytes.length + uptoBulk d + 1
  | (_, d) => uptoBulk d + 1
 end
def uptoSmall : (H : Type) → List (DataW H) → Bool := fun _ ds => decide (uptoBulkAll ds ≤ 1048576)
def OpenSpec.upto (s : _root_.Go.ChangeSpec) : _root_.Go.OpenSpec := { _root_.Go.OpenSpec.ofChange s with cond := some uptoSmall }

/-- 'seichelaw03.DiskKeeps', WHERE WHAT IT READS IS OF BULK AT MOST 1048576: true; the input reads as it did. -/
def diskKeepsUptoRow : OpenClaim := { program := "ytoedkemjidgbeaa", sum := "0d34ca6bf55da801113db36f29e0540d73d873a5447e0568f0b3135b60682057", func := "seiche/seichelaw03.DiskKeeps", spec := "diskKeeps", apart := false, narrowed := true }
def DiskKeepsUptoSaid : Prop := diskKeepsUptoRow.holds Try.pinned (OpenSpec.upto diskKeepsSpec)

/-- 'seichelaw03.DiskLoses', WHERE WHAT IT READS IS OF BULK AT MOST 1048576: true; the input reads as it did. -/
def diskLosesUptoRow : OpenClaim := { program := "ytoedkemjidgbeaa", sum := "0d34ca6bf55da801113db36f29e0540d73d873a5447e0568f0b3135b60682057", func := "seiche/seichelaw03.DiskLoses", spec := "diskLoses", apart := false, narrowed := true }
def DiskLosesUptoSaid : Prop := diskLosesUptoRow.holds Try.pinned (OpenSpec.upto diskLosesSpec)

/-- 'seichelaw03.DiskRenames', WHERE WHAT IT READS IS OF BULK AT MOST 1048576: true; the input reads as it did. -/
def diskRenamesUptoRow : OpenClaim := { program := "ytoedkemjidgbeaa", sum := "0d34ca6bf55da801113db36f29e0540d73d873a5447e0568f0b3135b60682057", func := "seiche/seichelaw03.DiskRenames", spec := "diskRenames", unfollowed := true, recurses := true, apart := false, narrowed := true }
def DiskRenamesUptoSaid : Prop := diskRenamesUptoRow.holds Try.pinned (OpenSpec.upto diskRenamesSpec)

/-- 'seichelaw03.DiskCuts', WHERE WHAT IT READS IS OF BULK AT MOST 1048576: true; the input reads as it did. -/
def diskCutsUptoRow : OpenClaim := { program := "ytoedkemjidgbeaa", sum := "0d34ca6bf55da801113db36f29e0540d73d873a5447e0568f0b3135b60682057", func := "seiche/seichelaw03.DiskCuts", spec := "diskCuts", unfollowed := true, recurses := true, apart := false, narrowed := true }
def DiskCutsUptoSaid : Prop := diskCutsUptoRow.holds Try.pinned (OpenSpec.upto diskCutsSpec)

/-- 'seichelaw03.DiskFull', WHERE WHAT IT READS IS OF BULK AT MOST 1048576: true; the input reads as it did. -/
def diskFullUptoRow : OpenClaim := { program := "ytoedkemjidgbeaa", sum := "0d34ca6bf55da801113db36f29e0540d73d873a5447e0568f0b3135b60682057", func := "seiche/seichelaw03.DiskFull", spec := "diskFull", unfollowed := true, recurses := true, apart := false, narrowed := true }
def DiskFullUptoSaid : Prop := diskFullUptoRow.holds Try.pinned (OpenSpec.upto diskFullSpec)

/-- 'seichelaw03.DiskTwins', WHERE WHAT IT READS IS OF BULK AT MOST 1048576: true; the input reads as it did. -/
def diskTwinsUptoRow : OpenClaim := { program := "ytoedkemjidgbeaa", sum := "0d34ca6bf55da801113db36f29e0540d73d873a5447e0568f0b3135b60682057", func := "seiche/seichelaw03.DiskTwins", spec := "diskTwins", unfollowed := true, recurses := true, apart := false, narrowed := true }
def DiskTwinsUptoSaid : Prop := diskTwinsUptoRow.holds Try.pinned (OpenSpec.upto diskTwinsSpec)

/-- 'seichelaw03.DiskDoes', WHERE WHAT IT READS IS OF BULK AT MOST 1048576: true; the input reads as it did. -/
def diskDoesUptoRow : OpenClaim := { program := "ytoedkemjidgbeaa", sum := "0d34ca6bf55da801113db36f29e0540d73d873a5447e0568f0b3135b60682057", func := "seiche/seichelaw03.DiskDoes", spec := "diskDoes", unfollowed := true, recurses := true, apart := false, narrowed := true }
def DiskDoesUptoSaid : Prop := diskDoesUptoRow.holds Try.pinned (OpenSpec.upto diskDoesSpec)

end Rows
end Go.Proofs.Ytoedkemjidgbeaa
