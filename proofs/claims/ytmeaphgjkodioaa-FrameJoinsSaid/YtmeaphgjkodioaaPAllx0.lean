-- Written by a program of this session (a changed scratch copy of a tool of the kit); not a print of the kit's own.
import Derived.Test.YtmeaphgjkodioaaProg
import Derived.Test.YtmeaphgjkodioaaMy
import Derived.Handy
import Derived.Below
import Derived.Deep.Draws
import Derived.Deep.AppendLies
import Derived.Maps.AppendAt
import Derived.OwnWalk
import Derived.Laws.BytesArg
import Derived.Laws.MakeOwn
import Derived.Laws.OwnMore
import Derived.Deep.OwnRows
import Derived.Tactics
import Derived.Lib.ConvBytes
import Derived.Laws.Slices
import Derived.WalkKit
import Derived.KernelRfl
import Derived.RowKit3
import Derived.Deep.LoopGhost
import Derived.Deep.QuietTactic
import Derived.BigQuiet
import Derived.WideLaws
import Derived.Deep.DeepCutAuto
import Derived.Deep.CutBlock
import Derived.Deep.RegionHeld3
import Derived.Laws.Rows
import Derived.Lib.AppendStr
import Derived.ArgAppend
import Derived.Laws.IdiomCopy
import Derived.OrdersHeld
import Derived.Laws.BitsLemmas
import Derived.RowKit
import Derived.Test.YtmeaphgjkodioaaWWords
import Derived.Test.YtmeaphgjkodioaaWLast
import Derived.Test.YtmeaphgjkodioaaWTab
import Derived.Test.YtmeaphgjkodioaaWFour
import Derived.Test.YtmeaphgjkodioaaWQPut
import Derived.Test.YtmeaphgjkodioaaWApart
import Derived.Test.YtmeaphgjkodioaaWArr
import Derived.Test.YtmeaphgjkodioaaWZeros
import Derived.Test.YtmeaphgjkodioaaWFoot
import Derived.Test.YtmeaphgjkodioaaWKept
import Derived.Test.YtmeaphgjkodioaaWShare
import Derived.Test.YtmeaphgjkodioaaWN
import Derived.Test.YtmeaphgjkodioaaWFootNe
import Derived.Test.YtmeaphgjkodioaaWAt
import Derived.Test.YtmeaphgjkodioaaWEqStruct
import Derived.Test.YtmeaphgjkodioaaWRepsOne
import Derived.Test.YtmeaphgjkodioaaWInv
import Derived.Test.YtmeaphgjkodioaaWInvWords
import Derived.Test.YtmeaphgjkodioaaWGuard
import Derived.Test.YtmeaphgjkodioaaWNEv
import Derived.Test.YtmeaphgjkodioaaWMore
namespace Go.Proofs.Ytmeaphgjkodioaa.PAll
open Go.RowKit Go.Proofs.YtmeaphgjkodioaaW.PrintWords Go.Proofs.YtmeaphgjkodioaaW.PrintLast Go.Proofs.YtmeaphgjkodioaaW.PrintMore Go.Proofs.YtmeaphgjkodioaaMy
attribute [local go_sem] max2_int min2_int max_two min_two max_three min_three max_four min_four   -- for this text's walks alone
set_option linter.unusedVariables false
set_option linter.unusedSimpArgs false



def errW : Option Int → Value
  | none => .nilIface
  | some c => .iface 0 (.int .i64 c)
theorem errW_none : errW none = .nilIface := rfl
theorem errW_some (c : Int) : errW (some c) = .iface 0 (.int .i64 c) := rfl

theorem info5 : (Try.prog.info? 5).map (fun i => (i.zero, i.size, i.bytes)) = some (some (.int .u8 0), 1, 1) := by kernel_rfl
theorem info9 : (Try.prog.info? 9).map (fun i => (i.zero, i.size, i.bytes)) = some (some (.string ⟨#[]⟩), 1, 16) := by kernel_rfl
-- the values' own types

end Go.Proofs.Ytmeaphgjkodioaa.PAll
