-- Written by a program of this session (a changed scratch copy of a tool of the kit); not a print of the kit's own.
import Derived.Test.YtomicnackfcgoaaProg
import Derived.Test.YtomicnackfcgoaaMy
import Derived.Handy
import Derived.Below
import Derived.Deep.Draws
import Derived.Deep.AppendLies
import Derived.Maps.AppendAt
import Derived.OwnWalk
import Derived.Laws.BytesArg
import Derived.Laws.MakeOwn
import Derived.Laws.OwnMore
import Derived.Deep.OwnRows
import Derived.Tactics
import Derived.Lib.ConvBytes
import Derived.Laws.Slices
import Derived.WalkKit
import Derived.KernelRfl
import Derived.RowKit3
import Derived.Deep.LoopGhost
import Derived.Deep.QuietTactic
import Derived.BigQuiet
import Derived.WideLaws
import Derived.Deep.DeepCutAuto
import Derived.Deep.CutBlock
import Derived.Deep.RegionHeld3
import Derived.Laws.Rows
import Derived.Lib.AppendStr
import Derived.ArgAppend
import Derived.Laws.IdiomCopy
import Derived.OrdersHeld
import Derived.Laws.BitsLemmas
import Derived.RowKit
import Derived.Test.YtomicnackfcgoaaWWords
import Derived.Test.YtomicnackfcgoaaWLast
import Derived.Test.YtomicnackfcgoaaWTab
import Derived.Test.YtomicnackfcgoaaWFour
import Derived.Test.YtomicnackfcgoaaWQPut
import Derived.Test.YtomicnackfcgoaaWApart
import Derived.Test.YtomicnackfcgoaaWArr
import Derived.Test.YtomicnackfcgoaaWZeros
import Derived.Test.YtomicnackfcgoaaWFoot
import Derived.Test.YtomicnackfcgoaaWKept
import Derived.Test.YtomicnackfcgoaaWShare
import Derived.Test.YtomicnackfcgoaaWN
import Derived.Test.YtomicnackfcgoaaWFootNe
import Derived.Test.YtomicnackfcgoaaWAt
import Derived.Test.YtomicnackfcgoaaWEqStruct
import Derived.Test.YtomicnackfcgoaaWRepsOne
import Derived.Test.YtomicnackfcgoaaWInv
import Derived.Test.YtomicnackfcgoaaWInvWords
import Derived.Test.YtomicnackfcgoaaWGuard
import Derived.Test.YtomicnackfcgoaaWNEv
import Derived.Test.YtomicnackfcgoaaWMore
namespace Go.Proofs.Ytomicnackfcgoaa.PAll
open Go.RowKit Go.Proofs.YtomicnackfcgoaaW.PrintWords Go.Proofs.YtomicnackfcgoaaW.PrintLast Go.Proofs.YtomicnackfcgoaaW.PrintMore Go.Proofs.YtomicnackfcgoaaMy
attribute [local go_sem] max2_int min2_int max_two min_two max_three min_three max_four min_four   -- for this text's walks alone
set_option linter.unusedVariables false
set_option linter.unusedSimpArgs false



def errW : Option Int → Value
  | none => .nilIface
  | some c => .iface 0 (.int .i64 c)
theorem errW_none : errW none = .nilIface := rfl
theorem errW_some (c : Int) : errW (some c) = .iface 0 (.int .i64 c) := rfl

theorem info5 : (Try.prog.info? 5).map (fun i => (i.zero, i.size, i.bytes)) = some (some (.int .u8 0), 1, 1) := by kernel_rfl
theorem info9 : (Try.prog.info? 9).map (fun i => (i.zero, i.size, i.bytes)) = some (some (.string ⟨#[]⟩), 1, 16) := by kernel_rfl
-- the values' own types

end Go.Proofs.Ytomicnackfcgoaa.PAll
