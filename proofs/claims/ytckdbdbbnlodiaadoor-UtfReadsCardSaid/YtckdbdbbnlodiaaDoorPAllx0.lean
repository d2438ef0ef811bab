-- Written by a program of this session (a changed scratch copy of a tool of the kit); not a print of the kit's own.
import Derived.Test.YtckdbdbbnlodiaaDoorProg
import Derived.Test.YtckdbdbbnlodiaaDoorTabs
import Derived.Test.YtckdbdbbnlodiaaDoorMy
import Derived.Handy
import Derived.Below
import Derived.Deep.Draws
import Derived.Deep.AppendLies
import Derived.Maps.AppendAt
import Derived.OwnWalk
import Derived.Laws.BytesArg
import Derived.Laws.MakeOwn
import Derived.Laws.OwnMore
import Derived.Deep.OwnRows
import Derived.Tactics
import Derived.Lib.ConvBytes
import Derived.Laws.Slices
import Derived.WalkKit
import Derived.KernelRfl
import Derived.RowKit3
import Derived.Deep.LoopGhost
import Derived.Deep.QuietTactic
import Derived.BigQuiet
import Derived.WideLaws
import Derived.Deep.DeepCutAuto
import Derived.Deep.CutBlock
import Derived.Deep.RegionHeld3
import Derived.Laws.Rows
import Derived.Lib.AppendStr
import Derived.ArgAppend
import Derived.Laws.IdiomCopy
import Derived.OrdersHeld
import Derived.Laws.BitsLemmas
import Derived.RowKit
import Derived.Test.YtckdbdbbnlodiaaDoorWWords
import Derived.Test.YtckdbdbbnlodiaaDoorWLast
import Derived.Test.YtckdbdbbnlodiaaDoorWTab
import Derived.Test.YtckdbdbbnlodiaaDoorWFour
import Derived.Test.YtckdbdbbnlodiaaDoorWQPut
import Derived.Test.YtckdbdbbnlodiaaDoorWApart
import Derived.Test.YtckdbdbbnlodiaaDoorWArr
import Derived.Test.YtckdbdbbnlodiaaDoorWZeros
import Derived.Test.YtckdbdbbnlodiaaDoorWFoot
import Derived.Test.YtckdbdbbnlodiaaDoorWKept
import Derived.Test.YtckdbdbbnlodiaaDoorWShare
import Derived.Test.YtckdbdbbnlodiaaDoorWN
import Derived.Test.YtckdbdbbnlodiaaDoorWFootNe
import Derived.Test.YtckdbdbbnlodiaaDoorWAt
import Derived.Test.YtckdbdbbnlodiaaDoorWEqStruct
import Derived.Test.YtckdbdbbnlodiaaDoorWRepsOne
import Derived.Test.YtckdbdbbnlodiaaDoorWInv
import Derived.Test.YtckdbdbbnlodiaaDoorWInvWords
import Derived.Test.YtckdbdbbnlodiaaDoorWGuard
import Derived.Test.YtckdbdbbnlodiaaDoorWNEv
import Derived.Test.YtckdbdbbnlodiaaDoorWMore
namespace Go.Proofs.YtckdbdbbnlodiaaDoor.PAll
open Go.RowKit Go.Proofs.YtckdbdbbnlodiaaDoorW.PrintWords Go.Proofs.YtckdbdbbnlodiaaDoorW.PrintLast Go.Proofs.YtckdbdbbnlodiaaDoorW.PrintMore Go.Proofs.YtckdbdbbnlodiaaDoorMy Go.Proofs.YtckdbdbbnlodiaaDoor
attribute [local go_sem] max2_int min2_int max_two min_two max_three min_three max_four min_four   -- for this text's walks alone
set_option linter.unusedVariables false
set_option linter.unusedSimpArgs false



def errW : Option Int → Value
  | none => .nilIface
  | some c => .iface 0 (.int .i64 c)
theorem errW_none : errW none = .nilIface := rfl
theorem errW_some (c : Int) : errW (some c) = .iface 0 (.int .i64 c) := rfl

theorem info5 : (Tryd.prog.info? 5).map (fun i => (i.zero, i.size, i.bytes)) = some (some (.int .u8 0), 1, 1) := by kernel_rfl
-- the values' own types

end Go.Proofs.YtckdbdbbnlodiaaDoor.PAll
