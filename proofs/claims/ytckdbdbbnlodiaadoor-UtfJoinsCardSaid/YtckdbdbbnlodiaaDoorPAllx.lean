-- Written by a program of this session (a changed scratch copy of a tool of the kit); not a print of the kit's own.
import Derived.Test.YtckdbdbbnlodiaaDoorPAllx0
import Derived.Test.YtckdbdbbnlodiaaDoorPAllx1
import Derived.Test.YtckdbdbbnlodiaaDoorPAllx2
import Derived.Test.YtckdbdbbnlodiaaDoorPAllx3
import Derived.Test.YtckdbdbbnlodiaaDoorPAllx4
namespace Go.Proofs.YtckdbdbbnlodiaaDoor.PAll
open Go.RowKit Go.Proofs.YtckdbdbbnlodiaaDoorW.PrintWords Go.Proofs.YtckdbdbbnlodiaaDoorW.PrintLast Go.Proofs.YtckdbdbbnlodiaaDoorW.PrintMore Go.Proofs.YtckdbdbbnlodiaaDoorMy Go.Proofs.YtckdbdbbnlodiaaDoor
attribute [local go_sem] max2_int min2_int max_two min_two max_three min_three max_four min_four   -- for this text's walks alone
set_option linter.unusedVariables false
set_option linter.unusedSimpArgs false

end Go.Proofs.YtckdbdbbnlodiaaDoor.PAll
