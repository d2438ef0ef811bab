-- Written by a program of this session (a changed scratch copy of a tool of the kit); not a print of the kit's own.
import Derived.Test.YtmeaphgjkodioaaPAllx0
import Derived.Test.YtmeaphgjkodioaaPAllx1
import Derived.Test.YtmeaphgjkodioaaPAllx2
import Derived.Test.YtmeaphgjkodioaaPAllx3
namespace Go.Proofs.Ytmeaphgjkodioaa.PAll
open Go.RowKit Go.Proofs.YtmeaphgjkodioaaW.PrintWords Go.Proofs.YtmeaphgjkodioaaW.PrintLast Go.Proofs.YtmeaphgjkodioaaW.PrintMore Go.Proofs.YtmeaphgjkodioaaMy
attribute [local go_sem] max2_int min2_int max_two min_two max_three min_three max_four min_four   -- for this text's walks alone
set_option linter.unusedVariables false
set_option linter.unusedSimpArgs false

end Go.Proofs.Ytmeaphgjkodioaa.PAll
