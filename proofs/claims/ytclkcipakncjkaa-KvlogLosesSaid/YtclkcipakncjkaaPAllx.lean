-- Written by a program of this session (a changed scratch copy of a tool of the kit); not a print of the kit's own.
import Derived.Test.YtclkcipakncjkaaPAllx0
import Derived.Test.YtclkcipakncjkaaPAllx1
import Derived.Test.YtclkcipakncjkaaPAllx2
import Derived.Test.YtclkcipakncjkaaPAllx3
import Derived.Test.YtclkcipakncjkaaPAllx4
import Derived.Test.YtclkcipakncjkaaPAllx5
import Derived.Test.YtclkcipakncjkaaPAllx6
namespace Go.Proofs.Ytclkcipakncjkaa.PAll
open Go.RowKit Go.Proofs.YtclkcipakncjkaaW.PrintWords Go.Proofs.YtclkcipakncjkaaW.PrintLast Go.Proofs.YtclkcipakncjkaaW.PrintMore Go.Proofs.YtclkcipakncjkaaMy
attribute [local go_sem] max2_int min2_int max_two min_two max_three min_three max_four min_four   -- for this text's walks alone
set_option linter.unusedVariables false
set_option linter.unusedSimpArgs false

end Go.Proofs.Ytclkcipakncjkaa.PAll
