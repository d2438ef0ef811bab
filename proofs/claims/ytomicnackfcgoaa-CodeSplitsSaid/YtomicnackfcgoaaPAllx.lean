-- Written by a program of this session (a changed scratch copy of a tool of the kit); not a print of the kit's own.
import Derived.Test.YtomicnackfcgoaaPAllx0
import Derived.Test.YtomicnackfcgoaaPAllx1
import Derived.Test.YtomicnackfcgoaaPAllx2
import Derived.Test.YtomicnackfcgoaaPAllx3
import Derived.Test.YtomicnackfcgoaaPAllx4
import Derived.Test.YtomicnackfcgoaaPAllx5
import Derived.Test.YtomicnackfcgoaaPAllx6
namespace Go.Proofs.Ytomicnackfcgoaa.PAll
open Go.RowKit Go.Proofs.YtomicnackfcgoaaW.PrintWords Go.Proofs.YtomicnackfcgoaaW.PrintLast Go.Proofs.YtomicnackfcgoaaW.PrintMore Go.Proofs.YtomicnackfcgoaaMy
attribute [local go_sem] max2_int min2_int max_two min_two max_three min_three max_four min_four   -- for this text's walks alone
set_option linter.unusedVariables false
set_option linter.unusedSimpArgs false

end Go.Proofs.Ytomicnackfcgoaa.PAll
