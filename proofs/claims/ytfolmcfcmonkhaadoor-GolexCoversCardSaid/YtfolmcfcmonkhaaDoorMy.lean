import Derived.Test.YtfolmcfcmonkhaaDoorWMore
import Derived.SliceStrings
import Derived.SizedLaws
namespace Go.Proofs.YtfolmcfcmonkhaaDoorMy
open Go Go.RowKit Go.Lib Go.Proofs.YtfolmcfcmonkhaaDoorW.PrintWords Go.Proofs.YtfolmcfcmonkhaaDoorW.PrintLast Go.Proofs.YtfolmcfcmonkhaaDoorW.PrintMore
set_option linter.unusedVariables false
section
variable {P : Program} {ops : Array Oper} {rest : List Oper} {o : Oper} {a : Act} {Q : Exit → Act → World → Prop}
end
end Go.Proofs.YtfolmcfcmonkhaaDoorMy
namespace Go.Proofs.YtfolmcfcmonkhaaDoorMy
open Go Go.RowKit Go.ChangeShapes Go.WideShapes Go.Proofs.YtfolmcfcmonkhaaDoorW.PrintWords
end Go.Proofs.YtfolmcfcmonkhaaDoorMy

