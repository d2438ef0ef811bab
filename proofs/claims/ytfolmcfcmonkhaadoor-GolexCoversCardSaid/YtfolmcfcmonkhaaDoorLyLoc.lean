/- What stands at a place hangs on its own bytes, and on little behind them. -/
import Derived.Test.YtfolmcfcmonkhaaDoorLyB
namespace Go.Proofs.YtfolmcfcmonkhaaDoor.Fr
open Go Go.RowKit Go.Proofs.YtfolmcfcmonkhaaDoor.PAll Go.Proofs.YtfolmcfcmonkhaaDoorW.PrintWords Go.Proofs.YtfolmcfcmonkhaaDoorW.PrintLast Go.Proofs.YtfolmcfcmonkhaaDoorPw Go.Proofs.YtfolmcfcmonkhaaDoor
set_option linter.unusedVariables false
set_option linter.unusedSimpArgs false
end Go.Proofs.YtfolmcfcmonkhaaDoor.Fr

