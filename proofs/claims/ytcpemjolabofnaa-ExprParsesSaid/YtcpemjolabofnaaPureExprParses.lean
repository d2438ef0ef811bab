/- For every text: Tag and Parse answer as the document's pieces do; no condition beyond the statement's own. -/
import Derived.Test.YtcpemjolabofnaaLaParses
namespace Go.Proofs.Ytcpemjolabofnaa.Pure
open Go.RowKit Go.Proofs.Ytcpemjolabofnaa.PAll
theorem ExprParses : seichelaw13_ExprParses.Pure := Fr.ExprParses
end Go.Proofs.Ytcpemjolabofnaa.Pure
