/- For every number of brackets: as many as may be stand within one another, and one more is too deep; no condition beyond the statement's own. -/
import Derived.Test.YtcpemjolabofnaaLaDeep
namespace Go.Proofs.Ytcpemjolabofnaa.Pure
open Go.RowKit Go.Proofs.Ytcpemjolabofnaa.PAll
theorem ExprDeep : seichelaw13_ExprDeep.Pure := Fr.ExprDeep
end Go.Proofs.Ytcpemjolabofnaa.Pure
