/- For all parts and tags: Eval answers as the document's does; no condition beyond the statement's own. -/
import Derived.Test.YtcpemjolabofnaaLaEvals
namespace Go.Proofs.Ytcpemjolabofnaa.Pure
open Go.RowKit Go.Proofs.Ytcpemjolabofnaa.PAll
theorem ExprEvals : seichelaw13_ExprEvals.Pure := Fr.ExprEvals
end Go.Proofs.Ytcpemjolabofnaa.Pure
