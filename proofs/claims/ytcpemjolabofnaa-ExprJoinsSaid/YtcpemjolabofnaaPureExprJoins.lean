/- For all two constraints and all tags: joined, or turned, they hold as the two do; no condition beyond the statement's own. -/
import Derived.Test.YtcpemjolabofnaaLaJoins
namespace Go.Proofs.Ytcpemjolabofnaa.Pure
open Go.RowKit Go.Proofs.Ytcpemjolabofnaa.PAll
theorem ExprJoins : seichelaw13_ExprJoins.Pure := Fr.ExprJoins
end Go.Proofs.Ytcpemjolabofnaa.Pure
