/- For every constraint and all tags: tags that it doesn't have, and tags that are on twice, change nothing; no condition beyond the statement's own. -/
import Derived.Test.YtcpemjolabofnaaLaOthers
namespace Go.Proofs.Ytcpemjolabofnaa.Pure
open Go.RowKit Go.Proofs.Ytcpemjolabofnaa.PAll
theorem ExprOthers : seichelaw13_ExprOthers.Pure := Fr.ExprOthers
end Go.Proofs.Ytcpemjolabofnaa.Pure
