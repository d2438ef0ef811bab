/- For every small number: a constraint of the greatest length is parsed, and a longer one isn't; no condition beyond the statement's own. -/
import Derived.Test.YtcpemjolabofnaaLaLong
namespace Go.Proofs.Ytcpemjolabofnaa.Pure
open Go.RowKit Go.Proofs.Ytcpemjolabofnaa.PAll
theorem ExprLong : seichelaw13_ExprLong.Pure := Fr.ExprLong
end Go.Proofs.Ytcpemjolabofnaa.Pure
