/- For every constraint and all tags: its parts have a value, and blanks and brackets around it change nothing; no condition beyond the statement's own. -/
import Derived.Test.YtcpemjolabofnaaLaMeans
namespace Go.Proofs.Ytcpemjolabofnaa.Pure
open Go.RowKit Go.Proofs.Ytcpemjolabofnaa.PAll
theorem ExprMeans : seichelaw13_ExprMeans.Pure := Fr.ExprMeans
end Go.Proofs.Ytcpemjolabofnaa.Pure
