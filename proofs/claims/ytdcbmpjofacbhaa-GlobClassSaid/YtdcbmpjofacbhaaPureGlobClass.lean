/- For all three signs: a class of one sign, its opposite and a range hold just the signs they tell; no condition beyond the statement's own. -/
import Derived.Test.YtdcbmpjofacbhaaGlClass
namespace Go.Proofs.Ytdcbmpjofacbhaa.Pure
open Go.RowKit Go.Proofs.Ytdcbmpjofacbhaa.PAll
theorem GlobClass : seichelaw19_GlobClass.Pure := Fr.GlobClass
end Go.Proofs.Ytdcbmpjofacbhaa.Pure
