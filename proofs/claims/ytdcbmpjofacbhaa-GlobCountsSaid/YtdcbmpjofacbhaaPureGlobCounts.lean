/- For all names and numbers: so many question marks, with and without a star, have the name just if the count and the slashes allow it; no condition beyond the statement's own. -/
import Derived.Test.YtdcbmpjofacbhaaGlLaws
namespace Go.Proofs.Ytdcbmpjofacbhaa.Pure
open Go.RowKit Go.Proofs.Ytdcbmpjofacbhaa.PAll
theorem GlobCounts : seichelaw19_GlobCounts.Pure := Fr.GlobCounts
end Go.Proofs.Ytdcbmpjofacbhaa.Pure
