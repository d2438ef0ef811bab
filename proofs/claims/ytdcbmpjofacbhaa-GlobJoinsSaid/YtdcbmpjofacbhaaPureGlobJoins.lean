/- For all patterns and names: two patterns that have two names have, one behind the other, the names one behind the other; and a star alone has a name just if no slash stands in it; no condition beyond the statement's own. -/
import Derived.Test.YtdcbmpjofacbhaaGlLaws
namespace Go.Proofs.Ytdcbmpjofacbhaa.Pure
open Go.RowKit Go.Proofs.Ytdcbmpjofacbhaa.PAll
theorem GlobJoins : seichelaw19_GlobJoins.Pure := Fr.GlobJoins
end Go.Proofs.Ytdcbmpjofacbhaa.Pure
