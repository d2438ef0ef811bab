/- For every number of stars, every length and every last sign: the pattern of stars answers as the count says; no condition beyond the statement's own. -/
import Derived.Test.YtdcbmpjofacbhaaGlLaws
namespace Go.Proofs.Ytdcbmpjofacbhaa.Pure
open Go.RowKit Go.Proofs.Ytdcbmpjofacbhaa.PAll
theorem GlobLong : seichelaw19_GlobLong.Pure := Fr.GlobLong
end Go.Proofs.Ytdcbmpjofacbhaa.Pure
