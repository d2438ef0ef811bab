/- For all two names: a name with a backslash ahead of each of its signs is a pattern that has this name and no other; no condition beyond the statement's own. -/
import Derived.Test.YtdcbmpjofacbhaaGlLaws
namespace Go.Proofs.Ytdcbmpjofacbhaa.Pure
open Go.RowKit Go.Proofs.Ytdcbmpjofacbhaa.PAll
theorem GlobQuotes : seichelaw19_GlobQuotes.Pure := Fr.GlobQuotes
end Go.Proofs.Ytdcbmpjofacbhaa.Pure
