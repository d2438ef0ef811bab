/- For all lists of texts, a last text, a place and a byte: with a byte turned in the last record those ahead are split, and not that one, but where it still stands whole; no condition beyond the statement's own. -/
import Derived.Test.YtmeaphgjkodioaaFrLaws
namespace Go.Proofs.Ytmeaphgjkodioaa.Pure
open Go.RowKit Go.Proofs.Ytmeaphgjkodioaa.PAll
theorem FrameTurned : seichelaw04_FrameTurned.Pure := Fr.FrameTurned
end Go.Proofs.Ytmeaphgjkodioaa.Pure
