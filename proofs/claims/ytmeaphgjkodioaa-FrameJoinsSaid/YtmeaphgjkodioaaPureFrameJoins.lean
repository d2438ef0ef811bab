/- For all two lists of texts: records that are put behind others are as if all were put at once, and what stands ahead stays; no condition beyond the statement's own. -/
import Derived.Test.YtmeaphgjkodioaaFrJo
namespace Go.Proofs.Ytmeaphgjkodioaa.Pure
open Go.RowKit Go.Proofs.Ytmeaphgjkodioaa.PAll
theorem FrameJoins : seichelaw04_FrameJoins.Pure := Fr.FrameJoins
end Go.Proofs.Ytmeaphgjkodioaa.Pure
