/- For all bytes Split answers what the reference answers; no condition beyond the statement's own. -/
import Derived.Test.YtmeaphgjkodioaaFrLaws
namespace Go.Proofs.Ytmeaphgjkodioaa.Pure
open Go.RowKit Go.Proofs.Ytmeaphgjkodioaa.PAll
theorem FrameSplits : seichelaw04_FrameSplits.Pure := Fr.FrameSplits
end Go.Proofs.Ytmeaphgjkodioaa.Pure
