/- For every number: a record that is too long is passed over, and one of the greatest length is not; no condition beyond the statement's own. -/
import Derived.Test.YtmeaphgjkodioaaFrLaws
namespace Go.Proofs.Ytmeaphgjkodioaa.Pure
open Go.RowKit Go.Proofs.Ytmeaphgjkodioaa.PAll
theorem FrameLong : seichelaw04_FrameLong.Pure := Fr.FrameLong
end Go.Proofs.Ytmeaphgjkodioaa.Pure
