/- For all lists of texts and all places of a cut, records that were put are split whole, and those ahead of a cut are; no condition beyond the statement's own. -/
import Derived.Test.YtmeaphgjkodioaaFrLaws
namespace Go.Proofs.Ytmeaphgjkodioaa.Pure
open Go.RowKit Go.Proofs.Ytmeaphgjkodioaa.PAll
theorem FrameBack : seichelaw04_FrameBack.Pure := Fr.FrameBack
end Go.Proofs.Ytmeaphgjkodioaa.Pure
