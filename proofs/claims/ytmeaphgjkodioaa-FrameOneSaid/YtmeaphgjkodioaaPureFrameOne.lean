/- For every text, place and byte: with that byte turned the check sum is another one; no condition beyond the statement's own. -/
import Derived.Test.YtmeaphgjkodioaaFrOne
namespace Go.Proofs.Ytmeaphgjkodioaa.Pure
open Go.RowKit Go.Proofs.Ytmeaphgjkodioaa.PAll Go.Proofs.YtmeaphgjkodioaaW.PrintWords Go.Proofs.YtmeaphgjkodioaaW.PrintLast
theorem FrameOne : seichelaw04_FrameOne.Pure := Fr.FrameOne
end Go.Proofs.Ytmeaphgjkodioaa.Pure
