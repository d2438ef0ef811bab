/- For all bytes and all lists of texts (of any size that memory holds; past 60 texts or the stated bytes the statement answers true by itself) Check and Put answer what the reference answers. -/
import Derived.Test.YtmeaphgjkodioaaFrLaws
namespace Go.Proofs.Ytmeaphgjkodioaa.Pure
open Go.RowKit Go.Proofs.Ytmeaphgjkodioaa.PAll
theorem FramePuts : seichelaw04_FramePuts.Pure := Fr.FramePuts
end Go.Proofs.Ytmeaphgjkodioaa.Pure
