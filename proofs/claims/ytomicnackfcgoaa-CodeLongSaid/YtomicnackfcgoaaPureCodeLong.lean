/- For every number: what is longer than may be is not split, and at the limit it is; no condition beyond the statement's own. -/
import Derived.Test.YtomicnackfcgoaaCoLaws
namespace Go.Proofs.Ytomicnackfcgoaa.Pure
open Go.RowKit Go.Proofs.Ytomicnackfcgoaa.PAll
theorem CodeLong : seichelaw01_CodeLong.Pure := Fr.CodeLong
end Go.Proofs.Ytomicnackfcgoaa.Pure
