/- For all texts Split answers what the reference answers; no condition beyond the statement's own. -/
import Derived.Test.YtomicnackfcgoaaCoLaws
namespace Go.Proofs.Ytomicnackfcgoaa.Pure
open Go.RowKit Go.Proofs.Ytomicnackfcgoaa.PAll
theorem CodeSplits : seichelaw01_CodeSplits.Pure := Fr.CodeSplits
end Go.Proofs.Ytomicnackfcgoaa.Pure
