/- For all lists of texts: what was joined is split into the same parts, and with a byte less or one more it is not split; no condition beyond the statement's own. -/
import Derived.Test.YtomicnackfcgoaaCoLaws
namespace Go.Proofs.Ytomicnackfcgoaa.Pure
open Go.RowKit Go.Proofs.Ytomicnackfcgoaa.PAll
theorem CodeBack : seichelaw01_CodeBack.Pure := Fr.CodeBack
end Go.Proofs.Ytomicnackfcgoaa.Pure
