/- For all two lists of texts: texts that are joined can be joined again, and are split step by step into the same; no condition beyond the statement's own. -/
import Derived.Test.YtomicnackfcgoaaCoLaws
namespace Go.Proofs.Ytomicnackfcgoaa.Pure
open Go.RowKit Go.Proofs.Ytomicnackfcgoaa.PAll
theorem CodeWithin : seichelaw01_CodeWithin.Pure := Fr.CodeWithin
end Go.Proofs.Ytomicnackfcgoaa.Pure
