/- For all texts and all two lists: a text that is split is what its parts are joined to, and two lists are joined to one text only if they are the same; no condition beyond the statement's own. -/
import Derived.Test.YtomicnackfcgoaaCoLaws
namespace Go.Proofs.Ytomicnackfcgoaa.Pure
open Go.RowKit Go.Proofs.Ytomicnackfcgoaa.PAll
theorem CodeOne : seichelaw01_CodeOne.Pure := Fr.CodeOne
end Go.Proofs.Ytomicnackfcgoaa.Pure
