/- For all numbers, texts and lists of texts Num, ReadNum and Join answer what the reference answers; no condition beyond the statement's own. -/
import Derived.Test.YtomicnackfcgoaaCoLaws
namespace Go.Proofs.Ytomicnackfcgoaa.Pure
open Go.RowKit Go.Proofs.Ytomicnackfcgoaa.PAll
theorem CodeJoins : seichelaw01_CodeJoins.Pure := Fr.CodeJoins
end Go.Proofs.Ytomicnackfcgoaa.Pure
