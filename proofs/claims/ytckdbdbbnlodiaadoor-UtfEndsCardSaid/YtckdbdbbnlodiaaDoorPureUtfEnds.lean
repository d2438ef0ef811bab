/- For all texts: gone through, a text ends after as many steps as it has bytes at most, just at its end; the tables of unicode/utf8 hold what the card ties to the text. -/
import Derived.Test.YtckdbdbbnlodiaaDoorUtLaws
namespace Go.Proofs.YtckdbdbbnlodiaaDoor.Pure
open Go.RowKit Go.Proofs.YtckdbdbbnlodiaaDoor.PAll
theorem UtfEnds : seichelaw10_UtfEnds.Pure := Fr.UtfEnds
end Go.Proofs.YtckdbdbbnlodiaaDoor.Pure
