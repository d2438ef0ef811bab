/- For all lists of numbers: signs one behind the other are read one by one, as many as there are; the tables of unicode/utf8 hold what the card ties to the text. -/
import Derived.Test.YtckdbdbbnlodiaaDoorUtLaws
namespace Go.Proofs.YtckdbdbbnlodiaaDoor.Pure
open Go.RowKit Go.Proofs.YtckdbdbbnlodiaaDoor.PAll
theorem UtfJoins : seichelaw10_UtfJoins.Pure := Fr.UtfJoins
end Go.Proofs.YtckdbdbbnlodiaaDoor.Pure
