/- For all numbers Letter, Digit and Blank answer what the reference answers; the tables of unicode/utf8 hold what the card ties to the text. -/
import Derived.Test.YtckdbdbbnlodiaaDoorUtLaws
namespace Go.Proofs.YtckdbdbbnlodiaaDoor.Pure
open Go.RowKit Go.Proofs.YtckdbdbbnlodiaaDoor.PAll
theorem UtfKinds : seichelaw10_UtfKinds.Pure := Fr.UtfKinds
end Go.Proofs.YtckdbdbbnlodiaaDoor.Pure
