/- For all texts and places Rune and Skip answer what the reference answers; the tables of unicode/utf8 hold what the card ties to the text. -/
import Derived.Test.YtckdbdbbnlodiaaDoorUtLaws
namespace Go.Proofs.YtckdbdbbnlodiaaDoor.Pure
open Go.RowKit Go.Proofs.YtckdbdbbnlodiaaDoor.PAll
theorem UtfReads : seichelaw10_UtfReads.Pure := Fr.UtfReads
end Go.Proofs.YtckdbdbbnlodiaaDoor.Pure
