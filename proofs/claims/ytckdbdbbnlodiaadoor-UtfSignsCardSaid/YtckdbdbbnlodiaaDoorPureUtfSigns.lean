/- For all numbers and texts each sign is read from its bytes, whatever stands behind, and with its last byte less it is none; the tables of unicode/utf8 hold what the card ties to the text. -/
import Derived.Test.YtckdbdbbnlodiaaDoorUtLaws
namespace Go.Proofs.YtckdbdbbnlodiaaDoor.Pure
open Go.RowKit Go.Proofs.YtckdbdbbnlodiaaDoor.PAll
theorem UtfSigns : seichelaw10_UtfSigns.Pure := Fr.UtfSigns
end Go.Proofs.YtckdbdbbnlodiaaDoor.Pure
