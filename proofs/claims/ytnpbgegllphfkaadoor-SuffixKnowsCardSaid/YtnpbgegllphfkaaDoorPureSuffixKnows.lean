/- For every text System, Processor, Unix and Hidden answer what the reference answers; the tables of the package hold what the card ties to the text (over the pruned copy of the project). -/
import Derived.Test.YtnpbgegllphfkaaDoorSuLaws
namespace Go.Proofs.YtnpbgegllphfkaaDoor.Pure
open Go.RowKit Go.Proofs.YtnpbgegllphfkaaDoor.PAll
theorem SuffixKnows : seichelaw15_SuffixKnows.Pure := Fr.SuffixKnows
end Go.Proofs.YtnpbgegllphfkaaDoor.Pure
