/- For every text Of answers what the reference answers; the tables of the package hold what the card ties to the text (over the pruned copy of the project). -/
import Derived.Test.YtnpbgegllphfkaaDoorSuLaws
namespace Go.Proofs.YtnpbgegllphfkaaDoor.Pure
open Go.RowKit Go.Proofs.YtnpbgegllphfkaaDoor.PAll
theorem SuffixOf : seichelaw15_SuffixOf.Pure := Fr.SuffixOf
end Go.Proofs.YtnpbgegllphfkaaDoor.Pure
