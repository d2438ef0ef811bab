/- For every text: with _test ahead of its end a name says the same, and that it has tests; the tables of the package hold what the card ties to the text (over the pruned copy of the project). -/
import Derived.Test.YtnpbgegllphfkaaDoorSuLaws
namespace Go.Proofs.YtnpbgegllphfkaaDoor.Pure
open Go.RowKit Go.Proofs.YtnpbgegllphfkaaDoor.PAll
theorem SuffixTests : seichelaw15_SuffixTests.Pure := Fr.SuffixTests
end Go.Proofs.YtnpbgegllphfkaaDoor.Pure
