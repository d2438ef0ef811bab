/- For every text, numbers and flag: a name with a known system and processor behind its first part is told as them, and with one of the two alone as that; the tables of the package hold what the card ties to the text (over the pruned copy of the project). -/
import Derived.Test.YtnpbgegllphfkaaDoorSuLaws
namespace Go.Proofs.YtnpbgegllphfkaaDoor.Pure
open Go.RowKit Go.Proofs.YtnpbgegllphfkaaDoor.PAll
theorem SuffixTells : seichelaw15_SuffixTells.Pure := Fr.SuffixTells
end Go.Proofs.YtnpbgegllphfkaaDoor.Pure
