/- Chapter 15: the four laws, for the rows. -/
import Derived.Test.YtnpbgegllphfkaaDoorSuD
namespace Go.Proofs.YtnpbgegllphfkaaDoor.Fr
open Go Go.RowKit Go.Proofs.YtnpbgegllphfkaaDoorW.PrintWords Go.Proofs.YtnpbgegllphfkaaDoor.PAll Go.Proofs.YtnpbgegllphfkaaDoor.Su
theorem SuffixOf : seichelaw15_SuffixOf.Pure := fun a0 _ => (SuffixOf_ev a0).rounds
theorem SuffixTells : seichelaw15_SuffixTells.Pure := fun a0 a1 a2 a3 _ _ _ => (SuffixTells_ev a0 a1 a2 a3).rounds
theorem SuffixTests : seichelaw15_SuffixTests.Pure := fun a0 _ => (SuffixTests_ev a0).rounds
theorem SuffixKnows : seichelaw15_SuffixKnows.Pure := fun a0 _ => (SuffixKnows_ev a0).rounds
end Go.Proofs.YtnpbgegllphfkaaDoor.Fr
