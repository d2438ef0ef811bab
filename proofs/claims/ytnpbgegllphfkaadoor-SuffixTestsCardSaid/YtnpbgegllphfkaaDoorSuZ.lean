/- Chapter 15: what is reckoned outright. -/
import Derived.Test.YtnpbgegllphfkaaDoorSuA
import Derived.KernelRfl
namespace Go.Proofs.YtnpbgegllphfkaaDoor.Su
open Go Go.RowKit Go.Proofs.YtnpbgegllphfkaaDoorW.PrintWords Go.Proofs.YtnpbgegllphfkaaDoorPw Go.Proofs.YtnpbgegllphfkaaDoor.PAll Go.Proofs.YtnpbgegllphfkaaDoor
theorem alive_ev : Ev (fun k => seichelaw15_alive.f k) true := Ev.of (fun k => seichelaw15_alive.mono k) (k := 400) (by kernel_rfl)
theorem systems_ev : Ev (fun k => seicheref15_Systems.f k) sysL := Ev.of (fun k => seicheref15_Systems.mono k) (k := 600) (by kernel_rfl)
theorem processors_ev : Ev (fun k => seicheref15_Processors.f k) procL := Ev.of (fun k => seicheref15_Processors.mono k) (k := 600) (by kernel_rfl)
end Go.Proofs.YtnpbgegllphfkaaDoor.Su
