/- ExprParses, in plain Lean. -/
import Derived.Test.YtcpemjolabofnaaExY
import Derived.Test.YtcpemjolabofnaaPAllxParses
namespace Go.Proofs.Ytcpemjolabofnaa.Fr
open Go Go.RowKit Go.Proofs.Ytcpemjolabofnaa.PAll Go.Proofs.YtcpemjolabofnaaW.PrintWords Go.Proofs.YtcpemjolabofnaaW.PrintLast Go.Proofs.YtcpemjolabofnaaPw
set_option linter.unusedVariables false
set_option linter.unusedSimpArgs false
theorem ExprParses : seichelaw13_ExprParses.Pure := by
  intro a0 h0
  refine Ev.rounds (r := true) ?_
  unfold seichelaw13_ExprParses.f
  refine ev_call alive_ev (ev_pos rfl ?_)
  by_cases c : (a0.size : Int) > 2048
  · exact ev_pos c (Ev.now _)
  · refine ev_neg c ?_
    obtain ⟨r, h1, h2, hl⟩ := parse_same a0
    have ht : expr_Tag.f a0 = some (rTag a0) := by unfold expr_Tag.f; rw [if_pos h0]
    rw [h1, h2, ht]
    simp only [Option.bind_some]
    refine ev_pos (by first | trivial | rfl) (ev_call (same_self r.1 (by omega)) (ev_pos (by first | trivial | rfl) ?_))
    exact ev_call (refTag_ev a0 h0) (ev_ret (by simp))
end Go.Proofs.Ytcpemjolabofnaa.Fr
