/- ExprEvals, in plain Lean. -/
import Derived.Test.YtcpemjolabofnaaExY
import Derived.Test.YtcpemjolabofnaaPAllxEvals
namespace Go.Proofs.Ytcpemjolabofnaa.Fr
open Go Go.RowKit Go.Proofs.Ytcpemjolabofnaa.PAll Go.Proofs.YtcpemjolabofnaaW.PrintWords Go.Proofs.YtcpemjolabofnaaW.PrintLast Go.Proofs.YtcpemjolabofnaaPw
set_option linter.unusedVariables false
set_option linter.unusedSimpArgs false
theorem evL_code (on : List ByteArray) : ∀ (l : List ByteArray) (st : List Bool), (evL on l st).2 = 0 ∨ (evL on l st).2 = 4
  | [], st => by
    simp only [evL]
    by_cases c : st.length = 1
    · rw [if_pos c]; exact .inl rfl
    · rw [if_neg c]; exact .inr rfl
  | s :: r, st => by
    simp only [evL]
    cases evStep on st s with
    | none => exact .inr rfl
    | some st' => exact evL_code on r st'
theorem ExprEvals : seichelaw13_ExprEvals.Pure := by
  intro l0 l1 m0 y0 w0 m1 y1 w1
  refine Ev.rounds (r := true) ?_
  unfold seichelaw13_ExprEvals.f
  refine ev_call alive_ev (ev_pos rfl ?_)
  have hT : Ev (fun k => seichelaw13_ExprEvals.j0 k l0 l1 true) true := by
    refine Ev.step (fun _ => rfl) ?_
    simp only [seichelaw13_ExprEvals.j0]
    exact ev_pos (by first | trivial | rfl) (Ev.now _)
  by_cases c : (l0.length : Int) > 200
  · exact ev_pos c hT
  · refine ev_neg c ?_
    by_cases c2 : (l1.length : Int) > 60
    · rw [decide_eq_true c2]
      exact hT
    · rw [decide_eq_false c2]
      refine Ev.step (fun _ => rfl) ?_
      simp only [seichelaw13_ExprEvals.j0]
      refine ev_neg (by simp) ?_
      have hc : l0.length ≤ 4294967296 ∧ l1.length ≤ 4294967296 ∧ (∀ s ∈ l0, s.size ≤ 140737488351232) := ⟨by omega, by omega, w0⟩
      have e1 : expr_Eval.f l0 l1 = some (evL l1 l0 []) := by unfold expr_Eval.f; rw [if_pos hc]
      have e2 : seicheref13_Eval.f l0 l1 = some ((evL l1 l0 []).1, (evL l1 l0 []).2 == 0) := by unfold seicheref13_Eval.f; rw [if_pos hc]
      simp only [e1, e2, Option.bind_some]
      refine ev_pos (by simp) (ev_pos (by simp) ?_)
      rcases evL_code l1 l0 [] with h | h
      · exact ev_pos (by rw [h]; rfl) (Ev.now _)
      · refine ev_neg (by rw [h]; decide) (ev_ret ?_)
        rw [h]
        rfl
end Go.Proofs.Ytcpemjolabofnaa.Fr
