/- ExprOthers, in plain Lean. -/
import Derived.Test.YtcpemjolabofnaaExY
import Derived.Test.YtcpemjolabofnaaExV
import Derived.Test.YtcpemjolabofnaaPAllxOthers
namespace Go.Proofs.Ytcpemjolabofnaa.Fr
open Go Go.RowKit Go.Proofs.Ytcpemjolabofnaa.PAll Go.Proofs.YtcpemjolabofnaaW.PrintWords Go.Proofs.YtcpemjolabofnaaW.PrintLast Go.Proofs.YtcpemjolabofnaaPw
set_option linter.unusedVariables false
set_option linter.unusedSimpArgs false
theorem evL_congr {on on' : List ByteArray} : ∀ (l : List ByteArray) (st : List Bool), (∀ s ∈ l, memB on s = memB on' s) → evL on l st = evL on' l st
  | [], st, _ => rfl
  | s :: r, st, h => by
    have hs : evStep on st s = evStep on' st s := by
      unfold evStep
      rw [h s List.mem_cons_self]
    simp only [evL, hs]
    cases evStep on' st s with
    | none => rfl
    | some st' => exact evL_congr r st' (fun x hx => h x (List.mem_cons_of_mem _ hx))
theorem memB_append (a b : List ByteArray) (x : ByteArray) : memB (a ++ b) x = (memB a x || memB b x) := by
  unfold memB
  rw [List.any_append]
theorem memB_of {l : List ByteArray} {x : ByteArray} (h : x ∈ l) : memB l x = true := List.any_eq_true.2 ⟨x, h, decide_eq_true rfl⟩
theorem ExprOthers : seichelaw13_ExprOthers.Pure := by
  intro a0 l1 a2 h0 m1 y1 w1 h2
  refine Ev.rounds (r := true) ?_
  unfold seichelaw13_ExprOthers.f
  refine ev_call alive_ev (ev_pos rfl ?_)
  have hT : Ev (fun k => seichelaw13_ExprOthers.j0 k a0 l1 a2 true) true := by
    refine Ev.step (fun _ => rfl) ?_
    simp only [seichelaw13_ExprOthers.j0]
    exact ev_pos (by first | trivial | rfl) (Ev.now _)
  have hT1 : ∀ X, Ev (fun k => seichelaw13_ExprOthers.j1 k l1 a2 X true) true := fun X => by
    refine Ev.step (fun _ => rfl) ?_
    simp only [seichelaw13_ExprOthers.j1]
    exact ev_pos (by first | trivial | rfl) (Ev.now _)
  by_cases c : (a0.size : Int) > 1024
  · exact ev_pos c hT
  · refine ev_neg c ?_
    by_cases c2 : (l1.length : Int) > 60
    · rw [decide_eq_true c2]
      exact hT
    · rw [decide_eq_false c2]
      refine Ev.step (fun _ => rfl) ?_
      simp only [seichelaw13_ExprOthers.j0]
      refine ev_neg (by simp) ?_
      obtain ⟨⟨X, e⟩, h1, _, hl⟩ := parse_same a0
      simp only [h1, Option.bind_some]
      by_cases e0 : e = 0
      · subst e0
        refine ev_pos (by first | trivial | rfl) ?_
        simp only at hl
        refine ev_call (in_ev X (by omega) a2) ?_
        by_cases hm : memB X a2 = true
        · rw [hm]
          exact hT1 X
        · have hmf := Bool.eq_false_iff.2 hm
          rw [hmf]
          refine Ev.step (fun _ => rfl) ?_
          simp only [seichelaw13_ExprOthers.j1]
          refine ev_neg (by simp) ?_
          obtain ⟨_, v, hv⟩ := parse_val h1 l1
          obtain ⟨_, v2, hv2⟩ := parse_val h1 ([a2] ++ l1 ++ l1)
          have hsm := parse_small h1
          have f1 := eval_f hl (by omega) hsm hv
          have f2 := eval_f hl (by simp only [List.length_append, List.length_singleton]; omega) hsm hv2
          have hvv : v = v2 := by
            have a1 := val_eval hv
            have a3 := val_eval hv2
            have hcg := evL_congr (on := l1) (on' := [a2] ++ l1 ++ l1) X [] (fun s hs => by
              have hne : ¬ s = a2 := fun e => hm (by rw [← e]; exact memB_of hs)
              rw [memB_append, memB_append]
              simp [memB, hne])
            rw [a1, a3] at hcg
            exact (Prod.mk.inj hcg).1
          have k1 : ([a2] : List ByteArray).length + l1.length < 8796093022208 := by simp only [List.length_singleton]; omega
          have k2 : ([a2] ++ l1).length + l1.length < 8796093022208 := by simp only [List.length_append, List.length_singleton]; omega
          simp only [f1, Option.bind_some]
          refine ev_pos k1 ?_
          refine ev_pos k2 ?_
          simp only [f2, Option.bind_some]
          refine ev_pos (by first | trivial | rfl) (ev_pos (by first | trivial | rfl) (ev_ret ?_))
          rw [hvv]
          simp
      · refine ev_neg e0 (hT1 X)
end Go.Proofs.Ytcpemjolabofnaa.Fr
