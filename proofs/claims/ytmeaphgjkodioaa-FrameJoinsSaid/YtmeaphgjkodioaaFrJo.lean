/- Chapter 4: records that are put behind others. -/
import Derived.Test.YtmeaphgjkodioaaFrB
import Derived.Test.YtmeaphgjkodioaaPAllx3
namespace Go.Proofs.Ytmeaphgjkodioaa.Fr
open Go Go.RowKit Go.Proofs.Ytmeaphgjkodioaa.PAll Go.Proofs.YtmeaphgjkodioaaW.PrintWords Go.Proofs.YtmeaphgjkodioaaW.PrintLast Go.Proofs.YtmeaphgjkodioaaPw
theorem putB_append (a b : List ByteArray) : putB (a ++ b) = putB a ++ putB b := by
  simp [putB, List.filter_append, List.flatMap_append]
theorem FrameJoins : seichelaw04_FrameJoins.Pure := by
  intro l0 l1 m0 y0 s0 m1 y1 s1
  obtain ⟨g0, hg0, hf0⟩ := great_ev l0 m0 y0 s0
  obtain ⟨g1, hg1, hf1⟩ := great_ev l1 m1 y1 s1
  refine Ev.rounds (g := fun k => seichelaw04_FrameJoins.f k l0 l1) (ev_call alive_ev (ev_pos rfl (ev_call hg0 ?_)))
  have hskip : Ev (fun k => seichelaw04_FrameJoins.j0 k l0 l1 true) true := Ev.step (fun _ => seichelaw04_FrameJoins.j0.eq_2 ..) (ev_pos rfl (Ev.now true))
  by_cases c0 : g0 = true
  · exact ev_pos c0 hskip
  refine ev_neg c0 (ev_call hg1 ?_)
  cases g1 with
  | true => exact hskip
  | false =>
    obtain ⟨z0, n0⟩ := hf0 (by simpa using c0)
    obtain ⟨z1, n1⟩ := hf1 rfl
    have h0 : ∀ s ∈ l0, s.size ≤ 65536 := fun s h => by have := size_le h; omega
    have h1 : ∀ s ∈ l1, s.size ≤ 65536 := fun s h => by have := size_le h; omega
    have h2 : ∀ s ∈ l0 ++ l1, s.size ≤ 65536 := fun s h => (List.mem_append.1 h).elim (h0 s) (h1 s)
    have p0 := putB_length h0
    have p1 := putB_length h1
    have hsp := splits_put h2
    have htt := total_put h2
    have pl : (putB (l0 ++ l1)).length = (putB l0).length + (putB l1).length := by rw [putB_append, List.length_append]
    refine Ev.step (fun _ => seichelaw04_FrameJoins.j0.eq_2 ..) (ev_neg (by decide) (ev_call (put_ev [] l0 (by omega) (by simp; omega)) ?_))
    simp only [List.nil_append, Option.bind_some]
    refine ev_pos (by show 0 + _ < _; omega) (ev_call (put_ev (putB l0) l1 (by omega) (by omega)) ?_)
    rw [← putB_append]
    refine ev_call (split_ev _ (byt_putB _) (by omega) _ hsp) ?_
    rw [map_str, htt]
    refine ev_pos (by show 0 + _ < _; omega) (ev_pos (by omega) (ev_call (put_ev [] (l0 ++ l1) (by rw [List.length_append]; omega) (by simp only [List.length_nil]; omega)) ?_))
    simp only [List.nil_append]
    refine ev_pos (by first | rfl | trivial) (ev_pos (by omega) (ev_pos (by omega) (ev_pos ?_ (ev_pos (by first | rfl | trivial) (ev_pos (by show 0 + _ < _; omega) (ev_pos (by omega) (ev_call (same_ev _ _ (by show (l0 ++ l1).length < _; rw [List.length_append]; omega)) (ev_ret (by simp)))))))))
    rw [Int.toNat_natCast, putB_append, List.take_left']
    rfl
end Go.Proofs.Ytmeaphgjkodioaa.Fr
