/- seicheref01.Same tells whether two lists of texts are the same. -/
import Derived.Test.YtcpemjolabofnaaPAllx1
import Derived.Test.YtcpemjolabofnaaPw
namespace Go.Proofs.Ytcpemjolabofnaa.Fr
open Go Go.RowKit Go.Proofs.Ytcpemjolabofnaa.PAll Go.Proofs.YtcpemjolabofnaaW.PrintWords Go.Proofs.YtcpemjolabofnaaW.PrintLast Go.Proofs.YtcpemjolabofnaaPw
theorem same_l0 (a b : List ByteArray) (hl : a.length = b.length) (hm : a.length < 9223372036854775807) : ∀ (d i : Nat), i + d = a.length →
    Ev (fun k => seicheref01_Same.l0 k a b (a.length : Int) (i : Int)) (decide (a.drop i = b.drop i))
  | 0, i, hd => Ev.step (fun _ => seicheref01_Same.l0.eq_2 ..) (ev_neg (by omega) (ev_ret (by rw [List.drop_of_length_le (by omega), List.drop_of_length_le (by omega)]; simp)))
  | d + 1, i, hd => Ev.step (fun _ => seicheref01_Same.l0.eq_2 ..) (ev_pos (by omega) (ev_pos (by omega) (ev_pos (by omega) (ev_pos (by omega) (by
      rw [drop_rdOf ByteArray.empty a i (by omega), drop_rdOf ByteArray.empty b i (by omega)]
      by_cases e : rdOf ByteArray.empty a (i : Int) = rdOf ByteArray.empty b (i : Int)
      · refine ev_pos (ba_iff.2 e) ?_
        rw [w64 (by omega) (by omega)]
        have ih := same_l0 a b hl hm d (i + 1) (by omega)
        simp only [e, List.cons.injEq, true_and]
        exact ih
      · refine ev_neg (fun h => e (ba_inj h)) (ev_ret ?_)
        simp [e])))))
theorem same_ev (a b : List ByteArray) (hm : a.length < 9223372036854775807) : Ev (fun k => seicheref01_Same.f k a b) (decide (a = b)) := by
  by_cases hl : a.length = b.length
  · exact ev_pos (by omega) (same_l0 a b hl hm a.length 0 (by omega))
  · exact ev_neg (by omega) (ev_ret (by rw [decide_eq_false]; intro e; exact hl (by rw [e])))
end Go.Proofs.Ytcpemjolabofnaa.Fr
