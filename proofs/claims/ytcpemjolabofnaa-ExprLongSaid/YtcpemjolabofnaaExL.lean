/- The reference's Not. -/
import Derived.Test.YtcpemjolabofnaaExK
import Derived.Test.YtcpemjolabofnaaExP
namespace Go.Proofs.Ytcpemjolabofnaa.PAll
open Go Go.RowKit Go.Proofs.YtcpemjolabofnaaW.PrintWords Go.Proofs.YtcpemjolabofnaaW.PrintLast Go.Proofs.YtcpemjolabofnaaW.PrintMore Go.Proofs.YtcpemjolabofnaaMy Go.Proofs.Ytcpemjolabofnaa Go.Proofs.YtcpemjolabofnaaPw
set_option linter.unusedVariables false
set_option linter.unusedSimpArgs false
def rnotF (F : Rt → Option (Int × Rt)) (x : Rt) : Option (Int × Rt) :=
  (F ((rtk sNot x.1).2, x.2.1, x.2.2)).bind fun r => if r.1 = 0 ∧ (rtk sNot x.1).1 = true then (if r.2.2.1.length < 4398046511104 then some (0, r.2.1, r.2.2.1 ++ [sNot], r.2.2.2) else none) else some r
set_option maxHeartbeats 4000000 in
set_option maxRecDepth 100000 in
theorem rnot_PR (F : Rt → Option (Int × Rt)) (hF : PR 38 F) : PR 36 (rnotF F) := by
  intro g l O0 d0 re rl rO rd w0 w hI hB h
  have hu := Try.underlying24
  have HI := Aside0.mk hI
  have HB := Aside0.mk hB
  have HF := Aside0.mk hF
  clear hI hB hF
  unfold rnotF at h
  simp only at h
  obtain ⟨b, l1, ht⟩ : ∃ b l1, rtk sNot l = (b, l1) := ⟨_, _, rfl⟩
  rw [ht] at h
  simp only at h
  have HT := Aside0.mk ht
  clear ht
  obtain ⟨⟨e3, l3, O, d⟩, h3, h⟩ := Option.bind_eq_some_iff.mp h
  simp only at h3 h
  have H3 := Aside0.mk h3
  clear h3
  by_cases c : e3 = 0
  · subst c
    cases b with
    | true =>
      rw [if_pos ⟨rfl, rfl⟩] at h
      by_cases c2 : O.length < 4398046511104
      · rw [if_pos c2] at h
        simp only [Option.some.injEq, Prod.mk.injEq] at h
        obtain ⟨rfl, rfl, rfl, rfl⟩ := h
        go_enter Try.func36, Try.ntmps36
        go_wp2_with (first | (go_at_call 31; refine (Take_Q g sNot l O0 d0 true l1 HT.out w0 _ HI.out HB.out).mono ?_; rintro e w2 ⟨rfl, hi, hb⟩; clear HI HB; have HI := Aside0.mk hi; have HB := Aside0.mk hb; clear hi hb) | (go_at_call 38; refine (HF.out g l1 O0 d0 0 l3 O d w0 _ HI.out HB.out H3.out).mono ?_; rintro e w2 ⟨rfl, ⟨A, c, ov, h0, h1, hc, hf, h2⟩, hb⟩; clear HI HB; have HB := Aside0.mk hb; clear hb; obtain ⟨A2, k2, e2⟩ := Kd.R_slice h2; subst e2; have q2 := cellR_1 h0; have f2 := blk_frozen h0 1) | ((with_reducible refine gate_builtin (b := .append) (xs := #[.tmp 18, .tmp 19]) rfl ?_); (try (refine gate_guard (by rfl) ?_; dsimp only)); at_builtin; refine Kd.R_append Kd.string (w0 := w0) w0.heap.size rfl (.tmp 18) (.tmp 19) 24 9 (.string ⟨#[]⟩) 16 rfl Try.underlying24 info9 rfl (by decide) (by omega) (.slice A2 O.length k2) O (sNot) [.string (sNot)] (fun _ => True) (fun _ => False) rfl rfl ?aP (fun _ hk => hk.elim) ?aF ?aO ?aB ?aS ?aL ?_; (case aP => exact rfl); (case aB => exact HB.out); (case aF => intro k hk; trivial); (case aO => exact h2); (case aS => exact below_size HB.out); (case aL => omega); intro v1 w1 ho hb hg hat; obtain ⟨Az, kz, ez⟩ := Kd.R_slice ho; subst ez; simp only [List.length_append, List.length_cons, List.length_nil, Nat.zero_add] at ho hat; have b1 := blk_grown h0 hg (IsR.ne h0 h2); have f1 := blk_frozen b1 1; have d1 : w1.cell? ⟨g, 1, none⟩ = some (.slice A2 O.length k2) := (blk_cell b1 1).trans rfl))
        go_ret
        exact ⟨rfl, IsR.put h1 h0 hc hf h2 ho hg hat, below_set hb h1⟩
      · rw [if_neg c2] at h
        exact absurd h (by simp)
    | false =>
      rw [if_neg (by simp)] at h
      simp only [Option.some.injEq, Prod.mk.injEq] at h
      obtain ⟨rfl, rfl, rfl, rfl⟩ := h
      go_enter Try.func36, Try.ntmps36
      go_wp2_with (first | (go_at_call 31; refine (Take_Q g sNot l O0 d0 false l1 HT.out w0 _ HI.out HB.out).mono ?_; rintro e w2 ⟨rfl, hi, hb⟩; clear HI HB; have HI := Aside0.mk hi; have HB := Aside0.mk hb; clear hi hb) | (go_at_call 38; refine (HF.out g l1 O0 d0 0 l3 O d w0 _ HI.out HB.out H3.out).mono ?_; rintro e w2 ⟨rfl, hi, hb⟩; clear HI HB; have HI := Aside0.mk hi; have HB := Aside0.mk hb; clear hi hb))
      go_ret
      exact ⟨rfl, HI.out, HB.out⟩
  · rw [if_neg (fun h => c h.1)] at h
    simp only [Option.some.injEq, Prod.mk.injEq] at h
    obtain ⟨rfl, rfl, rfl, rfl⟩ := h
    have cb : (e3 == 0) = false := beq_eq_false_iff_ne.mpr c
    clear c
    go_enter Try.func36, Try.ntmps36
    go_wp2_with (first | (go_at_call 31; refine (Take_Q g sNot l O0 d0 b l1 HT.out w0 _ HI.out HB.out).mono ?_; rintro e w2 ⟨rfl, hi, hb⟩; clear HI HB; have HI := Aside0.mk hi; have HB := Aside0.mk hb; clear hi hb) | (go_at_call 38; refine (HF.out g l1 O0 d0 e3 l3 O d w0 _ HI.out HB.out H3.out).mono ?_; rintro e w2 ⟨rfl, hi, hb⟩; clear HI HB; have HI := Aside0.mk hi; have HB := Aside0.mk hb; clear hi hb))
    go_ret
    exact ⟨rfl, HI.out, HB.out⟩
end Go.Proofs.Ytcpemjolabofnaa.PAll
