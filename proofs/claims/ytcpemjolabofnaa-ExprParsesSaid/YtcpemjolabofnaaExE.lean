/- The parser's and, or, not and part: one induction. -/
import Derived.Test.YtcpemjolabofnaaExD
namespace Go.Proofs.Ytcpemjolabofnaa.PAll
open Go Go.RowKit Go.Proofs.YtcpemjolabofnaaW.PrintWords Go.Proofs.YtcpemjolabofnaaW.PrintLast Go.Proofs.YtcpemjolabofnaaW.PrintMore Go.Proofs.YtcpemjolabofnaaMy Go.Proofs.Ytcpemjolabofnaa Go.Proofs.YtcpemjolabofnaaPw
set_option linter.unusedVariables false
set_option linter.unusedSimpArgs false
def sNot : ByteArray := ⟨#[33]⟩
def sAnd : ByteArray := ⟨#[38, 38]⟩
def sOr : ByteArray := ⟨#[124, 124]⟩
def sOpen : ByteArray := ⟨#[40]⟩
def sShut : ByteArray := ⟨#[41]⟩
def notF (F : St → Option (Int × St)) (x : St) : Option (Int × St) :=
  if (tk (bytesOf sNot) x.1).1 = true then
    (if (tk (bytesOf sNot) (tk (bytesOf sNot) x.1).2).1 = true then some (4, (tk (bytesOf sNot) (tk (bytesOf sNot) x.1).2).2, x.2.1, x.2.2)
    else (F ((tk (bytesOf sNot) (tk (bytesOf sNot) x.1).2).2, x.2.1, x.2.2)).bind fun r => if r.1 = 0 then (if r.2.2.1.length < 4398046511104 then some (0, r.2.1, r.2.2.1 ++ [sNot], r.2.2.2) else none) else some r)
  else F ((tk (bytesOf sNot) x.1).2, x.2.1, x.2.2)
theorem or_PC (s : ByteArray) (hs : s.size ≤ 4294967296) (F : St → Option (Int × St)) (hF : PC s 29 F) (k : Nat) : PC s 19 (listF sOr F k) := by
  intro g l O d e1 l1 O1 d1 w0 w hI hB h
  have hl := list_PC s hs 29 F (enters_ Try.func29 (by kernel_rfl) (by kernel_rfl)) hF sOr (by decide) k g l O d e1 l1 O1 d1 w0 w hI hB h
  have HL := Aside0.mk hl
  clear hl h
  go_enter Try.func19, Try.ntmps19
  go_wp2_with (first | (go_at_call 28; refine HL.out.mono ?_; rintro e w2 ⟨rfl, hi, hb⟩))
  go_ret
  exact ⟨rfl, hi, hb⟩
theorem and_PC (s : ByteArray) (hs : s.size ≤ 4294967296) (F : St → Option (Int × St)) (hF : PC s 35 F) (k : Nat) : PC s 29 (listF sAnd F k) := by
  intro g l O d e1 l1 O1 d1 w0 w hI hB h
  have hl := list_PC s hs 35 F (enters_ Try.func35 (by kernel_rfl) (by kernel_rfl)) hF sAnd (by decide) k g l O d e1 l1 O1 d1 w0 w hI hB h
  have HL := Aside0.mk hl
  clear hl h
  go_enter Try.func29, Try.ntmps29
  go_wp2_with (first | (go_at_call 28; refine HL.out.mono ?_; rintro e w2 ⟨rfl, hi, hb⟩))
  go_ret
  exact ⟨rfl, hi, hb⟩
set_option maxHeartbeats 4000000 in
set_option maxRecDepth 100000 in
theorem not_PC (s : ByteArray) (hs : s.size ≤ 4294967296) (F : St → Option (Int × St)) (hF : PC s 37 F) : PC s 35 (notF F) := by
  intro g l O0 d0 re rl rO rd w0 w hI hB h
  have hu := Try.underlying24
  have HI := Aside0.mk hI
  have HB := Aside0.mk hB
  have HF := Aside0.mk hF
  clear hI hB hF
  have hz : (sNot).size ≤ 4294967296 := by decide
  unfold notF at h
  simp only at h
  obtain ⟨b, l1, ht⟩ : ∃ b l1, tk (bytesOf sNot) l = (b, l1) := ⟨_, _, rfl⟩
  rw [ht] at h
  simp only at h
  have HT := Aside0.mk ht
  clear ht
  cases b with
  | false =>
    rw [if_neg (by simp)] at h
    have H := Aside0.mk h
    clear h
    go_enter Try.func35, Try.ntmps35
    go_wp2_with (first | (go_at_call 34; refine (takes_Q g s hs sNot hz l O0 d0 false l1 HT.out w0 _ HI.out HB.out).mono ?_; rintro e w2 ⟨rfl, hi, hb⟩; clear HI HB; have HI := Aside0.mk hi; have HB := Aside0.mk hb; clear hi hb) | (go_at_call 37; refine (HF.out g l1 O0 d0 re rl rO rd w0 _ HI.out HB.out H.out).mono ?_; rintro e w2 ⟨rfl, hi, hb⟩; clear HI HB; have HI := Aside0.mk hi; have HB := Aside0.mk hb; clear hi hb))
    go_ret
    exact ⟨rfl, HI.out, HB.out⟩
  | true =>
    rw [if_pos rfl] at h
    obtain ⟨b, l2, ht⟩ : ∃ b l2, tk (bytesOf sNot) l1 = (b, l2) := ⟨_, _, rfl⟩
    rw [ht] at h
    simp only at h
    have HT2 := Aside0.mk ht
    clear ht
    cases b with
    | true =>
      rw [if_pos rfl] at h
      simp only [Option.some.injEq, Prod.mk.injEq] at h
      obtain ⟨rfl, rfl, rfl, rfl⟩ := h
      go_enter Try.func35, Try.ntmps35
      go_upto_region 3 with (first | (go_at_call 34; refine (takes_Q g s hs sNot hz l O0 d0 true l1 HT.out w0 _ HI.out HB.out).mono ?_; rintro e w2 ⟨rfl, hi, hb⟩; clear HI HB; have HI := Aside0.mk hi; have HB := Aside0.mk hb; clear hi hb))
      go_wp2_with (first | (go_at_call 34; refine (takes_Q g s hs sNot hz l1 O0 d0 true l2 HT2.out w0 _ HI.out HB.out).mono ?_; rintro e w2 ⟨rfl, hi, hb⟩; clear HI HB; have HI := Aside0.mk hi; have HB := Aside0.mk hb; clear hi hb))
      go_ret
      exact ⟨rfl, HI.out, HB.out⟩
    | false =>
      rw [if_neg (by simp)] at h
      obtain ⟨⟨e3, l3, O, d⟩, h3, h⟩ := Option.bind_eq_some_iff.mp h
      simp only at h3 h
      have H3 := Aside0.mk h3
      clear h3
      by_cases c : e3 = 0
      · subst c
        rw [if_pos rfl] at h
        by_cases c2 : O.length < 4398046511104
        · rw [if_pos c2] at h
          simp only [Option.some.injEq, Prod.mk.injEq] at h
          obtain ⟨rfl, rfl, rfl, rfl⟩ := h
          go_enter Try.func35, Try.ntmps35
          go_upto_region 3 with (first | (go_at_call 34; refine (takes_Q g s hs sNot hz l O0 d0 true l1 HT.out w0 _ HI.out HB.out).mono ?_; rintro e w2 ⟨rfl, hi, hb⟩; clear HI HB; have HI := Aside0.mk hi; have HB := Aside0.mk hb; clear hi hb))
          go_wp2_with (first | (go_at_call 34; refine (takes_Q g s hs sNot hz l1 O0 d0 false l2 HT2.out w0 _ HI.out HB.out).mono ?_; rintro e w2 ⟨rfl, hi, hb⟩; clear HI HB; have HI := Aside0.mk hi; have HB := Aside0.mk hb; clear hi hb) | (go_at_call 37; refine (HF.out g l2 O0 d0 0 l3 O d w0 _ HI.out HB.out H3.out).mono ?_; rintro e w2 ⟨rfl, ⟨p, hp1, hp2, ov, h0, h1, h2⟩, hb⟩; clear HI HB; have HB := Aside0.mk hb; clear hb; obtain ⟨A2, k2, e2⟩ := Kd.R_slice h2; subst e2; have q2 := cellS42_2 h0; have f2 := blk_frozen h0 2) | ((with_reducible refine gate_builtin (b := .append) (xs := #[.tmp 20, .tmp 21]) rfl ?_); (try (refine gate_guard (by rfl) ?_; dsimp only)); at_builtin; refine Kd.R_append Kd.string (w0 := w0) w0.heap.size rfl (.tmp 20) (.tmp 21) 24 9 (.string ⟨#[]⟩) 16 rfl Try.underlying24 info9 rfl (by decide) (by omega) (.slice A2 O.length k2) O (sNot) [.string (sNot)] (fun _ => True) (fun _ => False) rfl rfl ?aP (fun _ hk => hk.elim) ?aF ?aO ?aB ?aS ?aL ?_; (case aP => exact rfl); (case aB => exact HB.out); (case aF => intro k hk; trivial); (case aO => exact h2); (case aS => exact below_size HB.out); (case aL => omega); intro v1 w1 ho hb hg hat; obtain ⟨Az, kz, ez⟩ := Kd.R_slice ho; subst ez; simp only [List.length_append, List.length_cons, List.length_nil, Nat.zero_add] at ho hat; have b1 := blk_grown h0 hg (IsS42.ne h0 h2); have f1 := blk_frozen b1 2; have d1 : w1.cell? ⟨g, 2, none⟩ = some (.slice A2 O.length k2) := (blk_cell b1 2).trans rfl))
          go_ret
          exact ⟨rfl, ⟨p, hp1, hp2, IsS42.put h1 h0 h2 ho hg⟩, below_set hb h1⟩
        · rw [if_neg c2] at h
          exact absurd h (by simp)
      · rw [if_neg c] at h
        simp only [Option.some.injEq, Prod.mk.injEq] at h
        obtain ⟨rfl, rfl, rfl, rfl⟩ := h
        have cb : (e3 != 0) = true := bne_iff_ne.mpr c
        clear c
        go_enter Try.func35, Try.ntmps35
        go_upto_region 3 with (first | (go_at_call 34; refine (takes_Q g s hs sNot hz l O0 d0 true l1 HT.out w0 _ HI.out HB.out).mono ?_; rintro e w2 ⟨rfl, hi, hb⟩; clear HI HB; have HI := Aside0.mk hi; have HB := Aside0.mk hb; clear hi hb))
        go_wp2_with (first | (go_at_call 34; refine (takes_Q g s hs sNot hz l1 O0 d0 false l2 HT2.out w0 _ HI.out HB.out).mono ?_; rintro e w2 ⟨rfl, hi, hb⟩; clear HI HB; have HI := Aside0.mk hi; have HB := Aside0.mk hb; clear hi hb) | (go_at_call 37; refine (HF.out g l2 O0 d0 e3 l3 O d w0 _ HI.out HB.out H3.out).mono ?_; rintro e w2 ⟨rfl, hi, hb⟩; clear HI HB; have HI := Aside0.mk hi; have HB := Aside0.mk hb; clear hi hb))
        go_ret
        exact ⟨rfl, HI.out, HB.out⟩
end Go.Proofs.Ytcpemjolabofnaa.PAll
