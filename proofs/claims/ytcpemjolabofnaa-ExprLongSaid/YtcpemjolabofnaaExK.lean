/- The reference's And and Or. -/
import Derived.Test.YtcpemjolabofnaaExJ
import Derived.Test.YtcpemjolabofnaaExE
namespace Go.Proofs.Ytcpemjolabofnaa.PAll
open Go Go.RowKit Go.Proofs.YtcpemjolabofnaaW.PrintWords Go.Proofs.YtcpemjolabofnaaW.PrintLast Go.Proofs.YtcpemjolabofnaaW.PrintMore Go.Proofs.YtcpemjolabofnaaMy Go.Proofs.Ytcpemjolabofnaa Go.Proofs.YtcpemjolabofnaaPw
set_option linter.unusedVariables false
set_option linter.unusedSimpArgs false
def rlistL (sg : ByteArray) (F : Rt → Option (Int × Rt)) : Nat → Int → Rt → Option (Int × Rt)
  | 0, _, _ => none
  | k + 1, e, x => if e = 0 then (if (rtk sg x.1).1 = true then (F ((rtk sg x.1).2, x.2.1, x.2.2)).bind fun r => (if r.2.2.1.length < 4398046511104 then rlistL sg F k r.1 (r.2.1, r.2.2.1 ++ [sg], r.2.2.2) else none) else some (0, (rtk sg x.1).2, x.2.1, x.2.2)) else some (e, x.1, x.2.1, x.2.2)
def rlistF (sg : ByteArray) (F : Rt → Option (Int × Rt)) (k : Nat) (x : Rt) : Option (Int × Rt) := (F x).bind fun r => rlistL sg F k r.1 r.2
/-- What the function fn does to a reader, as F tells. -/
def PR (fn : Nat) (F : Rt → Option (Int × Rt)) : Prop := ∀ (g : Nat) (l : List ByteArray) (O : List ByteArray) (d : Int) (e1 : Int) (l1 : List ByteArray) (O1 : List ByteArray) (d1 : Int) (w0 w : World), IsR w0 w g l O d → Below w0.heap.size w0 w → F (l, O, d) = some (e1, l1, O1, d1) →
  Calls Try.prog fn #[.pointer (some ⟨g, 0, none⟩)] w fun e w' => e = .returned (.int .i64 e1) ∧ IsR w0 w' g l1 O1 d1 ∧ Below w0.heap.size w0 w'
set_option maxHeartbeats 4000000 in
set_option maxRecDepth 100000 in
theorem rand_PR (F : Rt → Option (Int × Rt)) (hF : PR 36 F) (k : Nat) : PR 30 (rlistF sAnd F k) := by
  intro g l O0 d0 re rl rO rd w0 w hI hB h
  have hu := Try.underlying24
  have HI := Aside0.mk hI
  have HB := Aside0.mk hB
  have HF := Aside0.mk hF
  clear hI hB hF
  obtain ⟨⟨e1, l1, O1, d1⟩, h1, h⟩ := Option.bind_eq_some_iff.mp h
  have H1 := Aside0.mk h1
  have H := Aside0.mk h
  clear h1 h
  go_enter Try.func30, Try.ntmps30
  go_wp2_with (first | (go_at_call 36; refine (HF.out g l O0 d0 e1 l1 O1 d1 w0 _ HI.out HB.out H1.out).mono ?_; rintro e w2 ⟨rfl, hi, hb⟩; clear HI HB; have HI := Aside0.mk hi; have HB := Aside0.mk hb; clear hi hb))
  go_loopg [3] k (fun kq u3 w' => ∃ (e' : Int) (l' : List ByteArray) (O' : List ByteArray) (d' : Int), u3 = .int .i64 e' ∧ Aside0 (rlistL sAnd F kq e' (l', O', d') = some (re, rl, rO, rd)) ∧ Aside0 (IsR w0 w' g l' O' d') ∧ Aside0 (Below w0.heap.size w0 w'))
  case atStart => exact ⟨e1, l1, O1, d1, rfl, H, HI, HB⟩
  case round =>
    clear H HI HB H1
    obtain ⟨e', l', O', d', rfl, HA, HI, HB⟩ := hrel
    cases gk with
    | zero => exact absurd HA.out (by simp [rlistL])
    | succ k1 =>
      have h := HA.out
      clear HA
      simp only [rlistL] at h
      by_cases c : e' = 0
      · subst c
        rw [if_pos rfl] at h
        obtain ⟨b, l2, ht⟩ : ∃ b l2, rtk sAnd l' = (b, l2) := ⟨_, _, rfl⟩
        rw [ht] at h
        have HT := Aside0.mk ht
        clear ht
        cases b with
        | false =>
          rw [if_neg (by simp)] at h
          simp only [Option.some.injEq, Prod.mk.injEq] at h
          obtain ⟨rfl, rfl, rfl, rfl⟩ := h
          go_wp2_with (first | (go_at_call 31; refine (Take_Q g sAnd l' O' d' false l2 HT.out w0 _ HI.out HB.out).mono ?_; rintro e w2 ⟨rfl, hi, hb⟩; clear HI HB; have HI := Aside0.mk hi; have HB := Aside0.mk hb; clear hi hb))
          go_ret
          exact ⟨rfl, HI.out, HB.out⟩
        | true =>
          rw [if_pos rfl] at h
          obtain ⟨⟨e3, l3, O, d⟩, h3, h⟩ := Option.bind_eq_some_iff.mp h
          simp only at h3 h
          have H3 := Aside0.mk h3
          clear h3
          by_cases c2 : O.length < 4398046511104
          · rw [if_pos c2] at h
            have H := Aside0.mk h
            clear h
            go_wp2_with (first | (go_at_call 31; refine (Take_Q g sAnd l' O' d' true l2 HT.out w0 _ HI.out HB.out).mono ?_; rintro e w2 ⟨rfl, hi, hb⟩; clear HI HB; have HI := Aside0.mk hi; have HB := Aside0.mk hb; clear hi hb) | (go_at_call 36; refine (HF.out g l2 O' d' e3 l3 O d w0 _ HI.out HB.out H3.out).mono ?_; rintro e w2 ⟨rfl, ⟨A, c, ov, h0, h1, hc, hf, h2⟩, hb⟩; clear HI HB; have HB := Aside0.mk hb; clear hb; obtain ⟨A2, k2, e2⟩ := Kd.R_slice h2; subst e2; have q2 := cellR_1 h0; have f2 := blk_frozen h0 1) | ((with_reducible refine gate_builtin (b := .append) (xs := #[.tmp 18, .tmp 19]) rfl ?_); (try (refine gate_guard (by rfl) ?_; dsimp only)); at_builtin; refine Kd.R_append Kd.string (w0 := w0) w0.heap.size rfl (.tmp 18) (.tmp 19) 24 9 (.string ⟨#[]⟩) 16 rfl Try.underlying24 info9 rfl (by decide) (by omega) (.slice A2 O.length k2) O (sAnd) [.string (sAnd)] (fun _ => True) (fun _ => False) rfl rfl ?aP (fun _ hk => hk.elim) ?aF ?aO ?aB ?aS ?aL ?_; (case aP => exact rfl); (case aB => exact HB.out); (case aF => intro k hk; trivial); (case aO => exact h2); (case aS => exact below_size HB.out); (case aL => omega); intro v1 w1 ho hb hg hat; obtain ⟨Az, kz, ez⟩ := Kd.R_slice ho; subst ez; simp only [List.length_append, List.length_cons, List.length_nil, Nat.zero_add] at ho hat; have b1 := blk_grown h0 hg (IsR.ne h0 h2); have f1 := blk_frozen b1 1; have d1 : w1.cell? ⟨g, 1, none⟩ = some (.slice A2 O.length k2) := (blk_cell b1 1).trans rfl))
            go_roundg k1
            case rel => exact ⟨e3, l3, O ++ [sAnd], d, rfl, H, ⟨IsR.put h1 h0 hc hf h2 ho hg hat⟩, ⟨below_set hb h1⟩⟩
            case measure => omega
          · rw [if_neg c2] at h
            exact absurd h (by simp)
      · rw [if_neg c] at h
        simp only [Option.some.injEq, Prod.mk.injEq] at h
        obtain ⟨rfl, rfl, rfl, rfl⟩ := h
        have cb : (e' == 0) = false := beq_eq_false_iff_ne.mpr c
        clear c
        go_wp2
        go_ret
        exact ⟨rfl, HI.out, HB.out⟩
set_option maxHeartbeats 4000000 in
set_option maxRecDepth 100000 in
theorem ror_PR (F : Rt → Option (Int × Rt)) (hF : PR 30 F) (k : Nat) : PR 22 (rlistF sOr F k) := by
  intro g l O0 d0 re rl rO rd w0 w hI hB h
  have hu := Try.underlying24
  have HI := Aside0.mk hI
  have HB := Aside0.mk hB
  have HF := Aside0.mk hF
  clear hI hB hF
  obtain ⟨⟨e1, l1, O1, d1⟩, h1, h⟩ := Option.bind_eq_some_iff.mp h
  have H1 := Aside0.mk h1
  have H := Aside0.mk h
  clear h1 h
  go_enter Try.func22, Try.ntmps22
  go_wp2_with (first | (go_at_call 30; refine (HF.out g l O0 d0 e1 l1 O1 d1 w0 _ HI.out HB.out H1.out).mono ?_; rintro e w2 ⟨rfl, hi, hb⟩; clear HI HB; have HI := Aside0.mk hi; have HB := Aside0.mk hb; clear hi hb))
  go_loopg [3] k (fun kq u3 w' => ∃ (e' : Int) (l' : List ByteArray) (O' : List ByteArray) (d' : Int), u3 = .int .i64 e' ∧ Aside0 (rlistL sOr F kq e' (l', O', d') = some (re, rl, rO, rd)) ∧ Aside0 (IsR w0 w' g l' O' d') ∧ Aside0 (Below w0.heap.size w0 w'))
  case atStart => exact ⟨e1, l1, O1, d1, rfl, H, HI, HB⟩
  case round =>
    clear H HI HB H1
    obtain ⟨e', l', O', d', rfl, HA, HI, HB⟩ := hrel
    cases gk with
    | zero => exact absurd HA.out (by simp [rlistL])
    | succ k1 =>
      have h := HA.out
      clear HA
      simp only [rlistL] at h
      by_cases c : e' = 0
      · subst c
        rw [if_pos rfl] at h
        obtain ⟨b, l2, ht⟩ : ∃ b l2, rtk sOr l' = (b, l2) := ⟨_, _, rfl⟩
        rw [ht] at h
        have HT := Aside0.mk ht
        clear ht
        cases b with
        | false =>
          rw [if_neg (by simp)] at h
          simp only [Option.some.injEq, Prod.mk.injEq] at h
          obtain ⟨rfl, rfl, rfl, rfl⟩ := h
          go_wp2_with (first | (go_at_call 31; refine (Take_Q g sOr l' O' d' false l2 HT.out w0 _ HI.out HB.out).mono ?_; rintro e w2 ⟨rfl, hi, hb⟩; clear HI HB; have HI := Aside0.mk hi; have HB := Aside0.mk hb; clear hi hb))
          go_ret
          exact ⟨rfl, HI.out, HB.out⟩
        | true =>
          rw [if_pos rfl] at h
          obtain ⟨⟨e3, l3, O, d⟩, h3, h⟩ := Option.bind_eq_some_iff.mp h
          simp only at h3 h
          have H3 := Aside0.mk h3
          clear h3
          by_cases c2 : O.length < 4398046511104
          · rw [if_pos c2] at h
            have H := Aside0.mk h
            clear h
            go_wp2_with (first | (go_at_call 31; refine (Take_Q g sOr l' O' d' true l2 HT.out w0 _ HI.out HB.out).mono ?_; rintro e w2 ⟨rfl, hi, hb⟩; clear HI HB; have HI := Aside0.mk hi; have HB := Aside0.mk hb; clear hi hb) | (go_at_call 30; refine (HF.out g l2 O' d' e3 l3 O d w0 _ HI.out HB.out H3.out).mono ?_; rintro e w2 ⟨rfl, ⟨A, c, ov, h0, h1, hc, hf, h2⟩, hb⟩; clear HI HB; have HB := Aside0.mk hb; clear hb; obtain ⟨A2, k2, e2⟩ := Kd.R_slice h2; subst e2; have q2 := cellR_1 h0; have f2 := blk_frozen h0 1) | ((with_reducible refine gate_builtin (b := .append) (xs := #[.tmp 18, .tmp 19]) rfl ?_); (try (refine gate_guard (by rfl) ?_; dsimp only)); at_builtin; refine Kd.R_append Kd.string (w0 := w0) w0.heap.size rfl (.tmp 18) (.tmp 19) 24 9 (.string ⟨#[]⟩) 16 rfl Try.underlying24 info9 rfl (by decide) (by omega) (.slice A2 O.length k2) O (sOr) [.string (sOr)] (fun _ => True) (fun _ => False) rfl rfl ?aP (fun _ hk => hk.elim) ?aF ?aO ?aB ?aS ?aL ?_; (case aP => exact rfl); (case aB => exact HB.out); (case aF => intro k hk; trivial); (case aO => exact h2); (case aS => exact below_size HB.out); (case aL => omega); intro v1 w1 ho hb hg hat; obtain ⟨Az, kz, ez⟩ := Kd.R_slice ho; subst ez; simp only [List.length_append, List.length_cons, List.length_nil, Nat.zero_add] at ho hat; have b1 := blk_grown h0 hg (IsR.ne h0 h2); have f1 := blk_frozen b1 1; have d1 : w1.cell? ⟨g, 1, none⟩ = some (.slice A2 O.length k2) := (blk_cell b1 1).trans rfl))
            go_roundg k1
            case rel => exact ⟨e3, l3, O ++ [sOr], d, rfl, H, ⟨IsR.put h1 h0 hc hf h2 ho hg hat⟩, ⟨below_set hb h1⟩⟩
            case measure => omega
          · rw [if_neg c2] at h
            exact absurd h (by simp)
      · rw [if_neg c] at h
        simp only [Option.some.injEq, Prod.mk.injEq] at h
        obtain ⟨rfl, rfl, rfl, rfl⟩ := h
        have cb : (e' == 0) = false := beq_eq_false_iff_ne.mpr c
        clear c
        go_wp2
        go_ret
        exact ⟨rfl, HI.out, HB.out⟩
end Go.Proofs.Ytcpemjolabofnaa.PAll
