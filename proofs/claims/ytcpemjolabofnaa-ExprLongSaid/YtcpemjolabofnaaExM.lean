/- The reference's Part; the induction over how deep. -/
import Derived.Test.YtcpemjolabofnaaExL
namespace Go.Proofs.Ytcpemjolabofnaa.PAll
open Go Go.RowKit Go.Proofs.YtcpemjolabofnaaW.PrintWords Go.Proofs.YtcpemjolabofnaaW.PrintLast Go.Proofs.YtcpemjolabofnaaW.PrintMore Go.Proofs.YtcpemjolabofnaaMy Go.Proofs.Ytcpemjolabofnaa Go.Proofs.YtcpemjolabofnaaPw
set_option linter.unusedVariables false
set_option linter.unusedSimpArgs false
def rpartG (G : Rt → Option (Int × Rt)) (x : Rt) : Option (Int × Rt) :=
  if (rtk sOpen x.1).1 = true then
    (if 0 ≤ x.2.2 ∧ x.2.2 ≤ 4294967296 then
      (if 64 < x.2.2 + 1 then some (8, (rtk sOpen x.1).2, x.2.1, x.2.2 + 1)
      else (G ((rtk sOpen x.1).2, x.2.1, x.2.2 + 1)).bind fun r => if r.1 = 0 then
        (if 0 ≤ r.2.2.2 ∧ r.2.2.2 ≤ 4294967296 then
          (if (rtk sShut r.2.1).1 = true then some (0, (rtk sShut r.2.1).2, r.2.2.1, r.2.2.2 - 1) else some (4, (rtk sShut r.2.1).2, r.2.2.1, r.2.2.2 - 1))
        else none)
      else some r)
    else none)
  else match (rtk sOpen x.1).2 with
    | [] => some (4, [], x.2.1, x.2.2)
    | y :: t => if y.size ≤ 140737488351232 then (if rTag y = true then (if x.2.1.length < 4398046511104 then some (0, t, x.2.1 ++ [y], x.2.2) else none) else some (4, y :: t, x.2.1, x.2.2)) else none
set_option maxHeartbeats 8000000 in
set_option maxRecDepth 100000 in
theorem rpart_PR (G : Rt → Option (Int × Rt)) (hG : PR 22 G) : PR 38 (rpartG G) := by
  intro g l O0 d0 re rl rO rd w0 w hI hB h
  have hu := Try.underlying24
  have HI := Aside0.mk hI
  have HB := Aside0.mk hB
  have HF := Aside0.mk hG
  clear hI hB hG
  unfold rpartG at h
  simp only at h
  obtain ⟨b, l1, ht⟩ : ∃ b l1, rtk sOpen l = (b, l1) := ⟨_, _, rfl⟩
  rw [ht] at h
  simp only at h
  have HT := Aside0.mk ht
  clear ht
  cases b with
  | true =>
    rw [if_pos rfl] at h
    by_cases c1 : 0 ≤ d0 ∧ d0 ≤ 4294967296
    · rw [if_pos c1] at h
      obtain ⟨c1a, c1b⟩ := c1
      have hw : wrap64 (d0 + 1) = d0 + 1 := w64 (by omega) (by omega)
      by_cases c2 : 64 < d0 + 1
      · rw [if_pos c2] at h
        have c2b : decide (64 < d0 + 1) = true := decide_eq_true c2
        clear c2
        simp only [Option.some.injEq, Prod.mk.injEq] at h
        obtain ⟨rfl, rfl, rfl, rfl⟩ := h
        go_enter Try.func38, Try.ntmps38
        go_wp2_with (first | (go_at_call 31; refine (Take_Q g sOpen l O0 d0 true l1 HT.out w0 _ HI.out HB.out).mono ?_; rintro e w2 ⟨rfl, hi, hb⟩; clear HI HB; obtain ⟨A, c, ov, h0, h1, hc, hf, h2⟩ := hi; have HI := Aside0.mk (IsR.set_2 (⟨A, c, ov, h0, h1, hc, hf, h2⟩ : IsR w0 w2 g l1 O0 d0) (d0 + 1)); have HB := Aside0.mk (below_set hb h1 (j := 2) (v := .int .i64 (d0 + 1))); have q3 := cellR_2 h0; have f3 := blk_frozen h0 2; clear h1 hc hf h2 hb))
        go_ret
        exact ⟨rfl, HI.out, HB.out⟩
      · rw [if_neg c2] at h
        have c2b : decide (64 < d0 + 1) = false := decide_eq_false c2
        clear c2
        obtain ⟨⟨e3, l3, O, d⟩, h3, h⟩ := Option.bind_eq_some_iff.mp h
        simp only at h3 h
        have H3 := Aside0.mk h3
        clear h3
        by_cases c : e3 = 0
        · subst c
          rw [if_pos rfl] at h
          by_cases c3 : 0 ≤ d ∧ d ≤ 4294967296
          · rw [if_pos c3] at h
            obtain ⟨c3a, c3b⟩ := c3
            have hw2 : wrap64 (d - 1) = d - 1 := w64 (by omega) (by omega)
            obtain ⟨b, l4, ht⟩ : ∃ b l4, rtk sShut l3 = (b, l4) := ⟨_, _, rfl⟩
            rw [ht] at h
            simp only at h
            have HT2 := Aside0.mk ht
            clear ht
            cases b with
            | true =>
              rw [if_pos rfl] at h
              simp only [Option.some.injEq, Prod.mk.injEq] at h
              obtain ⟨rfl, rfl, rfl, rfl⟩ := h
              go_enter Try.func38, Try.ntmps38
              go_upto_region 9 with (first | (go_at_call 31; refine (Take_Q g sOpen l O0 d0 true l1 HT.out w0 _ HI.out HB.out).mono ?_; rintro e w2 ⟨rfl, hi, hb⟩; clear HI HB; obtain ⟨A, c, ov, h0, h1, hc, hf, h2⟩ := hi; have HI := Aside0.mk (IsR.set_2 (⟨A, c, ov, h0, h1, hc, hf, h2⟩ : IsR w0 w2 g l1 O0 d0) (d0 + 1)); have HB := Aside0.mk (below_set hb h1 (j := 2) (v := .int .i64 (d0 + 1))); have q3 := cellR_2 h0; have f3 := blk_frozen h0 2; clear h1 hc hf h2 hb) | (go_at_call 22; refine (HF.out g l1 O0 (d0 + 1) 0 l3 O d w0 _ HI.out HB.out H3.out).mono ?_; clear q3 f3 h0; rintro e w3 ⟨rfl, hi, hb⟩; clear HI HB; obtain ⟨A, c, ov, h0, h1, hc, hf, h2⟩ := hi; have HI := Aside0.mk (IsR.set_2 (⟨A, c, ov, h0, h1, hc, hf, h2⟩ : IsR w0 w3 g l3 O d) (d - 1)); have HB := Aside0.mk (below_set hb h1 (j := 2) (v := .int .i64 (d - 1))); have q3 := cellR_2 h0; have f3 := blk_frozen h0 2; clear h1 hc hf h2 hb))
              go_wp2_with (first | (go_at_call 31; refine (Take_Q g sShut l3 O (d - 1) true l4 HT2.out w0 _ HI.out HB.out).mono ?_; rintro e w2 ⟨rfl, hi, hb⟩; clear HI HB; have HI := Aside0.mk hi; have HB := Aside0.mk hb; clear hi hb))
              go_ret
              exact ⟨rfl, HI.out, HB.out⟩
            | false =>
              rw [if_neg (by simp)] at h
              simp only [Option.some.injEq, Prod.mk.injEq] at h
              obtain ⟨rfl, rfl, rfl, rfl⟩ := h
              go_enter Try.func38, Try.ntmps38
              go_upto_region 9 with (first | (go_at_call 31; refine (Take_Q g sOpen l O0 d0 true l1 HT.out w0 _ HI.out HB.out).mono ?_; rintro e w2 ⟨rfl, hi, hb⟩; clear HI HB; obtain ⟨A, c, ov, h0, h1, hc, hf, h2⟩ := hi; have HI := Aside0.mk (IsR.set_2 (⟨A, c, ov, h0, h1, hc, hf, h2⟩ : IsR w0 w2 g l1 O0 d0) (d0 + 1)); have HB := Aside0.mk (below_set hb h1 (j := 2) (v := .int .i64 (d0 + 1))); have q3 := cellR_2 h0; have f3 := blk_frozen h0 2; clear h1 hc hf h2 hb) | (go_at_call 22; refine (HF.out g l1 O0 (d0 + 1) 0 l3 O d w0 _ HI.out HB.out H3.out).mono ?_; clear q3 f3 h0; rintro e w3 ⟨rfl, hi, hb⟩; clear HI HB; obtain ⟨A, c, ov, h0, h1, hc, hf, h2⟩ := hi; have HI := Aside0.mk (IsR.set_2 (⟨A, c, ov, h0, h1, hc, hf, h2⟩ : IsR w0 w3 g l3 O d) (d - 1)); have HB := Aside0.mk (below_set hb h1 (j := 2) (v := .int .i64 (d - 1))); have q3 := cellR_2 h0; have f3 := blk_frozen h0 2; clear h1 hc hf h2 hb))
              go_wp2_with (first | (go_at_call 31; refine (Take_Q g sShut l3 O (d - 1) false l4 HT2.out w0 _ HI.out HB.out).mono ?_; rintro e w2 ⟨rfl, hi, hb⟩; clear HI HB; have HI := Aside0.mk hi; have HB := Aside0.mk hb; clear hi hb))
              go_ret
              exact ⟨rfl, HI.out, HB.out⟩
          · rw [if_neg c3] at h
            exact absurd h (by simp)
        · rw [if_neg c] at h
          simp only [Option.some.injEq, Prod.mk.injEq] at h
          obtain ⟨rfl, rfl, rfl, rfl⟩ := h
          have cb : (e3 != 0) = true := bne_iff_ne.mpr c
          clear c
          go_enter Try.func38, Try.ntmps38
          go_wp2_with (first | (go_at_call 31; refine (Take_Q g sOpen l O0 d0 true l1 HT.out w0 _ HI.out HB.out).mono ?_; rintro e w2 ⟨rfl, hi, hb⟩; clear HI HB; obtain ⟨A, c, ov, h0, h1, hc, hf, h2⟩ := hi; have HI := Aside0.mk (IsR.set_2 (⟨A, c, ov, h0, h1, hc, hf, h2⟩ : IsR w0 w2 g l1 O0 d0) (d0 + 1)); have HB := Aside0.mk (below_set hb h1 (j := 2) (v := .int .i64 (d0 + 1))); have q3 := cellR_2 h0; have f3 := blk_frozen h0 2; clear h1 hc hf h2 hb) | (go_at_call 22; refine (HF.out g l1 O0 (d0 + 1) e3 l3 O d w0 _ HI.out HB.out H3.out).mono ?_; clear q3 f3 h0; rintro e w3 ⟨rfl, hi, hb⟩; clear HI HB; have HI := Aside0.mk hi; have HB := Aside0.mk hb; clear hi hb))
          go_ret
          exact ⟨rfl, HI.out, HB.out⟩
    · rw [if_neg c1] at h
      exact absurd h (by simp)
  | false =>
    rw [if_neg (by simp)] at h
    cases l1 with
    | nil =>
      simp only [Option.some.injEq, Prod.mk.injEq] at h
      obtain ⟨rfl, rfl, rfl, rfl⟩ := h
      go_enter Try.func38, Try.ntmps38
      go_wp2_with (first | (go_at_call 31; refine (Take_Q g sOpen l O0 d0 false [] HT.out w0 _ HI.out HB.out).mono ?_; rintro e w2 ⟨rfl, hi, hb⟩; clear HI HB; obtain ⟨A, c, ov, h0, h1, hc, hf, h2⟩ := hi; have HI := Aside0.mk (⟨A, c, ov, h0, h1, hc, hf, h2⟩ : IsR w0 w2 g [] O0 d0); have HB := Aside0.mk hb; have q0 : w2.cell? ⟨g, 0, none⟩ = some (.slice A 0 c) := cellR_0 h0; clear h0 h1 hc hf h2 hb))
      go_ret
      exact ⟨rfl, HI.out, HB.out⟩
    | cons y t =>
      simp only at h
      by_cases cy : y.size ≤ 140737488351232
      · rw [if_pos cy] at h
        obtain ⟨K, hK⟩ := refTag_ev y cy
        have HK := Aside0.mk (hK K (Nat.le_refl _))
        clear hK cy
        obtain ⟨n, hn⟩ : ∃ n : Nat, n = t.length + 1 := ⟨_, rfl⟩
        have HN := Aside0.mk hn
        have cn : ((n : Int) == 0) = false := beq_eq_false_iff_ne.mpr (by omega)
        have cl : (0 < (n : Int)) = True := eq_true (by omega)
        have cl2 : (0 < n) = True := eq_true (by omega)
        clear hn
        cases hr : rTag y with
        | false =>
          rw [hr] at h HK
          rw [if_neg (by simp)] at h
          simp only [Option.some.injEq, Prod.mk.injEq] at h
          obtain ⟨rfl, rfl, rfl, rfl⟩ := h
          clear hr
          go_enter Try.func38, Try.ntmps38
          go_wp2_with (first | (go_at_call 31; refine (Take_Q g sOpen l O0 d0 false (y :: t) HT.out w0 _ HI.out HB.out).mono ?_; rintro e w2 ⟨rfl, hi, hb⟩; clear HI HB; obtain ⟨A, c, ov, h0, h1, hc, hf, h2⟩ := hi; have HI := Aside0.mk (⟨A, c, ov, h0, h1, hc, hf, h2⟩ : IsR w0 w2 g (y :: t) O0 d0); have HB := Aside0.mk hb; obtain ⟨ad, rfl, hx0, hx1, hx2⟩ := IsR.first hf; have q0 : w2.cell? ⟨g, 0, none⟩ = some (.slice (some ad) n c) := by { rw [HN.out]; exact cellR_0 h0 }; clear h0 h1 hc hf h2 hb) | (go_at_call 15; refine (seicheref13_Tag.calls K y false _ HK.out).mono ?_; rintro e w3 ⟨rfl, ⟨nd, rfl⟩⟩))
          go_ret
          exact ⟨rfl, IsR.drewN HI.out _, pw_below_drewN HB.out _⟩
        | true =>
          rw [hr] at h HK
          rw [if_pos rfl] at h
          clear hr
          by_cases c4 : O0.length < 4398046511104
          · rw [if_pos c4] at h
            simp only [Option.some.injEq, Prod.mk.injEq] at h
            obtain ⟨rfl, rfl, rfl, rfl⟩ := h
            obtain ⟨i0, hi0, _, hsz, _⟩ := info_parts info9
            go_enter Try.func38, Try.ntmps38
            go_upto_region 14 with (first | (go_at_call 31; refine (Take_Q g sOpen l O0 d0 false (y :: t) HT.out w0 _ HI.out HB.out).mono ?_; rintro e w2 ⟨rfl, hi, hb⟩; clear HI HB; obtain ⟨A, c, ov, h0, h1, hc, hf, h2⟩ := hi; have HI := Aside0.mk (⟨h0, hc, hf, h2⟩ : _ ∧ _ ∧ _ ∧ _); have HB := Aside0.mk hb; obtain ⟨ad, rfl, hx0, hx1, hx2⟩ := IsR.first hf; have q0 : w2.cell? ⟨g, 0, none⟩ = some (.slice (some ad) n c) := by { rw [HN.out]; exact cellR_0 h0 }; clear h0 hc hf h2 hb) | (go_at_call 15; refine (seicheref13_Tag.calls K y true _ HK.out).mono ?_; rintro e w3 ⟨rfl, ⟨nd, rfl⟩⟩))
            obtain ⟨O, hO⟩ : ∃ O, O = O0 := ⟨_, rfl⟩
            subst hO
            obtain ⟨h0, hc, hf, h2⟩ := HI.out
            replace h0 := blk_drewN h0 nd
            replace hf := Kd.F_drewN hf nd
            replace h2 := Kd.R_drewN h2 nd
            have hB := pw_below_drewN HB.out nd
            replace q0 := pw_cell_below (pw_below_drewN (Below.refl _ _) nd) q0
            replace hx0 := pw_cell_below (pw_below_drewN (Below.refl _ _) nd) hx0
            replace hx1 := pw_cell_below (pw_below_drewN (Below.refl _ _) nd) hx1
            obtain ⟨A2, k2, e2⟩ := Kd.R_slice h2
            subst e2
            replace h0 := blk_drew h0
            replace h2 := Kd.R_drew h2
            replace hB := below_drew1 hB
            replace hf := Kd.F_drew hf
            replace q0 := pw_cell_below (below_drew1 (Below.refl _ _)) q0
            replace hx0 := pw_cell_below (below_drew1 (Below.refl _ _)) hx0
            replace hx1 := pw_cell_below (below_drew1 (Below.refl _ _)) hx1
            refine start_ (n := 16) (S := fun w' => w'.cell? ⟨g, 0, none⟩ = some (.slice (some ad) n c) ∧ w'.cell? ⟨g, 1, none⟩ = some (.slice A2 O.length k2) ∧ w'.cell? ad = some (.string y) ∧ w'.cell? (ad.add 0) = some (.string y)) (ds := [15]) #[false, false, false, false, false, false, false, false, false, false, false, false, false, false, false, false] (by kernel_rfl) rfl rfl ⟨q0, (blk_cell h0 1).trans rfl, hx0, hx1⟩ (fun hHeld => ?_)
            generalize World.drew _ = wd at h0 h2 hB hf q0 hx0 hx1 hHeld ⊢
            refine pure_ (i := 0) (N := some 49) (v := ?_) (a' := ?_) #[true, false, false, false, false, false, false, false, false, false, false, false, false, false, false, false] rfl rfl (by kernel_rfl) (fun _ _ _ h => h) (Or.inl ⟨by rfl, ?_⟩) ?_ ?_
            rotate_left
            · intro w'
              go_simp
              with_reducible rfl
            rotate_left
            · simp only [Act.put, List.setIfInBounds_toArray, List.set_cons_zero, List.set_cons_succ, i64_w, i32_w]
              rfl
            refine pure_ (i := 1) (N := some 50) (v := ?_) (a' := ?_) #[true, true, false, false, false, false, false, false, false, false, false, false, false, false, false, false] rfl rfl (by kernel_rfl) (fun _ _ _ h => h) (Or.inl ⟨by rfl, ?_⟩) ?_ ?_
            rotate_left
            · intro w'
              go_simp
              with_reducible rfl
            rotate_left
            · simp only [Act.put, List.setIfInBounds_toArray, List.set_cons_zero, List.set_cons_succ, i64_w, i32_w]
              rfl
            refine pure_ (i := 2) (N := some 51) (v := ?_) (a' := ?_) #[true, true, true, false, false, false, false, false, false, false, false, false, false, false, false, false] rfl rfl (by kernel_rfl) (fun _ _ _ h => h) (Or.inl ⟨by rfl, ?_⟩) ?_ ?_
            rotate_left
            · intro w'
              go_simp
              with_reducible rfl
            rotate_left
            · simp only [Act.put, List.setIfInBounds_toArray, List.set_cons_zero, List.set_cons_succ, i64_w, i32_w]
              rfl
            refine pure_ (i := 3) (N := some 52) (v := ?_) (a' := ?_) #[true, true, true, true, false, false, false, false, false, false, false, false, false, false, false, false] rfl rfl (by kernel_rfl) (fun _ _ _ h => h) (Or.inl ⟨by rfl, ?_⟩) ?_ ?_
            rotate_left
            · intro w'
              go_simp
              with_reducible rfl
            rotate_left
            · simp only [Act.put, List.setIfInBounds_toArray, List.set_cons_zero, List.set_cons_succ, i64_w, i32_w]
              rfl
            refine pure_ (i := 5) (N := some 54) (v := ?_) (a' := ?_) #[true, true, true, true, false, true, false, false, false, false, false, false, false, false, false, false] rfl rfl (by kernel_rfl) (fun _ _ _ h => h) (Or.inl ⟨by rfl, ?_⟩) ?_ ?_
            rotate_left
            · intro w'
              go_simp
              with_reducible rfl
            rotate_left
            · simp only [Act.put, List.setIfInBounds_toArray, List.set_cons_zero, List.set_cons_succ, i64_w, i32_w]
              rfl
            refine pure_ (i := 6) (N := some 55) (v := ?_) (a' := ?_) #[true, true, true, true, false, true, true, false, false, false, false, false, false, false, false, false] rfl rfl (by kernel_rfl) (fun _ _ _ h => h) (Or.inl ⟨by rfl, ?_⟩) ?_ ?_
            rotate_left
            · intro w'
              go_simp
              with_reducible rfl
            rotate_left
            · simp only [Act.put, List.setIfInBounds_toArray, List.set_cons_zero, List.set_cons_succ, i64_w, i32_w]
              rfl
            refine pure_ (i := 7) (N := some 56) (v := ?_) (a' := ?_) #[true, true, true, true, false, true, true, true, false, false, false, false, false, false, false, false] rfl rfl (by kernel_rfl) (fun _ _ _ h => h) (Or.inl ⟨by rfl, ?_⟩) ?_ ?_
            rotate_left
            · intro w'
              go_simp
              with_reducible rfl
            rotate_left
            · simp only [Act.put, List.setIfInBounds_toArray, List.set_cons_zero, List.set_cons_succ, i64_w, i32_w]
              rfl
            refine take_ (i := 4) (N := some 53) (v := ?_) (a' := ?_) #[true, true, true, true, true, true, true, true, false, false, false, false, false, false, false, false] rfl rfl (by kernel_rfl) (fun _ _ _ h => h) (Or.inl ⟨by rfl, ?_⟩) hHeld ?_ ?_
            rotate_left
            · rintro w' ⟨s0, s1, s2, s3⟩
              go_simp
              with_reducible rfl
            rotate_left
            · simp only [Act.put, List.setIfInBounds_toArray, List.set_cons_zero, List.set_cons_succ, i64_w, i32_w]
              rfl
            refine take_ (i := 8) (N := some 57) (v := ?_) (a' := ?_) #[true, true, true, true, true, true, true, true, true, false, false, false, false, false, false, false] rfl rfl (by kernel_rfl) (fun _ _ _ h => h) (Or.inl ⟨by rfl, ?_⟩) hHeld ?_ ?_
            rotate_left
            · rintro w' ⟨s0, s1, s2, s3⟩
              go_simp
              with_reducible rfl
            rotate_left
            · simp only [Act.put, List.setIfInBounds_toArray, List.set_cons_zero, List.set_cons_succ, i64_w, i32_w]
              rfl
            refine pure_ (i := 9) (N := some 58) (v := ?_) (a' := ?_) #[true, true, true, true, true, true, true, true, true, true, false, false, false, false, false, false] rfl rfl (by kernel_rfl) (fun _ _ _ h => h) (Or.inl ⟨by rfl, ?_⟩) ?_ ?_
            rotate_left
            · intro w'
              go_simp
              with_reducible rfl
            rotate_left
            · simp only [Act.put, List.setIfInBounds_toArray, List.set_cons_zero, List.set_cons_succ, i64_w, i32_w]
              rfl
            refine take_ (i := 10) (N := some 59) (v := ?_) (a' := ?_) #[true, true, true, true, true, true, true, true, true, true, true, false, false, false, false, false] rfl rfl (by kernel_rfl) (fun _ _ _ h => h) (Or.inl ⟨by rfl, ?_⟩) hHeld ?_ ?_
            rotate_left
            · rintro w' ⟨s0, s1, s2, s3⟩
              go_simp
              with_reducible rfl
            rotate_left
            · simp only [Act.put, List.setIfInBounds_toArray, List.set_cons_zero, List.set_cons_succ, i64_w, i32_w]
              rfl
            refine one_ (i := 11) (N := some 60) #[true, true, true, true, true, true, true, true, true, true, true, true, false, false, false, false] rfl rfl (by kernel_rfl) (by decide) (fun K hK => ?_)
            refine value_ (w1 := ?_) (v := ?_) (by rfl) rfl ?_ ?_
            rotate_left 2
            · go_simp
              constructor
              · rfl
              · rfl
            refine hK.out _ _ ⟨pw_cell_below (below_alloc (Below.refl _ _) _) q0, (blk_cell (blk_alloc h0 _) 1).trans rfl, pw_cell_below (below_alloc (Below.refl _ _) _) hx0, pw_cell_below (below_alloc (Below.refl _ _) _) hx1⟩ (fun hHeld => ?_)
            clear hK K
            refine norm_ (a' := ?_) ?_ ?_
            rotate_left
            · show Act.put _ (some 60) _ = _
              simp only [Act.put, List.setIfInBounds_toArray, List.set_cons_zero, List.set_cons_succ, i64_w, i32_w]
              rfl
            refine one_ (i := 12) (N := some 61) #[true, true, true, true, true, true, true, true, true, true, true, true, true, false, false, false] rfl rfl (by kernel_rfl) (by decide) (fun K hK => ?_)
            refine Kd.R_append_step Kd.string (w0 := w0) w0.heap.size (by rfl) (.tmp 53) (.tmp 60) 24 9 (.string ⟨#[]⟩) 16 rfl Try.underlying24 info9 rfl (by decide) (by omega) (.slice A2 O.length k2) O y [.string y] (fun _ => True) (fun _ => False) rfl rfl ?aP (fun _ hk => hk.elim) ?aF ?aO ?aB ?aS ?aL ?_
            (case aP => exact rfl)
            (case aB => exact hB)
            (case aF => intro k hk; trivial)
            (case aO => exact h2)
            (case aS => exact below_size hB)
            (case aL => omega)
            intro v1 w1 ho hb hg hat
            obtain ⟨Az, kz, ez⟩ := Kd.R_slice ho
            subst ez
            simp only [List.length_append, List.length_cons, List.length_nil, Nat.zero_add] at ho hat
            have b1 := blk_grown h0 hg (IsR.ne h0 h2)
            have f1_0 := blk_frozen b1 0
            have f1_1 := blk_frozen b1 1
            have d1_0 : w1.cell? ⟨g, 0, none⟩ = some (.slice (some ad) n c) := (cell_grown hg q0 (IsR.ne h0 h2))
            have d1_1 : w1.cell? ⟨g, 1, none⟩ = some (.slice A2 O.length k2) := (blk_cell b1 1).trans rfl
            have d1_2 := cell_grown hg hx0 hx2.2
            have d1_3 := cell_grown hg hx1 hx2.2
            refine hK.out _ _ ⟨d1_0, d1_1, d1_2, d1_3⟩ (fun hHeld => ?_)
            clear hK K
            refine norm_ (a' := ?_) ?_ ?_
            rotate_left
            · show Act.put _ (some 61) _ = _
              simp only [Act.put, List.setIfInBounds_toArray, List.set_cons_zero, List.set_cons_succ, i64_w, i32_w]
              rfl
            refine pure_ (i := 13) (N := some 62) (v := ?_) (a' := ?_) #[true, true, true, true, true, true, true, true, true, true, true, true, true, true, false, false] rfl rfl (by kernel_rfl) (fun _ _ _ h => h) (Or.inl ⟨by rfl, ?_⟩) ?_ ?_
            rotate_left
            · intro w'
              go_simp
              with_reducible rfl
            rotate_left
            · simp only [Act.put, List.setIfInBounds_toArray, List.set_cons_zero, List.set_cons_succ, i64_w, i32_w]
              rfl
            refine pure_ (i := 14) (N := some 63) (v := ?_) (a' := ?_) #[true, true, true, true, true, true, true, true, true, true, true, true, true, true, true, false] rfl rfl (by kernel_rfl) (fun _ _ _ h => h) (Or.inl ⟨by rfl, ?_⟩) ?_ ?_
            rotate_left
            · intro w'
              go_simp
              with_reducible rfl
            rotate_left
            · simp only [Act.put, List.setIfInBounds_toArray, List.set_cons_zero, List.set_cons_succ, i64_w, i32_w]
              rfl
            refine last_ (i := 15) (N := none) #[true, true, true, true, true, true, true, true, true, true, true, true, true, true, true, true] rfl rfl (by kernel_rfl) (by decide) (fun K hK => ?_)
            refine skip_ (w1 := ?_) (by rfl) rfl ?_ ?_
            rotate_left
            · go_simp
              rfl
            refine hK.out _ _ ?_
            clear hK K
            refine done_ (by kernel_rfl) ?_
            have hcut := cut_from (P := Try.prog) 24 9 .i64 Try.underlying24 hi0 1 hsz (some ad) n c 1 (by omega) (by have := HN.out; omega)
            obtain ⟨A1, hA⟩ : ∃ A1, A1 = (if c = 1 then some ad else (some ad).map (·.add 1)) := ⟨_, rfl⟩
            have e3 : (if c = (1 : Int).toNat then some ad else (some ad).map (·.add ((1 : Int).toNat * 1))) = A1 := by rw [hA]; rfl
            rw [e3] at hcut
            simp only [Int.toNat_one] at hcut
            have HP := Aside0.mk (IsR.put_cut h1 h0 hc hf h2 ho hg hat)
            have HX := Aside0.mk hA
            clear e3 hA hx2
            go_wp2
            go_ret
            refine ⟨rfl, ?_, below_set (below_set hb h1) h1⟩
            have hp := HP.out
            rw [← HX.out, show t.length = n - 1 by rw [HN.out]; rfl] at hp
            exact hp
          · rw [if_neg c4] at h
            exact absurd h (by simp)
      · rw [if_neg cy] at h
        exact absurd h (by simp)
def rpartF (m : Nat) : Nat → Rt → Option (Int × Rt)
  | 0 => fun _ => none
  | n + 1 => rpartG (rlistF sOr (rlistF sAnd (rnotF (rpartF m n)) m) m)
def rorF (m n : Nat) : Rt → Option (Int × Rt) := rlistF sOr (rlistF sAnd (rnotF (rpartF m n)) m) m
theorem rpartF_PR (m : Nat) : ∀ n, PR 38 (rpartF m n)
  | 0 => fun g l O d e1 l1 O1 d1 w0 w hI hB h => absurd h (by simp [rpartF])
  | n + 1 => rpart_PR _ (ror_PR _ (rand_PR _ (rnot_PR _ (rpartF_PR m n)) m) m)
theorem rorF_PR (m n : Nat) : PR 22 (rorF m n) := ror_PR _ (rand_PR _ (rnot_PR _ (rpartF_PR m n)) m) m
end Go.Proofs.Ytcpemjolabofnaa.PAll
