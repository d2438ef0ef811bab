/- The parser's part: a tag. -/
import Derived.Test.YtcpemjolabofnaaExQ
namespace Go.Proofs.Ytcpemjolabofnaa.PAll
open Go Go.RowKit Go.Proofs.YtcpemjolabofnaaW.PrintWords Go.Proofs.YtcpemjolabofnaaW.PrintLast Go.Proofs.YtcpemjolabofnaaW.PrintMore Go.Proofs.YtcpemjolabofnaaMy Go.Proofs.Ytcpemjolabofnaa Go.Proofs.YtcpemjolabofnaaPw
set_option linter.unusedVariables false
set_option linter.unusedSimpArgs false
/-- A part that doesn't begin with a bracket. -/
def tagF (x : St) : Option (Int × St) :=
  if (dropB x.1).takeWhile isT = [] then some (4, dropB x.1, x.2.1, x.2.2)
  else if x.2.1.length < 4398046511104 then some (0, (dropB x.1).dropWhile isT, x.2.1 ++ [strOfNums ((dropB x.1).takeWhile isT)], x.2.2)
  else none
set_option maxHeartbeats 2000000 in
set_option maxRecDepth 100000 in
theorem part_tag (s : ByteArray) (hs : s.size ≤ 4294967296) (g : Nat) (l : List Int) (O : List ByteArray) (d : Int) (l1 : List Int) (re : Int) (rl : List Int) (rO : List ByteArray) (rd : Int) (w0 w : World) (HI : Aside0 (IsP w0 w g s l O d)) (HB : Aside0 (Below w0.heap.size w0 w)) (HT : Aside0 (tk (bytesOf sOpen) l = (false, l1))) (H : Aside0 (tagF (l1, O, d) = some (re, rl, rO, rd))) :
    Calls Try.prog 37 #[.pointer (some ⟨g, 0, none⟩)] w fun e w' => e = .returned (.int .i64 re) ∧ IsP w0 w' g s rl rO rd ∧ Below w0.heap.size w0 w' := by
  have hu := Try.underlying24
  have hz : (sOpen).size ≤ 4294967296 := by decide
  go_enter Try.func37, Try.ntmps37
  go_wp2_with (first | (go_at_call 34; refine (takes_Q g s hs sOpen hz l O d false l1 HT.out w0 _ HI.out HB.out).mono ?_; rintro e w2 ⟨rfl, hi, hb⟩; clear HI HB; have HI := Aside0.mk hi; have HB := Aside0.mk hb; clear hi hb) | (go_at_call 20; refine (blanks_P g s hs l1 O d w0 _ HI.out HB.out).mono ?_; rintro e w3 ⟨rfl, ⟨p, hp1, hp2, hi⟩, hb⟩; clear HI HB; obtain ⟨y, hy⟩ : ∃ y : Int, y = (p : Int) := ⟨_, rfl⟩; rw [← hy] at hi; have HY := Aside0.mk hy; clear hy; have HI := Aside0.mk hi; have HB := Aside0.mk hb; clear hb; obtain ⟨ov, h0, h1, h2⟩ := hi; have q1 := cellS42_1 h0; clear h1 h2))
  have HR := Aside0.mk (Run.refl s p hp1)
  go_loopg [] s.size (fun kq w' => ∃ (q : Nat) (x : Int), Aside0 (x = (q : Int)) ∧ Aside0 (s.size - q ≤ kq) ∧ Aside0 (Run s p q) ∧ Aside0 (IsS42 w0 w' g s x O d) ∧ Aside0 (Below w0.heap.size w0 w'))
  case atStart => exact ⟨p, y, HY, ⟨Nat.sub_le _ _⟩, HR, HI, HB⟩
  case round =>
    clear HI HB HR q1 h0
    obtain ⟨q, x, HX, HK, HR, HI, HB⟩ := hrel
    have hq := HR.out.2.1
    by_cases c1 : q < s.size
    · have c1b : decide (x < (s.size : Int)) = true := decide_eq_true (by have := HX.out; omega)
      by_cases c2 : isT (bt s x) = true
      · have HR2 := Aside0.mk (HR.out.step c1 (by have := HX.out; subst this; exact c2))
        have HF := Aside0.mk ((tag_f (bt s x)).trans (by rw [c2]))
        clear c2 HR
        have HW : Aside0 (wrap64 (x + 1) = ((q + 1 : Nat) : Int)) := ⟨by have := HX.out; rw [w64 (by omega) (by omega)]; omega⟩
        obtain ⟨ov, h0, h1, h2⟩ := HI.out
        have z0 := cellS42_0 h0
        have z1 := cellS42_1 h0
        have f1 := blk_frozen h0 1
        have p4 : (0 ≤ x) = True := eq_true (by have := HX.out; omega)
        have q4 : (x < (s.size : Int)) = True := eq_true (by have := HX.out; omega)
        have hx4 := bt_at s x
        have HQ := Aside0.mk hq
        have HC := Aside0.mk c1
        clear h0 h2 hq c1
        go_wp2
        go_quiet ((go_at_call 25; exact Calls.quiet_of ((expr_tag.calls (bt s x) true _ HF.out).mono (fun _ _ h => ⟨h.1, h.2.out⟩))))
        go_wp2
        go_roundg (gk - 1)
        case measure => have := HK.out; have := HC.out; omega
        case rel => exact ⟨q + 1, _, HW, ⟨by have := HK.out; omega⟩, HR2, ⟨(HI.out.drewN _).set_1 _⟩, ⟨below_set (pw_below_drewN HB.out _) h1⟩⟩
      · have c2f : isT (bt s x) = false := Bool.eq_false_iff.2 c2
        have HD := Aside0.mk (HR.out.done (by have := HX.out; subst this; rw [tw_step s q c1, if_neg c2]))
        have HF := Aside0.mk ((tag_f (bt s x)).trans (by rw [c2f]))
        clear c2 c2f
        obtain ⟨ov, h0, h1, h2⟩ := HI.out
        have z0 := cellS42_0 h0
        have z1 := cellS42_1 h0
        have p4 : (0 ≤ x) = True := eq_true (by have := HX.out; omega)
        have q4 : (x < (s.size : Int)) = True := eq_true (by have := HX.out; omega)
        have hx4 := bt_at s x
        have HC := Aside0.mk c1
        have hqs := HR.out.2.1
        clear c1
        have q4p := HR.out.1
        by_cases c3 : q = p
        · have HE := Aside0.mk (show tagF (l1, O, d) = some (4, dropB l1, O, d) from (by unfold tagF; simp only [hp2, HD.out.1]; rw [if_pos (by rw [c3, bytesOf_extract]; simp)]))
          have c3b : (x == y) = true := beq_iff_eq.mpr (by have := HX.out; have := HY.out; omega)
          have e := H.out.symm.trans HE.out
          simp only [Option.some.injEq, Prod.mk.injEq] at e
          obtain ⟨e1, e2, e3, e4⟩ := e
          subst rd rO rl re
          have HP := Aside0.mk (show dropB l1 = (bytesOf s).drop q by rw [hp2, c3])
          have HS := Aside0.mk (show x = (q : Int) from HX.out)
          clear c3 hp2 h0 h2 hq q4p
          go_wp2
          go_quiet ((go_at_call 25; exact Calls.quiet_of ((expr_tag.calls (bt s x) false _ HF.out).mono (fun _ _ h => ⟨h.1, h.2.out⟩))))
          go_wp2
          go_ret
          exact ⟨rfl, ⟨q, hqs, HP.out, HS.out ▸ (HI.out.drewN _)⟩, pw_below_drewN HB.out _⟩
        · have hne : ¬ ((dropB l1).takeWhile isT = []) := by
            rw [hp2, HD.out.1]
            intro e
            have := congrArg List.length e
            rw [bytesOf_length, ByteArray.size_extract] at this
            simp at this
            omega
          have c3b : (x == y) = false := beq_eq_false_iff_ne.mpr (by have := HX.out; have := HY.out; omega)
          have hlen : O.length < 4398046511104 := by
            have e := H.out
            unfold tagF at e
            simp only at e
            rw [if_neg hne] at e
            by_cases c : O.length < 4398046511104
            · exact c
            · rw [if_neg c] at e
              exact absurd e (by simp)
          have HE := Aside0.mk (show tagF (l1, O, d) = some (0, (bytesOf s).drop q, O ++ [s.extract p q], d) from (by unfold tagF; simp only; rw [if_neg hne, if_pos hlen, hp2, HD.out.1, HD.out.2, str_bytes]))
          have e := H.out.symm.trans HE.out
          simp only [Option.some.injEq, Prod.mk.injEq] at e
          obtain ⟨e1, e2, e3, e4⟩ := e
          subst rd rO rl re
          have HS := Aside0.mk (show x = (q : Int) from HX.out)
          have HN := Aside0.mk (show s.extract p q = s.extract y.toNat x.toNat by have := HX.out; have := HY.out; subst y; subst x; simp)
          clear c3 hp2 hq h0 h2 q4p
          have r0 : (0 ≤ y) = True := eq_true (by have := HY.out; omega)
          have r1 : (y ≤ x) = True := eq_true (by have := HY.out; have := HX.out; have := HR.out.1; omega)
          have r2 : (x ≤ (s.size : Int)) = True := eq_true (by have := HX.out; omega)
          go_wp2
          go_quiet ((go_at_call 25; exact Calls.quiet_of ((expr_tag.calls (bt s x) false _ HF.out).mono (fun _ _ h => ⟨h.1, h.2.out⟩))))
          go_upto_region 18 with (fail)
          obtain ⟨ov, h0, h1, h2⟩ := HI.out.drewN nq
          have hB := pw_below_drewN HB.out nq
          obtain ⟨A2, k2, e2⟩ := Kd.R_slice h2
          subst e2
          clear z0 z1
          replace h0 := blk_drew h0
          replace h2 := Kd.R_drew h2
          replace hB := below_drew1 hB
          refine start_ (n := 20) (S := fun w' => w'.cell? ⟨g, 0, none⟩ = some (.string s) ∧ w'.cell? ⟨g, 1, none⟩ = some (.int .i64 x) ∧ w'.cell? ⟨g, 2, none⟩ = some (.slice A2 O.length k2)) (ds := [19]) #[false, false, false, false, false, false, false, false, false, false, false, false, false, false, false, false, false, false, false, false] (by kernel_rfl) rfl rfl ⟨(blk_cell h0 0).trans rfl, (blk_cell h0 1).trans rfl, (blk_cell h0 2).trans rfl⟩ (fun hHeld => ?_)
          generalize World.drew _ = wd at h0 h2 hB hHeld ⊢
          refine pure_ (i := 0) (N := some 75) (v := ?_) (a' := ?_) #[true, false, false, false, false, false, false, false, false, false, false, false, false, false, false, false, false, false, false, false] rfl rfl (by kernel_rfl) (fun _ _ _ h => h) (Or.inl ⟨by rfl, ?_⟩) ?_ ?_
          rotate_left
          · intro w'
            go_simp
            with_reducible rfl
          rotate_left
          · simp only [Act.put, List.setIfInBounds_toArray, List.set_cons_zero, List.set_cons_succ, i64_w, i32_w]
            rfl
          refine pure_ (i := 1) (N := some 76) (v := ?_) (a' := ?_) #[true, true, false, false, false, false, false, false, false, false, false, false, false, false, false, false, false, false, false, false] rfl rfl (by kernel_rfl) (fun _ _ _ h => h) (Or.inl ⟨by rfl, ?_⟩) ?_ ?_
          rotate_left
          · intro w'
            go_simp
            with_reducible rfl
          rotate_left
          · simp only [Act.put, List.setIfInBounds_toArray, List.set_cons_zero, List.set_cons_succ, i64_w, i32_w]
            rfl
          refine pure_ (i := 2) (N := some 77) (v := ?_) (a' := ?_) #[true, true, true, false, false, false, false, false, false, false, false, false, false, false, false, false, false, false, false, false] rfl rfl (by kernel_rfl) (fun _ _ _ h => h) (Or.inl ⟨by rfl, ?_⟩) ?_ ?_
          rotate_left
          · intro w'
            go_simp
            with_reducible rfl
          rotate_left
          · simp only [Act.put, List.setIfInBounds_toArray, List.set_cons_zero, List.set_cons_succ, i64_w, i32_w]
            rfl
          refine pure_ (i := 3) (N := some 78) (v := ?_) (a' := ?_) #[true, true, true, true, false, false, false, false, false, false, false, false, false, false, false, false, false, false, false, false] rfl rfl (by kernel_rfl) (fun _ _ _ h => h) (Or.inl ⟨by rfl, ?_⟩) ?_ ?_
          rotate_left
          · intro w'
            go_simp
            with_reducible rfl
          rotate_left
          · simp only [Act.put, List.setIfInBounds_toArray, List.set_cons_zero, List.set_cons_succ, i64_w, i32_w]
            rfl
          refine pure_ (i := 5) (N := some 80) (v := ?_) (a' := ?_) #[true, true, true, true, false, true, false, false, false, false, false, false, false, false, false, false, false, false, false, false] rfl rfl (by kernel_rfl) (fun _ _ _ h => h) (Or.inl ⟨by rfl, ?_⟩) ?_ ?_
          rotate_left
          · intro w'
            go_simp
            with_reducible rfl
          rotate_left
          · simp only [Act.put, List.setIfInBounds_toArray, List.set_cons_zero, List.set_cons_succ, i64_w, i32_w]
            rfl
          refine pure_ (i := 6) (N := some 81) (v := ?_) (a' := ?_) #[true, true, true, true, false, true, true, false, false, false, false, false, false, false, false, false, false, false, false, false] rfl rfl (by kernel_rfl) (fun _ _ _ h => h) (Or.inl ⟨by rfl, ?_⟩) ?_ ?_
          rotate_left
          · intro w'
            go_simp
            with_reducible rfl
          rotate_left
          · simp only [Act.put, List.setIfInBounds_toArray, List.set_cons_zero, List.set_cons_succ, i64_w, i32_w]
            rfl
          refine pure_ (i := 7) (N := some 82) (v := ?_) (a' := ?_) #[true, true, true, true, false, true, true, true, false, false, false, false, false, false, false, false, false, false, false, false] rfl rfl (by kernel_rfl) (fun _ _ _ h => h) (Or.inl ⟨by rfl, ?_⟩) ?_ ?_
          rotate_left
          · intro w'
            go_simp
            with_reducible rfl
          rotate_left
          · simp only [Act.put, List.setIfInBounds_toArray, List.set_cons_zero, List.set_cons_succ, i64_w, i32_w]
            rfl
          refine pure_ (i := 9) (N := some 84) (v := ?_) (a' := ?_) #[true, true, true, true, false, true, true, true, false, true, false, false, false, false, false, false, false, false, false, false] rfl rfl (by kernel_rfl) (fun _ _ _ h => h) (Or.inl ⟨by rfl, ?_⟩) ?_ ?_
          rotate_left
          · intro w'
            go_simp
            with_reducible rfl
          rotate_left
          · simp only [Act.put, List.setIfInBounds_toArray, List.set_cons_zero, List.set_cons_succ, i64_w, i32_w]
            rfl
          refine pure_ (i := 10) (N := some 85) (v := ?_) (a' := ?_) #[true, true, true, true, false, true, true, true, false, true, true, false, false, false, false, false, false, false, false, false] rfl rfl (by kernel_rfl) (fun _ _ _ h => h) (Or.inl ⟨by rfl, ?_⟩) ?_ ?_
          rotate_left
          · intro w'
            go_simp
            with_reducible rfl
          rotate_left
          · simp only [Act.put, List.setIfInBounds_toArray, List.set_cons_zero, List.set_cons_succ, i64_w, i32_w]
            rfl
          refine pure_ (i := 11) (N := some 86) (v := ?_) (a' := ?_) #[true, true, true, true, false, true, true, true, false, true, true, true, false, false, false, false, false, false, false, false] rfl rfl (by kernel_rfl) (fun _ _ _ h => h) (Or.inl ⟨by rfl, ?_⟩) ?_ ?_
          rotate_left
          · intro w'
            go_simp
            with_reducible rfl
          rotate_left
          · simp only [Act.put, List.setIfInBounds_toArray, List.set_cons_zero, List.set_cons_succ, i64_w, i32_w]
            rfl
          refine pure_ (i := 12) (N := some 87) (v := ?_) (a' := ?_) #[true, true, true, true, false, true, true, true, false, true, true, true, true, false, false, false, false, false, false, false] rfl rfl (by kernel_rfl) (fun _ _ _ h => h) (Or.inl ⟨by rfl, ?_⟩) ?_ ?_
          rotate_left
          · intro w'
            go_simp
            with_reducible rfl
          rotate_left
          · simp only [Act.put, List.setIfInBounds_toArray, List.set_cons_zero, List.set_cons_succ, i64_w, i32_w]
            rfl
          refine take_ (i := 4) (N := some 79) (v := ?_) (a' := ?_) #[true, true, true, true, true, true, true, true, false, true, true, true, true, false, false, false, false, false, false, false] rfl rfl (by kernel_rfl) (fun _ _ _ h => h) (Or.inl ⟨by rfl, ?_⟩) hHeld ?_ ?_
          rotate_left
          · rintro w' ⟨s0, s1, s2⟩
            go_simp
            with_reducible rfl
          rotate_left
          · simp only [Act.put, List.setIfInBounds_toArray, List.set_cons_zero, List.set_cons_succ, i64_w, i32_w]
            rfl
          refine take_ (i := 8) (N := some 83) (v := ?_) (a' := ?_) #[true, true, true, true, true, true, true, true, true, true, true, true, true, false, false, false, false, false, false, false] rfl rfl (by kernel_rfl) (fun _ _ _ h => h) (Or.inl ⟨by rfl, ?_⟩) hHeld ?_ ?_
          rotate_left
          · rintro w' ⟨s0, s1, s2⟩
            go_simp
            with_reducible rfl
          rotate_left
          · simp only [Act.put, List.setIfInBounds_toArray, List.set_cons_zero, List.set_cons_succ, i64_w, i32_w]
            rfl
          refine take_ (i := 13) (N := some 88) (v := ?_) (a' := ?_) #[true, true, true, true, true, true, true, true, true, true, true, true, true, true, false, false, false, false, false, false] rfl rfl (by kernel_rfl) (fun _ _ _ h => h) (Or.inl ⟨by rfl, ?_⟩) hHeld ?_ ?_
          rotate_left
          · rintro w' ⟨s0, s1, s2⟩
            go_simp
            with_reducible rfl
          rotate_left
          · simp only [Act.put, List.setIfInBounds_toArray, List.set_cons_zero, List.set_cons_succ, i64_w, i32_w]
            rfl
          refine pure_ (i := 14) (N := some 89) (v := ?_) (a' := ?_) #[true, true, true, true, true, true, true, true, true, true, true, true, true, true, true, false, false, false, false, false] rfl rfl (by kernel_rfl) (fun _ _ _ h => h) (Or.inl ⟨by rfl, ?_⟩) ?_ ?_
          rotate_left
          · intro w'
            go_simp
            with_reducible rfl
          rotate_left
          · simp only [Act.put, List.setIfInBounds_toArray, List.set_cons_zero, List.set_cons_succ, i64_w, i32_w]
            rfl
          refine one_ (i := 15) (N := some 90) #[true, true, true, true, true, true, true, true, true, true, true, true, true, true, true, true, false, false, false, false] rfl rfl (by kernel_rfl) (by decide) (fun K hK => ?_)
          refine value_ (w1 := ?_) (v := ?_) (by rfl) rfl ?_ ?_
          rotate_left 2
          · go_simp
            constructor
            · rfl
            · rfl
          refine hK.out _ _ ⟨(blk_cell (blk_alloc h0 _) 0).trans rfl, (blk_cell (blk_alloc h0 _) 1).trans rfl, (blk_cell (blk_alloc h0 _) 2).trans rfl⟩ (fun hHeld => ?_)
          clear hK K
          refine norm_ (a' := ?_) ?_ ?_
          rotate_left
          · show Act.put _ (some 90) _ = _
            simp only [Act.put, List.setIfInBounds_toArray, List.set_cons_zero, List.set_cons_succ, i64_w, i32_w]
            rfl
          refine one_ (i := 16) (N := some 91) #[true, true, true, true, true, true, true, true, true, true, true, true, true, true, true, true, true, false, false, false] rfl rfl (by kernel_rfl) (by decide) (fun K hK => ?_)
          refine Kd.R_append_step Kd.string (w0 := w0) w0.heap.size (by rfl) (.tmp 79) (.tmp 90) 24 9 (.string ⟨#[]⟩) 16 rfl Try.underlying24 info9 rfl (by decide) (by omega) (.slice A2 O.length k2) O (s.extract y.toNat x.toNat) [.string (s.extract y.toNat x.toNat)] (fun _ => True) (fun _ => False) rfl rfl ?aP (fun _ hk => hk.elim) ?aF ?aO ?aB ?aS ?aL ?_
          (case aP => exact rfl)
          (case aB => exact hB)
          (case aF => intro k hk; trivial)
          (case aO => exact h2)
          (case aS => exact below_size hB)
          (case aL => omega)
          intro v1 w1 ho hb hg hat
          obtain ⟨Az, kz, ez⟩ := Kd.R_slice ho
          subst ez
          simp only [List.length_append, List.length_cons, List.length_nil, Nat.zero_add] at ho hat
          have b1 := blk_grown h0 hg (IsS42.ne h0 h2)
          have f1_0 := blk_frozen b1 0
          have f1_1 := blk_frozen b1 1
          have f1_2 := blk_frozen b1 2
          have f1_3 := blk_frozen b1 3
          have d1_0 : w1.cell? ⟨g, 0, none⟩ = some (.string s) := (blk_cell b1 0).trans rfl
          have d1_1 : w1.cell? ⟨g, 1, none⟩ = some (.int .i64 x) := (blk_cell b1 1).trans rfl
          have d1_2 : w1.cell? ⟨g, 2, none⟩ = some (.slice A2 O.length k2) := (blk_cell b1 2).trans rfl
          have d1_3 : w1.cell? ⟨g, 3, none⟩ = some (.int .i64 d) := (blk_cell b1 3).trans rfl
          refine hK.out _ _ ⟨d1_0, d1_1, d1_2⟩ (fun hHeld => ?_)
          clear hK K
          refine norm_ (a' := ?_) ?_ ?_
          rotate_left
          · show Act.put _ (some 91) _ = _
            simp only [Act.put, List.setIfInBounds_toArray, List.set_cons_zero, List.set_cons_succ, i64_w, i32_w]
            rfl
          refine pure_ (i := 17) (N := some 92) (v := ?_) (a' := ?_) #[true, true, true, true, true, true, true, true, true, true, true, true, true, true, true, true, true, true, false, false] rfl rfl (by kernel_rfl) (fun _ _ _ h => h) (Or.inl ⟨by rfl, ?_⟩) ?_ ?_
          rotate_left
          · intro w'
            go_simp
            with_reducible rfl
          rotate_left
          · simp only [Act.put, List.setIfInBounds_toArray, List.set_cons_zero, List.set_cons_succ, i64_w, i32_w]
            rfl
          refine pure_ (i := 18) (N := some 93) (v := ?_) (a' := ?_) #[true, true, true, true, true, true, true, true, true, true, true, true, true, true, true, true, true, true, true, false] rfl rfl (by kernel_rfl) (fun _ _ _ h => h) (Or.inl ⟨by rfl, ?_⟩) ?_ ?_
          rotate_left
          · intro w'
            go_simp
            with_reducible rfl
          rotate_left
          · simp only [Act.put, List.setIfInBounds_toArray, List.set_cons_zero, List.set_cons_succ, i64_w, i32_w]
            rfl
          refine last_ (i := 19) (N := none) #[true, true, true, true, true, true, true, true, true, true, true, true, true, true, true, true, true, true, true, true] rfl rfl (by kernel_rfl) (by decide) (fun K hK => ?_)
          refine skip_ (w1 := ?_) (by rfl) rfl ?_ ?_
          rotate_left
          · go_simp
            rfl
          refine hK.out _ _ ?_
          clear hK K
          refine done_ (by kernel_rfl) ?_
          go_wp2
          go_ret
          exact ⟨rfl, ⟨q, hqs, rfl, by rw [HN.out, ← HS.out]; exact IsS42.put h1 h0 h2 ho hg⟩, below_set hb h1⟩
    · have c1b : decide (x < (s.size : Int)) = false := decide_eq_false (by have := HX.out; omega)
      have HD := Aside0.mk (HR.out.done (by rw [show q = s.size by omega]; exact tw_end s))
      obtain ⟨ov, h0, h1, h2⟩ := HI.out
      have z0 := cellS42_0 h0
      have z1 := cellS42_1 h0
      have hqs := HR.out.2.1
      clear c1
      have q4p := HR.out.1
      by_cases c3 : q = p
      · have HE := Aside0.mk (show tagF (l1, O, d) = some (4, dropB l1, O, d) from (by unfold tagF; simp only [hp2, HD.out.1]; rw [if_pos (by rw [c3, bytesOf_extract]; simp)]))
        have c3b : (x == y) = true := beq_iff_eq.mpr (by have := HX.out; have := HY.out; omega)
        have e := H.out.symm.trans HE.out
        simp only [Option.some.injEq, Prod.mk.injEq] at e
        obtain ⟨e1, e2, e3, e4⟩ := e
        subst rd rO rl re
        have HP := Aside0.mk (show dropB l1 = (bytesOf s).drop q by rw [hp2, c3])
        have HS := Aside0.mk (show x = (q : Int) from HX.out)
        clear c3 hp2 h0 h2 hq q4p
        go_wp2
        go_quiet (fail)
        go_wp2
        go_ret
        exact ⟨rfl, ⟨q, hqs, HP.out, HS.out ▸ (HI.out.drewN _)⟩, pw_below_drewN HB.out _⟩
      · have hne : ¬ ((dropB l1).takeWhile isT = []) := by
          rw [hp2, HD.out.1]
          intro e
          have := congrArg List.length e
          rw [bytesOf_length, ByteArray.size_extract] at this
          simp at this
          omega
        have c3b : (x == y) = false := beq_eq_false_iff_ne.mpr (by have := HX.out; have := HY.out; omega)
        have hlen : O.length < 4398046511104 := by
          have e := H.out
          unfold tagF at e
          simp only at e
          rw [if_neg hne] at e
          by_cases c : O.length < 4398046511104
          · exact c
          · rw [if_neg c] at e
            exact absurd e (by simp)
        have HE := Aside0.mk (show tagF (l1, O, d) = some (0, (bytesOf s).drop q, O ++ [s.extract p q], d) from (by unfold tagF; simp only; rw [if_neg hne, if_pos hlen, hp2, HD.out.1, HD.out.2, str_bytes]))
        have e := H.out.symm.trans HE.out
        simp only [Option.some.injEq, Prod.mk.injEq] at e
        obtain ⟨e1, e2, e3, e4⟩ := e
        subst rd rO rl re
        have HS := Aside0.mk (show x = (q : Int) from HX.out)
        have HN := Aside0.mk (show s.extract p q = s.extract y.toNat x.toNat by have := HX.out; have := HY.out; subst y; subst x; simp)
        clear c3 hp2 hq h0 h2 q4p
        have r0 : (0 ≤ y) = True := eq_true (by have := HY.out; omega)
        have r1 : (y ≤ x) = True := eq_true (by have := HY.out; have := HX.out; have := HR.out.1; omega)
        have r2 : (x ≤ (s.size : Int)) = True := eq_true (by have := HX.out; omega)
        go_wp2
        go_quiet (fail)
        go_upto_region 18 with (fail)
        obtain ⟨ov, h0, h1, h2⟩ := HI.out.drewN nq
        have hB := pw_below_drewN HB.out nq
        obtain ⟨A2, k2, e2⟩ := Kd.R_slice h2
        subst e2
        clear z0 z1
        replace h0 := blk_drew h0
        replace h2 := Kd.R_drew h2
        replace hB := below_drew1 hB
        refine start_ (n := 20) (S := fun w' => w'.cell? ⟨g, 0, none⟩ = some (.string s) ∧ w'.cell? ⟨g, 1, none⟩ = some (.int .i64 x) ∧ w'.cell? ⟨g, 2, none⟩ = some (.slice A2 O.length k2)) (ds := [19]) #[false, false, false, false, false, false, false, false, false, false, false, false, false, false, false, false, false, false, false, false] (by kernel_rfl) rfl rfl ⟨(blk_cell h0 0).trans rfl, (blk_cell h0 1).trans rfl, (blk_cell h0 2).trans rfl⟩ (fun hHeld => ?_)
        generalize World.drew _ = wd at h0 h2 hB hHeld ⊢
        refine pure_ (i := 0) (N := some 75) (v := ?_) (a' := ?_) #[true, false, false, false, false, false, false, false, false, false, false, false, false, false, false, false, false, false, false, false] rfl rfl (by kernel_rfl) (fun _ _ _ h => h) (Or.inl ⟨by rfl, ?_⟩) ?_ ?_
        rotate_left
        · intro w'
          go_simp
          with_reducible rfl
        rotate_left
        · simp only [Act.put, List.setIfInBounds_toArray, List.set_cons_zero, List.set_cons_succ, i64_w, i32_w]
          rfl
        refine pure_ (i := 1) (N := some 76) (v := ?_) (a' := ?_) #[true, true, false, false, false, false, false, false, false, false, false, false, false, false, false, false, false, false, false, false] rfl rfl (by kernel_rfl) (fun _ _ _ h => h) (Or.inl ⟨by rfl, ?_⟩) ?_ ?_
        rotate_left
        · intro w'
          go_simp
          with_reducible rfl
        rotate_left
        · simp only [Act.put, List.setIfInBounds_toArray, List.set_cons_zero, List.set_cons_succ, i64_w, i32_w]
          rfl
        refine pure_ (i := 2) (N := some 77) (v := ?_) (a' := ?_) #[true, true, true, false, false, false, false, false, false, false, false, false, false, false, false, false, false, false, false, false] rfl rfl (by kernel_rfl) (fun _ _ _ h => h) (Or.inl ⟨by rfl, ?_⟩) ?_ ?_
        rotate_left
        · intro w'
          go_simp
          with_reducible rfl
        rotate_left
        · simp only [Act.put, List.setIfInBounds_toArray, List.set_cons_zero, List.set_cons_succ, i64_w, i32_w]
          rfl
        refine pure_ (i := 3) (N := some 78) (v := ?_) (a' := ?_) #[true, true, true, true, false, false, false, false, false, false, false, false, false, false, false, false, false, false, false, false] rfl rfl (by kernel_rfl) (fun _ _ _ h => h) (Or.inl ⟨by rfl, ?_⟩) ?_ ?_
        rotate_left
        · intro w'
          go_simp
          with_reducible rfl
        rotate_left
        · simp only [Act.put, List.setIfInBounds_toArray, List.set_cons_zero, List.set_cons_succ, i64_w, i32_w]
          rfl
        refine pure_ (i := 5) (N := some 80) (v := ?_) (a' := ?_) #[true, true, true, true, false, true, false, false, false, false, false, false, false, false, false, false, false, false, false, false] rfl rfl (by kernel_rfl) (fun _ _ _ h => h) (Or.inl ⟨by rfl, ?_⟩) ?_ ?_
        rotate_left
        · intro w'
          go_simp
          with_reducible rfl
        rotate_left
        · simp only [Act.put, List.setIfInBounds_toArray, List.set_cons_zero, List.set_cons_succ, i64_w, i32_w]
          rfl
        refine pure_ (i := 6) (N := some 81) (v := ?_) (a' := ?_) #[true, true, true, true, false, true, true, false, false, false, false, false, false, false, false, false, false, false, false, false] rfl rfl (by kernel_rfl) (fun _ _ _ h => h) (Or.inl ⟨by rfl, ?_⟩) ?_ ?_
        rotate_left
        · intro w'
          go_simp
          with_reducible rfl
        rotate_left
        · simp only [Act.put, List.setIfInBounds_toArray, List.set_cons_zero, List.set_cons_succ, i64_w, i32_w]
          rfl
        refine pure_ (i := 7) (N := some 82) (v := ?_) (a' := ?_) #[true, true, true, true, false, true, true, true, false, false, false, false, false, false, false, false, false, false, false, false] rfl rfl (by kernel_rfl) (fun _ _ _ h => h) (Or.inl ⟨by rfl, ?_⟩) ?_ ?_
        rotate_left
        · intro w'
          go_simp
          with_reducible rfl
        rotate_left
        · simp only [Act.put, List.setIfInBounds_toArray, List.set_cons_zero, List.set_cons_succ, i64_w, i32_w]
          rfl
        refine pure_ (i := 9) (N := some 84) (v := ?_) (a' := ?_) #[true, true, true, true, false, true, true, true, false, true, false, false, false, false, false, false, false, false, false, false] rfl rfl (by kernel_rfl) (fun _ _ _ h => h) (Or.inl ⟨by rfl, ?_⟩) ?_ ?_
        rotate_left
        · intro w'
          go_simp
          with_reducible rfl
        rotate_left
        · simp only [Act.put, List.setIfInBounds_toArray, List.set_cons_zero, List.set_cons_succ, i64_w, i32_w]
          rfl
        refine pure_ (i := 10) (N := some 85) (v := ?_) (a' := ?_) #[true, true, true, true, false, true, true, true, false, true, true, false, false, false, false, false, false, false, false, false] rfl rfl (by kernel_rfl) (fun _ _ _ h => h) (Or.inl ⟨by rfl, ?_⟩) ?_ ?_
        rotate_left
        · intro w'
          go_simp
          with_reducible rfl
        rotate_left
        · simp only [Act.put, List.setIfInBounds_toArray, List.set_cons_zero, List.set_cons_succ, i64_w, i32_w]
          rfl
        refine pure_ (i := 11) (N := some 86) (v := ?_) (a' := ?_) #[true, true, true, true, false, true, true, true, false, true, true, true, false, false, false, false, false, false, false, false] rfl rfl (by kernel_rfl) (fun _ _ _ h => h) (Or.inl ⟨by rfl, ?_⟩) ?_ ?_
        rotate_left
        · intro w'
          go_simp
          with_reducible rfl
        rotate_left
        · simp only [Act.put, List.setIfInBounds_toArray, List.set_cons_zero, List.set_cons_succ, i64_w, i32_w]
          rfl
        refine pure_ (i := 12) (N := some 87) (v := ?_) (a' := ?_) #[true, true, true, true, false, true, true, true, false, true, true, true, true, false, false, false, false, false, false, false] rfl rfl (by kernel_rfl) (fun _ _ _ h => h) (Or.inl ⟨by rfl, ?_⟩) ?_ ?_
        rotate_left
        · intro w'
          go_simp
          with_reducible rfl
        rotate_left
        · simp only [Act.put, List.setIfInBounds_toArray, List.set_cons_zero, List.set_cons_succ, i64_w, i32_w]
          rfl
        refine take_ (i := 4) (N := some 79) (v := ?_) (a' := ?_) #[true, true, true, true, true, true, true, true, false, true, true, true, true, false, false, false, false, false, false, false] rfl rfl (by kernel_rfl) (fun _ _ _ h => h) (Or.inl ⟨by rfl, ?_⟩) hHeld ?_ ?_
        rotate_left
        · rintro w' ⟨s0, s1, s2⟩
          go_simp
          with_reducible rfl
        rotate_left
        · simp only [Act.put, List.setIfInBounds_toArray, List.set_cons_zero, List.set_cons_succ, i64_w, i32_w]
          rfl
        refine take_ (i := 8) (N := some 83) (v := ?_) (a' := ?_) #[true, true, true, true, true, true, true, true, true, true, true, true, true, false, false, false, false, false, false, false] rfl rfl (by kernel_rfl) (fun _ _ _ h => h) (Or.inl ⟨by rfl, ?_⟩) hHeld ?_ ?_
        rotate_left
        · rintro w' ⟨s0, s1, s2⟩
          go_simp
          with_reducible rfl
        rotate_left
        · simp only [Act.put, List.setIfInBounds_toArray, List.set_cons_zero, List.set_cons_succ, i64_w, i32_w]
          rfl
        refine take_ (i := 13) (N := some 88) (v := ?_) (a' := ?_) #[true, true, true, true, true, true, true, true, true, true, true, true, true, true, false, false, false, false, false, false] rfl rfl (by kernel_rfl) (fun _ _ _ h => h) (Or.inl ⟨by rfl, ?_⟩) hHeld ?_ ?_
        rotate_left
        · rintro w' ⟨s0, s1, s2⟩
          go_simp
          with_reducible rfl
        rotate_left
        · simp only [Act.put, List.setIfInBounds_toArray, List.set_cons_zero, List.set_cons_succ, i64_w, i32_w]
          rfl
        refine pure_ (i := 14) (N := some 89) (v := ?_) (a' := ?_) #[true, true, true, true, true, true, true, true, true, true, true, true, true, true, true, false, false, false, false, false] rfl rfl (by kernel_rfl) (fun _ _ _ h => h) (Or.inl ⟨by rfl, ?_⟩) ?_ ?_
        rotate_left
        · intro w'
          go_simp
          with_reducible rfl
        rotate_left
        · simp only [Act.put, List.setIfInBounds_toArray, List.set_cons_zero, List.set_cons_succ, i64_w, i32_w]
          rfl
        refine one_ (i := 15) (N := some 90) #[true, true, true, true, true, true, true, true, true, true, true, true, true, true, true, true, false, false, false, false] rfl rfl (by kernel_rfl) (by decide) (fun K hK => ?_)
        refine value_ (w1 := ?_) (v := ?_) (by rfl) rfl ?_ ?_
        rotate_left 2
        · go_simp
          constructor
          · rfl
          · rfl
        refine hK.out _ _ ⟨(blk_cell (blk_alloc h0 _) 0).trans rfl, (blk_cell (blk_alloc h0 _) 1).trans rfl, (blk_cell (blk_alloc h0 _) 2).trans rfl⟩ (fun hHeld => ?_)
        clear hK K
        refine norm_ (a' := ?_) ?_ ?_
        rotate_left
        · show Act.put _ (some 90) _ = _
          simp only [Act.put, List.setIfInBounds_toArray, List.set_cons_zero, List.set_cons_succ, i64_w, i32_w]
          rfl
        refine one_ (i := 16) (N := some 91) #[true, true, true, true, true, true, true, true, true, true, true, true, true, true, true, true, true, false, false, false] rfl rfl (by kernel_rfl) (by decide) (fun K hK => ?_)
        refine Kd.R_append_step Kd.string (w0 := w0) w0.heap.size (by rfl) (.tmp 79) (.tmp 90) 24 9 (.string ⟨#[]⟩) 16 rfl Try.underlying24 info9 rfl (by decide) (by omega) (.slice A2 O.length k2) O (s.extract y.toNat x.toNat) [.string (s.extract y.toNat x.toNat)] (fun _ => True) (fun _ => False) rfl rfl ?aP (fun _ hk => hk.elim) ?aF ?aO ?aB ?aS ?aL ?_
        (case aP => exact rfl)
        (case aB => exact hB)
        (case aF => intro k hk; trivial)
        (case aO => exact h2)
        (case aS => exact below_size hB)
        (case aL => omega)
        intro v1 w1 ho hb hg hat
        obtain ⟨Az, kz, ez⟩ := Kd.R_slice ho
        subst ez
        simp only [List.length_append, List.length_cons, List.length_nil, Nat.zero_add] at ho hat
        have b1 := blk_grown h0 hg (IsS42.ne h0 h2)
        have f1_0 := blk_frozen b1 0
        have f1_1 := blk_frozen b1 1
        have f1_2 := blk_frozen b1 2
        have f1_3 := blk_frozen b1 3
        have d1_0 : w1.cell? ⟨g, 0, none⟩ = some (.string s) := (blk_cell b1 0).trans rfl
        have d1_1 : w1.cell? ⟨g, 1, none⟩ = some (.int .i64 x) := (blk_cell b1 1).trans rfl
        have d1_2 : w1.cell? ⟨g, 2, none⟩ = some (.slice A2 O.length k2) := (blk_cell b1 2).trans rfl
        have d1_3 : w1.cell? ⟨g, 3, none⟩ = some (.int .i64 d) := (blk_cell b1 3).trans rfl
        refine hK.out _ _ ⟨d1_0, d1_1, d1_2⟩ (fun hHeld => ?_)
        clear hK K
        refine norm_ (a' := ?_) ?_ ?_
        rotate_left
        · show Act.put _ (some 91) _ = _
          simp only [Act.put, List.setIfInBounds_toArray, List.set_cons_zero, List.set_cons_succ, i64_w, i32_w]
          rfl
        refine pure_ (i := 17) (N := some 92) (v := ?_) (a' := ?_) #[true, true, true, true, true, true, true, true, true, true, true, true, true, true, true, true, true, true, false, false] rfl rfl (by kernel_rfl) (fun _ _ _ h => h) (Or.inl ⟨by rfl, ?_⟩) ?_ ?_
        rotate_left
        · intro w'
          go_simp
          with_reducible rfl
        rotate_left
        · simp only [Act.put, List.setIfInBounds_toArray, List.set_cons_zero, List.set_cons_succ, i64_w, i32_w]
          rfl
        refine pure_ (i := 18) (N := some 93) (v := ?_) (a' := ?_) #[true, true, true, true, true, true, true, true, true, true, true, true, true, true, true, true, true, true, true, false] rfl rfl (by kernel_rfl) (fun _ _ _ h => h) (Or.inl ⟨by rfl, ?_⟩) ?_ ?_
        rotate_left
        · intro w'
          go_simp
          with_reducible rfl
        rotate_left
        · simp only [Act.put, List.setIfInBounds_toArray, List.set_cons_zero, List.set_cons_succ, i64_w, i32_w]
          rfl
        refine last_ (i := 19) (N := none) #[true, true, true, true, true, true, true, true, true, true, true, true, true, true, true, true, true, true, true, true] rfl rfl (by kernel_rfl) (by decide) (fun K hK => ?_)
        refine skip_ (w1 := ?_) (by rfl) rfl ?_ ?_
        rotate_left
        · go_simp
          rfl
        refine hK.out _ _ ?_
        clear hK K
        refine done_ (by kernel_rfl) ?_
        go_wp2
        go_ret
        exact ⟨rfl, ⟨q, hqs, rfl, by rw [HN.out, ← HS.out]; exact IsS42.put h1 h0 h2 ho hg⟩, below_set hb h1⟩
end Go.Proofs.Ytcpemjolabofnaa.PAll
/- The parser's part: what stands in brackets; the induction over how deep. -/
namespace Go.Proofs.Ytcpemjolabofnaa.PAll
open Go Go.RowKit Go.Proofs.YtcpemjolabofnaaW.PrintWords Go.Proofs.YtcpemjolabofnaaW.PrintLast Go.Proofs.YtcpemjolabofnaaW.PrintMore Go.Proofs.YtcpemjolabofnaaMy Go.Proofs.Ytcpemjolabofnaa Go.Proofs.YtcpemjolabofnaaPw
set_option linter.unusedVariables false
set_option linter.unusedSimpArgs false
/-- A part, what stands in brackets being read by G. -/
def partG (G : St → Option (Int × St)) (x : St) : Option (Int × St) :=
  if (tk (bytesOf sOpen) x.1).1 = true then
    (if 0 ≤ x.2.2 ∧ x.2.2 ≤ 4294967296 then
      (if 64 < x.2.2 + 1 then some (8, (tk (bytesOf sOpen) x.1).2, x.2.1, x.2.2 + 1)
      else (G ((tk (bytesOf sOpen) x.1).2, x.2.1, x.2.2 + 1)).bind fun r => if r.1 = 0 then
        (if 0 ≤ r.2.2.2 ∧ r.2.2.2 ≤ 4294967296 then
          (if (tk (bytesOf sShut) r.2.1).1 = true then some (0, (tk (bytesOf sShut) r.2.1).2, r.2.2.1, r.2.2.2 - 1) else some (4, (tk (bytesOf sShut) r.2.1).2, r.2.2.1, r.2.2.2 - 1))
        else none)
      else some r)
    else none)
  else if (dropB (tk (bytesOf sOpen) x.1).2).takeWhile isT = [] then some (4, dropB (tk (bytesOf sOpen) x.1).2, x.2.1, x.2.2)
  else if x.2.1.length < 4398046511104 then some (0, (dropB (tk (bytesOf sOpen) x.1).2).dropWhile isT, x.2.1 ++ [strOfNums ((dropB (tk (bytesOf sOpen) x.1).2).takeWhile isT)], x.2.2)
  else none
set_option maxHeartbeats 8000000 in
set_option maxRecDepth 100000 in
theorem part_PC (s : ByteArray) (hs : s.size ≤ 4294967296) (G : St → Option (Int × St)) (hG : PC s 19 G) : PC s 37 (partG G) := by
  intro g l O0 d0 re rl rO rd w0 w hI hB h
  have hu := Try.underlying24
  have HI := Aside0.mk hI
  have HB := Aside0.mk hB
  have HG := Aside0.mk hG
  clear hI hB hG
  have hz : (sOpen).size ≤ 4294967296 := by decide
  have hz2 : (sShut).size ≤ 4294967296 := by decide
  unfold partG at h
  simp only at h
  obtain ⟨b, l1, ht⟩ : ∃ b l1, tk (bytesOf sOpen) l = (b, l1) := ⟨_, _, rfl⟩
  rw [ht] at h
  simp only at h
  have HT := Aside0.mk ht
  clear ht
  cases b with
  | true =>
    rw [if_pos rfl] at h
    by_cases c1 : 0 ≤ d0 ∧ d0 ≤ 4294967296
    · rw [if_pos c1] at h
      obtain ⟨c1a, c1b⟩ := c1
      have hw : wrap64 (d0 + 1) = d0 + 1 := w64 (by omega) (by omega)
      by_cases c2 : 64 < d0 + 1
      · rw [if_pos c2] at h
        have c2b : decide (64 < d0 + 1) = true := decide_eq_true c2
        clear c2
        simp only [Option.some.injEq, Prod.mk.injEq] at h
        obtain ⟨rfl, rfl, rfl, rfl⟩ := h
        go_enter Try.func37, Try.ntmps37
        go_wp2_with (first | (go_at_call 34; refine (takes_Q g s hs sOpen hz l O0 d0 true l1 HT.out w0 _ HI.out HB.out).mono ?_; rintro e w2 ⟨rfl, ⟨p, hp1, hp2, ov, h0, h1, h2⟩, hb⟩; clear HI HB; have HB := Aside0.mk hb; clear hb; have q3 := cellS42_3 h0; have f3 := blk_frozen h0 3))
        go_ret
        exact ⟨rfl, ⟨p, hp1, hp2, IsS42.set_3 ⟨ov, h0, h1, h2⟩ _⟩, below_set HB.out h1⟩
      · rw [if_neg c2] at h
        have c2b : decide (64 < d0 + 1) = false := decide_eq_false c2
        clear c2
        obtain ⟨⟨e3, l3, O, d⟩, h3, h⟩ := Option.bind_eq_some_iff.mp h
        simp only at h3 h
        have H3 := Aside0.mk h3
        clear h3
        by_cases c : e3 = 0
        · subst c
          rw [if_pos rfl] at h
          by_cases c3 : 0 ≤ d ∧ d ≤ 4294967296
          · rw [if_pos c3] at h
            obtain ⟨c3a, c3b⟩ := c3
            have hw2 : wrap64 (d - 1) = d - 1 := w64 (by omega) (by omega)
            obtain ⟨b, l4, ht⟩ : ∃ b l4, tk (bytesOf sShut) l3 = (b, l4) := ⟨_, _, rfl⟩
            rw [ht] at h
            simp only at h
            have HT2 := Aside0.mk ht
            clear ht
            cases b with
            | true =>
              rw [if_pos rfl] at h
              simp only [Option.some.injEq, Prod.mk.injEq] at h
              obtain ⟨rfl, rfl, rfl, rfl⟩ := h
              go_enter Try.func37, Try.ntmps37
              go_upto_region 9 with (first | (go_at_call 34; refine (takes_Q g s hs sOpen hz l O0 d0 true l1 HT.out w0 _ HI.out HB.out).mono ?_; rintro e w2 ⟨rfl, ⟨p, hp1, hp2, ov, h0, h1, h2⟩, hb⟩; clear HI HB; have HI := Aside0.mk (⟨p, hp1, hp2, IsS42.set_3 ⟨ov, h0, h1, h2⟩ (d0 + 1)⟩ : IsP w0 (w2.setCell ⟨g, 3, none⟩ (.int .i64 (d0 + 1))) g s l1 O0 (d0 + 1)); have HB := Aside0.mk (below_set hb h1 (j := 3) (v := .int .i64 (d0 + 1))); clear hb; have q3 := cellS42_3 h0; have f3 := blk_frozen h0 3; clear h1 h2 hp1) | (go_at_call 19; refine (HG.out g l1 O0 (d0 + 1) 0 l3 O d w0 _ HI.out HB.out H3.out).mono ?_; clear q3 f3 h0; rintro e w3 ⟨rfl, ⟨p, hp1, hp2, ov, h0, h1, h2⟩, hb⟩; clear HI HB; have HI := Aside0.mk (⟨p, hp1, hp2, IsS42.set_3 ⟨ov, h0, h1, h2⟩ (d - 1)⟩ : IsP w0 (w3.setCell ⟨g, 3, none⟩ (.int .i64 (d - 1))) g s l3 O (d - 1)); have HB := Aside0.mk (below_set hb h1 (j := 3) (v := .int .i64 (d - 1))); clear hb; have q3 := cellS42_3 h0; have f3 := blk_frozen h0 3; clear h1 h2 hp1))
              go_wp2_with (first | (go_at_call 34; refine (takes_Q g s hs sShut hz2 l3 O (d - 1) true l4 HT2.out w0 _ HI.out HB.out).mono ?_; rintro e w4 ⟨rfl, hi, hb⟩; clear HI HB; have HI := Aside0.mk hi; have HB := Aside0.mk hb; clear hi hb))
              go_ret
              exact ⟨rfl, HI.out, HB.out⟩
            | false =>
              rw [if_neg (by simp)] at h
              simp only [Option.some.injEq, Prod.mk.injEq] at h
              obtain ⟨rfl, rfl, rfl, rfl⟩ := h
              go_enter Try.func37, Try.ntmps37
              go_upto_region 9 with (first | (go_at_call 34; refine (takes_Q g s hs sOpen hz l O0 d0 true l1 HT.out w0 _ HI.out HB.out).mono ?_; rintro e w2 ⟨rfl, ⟨p, hp1, hp2, ov, h0, h1, h2⟩, hb⟩; clear HI HB; have HI := Aside0.mk (⟨p, hp1, hp2, IsS42.set_3 ⟨ov, h0, h1, h2⟩ (d0 + 1)⟩ : IsP w0 (w2.setCell ⟨g, 3, none⟩ (.int .i64 (d0 + 1))) g s l1 O0 (d0 + 1)); have HB := Aside0.mk (below_set hb h1 (j := 3) (v := .int .i64 (d0 + 1))); clear hb; have q3 := cellS42_3 h0; have f3 := blk_frozen h0 3; clear h1 h2 hp1) | (go_at_call 19; refine (HG.out g l1 O0 (d0 + 1) 0 l3 O d w0 _ HI.out HB.out H3.out).mono ?_; clear q3 f3 h0; rintro e w3 ⟨rfl, ⟨p, hp1, hp2, ov, h0, h1, h2⟩, hb⟩; clear HI HB; have HI := Aside0.mk (⟨p, hp1, hp2, IsS42.set_3 ⟨ov, h0, h1, h2⟩ (d - 1)⟩ : IsP w0 (w3.setCell ⟨g, 3, none⟩ (.int .i64 (d - 1))) g s l3 O (d - 1)); have HB := Aside0.mk (below_set hb h1 (j := 3) (v := .int .i64 (d - 1))); clear hb; have q3 := cellS42_3 h0; have f3 := blk_frozen h0 3; clear h1 h2 hp1))
              go_wp2_with (first | (go_at_call 34; refine (takes_Q g s hs sShut hz2 l3 O (d - 1) false l4 HT2.out w0 _ HI.out HB.out).mono ?_; rintro e w4 ⟨rfl, hi, hb⟩; clear HI HB; have HI := Aside0.mk hi; have HB := Aside0.mk hb; clear hi hb))
              go_ret
              exact ⟨rfl, HI.out, HB.out⟩
          · rw [if_neg c3] at h
            exact absurd h (by simp)
        · rw [if_neg c] at h
          simp only [Option.some.injEq, Prod.mk.injEq] at h
          obtain ⟨rfl, rfl, rfl, rfl⟩ := h
          have cb : (e3 != 0) = true := bne_iff_ne.mpr c
          clear c
          go_enter Try.func37, Try.ntmps37
          go_wp2_with (first | (go_at_call 34; refine (takes_Q g s hs sOpen hz l O0 d0 true l1 HT.out w0 _ HI.out HB.out).mono ?_; rintro e w2 ⟨rfl, ⟨p, hp1, hp2, ov, h0, h1, h2⟩, hb⟩; clear HI HB; have HI := Aside0.mk (⟨p, hp1, hp2, IsS42.set_3 ⟨ov, h0, h1, h2⟩ (d0 + 1)⟩ : IsP w0 (w2.setCell ⟨g, 3, none⟩ (.int .i64 (d0 + 1))) g s l1 O0 (d0 + 1)); have HB := Aside0.mk (below_set hb h1 (j := 3) (v := .int .i64 (d0 + 1))); clear hb; have q3 := cellS42_3 h0; have f3 := blk_frozen h0 3; clear h1 h2 hp1) | (go_at_call 19; refine (HG.out g l1 O0 (d0 + 1) e3 l3 O d w0 _ HI.out HB.out H3.out).mono ?_; clear q3 f3 h0; rintro e w3 ⟨rfl, hi, hb⟩; clear HI HB; have HI := Aside0.mk hi; have HB := Aside0.mk hb; clear hi hb))
          go_ret
          exact ⟨rfl, HI.out, HB.out⟩
    · rw [if_neg c1] at h
      exact absurd h (by simp)
  | false =>
    rw [if_neg (by simp)] at h
    exact part_tag s hs g l O0 d0 l1 re rl rO rd w0 w HI HB HT (Aside0.mk h)
/-- Brackets may stand within one another as often as n tells; lists have up to m signs. -/
def partF (m : Nat) : Nat → St → Option (Int × St)
  | 0 => fun _ => none
  | n + 1 => partG (listF sOr (listF sAnd (notF (partF m n)) m) m)
def orF (m n : Nat) : St → Option (Int × St) := listF sOr (listF sAnd (notF (partF m n)) m) m
theorem partF_PC (s : ByteArray) (hs : s.size ≤ 4294967296) (m : Nat) : ∀ n, PC s 37 (partF m n)
  | 0 => fun g l O d e1 l1 O1 d1 w0 w hI hB h => absurd h (by simp [partF])
  | n + 1 => part_PC s hs _ (or_PC s hs _ (and_PC s hs _ (not_PC s hs _ (partF_PC s hs m n)) m) m)
theorem orF_PC (s : ByteArray) (hs : s.size ≤ 4294967296) (m n : Nat) : PC s 19 (orF m n) := or_PC s hs _ (and_PC s hs _ (not_PC s hs _ (partF_PC s hs m n)) m) m
end Go.Proofs.Ytcpemjolabofnaa.PAll
/- Parse. -/
namespace Go.Proofs.Ytcpemjolabofnaa.PAll
open Go Go.RowKit Go.Proofs.YtcpemjolabofnaaW.PrintWords Go.Proofs.YtcpemjolabofnaaW.PrintLast Go.Proofs.YtcpemjolabofnaaW.PrintMore Go.Proofs.YtcpemjolabofnaaMy Go.Proofs.Ytcpemjolabofnaa Go.Proofs.YtcpemjolabofnaaPw
set_option linter.unusedVariables false
set_option linter.unusedSimpArgs false
def expr_Parse.f (a0 : ByteArray) : Option (List ByteArray × Int) :=
  if 1024 < a0.size then some ([], 3) else (orF 2000 70 (bytesOf a0, [], 0)).bind fun r => if r.1 = 0 then (if dropB r.2.1 = [] then some (r.2.2.1, 0) else some ([], 4)) else some ([], r.1)
set_option maxHeartbeats 4000000 in
set_option maxRecDepth 100000 in
theorem expr_Parse.calls (a0 : ByteArray) (r1 : List ByteArray) (r2 : Int) (w : World) (h : expr_Parse.f a0 = some (r1, r2)) :
    Calls Try.prog 11 #[.string a0] w fun e w' => ∃ v0_ : Value, e = .returned (.tuple #[v0_, .int .i64 r2]) ∧ Kd.R Kd.string 9 w' w.heap.size (fun _ => True) v0_ r1 ∧ Below w.heap.size w w' := by
  unfold expr_Parse.f at h
  by_cases c : 1024 < a0.size
  · rw [if_pos c] at h
    simp only [Option.some.injEq, Prod.mk.injEq] at h
    obtain ⟨rfl, rfl⟩ := h
    have c1 : decide (1024 < (a0.size : Int)) = true := decide_eq_true (by omega)
    clear c
    go_enter Try.func11, Try.ntmps11
    go_wp2
    go_ret2
    exact ⟨_, rfl, Kd.R_nil _ _ _ _ _, Below.refl _ _⟩
  · rw [if_neg c] at h
    have c1 : decide (1024 < (a0.size : Int)) = false := decide_eq_false (by omega)
    have hs : a0.size ≤ 4294967296 := by omega
    have HS := Aside0.mk hs
    clear c hs
    have HI := Aside0.mk (show IsP w (w.alloc (.cells #[.string a0, .int .i64 0, .slice none 0 0, .int .i64 0] 42 (0, 0))) w.heap.size a0 (bytesOf a0) [] 0 from ⟨0, Nat.zero_le _, rfl, .slice none 0 0, blk_new _ _, Nat.le_refl _, Kd.R_nil _ _ _ _ _⟩)
    have HB := Aside0.mk (show Below w.heap.size w (w.alloc (.cells #[.string a0, .int .i64 0, .slice none 0 0, .int .i64 0] 42 (0, 0))) from (Below.refl _ _).alloc (Nat.le_refl _) _)
    obtain ⟨⟨e3, l3, O, d⟩, h3, h⟩ := Option.bind_eq_some_iff.mp h
    have H3 := Aside0.mk h3
    clear h3
    simp only at h
    by_cases c : e3 = 0
    · subst c
      rw [if_pos rfl] at h
      by_cases c2 : dropB l3 = []
      · rw [if_pos c2] at h
        simp only [Option.some.injEq, Prod.mk.injEq] at h
        obtain ⟨rfl, rfl⟩ := h
        have C2 := Aside0.mk c2
        clear c2
        go_enter Try.func11, Try.ntmps11
        go_wp2_with (first | (go_at_call 19; refine (orF_PC a0 HS.out 2000 70 w.heap.size (bytesOf a0) [] 0 0 l3 O d w _ HI.out HB.out H3.out).mono ?_; rintro e w3 ⟨rfl, hi, hb⟩; clear HI HB; have HI := Aside0.mk hi; have HB := Aside0.mk hb; clear hi hb) | (go_at_call 20; refine (blanks_P w.heap.size a0 HS.out l3 O d w _ HI.out HB.out).mono ?_; rintro e w4 ⟨rfl, ⟨p, hp1, hp2, hi⟩, hb⟩; clear HI HB; obtain ⟨y, hy⟩ : ∃ y : Int, y = (p : Int) := ⟨_, rfl⟩; rw [← hy] at hi; have HI := Aside0.mk hi; have HB := Aside0.mk hb; clear hb; obtain ⟨ov, h0, h1, h2⟩ := hi; have q0 := cellS42_0 h0; have q1 := cellS42_1 h0; have q2 := cellS42_2 h0; have cz : decide (y < (a0.size : Int)) = false := decide_eq_false (by have e := congrArg List.length (hp2.symm.trans C2.out); rw [List.length_drop, bytesOf_length] at e; simp at e; omega); clear h0 h1 h2 hp1 hp2 hy))
        repeat (go_quiet (fail); try go_wp2)
        go_ret2
        obtain ⟨ov2, h0, h1, h2⟩ := HI.out
        have e : ov2 = ov := Option.some.inj ((cellS42_2 h0).symm.trans q2)
        subst e
        exact ⟨_, rfl, Kd.R_drewN h2 _, pw_below_drewN HB.out _⟩
      · rw [if_neg c2] at h
        simp only [Option.some.injEq, Prod.mk.injEq] at h
        obtain ⟨rfl, rfl⟩ := h
        have C2 := Aside0.mk c2
        clear c2
        go_enter Try.func11, Try.ntmps11
        go_wp2_with (first | (go_at_call 19; refine (orF_PC a0 HS.out 2000 70 w.heap.size (bytesOf a0) [] 0 0 l3 O d w _ HI.out HB.out H3.out).mono ?_; rintro e w3 ⟨rfl, hi, hb⟩; clear HI HB; have HI := Aside0.mk hi; have HB := Aside0.mk hb; clear hi hb) | (go_at_call 20; refine (blanks_P w.heap.size a0 HS.out l3 O d w _ HI.out HB.out).mono ?_; rintro e w4 ⟨rfl, ⟨p, hp1, hp2, hi⟩, hb⟩; clear HI HB; obtain ⟨y, hy⟩ : ∃ y : Int, y = (p : Int) := ⟨_, rfl⟩; rw [← hy] at hi; have HI := Aside0.mk hi; have HB := Aside0.mk hb; clear hb; obtain ⟨ov, h0, h1, h2⟩ := hi; have q0 := cellS42_0 h0; have q1 := cellS42_1 h0; have cz : decide (y < (a0.size : Int)) = true := decide_eq_true (by have hne : p ≠ a0.size := (fun e => C2.out (by rw [hp2, e]; exact List.drop_of_length_le (by rw [bytesOf_length]; exact Nat.le_refl _))); omega); clear h0 h1 h2 hp1 hp2 hy))
        repeat (go_quiet (fail); try go_wp2)
        go_ret2
        exact ⟨_, rfl, Kd.R_nil _ _ _ _ _, pw_below_drewN HB.out _⟩
    · rw [if_neg c] at h
      simp only [Option.some.injEq, Prod.mk.injEq] at h
      obtain ⟨rfl, rfl⟩ := h
      have cb : (e3 != 0) = true := bne_iff_ne.mpr c
      clear c
      go_enter Try.func11, Try.ntmps11
      go_wp2_with (first | (go_at_call 19; refine (orF_PC a0 HS.out 2000 70 w.heap.size (bytesOf a0) [] 0 e3 l3 O d w _ HI.out HB.out H3.out).mono ?_; rintro e w3 ⟨rfl, hi, hb⟩; clear HI HB; have HI := Aside0.mk hi; have HB := Aside0.mk hb; clear hi hb))
      go_ret2
      exact ⟨_, rfl, Kd.R_nil _ _ _ _ _, HB.out⟩
end Go.Proofs.Ytcpemjolabofnaa.PAll
