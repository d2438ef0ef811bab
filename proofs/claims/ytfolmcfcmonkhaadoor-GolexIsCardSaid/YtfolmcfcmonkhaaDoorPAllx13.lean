-- Written by a program of this session (a changed scratch copy of a tool of the kit); not a print of the kit's own.
import Derived.Test.YtfolmcfcmonkhaaDoorPAllx0
import Derived.Test.YtfolmcfcmonkhaaDoorPAllx3
import Derived.Test.YtfolmcfcmonkhaaDoorPAllxF
import Derived.Test.YtfolmcfcmonkhaaDoorPAllx12
namespace Go.Proofs.YtfolmcfcmonkhaaDoor.PAll
open Go.RowKit Go.Proofs.YtfolmcfcmonkhaaDoorW.PrintWords Go.Proofs.YtfolmcfcmonkhaaDoorW.PrintLast Go.Proofs.YtfolmcfcmonkhaaDoorW.PrintMore Go.Proofs.YtfolmcfcmonkhaaDoorMy Go.Proofs.YtfolmcfcmonkhaaDoor
attribute [local go_sem] max2_int min2_int max_two min_two max_three min_three max_four min_four   -- for this text's walks alone
set_option linter.unusedVariables false
set_option linter.unusedSimpArgs false

def seicheref11_feed.f (k : Nat) (l0 : List (S27)) (a1 : Int) : Option ((List (S27))) := if (l0.length : Int) > 0 then (if 0 ≤ (wrap64 ((l0.length : Int) - 1)) then (if (wrap64 ((l0.length : Int) - 1)) < (l0.length : Int) then ((seicheref11_Feeds.f k ((rd_T27 l0 (wrap64 ((l0.length : Int) - 1))).f0) ((rd_T27 l0 (wrap64 ((l0.length : Int) - 1))).f1) ((rd_T27 l0 (wrap64 ((l0.length : Int) - 1))).f2)).bind fun t280 => (if t280 = true then (if l0.length < 4398046511104 then (some (l0 ++ [(⟨6, (⟨#[]⟩ : ByteArray), a1⟩ : S27)])) else (none)) else (some l0))) else (none)) else (none)) else (some l0)
set_option maxHeartbeats 8000000 in
set_option maxRecDepth 100000 in
theorem seicheref11_feed.calls (k : Nat) (P0_ : Nat → Prop) (u9000_ : Value) (l0 : List (S27)) (a1 : Int) (r : List (S27)) (w0 w : World) (hB : Below w0.heap.size w0 w) (ho0 : Kd.R k27 27 w w0.heap.size P0_ u9000_ l0) (h : seicheref11_feed.f k l0 a1 = some r) :
    Calls Tryd.prog 22 #[u9000_, .int .i64 a1] w fun e w' => ∃ v0_ : Value, e = .returned (v0_) ∧ Kd.R k27 27 w' w0.heap.size (fun k_ => (P0_ k_ ∨ w.heap.size ≤ k_)) v0_ r ∧ Below w0.heap.size w0 w' ∧ Kept w w' (fun k_ => P0_ k_) := by
  have hu27 := Tryd.underlying27
  have HO0 := Aside0.mk (show Kd.R k27 27 w w0.heap.size (fun k_ => (P0_ k_ ∨ w.heap.size ≤ k_)) u9000_ l0 from Kd.R_mono ho0 (fun k_ hk => (.inl hk)))
  have HK := Aside0.mk (Kept.refl w (fun k_ => P0_ k_))
  have HW0 := Aside0.mk hB.size
  have HB := Aside0.mk hB; clear hB
  have H : (if (l0.length : Int) > 0 then (if 0 ≤ (wrap64 ((l0.length : Int) - 1)) then (if (wrap64 ((l0.length : Int) - 1)) < (l0.length : Int) then ((seicheref11_Feeds.f k ((rd_T27 l0 (wrap64 ((l0.length : Int) - 1))).f0) ((rd_T27 l0 (wrap64 ((l0.length : Int) - 1))).f1) ((rd_T27 l0 (wrap64 ((l0.length : Int) - 1))).f2)).bind fun t280 => (if t280 = true then (if l0.length < 4398046511104 then (some (l0 ++ [(⟨6, (⟨#[]⟩ : ByteArray), a1⟩ : S27)])) else (none)) else (some l0))) else (none)) else (none)) else (some l0)) = some r := h
  clear h
  by_cases c3 : (l0.length : Int) > 0
  · rw [if_pos c3] at H
    have c3b0 : decide (0 < (l0.length : Int)) = true := decide_eq_true c3
    have c3b1 : decide (0 < l0.length) = true := decide_eq_true (by omega)
    clear c3
    obtain ⟨ji4, hji4⟩ : ∃ j_ : Int, (wrap64 ((l0.length : Int) - 1)) = j_ := ⟨_, rfl⟩
    replace H : (if 0 ≤ (ji4) then (if (ji4) < (l0.length : Int) then ((seicheref11_Feeds.f k ((rd_T27 l0 (ji4)).f0) ((rd_T27 l0 (ji4)).f1) ((rd_T27 l0 (ji4)).f2)).bind fun t280 => (if t280 = true then (if l0.length < 4398046511104 then (some (l0 ++ [(⟨6, (⟨#[]⟩ : ByteArray), a1⟩ : S27)])) else (none)) else (some l0))) else (none)) else (none)) = some r := by first | (rw [hji4] at H; exact H) | (simp only [hji4] at H ⊢; exact H)
    have hji4w : (IntKind.i64.wrap ((l0.length : Int) - 1)) = ji4 := (i64_w _).trans hji4
    by_cases c5 : 0 ≤ (ji4)
    · rw [if_pos c5] at H
      have c5b0 : decide (0 ≤ (ji4)) = true := decide_eq_true c5
      clear c5
      by_cases c6 : (ji4) < (l0.length : Int)
      · rw [if_pos c6] at H
        have c6b0 : decide ((ji4) < (l0.length : Int)) = true := decide_eq_true c6
        clear c6
        replace H := Option.bind_eq_some_iff.mp H
        obtain ⟨t280, A70, H⟩ := H
        replace H : (if t280 = true then (if l0.length < 4398046511104 then (some (l0 ++ [(⟨6, (⟨#[]⟩ : ByteArray), a1⟩ : S27)])) else (none)) else (some l0)) = some r := H
        have A7 := Aside0.mk A70; clear A70
        by_cases c8 : t280 = true
        · subst c8
          have H1 : (if l0.length < 4398046511104 then (some (l0 ++ [(⟨6, (⟨#[]⟩ : ByteArray), a1⟩ : S27)])) else (none)) = some r := by rw [if_pos rfl] at H; exact H
          clear H
          have H := H1
          clear H1
          by_cases c9 : l0.length < 4398046511104
          · rw [if_pos c9] at H
            have LMc9 := Aside0.mk c9; clear c9
            obtain ⟨y281, hy281⟩ : ∃ y_ : List (S27), y_ = (l0 ++ [(⟨6, (⟨#[]⟩ : ByteArray), a1⟩ : S27)]) := ⟨_, rfl⟩
            replace H : (some y281) = some r := by first | (rw [hy281]; with_reducible exact H) | (have H2_ := (Option.bind_some _ _).symm.trans H; rw [hy281]; with_reducible exact H2_) | (have H2_ := (Option.bind_some _ _).symm.trans H; with_reducible exact H2_) | with_reducible exact H | (rw [hy281]; exact H) | exact H
            have Ny281 := Aside0.mk hy281; clear hy281
            obtain rfl := Option.some.inj H
            obtain ⟨Ao10, co10, eo10⟩ := Kd.R_slice HO0.out
            subst eo10
            have p279 : 0 ≤ ((ji4) : Int) := of_decide_eq_true (by first | (with_reducible assumption) | assumption)
            have q279 : (ji4) < (l0.length : Int) := of_decide_eq_true (by first | (with_reducible assumption) | assumption)
            obtain ⟨ad279, e279, hx279_0, hx279_1, hx279_2⟩ := at_T27 (Kd.R_reads' HO0.out).2.2 (ji4) p279 q279
            cases e279
            replace p279 := eq_true p279; replace q279 := eq_true q279
            go_enter Tryd.func22, Tryd.ntmps22
            go_wp2_with (first | (go_at_call 13; (with_reducible refine (seicheref11_Feeds.calls k ((rd_T27 l0 (ji4)).f0) ((rd_T27 l0 (ji4)).f1) ((rd_T27 l0 (ji4)).f2) true _ A7.out).mono ?_); rintro e w11 ⟨rfl, hb⟩; have n0_ := Aside0.mk (Kd.R_below (by (with_reducible repeat (first | apply Kd.R_alloc | apply Kd.R_drewN | apply Kd.R_drew)); exact HO0.out) hb); have n1_ := Aside0.mk (Kept.below (S := (fun k_ => P0_ k_)) (by repeat (first | (with_reducible first | exact HK.out | apply Kept.alloc | apply Kept.drewN | apply Kept.drew) | exact HK.out)) hb); have n2_ := Aside0.mk (below_step (by repeat (first | (with_reducible first | exact HB.out | apply below_alloc | apply pw_below_drewN | apply below_drew1) | exact HB.out)) hb); clear HO0; clear HK; clear HB; have HO0 := n0_; have HK := n1_; have HB := n2_; clear n0_ n1_ n2_; (try clear hb); (try clear hb2); (try clear hk); (try clear hi)) | ((with_reducible refine gate_builtin (b := .append) (xs := #[.tmp 17, .tmp 20]) rfl ?_); (try (refine gate_guard (by rfl) ?_; dsimp only)); at_builtin; refine Kd.R_append k27 (w0 := w0) w0.heap.size rfl (.tmp 17) (.tmp 20) 24 27 (.agg #[(.int .i64 0), (.string ⟨#[]⟩), (.int .i64 0)]) 32 rfl Tryd.underlying24 info27 rfl (by decide) (by omega) (.slice (some ad279) l0.length co10) l0 (⟨6, (⟨#[]⟩ : ByteArray), a1⟩ : S27) [.int .i64 6, .string (⟨#[]⟩ : ByteArray), .int .i64 a1] (fun k_ => (P0_ k_ ∨ w.heap.size ≤ k_)) (fun _ => False) rfl rfl ?aP (fun _ hk => hk.elim) ?aF ?aO ?aB ?aS ?aL ?_; (case aP => exact k27_mkM _ _ _ (⟨6, (⟨#[]⟩ : ByteArray), a1⟩ : S27)); (case aB => exact (by repeat (first | (with_reducible first | exact HB.out | apply below_alloc | apply pw_below_drewN | apply below_drew1) | exact HB.out))); (case aF => exact (fun k_ hk => (.inr (Nat.le_trans (by first | exact HK.out.1 | exact (show Kept w _ (fun k_ => P0_ k_) from by repeat (first | (with_reducible first | exact HK.out | apply Kept.alloc | apply Kept.drewN | apply Kept.drew) | exact HK.out)).1) hk)))); (case aO => exact (by (with_reducible repeat (first | apply Kd.R_alloc | apply Kd.R_drewN | apply Kd.R_drew)); exact HO0.out)); (case aS => exact (below_size (by repeat (first | (with_reducible first | exact HB.out | apply below_alloc | apply pw_below_drewN | apply below_drew1) | exact HB.out)))); (case aL => have := LMc9.out; omega); intro v282 w12 ho hb hg hat; rw [← Ny281.out] at ho; have n0_ := Aside0.mk (hb); have n1_ := Aside0.mk (Kept.of_grown (S := (fun k_ => P0_ k_)) hg (by repeat (first | (with_reducible first | exact HK.out | apply Kept.alloc | apply Kept.drewN | apply Kept.drew) | exact HK.out)) (fun k_ e_ => (HO0.out.1 k_ e_))); have n2_ := Aside0.mk (ho); clear HB; clear HK; clear HO0; have HB := n0_; have HK := n1_; have HO283 := n2_; clear n0_ n1_ n2_; clear ho hb hg hat))
            go_ret
            exact ⟨_, by first | rfl | (simp [errW_none, errW_some] <;> rfl) | (simp only [← hji4]; first | rfl | (simp [errW_none, errW_some] <;> rfl)) | (simp [*, errW_none, errW_some] <;> rfl), by (with_reducible repeat (first | apply Kd.R_alloc | apply Kd.R_drewN | apply Kd.R_drew)); exact HO283.out, by repeat (first | (with_reducible first | exact HB.out | apply below_alloc | apply pw_below_drewN | apply below_drew1) | exact HB.out), by repeat (first | (with_reducible first | exact HK.out | apply Kept.alloc | apply Kept.drewN | apply Kept.drew) | exact HK.out)⟩
          · rw [if_neg c9] at H
            exact absurd H (by simp)
        · replace c8 := Bool.eq_false_iff.mpr c8
          subst c8
          have H1 : (some l0) = some r := by rw [if_neg (show ¬ (false = true) by decide)] at H; exact H
          clear H
          have H := H1
          clear H1
          obtain rfl := Option.some.inj H
          obtain ⟨Ao13, co13, eo13⟩ := Kd.R_slice HO0.out
          subst eo13
          have p279 : 0 ≤ ((ji4) : Int) := of_decide_eq_true (by first | (with_reducible assumption) | assumption)
          have q279 : (ji4) < (l0.length : Int) := of_decide_eq_true (by first | (with_reducible assumption) | assumption)
          obtain ⟨ad279, e279, hx279_0, hx279_1, hx279_2⟩ := at_T27 (Kd.R_reads' HO0.out).2.2 (ji4) p279 q279
          cases e279
          replace p279 := eq_true p279; replace q279 := eq_true q279
          go_enter Tryd.func22, Tryd.ntmps22
          go_wp2_with (first | (go_at_call 13; (with_reducible refine (seicheref11_Feeds.calls k ((rd_T27 l0 (ji4)).f0) ((rd_T27 l0 (ji4)).f1) ((rd_T27 l0 (ji4)).f2) false _ A7.out).mono ?_); rintro e w14 ⟨rfl, hb⟩; have n0_ := Aside0.mk (Kd.R_below (by (with_reducible repeat (first | apply Kd.R_alloc | apply Kd.R_drewN | apply Kd.R_drew)); exact HO0.out) hb); have n1_ := Aside0.mk (Kept.below (S := (fun k_ => P0_ k_)) (by repeat (first | (with_reducible first | exact HK.out | apply Kept.alloc | apply Kept.drewN | apply Kept.drew) | exact HK.out)) hb); have n2_ := Aside0.mk (below_step (by repeat (first | (with_reducible first | exact HB.out | apply below_alloc | apply pw_below_drewN | apply below_drew1) | exact HB.out)) hb); clear HO0; clear HK; clear HB; have HO0 := n0_; have HK := n1_; have HB := n2_; clear n0_ n1_ n2_; (try clear hb); (try clear hb2); (try clear hk); (try clear hi)))
          go_ret
          exact ⟨_, by first | rfl | (simp [errW_none, errW_some] <;> rfl) | (simp only [← hji4]; first | rfl | (simp [errW_none, errW_some] <;> rfl)) | (simp [*, errW_none, errW_some] <;> rfl), by (with_reducible repeat (first | apply Kd.R_alloc | apply Kd.R_drewN | apply Kd.R_drew)); exact HO0.out, by repeat (first | (with_reducible first | exact HB.out | apply below_alloc | apply pw_below_drewN | apply below_drew1) | exact HB.out), by repeat (first | (with_reducible first | exact HK.out | apply Kept.alloc | apply Kept.drewN | apply Kept.drew) | exact HK.out)⟩
      · rw [if_neg c6] at H
        exact absurd H (by simp)
    · rw [if_neg c5] at H
      exact absurd H (by simp)
  · rw [if_neg c3] at H
    have c3b0 : decide (0 < (l0.length : Int)) = false := decide_eq_false c3
    have c3b1 : decide (0 < l0.length) = false := decide_eq_false (by omega)
    clear c3
    obtain rfl := Option.some.inj H
    obtain ⟨Ao15, co15, eo15⟩ := Kd.R_slice HO0.out
    subst eo15
    go_enter Tryd.func22, Tryd.ntmps22
    go_wp2
    go_ret
    exact ⟨_, by first | rfl | (simp [errW_none, errW_some] <;> rfl) | (simp [*, errW_none, errW_some] <;> rfl), by (with_reducible repeat (first | apply Kd.R_alloc | apply Kd.R_drewN | apply Kd.R_drew)); exact HO0.out, by repeat (first | (with_reducible first | exact HB.out | apply below_alloc | apply pw_below_drewN | apply below_drew1) | exact HB.out), by repeat (first | (with_reducible first | exact HK.out | apply Kept.alloc | apply Kept.drewN | apply Kept.drew) | exact HK.out)⟩
mutual
def seicheref11_Lex.l0 : Nat → ByteArray → List (S27) → List (S27) → Int → Option ((List (S27)) × (List (S27)))
  | 0, _, _, _, _ => none
  | k + 1, x0, x4, x5, x6 => if x6 < (x0.size : Int) then ((seicheref11_Next.f k x0 x6).bind fun bt291 => (if bt291.1 = 7 then (if x4.length < 4398046511104 then (some ((x4 ++ [(⟨7, (⟨#[]⟩ : ByteArray), bt291.2.2⟩ : S27)]), x5)) else (none)) else (if bt291.1 = (-1) then (seicheref11_Lex.l0 k x0 x4 x5 (wrap64 (x6 + bt291.2.1))) else (if bt291.1 = (-2) then ((seicheref11_feed.f k x4 x6).bind fun t298 => (seicheref11_Lex.l0 k x0 t298 x5 (wrap64 (x6 + bt291.2.1)))) else (if bt291.1 = (-3) then (seicheref11_Lex.j1 k x0 x4 x5 x6 (bt291.1 == (-3)) bt291.1 bt291.2.1 bt291.2.2) else (seicheref11_Lex.j1 k x0 x4 x5 x6 (bt291.1 == (-4)) bt291.1 bt291.2.1 bt291.2.2)))))) else ((seicheref11_feed.f k x4 x6).bind fun t285 => (if t285.length < 4398046511104 then (some ((t285 ++ [(⟨0, (⟨#[]⟩ : ByteArray), x6⟩ : S27)]), x5)) else (none)))
def seicheref11_Lex.j1 : Nat → ByteArray → List (S27) → List (S27) → Int → Bool → Int → Int → Int → Option ((List (S27)) × (List (S27)))
  | 0, _, _, _, _, _, _, _, _ => none
  | k + 1, x0, x4, x5, x6, x49, x295000, x295001, x295002 => if x49 = true then (if 0 ≤ x6 then (if x6 ≤ (wrap64 (x6 + x295001)) then (if (wrap64 (x6 + x295001)) ≤ (x0.size : Int) then (if x5.length < 4398046511104 then ((some (x5 ++ [(⟨0, x0.extract (x6 : Int).toNat ((wrap64 (x6 + x295001)) : Int).toNat, x6⟩ : S27)] : List (S27))).bind fun y301 => (if x295000 = (-4) then ((seicheref11_feed.f k x4 x6).bind fun t304 => (seicheref11_Lex.l0 k x0 t304 y301 (wrap64 (x6 + x295001)))) else (seicheref11_Lex.l0 k x0 x4 y301 (wrap64 (x6 + x295001))))) else (none)) else (none)) else (none)) else (none)) else (if 0 ≤ x6 then (if x6 ≤ (wrap64 (x6 + x295001)) then (if (wrap64 (x6 + x295001)) ≤ (x0.size : Int) then (if x4.length < 4398046511104 then (seicheref11_Lex.l0 k x0 (x4 ++ [(⟨x295000, x0.extract (x6 : Int).toNat ((wrap64 (x6 + x295001)) : Int).toNat, x6⟩ : S27)]) x5 (wrap64 (x6 + x295001))) else (none)) else (none)) else (none)) else (none))
end
def seicheref11_Lex.f (k : Nat) (a0 : ByteArray) : Option ((List (S27)) × (List (S27))) := (seicheref10_Skip.f a0).bind fun t284 => (seicheref11_Lex.l0 k a0 ([] : List (S27)) ([] : List (S27)) t284)
def seicheref11_Lex.T7 : Bool × List (List Nat × List Nat) := (true, [([], []), ([], []), ([1], [1]), ([], []), ([], []), ([], []), ([], []), ([6], [6]), ([5, 7], [5, 7]), ([3, 4, 8], [3, 4, 8]), ([], []), ([2, 9, 10], [2, 9, 10]), ([11], [11]), ([0, 12], [0, 12]), ([13, 13, 0, 1, 2, 3, 4, 5, 6, 7, 8, 9, 10, 11, 12, 13], [0, 13])])
def seicheref11_Lex.B7 : List Nat := [0, 0, 2, 0, 0, 0, 0, 64, 224, 504, 0, 2046, 4094, 8191, 16383]
theorem seicheref11_Lex.tab7 : rtab .any (opsOf Tryd.f16 7) = seicheref11_Lex.T7 := by kernel_rfl
theorem seicheref11_Lex.bits7 : waitsOk seicheref11_Lex.T7.2 seicheref11_Lex.B7 = true := by kernel_rfl
set_option maxHeartbeats 8000000 in
set_option maxRecDepth 100000 in
theorem seicheref11_Lex.calls (k : Nat) (a0 : ByteArray) (r1 : List (S27)) (r2 : List (S27)) (w : World) (h : seicheref11_Lex.f k a0 = some (r1, r2)) :
    Calls Tryd.prog 16 #[.string a0] w fun e w' => ∃ v0_ v1_ : Value, e = .returned (.tuple #[v0_, v1_]) ∧ Kd.R k27 27 w' w.heap.size (fun k_ => some k_ ≠ (v1_ : Value).ownBlock) v0_ r1 ∧ Kd.R k27 27 w' w.heap.size (fun k_ => some k_ ≠ (v0_ : Value).ownBlock) v1_ r2 ∧ Below w.heap.size w w' := by
  have hu41 := Tryd.underlying41
  have hu27 := Tryd.underlying27
  have HB := Aside0.mk (Below.refl w.heap.size w)
  have H : ((seicheref10_Skip.f a0).bind fun t284 => (seicheref11_Lex.l0 k a0 ([] : List (S27)) ([] : List (S27)) t284)) = some (r1, r2) := h
  clear h
  replace H := Option.bind_eq_some_iff.mp H
  obtain ⟨t284, A20, H⟩ := H
  replace H : (seicheref11_Lex.l0 k a0 ([] : List (S27)) ([] : List (S27)) t284) = some (r1, r2) := H
  have A2 := Aside0.mk A20; clear A20
  have H' := Aside0.mk H
  clear H
  go_enter Tryd.func16, Tryd.ntmps16
  go_wp2_with (first | ((with_reducible refine gate_callee (f := 10) rfl ?_); refine goesL_ (some 9) rfl rfl Tryd.func10 (by kernel_rfl) rfl #[.string a0] rfl (by (try simp only [List.map_toArray, List.map_cons, List.map_nil]); first | done | rfl | (simp only [List.length_drop, List.length_take]; rfl)) ?_; (with_reducible refine (seicheref10_Skip.calls a0 t284 _ A2.out).mono ?_); rintro e w' ⟨rfl, ⟨nd, rfl⟩⟩; refine ⟨_, rfl, ?_⟩))
  go_loopg [4, 5, 6] k (fun kq v4 v5 v6 w' => ∃ (x4_1 : List (S27)) (x5_1 : List (S27)) (x6_1 : Int), v6 = .int .i64 x6_1 ∧ Aside0 (seicheref11_Lex.l0 kq a0 x4_1 x5_1 x6_1 = some (r1, r2)) ∧ Aside0 (kq ≤ k) ∧ Aside0 (Kd.R k27 27 w' w.heap.size (fun k_ => some k_ ≠ (v5 : Value).ownBlock) v4 x4_1) ∧ Aside0 (Kd.R k27 27 w' w.heap.size (fun k_ => some k_ ≠ (v4 : Value).ownBlock) v5 x5_1) ∧ Aside0 (Below w.heap.size w w'))
  case atStart => exact ⟨(([] : List (S27))), (([] : List (S27))), (t284), (by first | rfl | (simp; done) | (simp [*]; done)), H', ⟨Nat.le_refl _⟩, ⟨by first | exact Kd.R_nil _ _ _ _ _ | exact Kd.N_nil _ _ _ _ _ | exact Kd.V_nil _ _ _ _ _ | exact Kd.Q_nil _ _ _ _ _ | exact Kd.S_nil _ _ _ _ _⟩, ⟨by first | exact Kd.R_nil _ _ _ _ _ | exact Kd.N_nil _ _ _ _ _ | exact Kd.V_nil _ _ _ _ _ | exact Kd.Q_nil _ _ _ _ _ | exact Kd.S_nil _ _ _ _ _⟩, ⟨by repeat (first | (with_reducible first | exact HB.out | apply below_alloc | apply pw_below_drewN | apply below_drew1) | exact HB.out)⟩⟩
  case round =>
    clear H'
    (try clear c1); (try clear p2); obtain ⟨x4_1, x5_1, x6_1, rfl, HA, HK1, HO_4, HO_5, HB⟩ := hrel
    cases gk with
    | zero => exact absurd HA.out (by simp [seicheref11_Lex.l0])
    | succ k1 =>
      have H := HA.out
      clear HA
      simp only [seicheref11_Lex.l0] at H
      by_cases c3 : x6_1 < (a0.size : Int)
      · rw [if_pos c3] at H
        have c3b0 : decide (x6_1 < (a0.size : Int)) = true := decide_eq_true c3
        clear c3
        replace H := Option.bind_eq_some_iff.mp H
        obtain ⟨⟨t291, t292, t293⟩, A40, H⟩ := H
        replace H : (if t291 = 7 then (if x4_1.length < 4398046511104 then (some ((x4_1 ++ [(⟨7, (⟨#[]⟩ : ByteArray), t293⟩ : S27)]), x5_1)) else (none)) else (if t291 = (-1) then (seicheref11_Lex.l0 k1 a0 x4_1 x5_1 (wrap64 (x6_1 + t292))) else (if t291 = (-2) then ((seicheref11_feed.f k1 x4_1 x6_1).bind fun t298 => (seicheref11_Lex.l0 k1 a0 t298 x5_1 (wrap64 (x6_1 + t292)))) else (if t291 = (-3) then (seicheref11_Lex.j1 k1 a0 x4_1 x5_1 x6_1 (t291 == (-3)) t291 t292 t293) else (seicheref11_Lex.j1 k1 a0 x4_1 x5_1 x6_1 (t291 == (-4)) t291 t292 t293))))) = some (r1, r2) := H
        have A4 := Aside0.mk A40; clear A40
        by_cases c5 : t291 = 7
        · rw [if_pos c5] at H
          have c5b0 : (t291 == 7) = true := beq_iff_eq.mpr c5
          have c5b1 : (t291 != 7) = false := bne_eq_false_iff_eq.mpr c5
          clear c5
          by_cases c6 : x4_1.length < 4398046511104
          · rw [if_pos c6] at H
            have LMc6 := Aside0.mk c6; clear c6
            obtain ⟨y295, hy295⟩ : ∃ y_ : List (S27), y_ = (x4_1 ++ [(⟨7, (⟨#[]⟩ : ByteArray), t293⟩ : S27)]) := ⟨_, rfl⟩
            replace H : (some (y295, x5_1)) = some (r1, r2) := by first | (rw [hy295]; with_reducible exact H) | (have H2_ := (Option.bind_some _ _).symm.trans H; rw [hy295]; with_reducible exact H2_) | (have H2_ := (Option.bind_some _ _).symm.trans H; with_reducible exact H2_) | with_reducible exact H | (rw [hy295]; exact H) | exact H
            have Ny295 := Aside0.mk hy295; clear hy295
            simp only [Option.some.injEq, Prod.mk.injEq] at H
            obtain ⟨rfl, rfl⟩ := H
            go_wp2_with (first | ((with_reducible refine gate_callee (f := 21) rfl ?_); refine goesL_ (some 16) rfl rfl Tryd.func21 (by kernel_rfl) rfl #[.string a0, .int .i64 x6_1] rfl (by (try simp only [List.map_toArray, List.map_cons, List.map_nil]); first | done | rfl | (simp only [List.length_drop, List.length_take]; rfl)) ?_; (with_reducible refine (seicheref11_Next.calls k1 a0 x6_1 t291 t292 t293 _ A4.out).mono ?_); rintro e w7 ⟨rfl, hb⟩; refine ⟨_, rfl, ?_⟩; have n0_ := Aside0.mk (Kd.R_below (by (with_reducible repeat (first | apply Kd.R_alloc | apply Kd.R_drewN | apply Kd.R_drew)); exact HO_4.out) hb); have n1_ := Aside0.mk (Kd.R_below (by (with_reducible repeat (first | apply Kd.R_alloc | apply Kd.R_drewN | apply Kd.R_drew)); exact HO_5.out) hb); have n2_ := Aside0.mk (below_step (by repeat (first | (with_reducible first | exact HB.out | apply below_alloc | apply pw_below_drewN | apply below_drew1) | exact HB.out)) hb); clear HO_4; clear HO_5; clear HB; have HO_4 := n0_; have HO_5 := n1_; have HB := n2_; clear n0_ n1_ n2_; (try clear hb); (try clear hb2); (try clear hk); (try clear hi)) | ((with_reducible refine gate_dst (N := 7) rfl ?_); refine box_event ?hg (N := 7) ?hd (cs := #[.int .i64 0, .int .i64 0, .int .i64 0]) (t := 41) ?hr ?_; (case hd => rfl); (case hg => rfl); (case hr => first | (go_simp; done) | (go_simp; rfl)); intro gb294 hg w8 hbox hb; have n0_ := Aside0.mk (Kd.R_below (by (with_reducible repeat (first | apply Kd.R_alloc | apply Kd.R_drewN | apply Kd.R_drew)); exact HO_4.out) hb); have n1_ := Aside0.mk (Kd.R_below (by (with_reducible repeat (first | apply Kd.R_alloc | apply Kd.R_drewN | apply Kd.R_drew)); exact HO_5.out) hb); have n2_ := Aside0.mk (below_step (by repeat (first | (with_reducible first | exact HB.out | apply below_alloc | apply pw_below_drewN | apply below_drew1) | exact HB.out)) hb); have n3_ := Aside0.mk (hbox); have n4_ := Aside0.mk ((by rw [hg]; exact (below_size (by repeat (first | (with_reducible first | exact HB.out | apply below_alloc | apply pw_below_drewN | apply below_drew1) | exact HB.out))) : w.heap.size ≤ gb294)); have n5_ := Aside0.mk ((by rw [hg]; exact (below_size (by repeat (first | (with_reducible first | exact HB.out | apply below_alloc | apply pw_below_drewN | apply below_drew1) | exact HB.out))) : w.heap.size ≤ gb294)); clear HO_4; clear HO_5; clear HB; have HO_4 := n0_; have HO_5 := n1_; have HB := n2_; have BK294 := n3_; have GW294 := n4_; have GE294 := n5_; clear n0_ n1_ n2_ n3_ n4_ n5_; clear hb hbox hg; have hcz9_0 : w8.cell? ⟨gb294, 0, none⟩ = some (.int .i64 0) := (blk_cell BK294.out 0).trans rfl; have hcz9_1 : w8.cell? ⟨gb294, 1, none⟩ = some (.int .i64 0) := (blk_cell BK294.out 1).trans rfl; have hcz9_2 : w8.cell? ⟨gb294, 2, none⟩ = some (.int .i64 0) := (blk_cell BK294.out 2).trans rfl; have hfz9_0 := blk_frozen BK294.out 0; have hfz9_1 := blk_frozen BK294.out 1; have hfz9_2 := blk_frozen BK294.out 2) | ((with_reducible refine gate_builtin (b := .append) (xs := #[.tmp 35, .tmp 39]) rfl ?_); at_builtin; refine Kd.R_append k27 (w0 := w) w.heap.size rfl (.tmp 35) (.tmp 39) 24 27 (.agg #[(.int .i64 0), (.string ⟨#[]⟩), (.int .i64 0)]) 32 rfl Tryd.underlying24 info27 rfl (by decide) (by omega) u4 x4_1 (⟨7, (⟨#[]⟩ : ByteArray), t293⟩ : S27) [.int .i64 7, .string (⟨#[]⟩ : ByteArray), .int .i64 t293] (fun k_ => some k_ ≠ (u5 : Value).ownBlock) (fun _ => False) rfl (by first | (go_simp; done) | (go_simp; rfl)) ?aP (fun _ hk => hk.elim) ?aF ?aO ?aB ?aS ?aL ?_; (case aP => exact k27_mkM _ _ _ (⟨7, (⟨#[]⟩ : ByteArray), t293⟩ : S27)); (case aB => exact (by repeat (first | (with_reducible first | exact HB.out | apply below_alloc | apply pw_below_drewN | apply below_drew1 | refine below_set ?_ GE294.out) | exact HB.out))); (case aF => exact (fun k_ hk => Kd.fresh' (Kd.R_lt (by (with_reducible repeat (first | apply Kd.R_alloc | apply Kd.R_drewN | apply Kd.R_drew)); exact (Kd.R_mono (Kd.R_far (p := ⟨gb294, 2, none⟩) (Kd.R_far (p := ⟨gb294, 1, none⟩) (Kd.R_far (p := ⟨gb294, 0, none⟩) (Kd.R_types HO_5.out BK294.out (by decide)) (fun _ hk => hk.2) (.int .i64 t291)) (fun _ hk => hk.2) (.int .i64 t292)) (fun _ hk => hk.2) (.int .i64 t293)) (fun _ h_ => h_.1)))) k_ hk)); (case aO => exact (by (with_reducible repeat (first | apply Kd.R_alloc | apply Kd.R_drewN | apply Kd.R_drew)); exact Kd.R_mono (Kd.R_far (p := ⟨gb294, 2, none⟩) (Kd.R_far (p := ⟨gb294, 1, none⟩) (Kd.R_far (p := ⟨gb294, 0, none⟩) (Kd.R_types HO_4.out BK294.out (by decide)) (fun _ hk => hk.2) (.int .i64 t291)) (fun _ hk => hk.2) (.int .i64 t292)) (fun _ hk => hk.2) (.int .i64 t293)) (fun _ hk => hk.1))); (case aS => exact (below_size (by repeat (first | (with_reducible first | exact HB.out | apply below_alloc | apply pw_below_drewN | apply below_drew1 | refine below_set ?_ GE294.out) | exact HB.out)))); (case aL => have := LMc6.out; omega); intro v296 w10 ho hb hg hat; rw [← Ny295.out] at ho; have n0_ := Aside0.mk (Kd.R_after (ok := (fun _ => True)) (by (with_reducible repeat (first | apply Kd.R_alloc | apply Kd.R_drewN | apply Kd.R_drew)); exact Kd.R_mono (Kd.R_far (p := ⟨gb294, 2, none⟩) (Kd.R_far (p := ⟨gb294, 1, none⟩) (Kd.R_far (p := ⟨gb294, 0, none⟩) (Kd.R_types HO_5.out BK294.out (by decide)) (fun _ hk => hk.2) (.int .i64 t291)) (fun _ hk => hk.2) (.int .i64 t292)) (fun _ hk => hk.2) (.int .i64 t293)) (fun _ hk => ⟨trivial, hk.1⟩)) hg hat); have n1_ := Aside0.mk (blk_grown (g := gb294) (o := .cells #[.int .i64 t291, .int .i64 t292, .int .i64 t293] 41 (0, 0)) (by (with_reducible repeat (first | refine blk_drewN ?_ _ | refine blk_drew ?_ | refine blk_alloc ?_ _)); refine blk_put (cs := #[.int .i64 t291, .int .i64 t292, .int .i64 0]) ?_ 2 _ rfl; (with_reducible repeat (first | refine blk_drewN ?_ _ | refine blk_drew ?_ | refine blk_alloc ?_ _)); refine blk_put (cs := #[.int .i64 t291, .int .i64 0, .int .i64 0]) ?_ 1 _ rfl; (with_reducible repeat (first | refine blk_drewN ?_ _ | refine blk_drew ?_ | refine blk_alloc ?_ _)); refine blk_put (cs := #[.int .i64 0, .int .i64 0, .int .i64 0]) ?_ 0 _ rfl; (with_reducible repeat (first | refine blk_drewN ?_ _ | refine blk_drew ?_ | refine blk_alloc ?_ _)); exact BK294.out) hg (Kd.R_ne HO_4.out BK294.out (by decide))); have n2_ := Aside0.mk (hb); have n3_ := Aside0.mk (ho); clear HO_5; clear BK294; clear HB; clear HO_4; have HO_5 := n0_; have BK294 := n1_; have HB := n2_; have HO297 := n3_; clear n0_ n1_ n2_ n3_; clear ho hb hg hat))
            go_ret2
            exact ⟨_, _, by first | rfl | (simp [errW_none, errW_some] <;> rfl) | (simp [*, errW_none, errW_some] <;> rfl), by (with_reducible repeat (first | apply Kd.R_alloc | apply Kd.R_drewN | apply Kd.R_drew)); exact HO297.out, by (with_reducible repeat (first | apply Kd.R_alloc | apply Kd.R_drewN | apply Kd.R_drew)); exact Kd.R_mono HO_5.out (fun _ hk => hk.2), by repeat (first | (with_reducible first | exact HB.out | apply below_alloc | apply pw_below_drewN | apply below_drew1 | refine below_set ?_ GE294.out) | exact HB.out)⟩
          · rw [if_neg c6] at H
            exact absurd H (by simp)
        · rw [if_neg c5] at H
          have c5b0 : (t291 == 7) = false := beq_eq_false_iff_ne.mpr c5
          have c5b1 : (t291 != 7) = true := bne_iff_ne.mpr c5
          by_cases c11 : t291 = (-1)
          · rw [if_pos c11] at H
            have c11b0 : (t291 == (-1)) = true := beq_iff_eq.mpr c11
            have c11b1 : (t291 != (-1)) = false := bne_eq_false_iff_eq.mpr c11
            clear c11
            have H' := Aside0.mk H
            clear H
            go_wp2_with (first | ((with_reducible refine gate_callee (f := 21) rfl ?_); refine goesL_ (some 16) rfl rfl Tryd.func21 (by kernel_rfl) rfl #[.string a0, .int .i64 x6_1] rfl (by (try simp only [List.map_toArray, List.map_cons, List.map_nil]); first | done | rfl | (simp only [List.length_drop, List.length_take]; rfl)) ?_; (with_reducible refine (seicheref11_Next.calls k1 a0 x6_1 t291 t292 t293 _ A4.out).mono ?_); rintro e w12 ⟨rfl, hb⟩; refine ⟨_, rfl, ?_⟩; have n0_ := Aside0.mk (Kd.R_below (by (with_reducible repeat (first | apply Kd.R_alloc | apply Kd.R_drewN | apply Kd.R_drew)); exact HO_4.out) hb); have n1_ := Aside0.mk (Kd.R_below (by (with_reducible repeat (first | apply Kd.R_alloc | apply Kd.R_drewN | apply Kd.R_drew)); exact HO_5.out) hb); have n2_ := Aside0.mk (below_step (by repeat (first | (with_reducible first | exact HB.out | apply below_alloc | apply pw_below_drewN | apply below_drew1) | exact HB.out)) hb); clear HO_4; clear HO_5; clear HB; have HO_4 := n0_; have HO_5 := n1_; have HB := n2_; clear n0_ n1_ n2_; (try clear hb); (try clear hb2); (try clear hk); (try clear hi)) | ((with_reducible refine gate_dst (N := 7) rfl ?_); refine box_event ?hg (N := 7) ?hd (cs := #[.int .i64 0, .int .i64 0, .int .i64 0]) (t := 41) ?hr ?_; (case hd => rfl); (case hg => rfl); (case hr => first | (go_simp; done) | (go_simp; rfl)); intro gb294 hg w13 hbox hb; have n0_ := Aside0.mk (Kd.R_below (by (with_reducible repeat (first | apply Kd.R_alloc | apply Kd.R_drewN | apply Kd.R_drew)); exact HO_4.out) hb); have n1_ := Aside0.mk (Kd.R_below (by (with_reducible repeat (first | apply Kd.R_alloc | apply Kd.R_drewN | apply Kd.R_drew)); exact HO_5.out) hb); have n2_ := Aside0.mk (below_step (by repeat (first | (with_reducible first | exact HB.out | apply below_alloc | apply pw_below_drewN | apply below_drew1) | exact HB.out)) hb); have n3_ := Aside0.mk (hbox); have n4_ := Aside0.mk ((by rw [hg]; exact (below_size (by repeat (first | (with_reducible first | exact HB.out | apply below_alloc | apply pw_below_drewN | apply below_drew1) | exact HB.out))) : w.heap.size ≤ gb294)); have n5_ := Aside0.mk ((by rw [hg]; exact (below_size (by repeat (first | (with_reducible first | exact HB.out | apply below_alloc | apply pw_below_drewN | apply below_drew1) | exact HB.out))) : w.heap.size ≤ gb294)); clear HO_4; clear HO_5; clear HB; have HO_4 := n0_; have HO_5 := n1_; have HB := n2_; have BK294 := n3_; have GW294 := n4_; have GE294 := n5_; clear n0_ n1_ n2_ n3_ n4_ n5_; clear hb hbox hg; have hcz14_0 : w13.cell? ⟨gb294, 0, none⟩ = some (.int .i64 0) := (blk_cell BK294.out 0).trans rfl; have hcz14_1 : w13.cell? ⟨gb294, 1, none⟩ = some (.int .i64 0) := (blk_cell BK294.out 1).trans rfl; have hcz14_2 : w13.cell? ⟨gb294, 2, none⟩ = some (.int .i64 0) := (blk_cell BK294.out 2).trans rfl; have hfz14_0 := blk_frozen BK294.out 0; have hfz14_1 := blk_frozen BK294.out 1; have hfz14_2 := blk_frozen BK294.out 2))
            go_roundg k1
            case measure => have := HK1.out; omega
            case rel => exact ⟨(x4_1), (x5_1), (wrap64 (x6_1 + t292)), (by first | rfl | (simp; done) | (simp [*]; done)), H', ⟨by have := HK1.out; omega⟩, ⟨by (with_reducible repeat (first | apply Kd.R_alloc | apply Kd.R_drewN | apply Kd.R_drew)); exact Kd.R_mono (Kd.R_far (p := ⟨gb294, 2, none⟩) (Kd.R_far (p := ⟨gb294, 1, none⟩) (Kd.R_far (p := ⟨gb294, 0, none⟩) (Kd.R_types HO_4.out BK294.out (by decide)) (fun _ hk => hk.2) (.int .i64 t291)) (fun _ hk => hk.2) (.int .i64 t292)) (fun _ hk => hk.2) (.int .i64 t293)) (fun _ hk => hk.1)⟩, ⟨by (with_reducible repeat (first | apply Kd.R_alloc | apply Kd.R_drewN | apply Kd.R_drew)); exact Kd.R_mono (Kd.R_far (p := ⟨gb294, 2, none⟩) (Kd.R_far (p := ⟨gb294, 1, none⟩) (Kd.R_far (p := ⟨gb294, 0, none⟩) (Kd.R_types HO_5.out BK294.out (by decide)) (fun _ hk => hk.2) (.int .i64 t291)) (fun _ hk => hk.2) (.int .i64 t292)) (fun _ hk => hk.2) (.int .i64 t293)) (fun _ hk => hk.1)⟩, ⟨by repeat (first | (with_reducible first | exact HB.out | apply below_alloc | apply pw_below_drewN | apply below_drew1 | refine below_set ?_ GE294.out) | exact HB.out)⟩⟩
          · rw [if_neg c11] at H
            have c11b0 : (t291 == (-1)) = false := beq_eq_false_iff_ne.mpr c11
            have c11b1 : (t291 != (-1)) = true := bne_iff_ne.mpr c11
            by_cases c15 : t291 = (-2)
            · rw [if_pos c15] at H
              have c15b0 : (t291 == (-2)) = true := beq_iff_eq.mpr c15
              have c15b1 : (t291 != (-2)) = false := bne_eq_false_iff_eq.mpr c15
              clear c15
              replace H := Option.bind_eq_some_iff.mp H
              obtain ⟨t298, A160, H⟩ := H
              replace H : (seicheref11_Lex.l0 k1 a0 t298 x5_1 (wrap64 (x6_1 + t292))) = some (r1, r2) := H
              have A16 := Aside0.mk A160; clear A160
              have H' := Aside0.mk H
              clear H
              go_wp2_with (first | ((with_reducible refine gate_callee (f := 21) rfl ?_); refine goesL_ (some 16) rfl rfl Tryd.func21 (by kernel_rfl) rfl #[.string a0, .int .i64 x6_1] rfl (by (try simp only [List.map_toArray, List.map_cons, List.map_nil]); first | done | rfl | (simp only [List.length_drop, List.length_take]; rfl)) ?_; (with_reducible refine (seicheref11_Next.calls k1 a0 x6_1 t291 t292 t293 _ A4.out).mono ?_); rintro e w17 ⟨rfl, hb⟩; refine ⟨_, rfl, ?_⟩; have n0_ := Aside0.mk (Kd.R_below (by (with_reducible repeat (first | apply Kd.R_alloc | apply Kd.R_drewN | apply Kd.R_drew)); exact HO_4.out) hb); have n1_ := Aside0.mk (Kd.R_below (by (with_reducible repeat (first | apply Kd.R_alloc | apply Kd.R_drewN | apply Kd.R_drew)); exact HO_5.out) hb); have n2_ := Aside0.mk (below_step (by repeat (first | (with_reducible first | exact HB.out | apply below_alloc | apply pw_below_drewN | apply below_drew1) | exact HB.out)) hb); clear HO_4; clear HO_5; clear HB; have HO_4 := n0_; have HO_5 := n1_; have HB := n2_; clear n0_ n1_ n2_; (try clear hb); (try clear hb2); (try clear hk); (try clear hi)) | ((with_reducible refine gate_dst (N := 7) rfl ?_); refine box_event ?hg (N := 7) ?hd (cs := #[.int .i64 0, .int .i64 0, .int .i64 0]) (t := 41) ?hr ?_; (case hd => rfl); (case hg => rfl); (case hr => first | (go_simp; done) | (go_simp; rfl)); intro gb294 hg w18 hbox hb; have n0_ := Aside0.mk (Kd.R_below (by (with_reducible repeat (first | apply Kd.R_alloc | apply Kd.R_drewN | apply Kd.R_drew)); exact HO_4.out) hb); have n1_ := Aside0.mk (Kd.R_below (by (with_reducible repeat (first | apply Kd.R_alloc | apply Kd.R_drewN | apply Kd.R_drew)); exact HO_5.out) hb); have n2_ := Aside0.mk (below_step (by repeat (first | (with_reducible first | exact HB.out | apply below_alloc | apply pw_below_drewN | apply below_drew1) | exact HB.out)) hb); have n3_ := Aside0.mk (hbox); have n4_ := Aside0.mk ((by rw [hg]; exact (below_size (by repeat (first | (with_reducible first | exact HB.out | apply below_alloc | apply pw_below_drewN | apply below_drew1) | exact HB.out))) : w.heap.size ≤ gb294)); have n5_ := Aside0.mk ((by rw [hg]; exact (below_size (by repeat (first | (with_reducible first | exact HB.out | apply below_alloc | apply pw_below_drewN | apply below_drew1) | exact HB.out))) : w.heap.size ≤ gb294)); clear HO_4; clear HO_5; clear HB; have HO_4 := n0_; have HO_5 := n1_; have HB := n2_; have BK294 := n3_; have GW294 := n4_; have GE294 := n5_; clear n0_ n1_ n2_ n3_ n4_ n5_; clear hb hbox hg; have hcz19_0 : w18.cell? ⟨gb294, 0, none⟩ = some (.int .i64 0) := (blk_cell BK294.out 0).trans rfl; have hcz19_1 : w18.cell? ⟨gb294, 1, none⟩ = some (.int .i64 0) := (blk_cell BK294.out 1).trans rfl; have hcz19_2 : w18.cell? ⟨gb294, 2, none⟩ = some (.int .i64 0) := (blk_cell BK294.out 2).trans rfl; have hfz19_0 := blk_frozen BK294.out 0; have hfz19_1 := blk_frozen BK294.out 1; have hfz19_2 := blk_frozen BK294.out 2) | ((with_reducible refine gate_store (t := 41) (p := 7) rfl ?_); refine store_event (t := 41) (p := 7) (v := ?vo_w20) (w1 := (((w18.setCell ⟨gb294, 0, none⟩ (.int .i64 t291)).setCell ⟨gb294, 1, none⟩ (.int .i64 t292)).setCell ⟨gb294, 2, none⟩ (.int .i64 t293))) ?hg ?ho ?hn ?hr ?_; (case ho => rfl); (case hg => rfl); (case hn => rfl); (case hr => first | (go_simp; done) | (go_simp; rfl)); intro w20 hw; have n0_ : Aside0 (Kd.R k27 27 w20 w.heap.size (fun k_ => some k_ ≠ (u5 : Value).ownBlock) u4 x4_1) := ⟨(by rw [hw]; exact (by (with_reducible repeat (first | apply Kd.R_alloc | apply Kd.R_drewN | apply Kd.R_drew)); exact Kd.R_mono (Kd.R_far (p := ⟨gb294, 2, none⟩) (Kd.R_far (p := ⟨gb294, 1, none⟩) (Kd.R_far (p := ⟨gb294, 0, none⟩) (Kd.R_types HO_4.out BK294.out (by decide)) (fun _ hk => hk.2) (.int .i64 t291)) (fun _ hk => hk.2) (.int .i64 t292)) (fun _ hk => hk.2) (.int .i64 t293)) (fun _ hk => hk.1)))⟩; have n1_ : Aside0 (Kd.R k27 27 w20 w.heap.size (fun k_ => some k_ ≠ (u4 : Value).ownBlock) u5 x5_1) := ⟨(by rw [hw]; exact (by (with_reducible repeat (first | apply Kd.R_alloc | apply Kd.R_drewN | apply Kd.R_drew)); exact Kd.R_mono (Kd.R_far (p := ⟨gb294, 2, none⟩) (Kd.R_far (p := ⟨gb294, 1, none⟩) (Kd.R_far (p := ⟨gb294, 0, none⟩) (Kd.R_types HO_5.out BK294.out (by decide)) (fun _ hk => hk.2) (.int .i64 t291)) (fun _ hk => hk.2) (.int .i64 t292)) (fun _ hk => hk.2) (.int .i64 t293)) (fun _ hk => hk.1)))⟩; have n2_ : Aside0 (w20.heap[gb294]? = some (.cells #[.int .i64 t291, .int .i64 t292, .int .i64 t293] 41 (0, 0))) := ⟨(by rw [hw]; exact (by (with_reducible repeat (first | refine blk_drewN ?_ _ | refine blk_drew ?_ | refine blk_alloc ?_ _)); refine blk_put (cs := #[.int .i64 t291, .int .i64 t292, .int .i64 0]) ?_ 2 _ rfl; (with_reducible repeat (first | refine blk_drewN ?_ _ | refine blk_drew ?_ | refine blk_alloc ?_ _)); refine blk_put (cs := #[.int .i64 t291, .int .i64 0, .int .i64 0]) ?_ 1 _ rfl; (with_reducible repeat (first | refine blk_drewN ?_ _ | refine blk_drew ?_ | refine blk_alloc ?_ _)); refine blk_put (cs := #[.int .i64 0, .int .i64 0, .int .i64 0]) ?_ 0 _ rfl; (with_reducible repeat (first | refine blk_drewN ?_ _ | refine blk_drew ?_ | refine blk_alloc ?_ _)); exact BK294.out))⟩; have n3_ : Aside0 (Below w.heap.size w w20) := ⟨(by rw [hw]; exact (by repeat (first | (with_reducible first | exact HB.out | apply below_alloc | apply pw_below_drewN | apply below_drew1 | refine below_set ?_ GE294.out) | exact HB.out)))⟩; clear hw; clear HO_4; clear HO_5; clear BK294; clear HB; have HO_4 := n0_; have HO_5 := n1_; have BK294 := n2_; have HB := n3_; clear n0_ n1_ n2_ n3_; have hcz21_0 : w20.cell? ⟨gb294, 0, none⟩ = some (.int .i64 t291) := (blk_cell BK294.out 0).trans rfl; have hcz21_1 : w20.cell? ⟨gb294, 1, none⟩ = some (.int .i64 t292) := (blk_cell BK294.out 1).trans rfl; have hcz21_2 : w20.cell? ⟨gb294, 2, none⟩ = some (.int .i64 t293) := (blk_cell BK294.out 2).trans rfl; have hfz21_0 := blk_frozen BK294.out 0; have hfz21_1 := blk_frozen BK294.out 1; have hfz21_2 := blk_frozen BK294.out 2; obtain ⟨Ao22, co22, eo22⟩ := Kd.R_slice HO_4.out; subst eo22) | ((with_reducible refine gate_callee (f := 22) rfl ?_); refine goesL_ (some 48) rfl rfl Tryd.func22 (by kernel_rfl) rfl #[.slice Ao22 x4_1.length co22, .int .i64 x6_1] rfl (by (try simp only [List.map_toArray, List.map_cons, List.map_nil]); first | done | rfl | (simp only [List.length_drop, List.length_take]; rfl)) ?_; (with_reducible refine (seicheref11_feed.calls k1 (fun k_ => some k_ = (.slice Ao22 x4_1.length co22 : Value).ownBlock) (.slice Ao22 x4_1.length co22) x4_1 x6_1 t298 w _ ?side1 ?side2 A16.out).mono ?_); (case side1 => repeat (first | (with_reducible first | exact HB.out | apply below_alloc | apply pw_below_drewN | apply below_drew1 | refine below_set ?_ GE294.out) | exact HB.out)); (case side2 => exact Kd.R_tight rfl HO_4.out); rintro e w23 ⟨v299, rfl, ho0, hb, hkp⟩; refine ⟨_, rfl, ?_⟩; have n0_ := Aside0.mk (Kd.R_mono (ok' := fun k_ => some k_ ≠ (v299 : Value).ownBlock) (Kd.R_keptB (HO_5.out) hkp (fun k_ hk_ hs_ => (hk_) hs_)) (fun k_ hk_ => fun e_ => Or.elim (ho0.1 k_ e_.symm) (fun hs_ => hk_.2.1 hs_) (fun hn_ => Nat.not_le.2 hk_.2.2 hn_))); have n1_ := Aside0.mk (blk_kept (by (with_reducible repeat (first | refine blk_drewN ?_ _ | refine blk_drew ?_ | refine blk_alloc ?_ _)); exact BK294.out) hkp (fun hs_ => (fun e_ => (Kd.R_ne HO_4.out BK294.out (by decide)) e_) hs_)); have n2_ := Aside0.mk (Kd.R_mono (ok' := fun k_ => some k_ ≠ (u5 : Value).ownBlock) ho0 (fun k_ hk_ => Or.elim hk_ (fun hs_ => fun e_ => (((HO_5.out).1 k_ e_.symm)) hs_) (fun hn_ => (Kd.fresh' (Kd.R_lt (by (with_reducible repeat (first | apply Kd.R_alloc | apply Kd.R_drewN | apply Kd.R_drew)); exact HO_5.out)) k_ hn_)))); have n3_ := Aside0.mk (hb); clear HO_5; clear BK294; clear HB; clear HO_4; have HO_5 := n0_; have BK294 := n1_; have HO300 := n2_; have HB := n3_; clear n0_ n1_ n2_ n3_; (try clear hb); (try clear hkp); (try clear ho0); have hcz24_0 : w23.cell? ⟨gb294, 0, none⟩ = some (.int .i64 t291) := (blk_cell BK294.out 0).trans rfl; have hcz24_1 : w23.cell? ⟨gb294, 1, none⟩ = some (.int .i64 t292) := (blk_cell BK294.out 1).trans rfl; have hcz24_2 : w23.cell? ⟨gb294, 2, none⟩ = some (.int .i64 t293) := (blk_cell BK294.out 2).trans rfl; have hfz24_0 := blk_frozen BK294.out 0; have hfz24_1 := blk_frozen BK294.out 1; have hfz24_2 := blk_frozen BK294.out 2))
              go_roundg k1
              case measure => have := HK1.out; omega
              case rel => exact ⟨(t298), (x5_1), (wrap64 (x6_1 + t292)), (by first | rfl | (simp; done) | (simp [*]; done)), H', ⟨by have := HK1.out; omega⟩, ⟨by (with_reducible repeat (first | apply Kd.R_alloc | apply Kd.R_drewN | apply Kd.R_drew)); exact HO300.out⟩, ⟨by (with_reducible repeat (first | apply Kd.R_alloc | apply Kd.R_drewN | apply Kd.R_drew)); exact HO_5.out⟩, ⟨by repeat (first | (with_reducible first | exact HB.out | apply below_alloc | apply pw_below_drewN | apply below_drew1 | refine below_set ?_ GE294.out) | exact HB.out)⟩⟩
            · rw [if_neg c15] at H
              have c15b0 : (t291 == (-2)) = false := beq_eq_false_iff_ne.mpr c15
              have c15b1 : (t291 != (-2)) = true := bne_iff_ne.mpr c15
              have HC25 := Aside0.mk H; clear H
              go_upto_if 49 with (first | ((with_reducible refine gate_callee (f := 21) rfl ?_); refine goesL_ (some 16) rfl rfl Tryd.func21 (by kernel_rfl) rfl #[.string a0, .int .i64 x6_1] rfl (by (try simp only [List.map_toArray, List.map_cons, List.map_nil]); first | done | rfl | (simp only [List.length_drop, List.length_take]; rfl)) ?_; (with_reducible refine (seicheref11_Next.calls k1 a0 x6_1 t291 t292 t293 _ A4.out).mono ?_); rintro e w26 ⟨rfl, hb⟩; refine ⟨_, rfl, ?_⟩; have n0_ := Aside0.mk (Kd.R_below (by (with_reducible repeat (first | apply Kd.R_alloc | apply Kd.R_drewN | apply Kd.R_drew)); exact HO_4.out) hb); have n1_ := Aside0.mk (Kd.R_below (by (with_reducible repeat (first | apply Kd.R_alloc | apply Kd.R_drewN | apply Kd.R_drew)); exact HO_5.out) hb); have n2_ := Aside0.mk (below_step (by repeat (first | (with_reducible first | exact HB.out | apply below_alloc | apply pw_below_drewN | apply below_drew1) | exact HB.out)) hb); clear HO_4; clear HO_5; clear HB; have HO_4 := n0_; have HO_5 := n1_; have HB := n2_; clear n0_ n1_ n2_; (try clear hb); (try clear hb2); (try clear hk); (try clear hi)) | ((with_reducible refine gate_dst (N := 7) rfl ?_); refine box_event ?hg (N := 7) ?hd (cs := #[.int .i64 0, .int .i64 0, .int .i64 0]) (t := 41) ?hr ?_; (case hd => rfl); (case hg => rfl); (case hr => first | (go_simp; done) | (go_simp; rfl)); intro gb294 hg w27 hbox hb; have n0_ := Aside0.mk (Kd.R_below (by (with_reducible repeat (first | apply Kd.R_alloc | apply Kd.R_drewN | apply Kd.R_drew)); exact HO_4.out) hb); have n1_ := Aside0.mk (Kd.R_below (by (with_reducible repeat (first | apply Kd.R_alloc | apply Kd.R_drewN | apply Kd.R_drew)); exact HO_5.out) hb); have n2_ := Aside0.mk (below_step (by repeat (first | (with_reducible first | exact HB.out | apply below_alloc | apply pw_below_drewN | apply below_drew1) | exact HB.out)) hb); have n3_ := Aside0.mk (hbox); have n4_ := Aside0.mk ((by rw [hg]; exact (below_size (by repeat (first | (with_reducible first | exact HB.out | apply below_alloc | apply pw_below_drewN | apply below_drew1) | exact HB.out))) : w.heap.size ≤ gb294)); have n5_ := Aside0.mk ((by rw [hg]; exact (below_size (by repeat (first | (with_reducible first | exact HB.out | apply below_alloc | apply pw_below_drewN | apply below_drew1) | exact HB.out))) : w.heap.size ≤ gb294)); clear HO_4; clear HO_5; clear HB; have HO_4 := n0_; have HO_5 := n1_; have HB := n2_; have BK294 := n3_; have GW294 := n4_; have GE294 := n5_; clear n0_ n1_ n2_ n3_ n4_ n5_; clear hb hbox hg; have hcz28_0 : w27.cell? ⟨gb294, 0, none⟩ = some (.int .i64 0) := (blk_cell BK294.out 0).trans rfl; have hcz28_1 : w27.cell? ⟨gb294, 1, none⟩ = some (.int .i64 0) := (blk_cell BK294.out 1).trans rfl; have hcz28_2 : w27.cell? ⟨gb294, 2, none⟩ = some (.int .i64 0) := (blk_cell BK294.out 2).trans rfl; have hfz28_0 := blk_frozen BK294.out 0; have hfz28_1 := blk_frozen BK294.out 1; have hfz28_2 := blk_frozen BK294.out 2))
              (try simp only [Act.put, List.setIfInBounds_toArray, List.set_cons_zero, List.set_cons_succ])
              go_cut [49] (fun v49 wc => ∃ (kq : Nat) (x49_24 : Bool), v49 = .bool x49_24 ∧ Aside0 (seicheref11_Lex.j1 kq a0 x4_1 x5_1 x6_1 x49_24 t291 t292 t293 = some (r1, r2)) ∧ Aside0 (kq ≤ k1) ∧ Aside0 (Kd.R k27 27 wc w.heap.size (fun k_ => some k_ ≠ (u5 : Value).ownBlock) u4 x4_1) ∧ Aside0 (Kd.R k27 27 wc w.heap.size (fun k_ => some k_ ≠ (u4 : Value).ownBlock) u5 x5_1) ∧ Aside0 (wc.heap[gb294]? = some (.cells #[.int .i64 t291, .int .i64 t292, .int .i64 t293] 41 (0, 0))) ∧ Aside0 (Below w.heap.size w wc))
              case first =>
                have H := HC25.out
                clear HC25
                by_cases c29 : t291 = (-3)
                · rw [if_pos c29] at H
                  have c29b0 : (t291 == (-3)) = true := beq_iff_eq.mpr c29
                  have c29b1 : (t291 != (-3)) = false := bne_eq_false_iff_eq.mpr c29
                  clear c29
                  (first | rw [c29b0] | (simp only [i64_w, i32_w]; rw [c29b0]) | skip)
                  have H' := Aside0.mk H
                  clear H
                  go_wp2
                  go_meet
                  case rel => exact ⟨_, ((t291 == (-3))), (by first | rfl | (simp; done) | (simp [*]; done)), H', ⟨by have := HK1.out; first | omega | exact Nat.le_refl _⟩, ⟨by (with_reducible repeat (first | apply Kd.R_alloc | apply Kd.R_drewN | apply Kd.R_drew)); exact Kd.R_mono (Kd.R_far (p := ⟨gb294, 2, none⟩) (Kd.R_far (p := ⟨gb294, 1, none⟩) (Kd.R_far (p := ⟨gb294, 0, none⟩) (Kd.R_types HO_4.out BK294.out (by decide)) (fun _ hk => hk.2) (.int .i64 t291)) (fun _ hk => hk.2) (.int .i64 t292)) (fun _ hk => hk.2) (.int .i64 t293)) (fun _ hk => hk.1)⟩, ⟨by (with_reducible repeat (first | apply Kd.R_alloc | apply Kd.R_drewN | apply Kd.R_drew)); exact Kd.R_mono (Kd.R_far (p := ⟨gb294, 2, none⟩) (Kd.R_far (p := ⟨gb294, 1, none⟩) (Kd.R_far (p := ⟨gb294, 0, none⟩) (Kd.R_types HO_5.out BK294.out (by decide)) (fun _ hk => hk.2) (.int .i64 t291)) (fun _ hk => hk.2) (.int .i64 t292)) (fun _ hk => hk.2) (.int .i64 t293)) (fun _ hk => hk.1)⟩, ⟨by (with_reducible repeat (first | refine blk_drewN ?_ _ | refine blk_drew ?_ | refine blk_alloc ?_ _)); refine blk_put (cs := #[.int .i64 t291, .int .i64 t292, .int .i64 0]) ?_ 2 _ rfl; (with_reducible repeat (first | refine blk_drewN ?_ _ | refine blk_drew ?_ | refine blk_alloc ?_ _)); refine blk_put (cs := #[.int .i64 t291, .int .i64 0, .int .i64 0]) ?_ 1 _ rfl; (with_reducible repeat (first | refine blk_drewN ?_ _ | refine blk_drew ?_ | refine blk_alloc ?_ _)); refine blk_put (cs := #[.int .i64 0, .int .i64 0, .int .i64 0]) ?_ 0 _ rfl; (with_reducible repeat (first | refine blk_drewN ?_ _ | refine blk_drew ?_ | refine blk_alloc ?_ _)); exact BK294.out⟩, ⟨by repeat (first | (with_reducible first | exact HB.out | apply below_alloc | apply pw_below_drewN | apply below_drew1 | refine below_set ?_ GE294.out) | exact HB.out)⟩⟩
                · rw [if_neg c29] at H
                  have c29b0 : (t291 == (-3)) = false := beq_eq_false_iff_ne.mpr c29
                  have c29b1 : (t291 != (-3)) = true := bne_iff_ne.mpr c29
                  (first | rw [c29b0] | (simp only [i64_w, i32_w]; rw [c29b0]) | skip)
                  have H' := Aside0.mk H
                  clear H
                  go_wp2
                  go_meet
                  case rel => exact ⟨_, ((t291 == (-4))), (by first | rfl | (simp; done) | (simp [*]; done)), H', ⟨by have := HK1.out; first | omega | exact Nat.le_refl _⟩, ⟨by (with_reducible repeat (first | apply Kd.R_alloc | apply Kd.R_drewN | apply Kd.R_drew)); exact Kd.R_mono (Kd.R_far (p := ⟨gb294, 2, none⟩) (Kd.R_far (p := ⟨gb294, 1, none⟩) (Kd.R_far (p := ⟨gb294, 0, none⟩) (Kd.R_types HO_4.out BK294.out (by decide)) (fun _ hk => hk.2) (.int .i64 t291)) (fun _ hk => hk.2) (.int .i64 t292)) (fun _ hk => hk.2) (.int .i64 t293)) (fun _ hk => hk.1)⟩, ⟨by (with_reducible repeat (first | apply Kd.R_alloc | apply Kd.R_drewN | apply Kd.R_drew)); exact Kd.R_mono (Kd.R_far (p := ⟨gb294, 2, none⟩) (Kd.R_far (p := ⟨gb294, 1, none⟩) (Kd.R_far (p := ⟨gb294, 0, none⟩) (Kd.R_types HO_5.out BK294.out (by decide)) (fun _ hk => hk.2) (.int .i64 t291)) (fun _ hk => hk.2) (.int .i64 t292)) (fun _ hk => hk.2) (.int .i64 t293)) (fun _ hk => hk.1)⟩, ⟨by (with_reducible repeat (first | refine blk_drewN ?_ _ | refine blk_drew ?_ | refine blk_alloc ?_ _)); refine blk_put (cs := #[.int .i64 t291, .int .i64 t292, .int .i64 0]) ?_ 2 _ rfl; (with_reducible repeat (first | refine blk_drewN ?_ _ | refine blk_drew ?_ | refine blk_alloc ?_ _)); refine blk_put (cs := #[.int .i64 t291, .int .i64 0, .int .i64 0]) ?_ 1 _ rfl; (with_reducible repeat (first | refine blk_drewN ?_ _ | refine blk_drew ?_ | refine blk_alloc ?_ _)); refine blk_put (cs := #[.int .i64 0, .int .i64 0, .int .i64 0]) ?_ 0 _ rfl; (with_reducible repeat (first | refine blk_drewN ?_ _ | refine blk_drew ?_ | refine blk_alloc ?_ _)); exact BK294.out⟩, ⟨by repeat (first | (with_reducible first | exact HB.out | apply below_alloc | apply pw_below_drewN | apply below_drew1 | refine below_set ?_ GE294.out) | exact HB.out)⟩⟩
              case rest =>
                clear HC25; (try clear c1); (try clear c2); (try clear p2); (try clear c3); (try clear c3b0); (try clear c5); (try clear c5b0); (try clear c5b1); (try clear c6); (try clear p6); (try clear c10); (try clear c11); (try clear c11b0); (try clear c11b1); (try clear c15); (try clear c15b0); (try clear c15b1); (try clear c16); (try clear c21); (try clear c22); (try clear c29); (try clear c29b0); (try clear c29b1); (try clear hcz14_0); (try clear hcz14_1); (try clear hcz14_2); (try clear hcz19_0); (try clear hcz19_1); (try clear hcz19_2); (try clear hcz21_0); (try clear hcz21_1); (try clear hcz21_2); (try clear hcz24_0); (try clear hcz24_1); (try clear hcz24_2)
                (try clear hcz28_0); (try clear hcz28_1); (try clear hcz28_2); (try clear hcz9_0); (try clear hcz9_1); (try clear hcz9_2); (try clear hfz14_0); (try clear hfz14_1); (try clear hfz14_2); (try clear hfz19_0); (try clear hfz19_1); (try clear hfz19_2); (try clear hfz21_0); (try clear hfz21_1); (try clear hfz21_2); (try clear hfz24_0); (try clear hfz24_1); (try clear hfz24_2); (try clear hfz28_0); (try clear hfz28_1); (try clear hfz28_2); (try clear hfz9_0); (try clear hfz9_1); (try clear hfz9_2); (try clear p2); obtain ⟨kq, x49_24, rfl, HA, HJ24, HO_4, HO_5, BK294, HB⟩ := hcut
                cases kq with
                | zero => exact absurd HA.out (by simp [seicheref11_Lex.j1])
                | succ kj24 =>
                  have H := HA.out
                  clear HA
                  simp only [seicheref11_Lex.j1] at H
                  by_cases c30 : x49_24 = true
                  · subst c30
                    have H1 : (if 0 ≤ x6_1 then (if x6_1 ≤ (wrap64 (x6_1 + t292)) then (if (wrap64 (x6_1 + t292)) ≤ (a0.size : Int) then (if x5_1.length < 4398046511104 then ((some (x5_1 ++ [(⟨0, a0.extract (x6_1 : Int).toNat ((wrap64 (x6_1 + t292)) : Int).toNat, x6_1⟩ : S27)] : List (S27))).bind fun y301 => (if t291 = (-4) then ((seicheref11_feed.f kj24 x4_1 x6_1).bind fun t304 => (seicheref11_Lex.l0 kj24 a0 t304 y301 (wrap64 (x6_1 + t292)))) else (seicheref11_Lex.l0 kj24 a0 x4_1 y301 (wrap64 (x6_1 + t292))))) else (none)) else (none)) else (none)) else (none)) = some (r1, r2) := by rw [if_pos rfl] at H; exact H
                    clear H
                    have H := H1
                    clear H1
                    by_cases c31 : 0 ≤ x6_1
                    · rw [if_pos c31] at H
                      have c31b0 := eq_true c31
                      have c31b1 : decide (0 ≤ x6_1) = true := decide_eq_true c31
                      clear c31
                      by_cases c32 : x6_1 ≤ (wrap64 (x6_1 + t292))
                      · rw [if_pos c32] at H
                        have c32b0 := eq_true c32
                        have c32b1 : decide (x6_1 ≤ (wrap64 (x6_1 + t292))) = true := decide_eq_true c32
                        by_cases c33 : (wrap64 (x6_1 + t292)) ≤ (a0.size : Int)
                        · rw [if_pos c33] at H
                          have c33b0 := eq_true c33
                          have c33b1 : decide ((wrap64 (x6_1 + t292)) ≤ (a0.size : Int)) = true := decide_eq_true c33
                          by_cases c34 : x5_1.length < 4398046511104
                          · rw [if_pos c34] at H
                            have LMc34 := Aside0.mk c34; clear c34
                            obtain ⟨y301, hy301⟩ : ∃ y_ : List (S27), y_ = (x5_1 ++ [(⟨0, a0.extract (x6_1 : Int).toNat ((wrap64 (x6_1 + t292)) : Int).toNat, x6_1⟩ : S27)]) := ⟨_, rfl⟩
                            replace H : (if t291 = (-4) then ((seicheref11_feed.f kj24 x4_1 x6_1).bind fun t304 => (seicheref11_Lex.l0 kj24 a0 t304 y301 (wrap64 (x6_1 + t292)))) else (seicheref11_Lex.l0 kj24 a0 x4_1 y301 (wrap64 (x6_1 + t292)))) = some (r1, r2) := by first | (rw [hy301]; with_reducible exact H) | (have H2_ := (Option.bind_some _ _).symm.trans H; rw [hy301]; with_reducible exact H2_) | (have H2_ := (Option.bind_some _ _).symm.trans H; with_reducible exact H2_) | with_reducible exact H | (rw [hy301]; exact H) | exact H
                            have Ny301 := Aside0.mk hy301; clear hy301
                            by_cases c35 : t291 = (-4)
                            · rw [if_pos c35] at H
                              have c35b0 : (t291 == (-4)) = true := beq_iff_eq.mpr c35
                              have c35b1 : (t291 != (-4)) = false := bne_eq_false_iff_eq.mpr c35
                              clear c35
                              replace H := Option.bind_eq_some_iff.mp H
                              obtain ⟨t304, A360, H⟩ := H
                              replace H : (seicheref11_Lex.l0 kj24 a0 t304 y301 (wrap64 (x6_1 + t292))) = some (r1, r2) := H
                              have A36 := Aside0.mk A360; clear A360
                              have H' := Aside0.mk H
                              clear H
                              have hcz37_0 : wc.cell? ⟨gb294, 0, none⟩ = some (.int .i64 t291) := (blk_cell BK294.out 0).trans rfl
                              have hcz37_1 : wc.cell? ⟨gb294, 1, none⟩ = some (.int .i64 t292) := (blk_cell BK294.out 1).trans rfl
                              have hcz37_2 : wc.cell? ⟨gb294, 2, none⟩ = some (.int .i64 t293) := (blk_cell BK294.out 2).trans rfl
                              have hfz37_0 := blk_frozen BK294.out 0; have hfz37_1 := blk_frozen BK294.out 1; have hfz37_2 := blk_frozen BK294.out 2
                              go_wp2_with (first | ((with_reducible refine gate_builtin (b := .append) (xs := #[.tmp 52, .tmp 62]) rfl ?_); at_builtin; refine Kd.R_append k27 (w0 := w) w.heap.size rfl (.tmp 52) (.tmp 62) 24 27 (.agg #[(.int .i64 0), (.string ⟨#[]⟩), (.int .i64 0)]) 32 rfl Tryd.underlying24 info27 rfl (by decide) (by omega) u5 x5_1 (⟨0, a0.extract (x6_1 : Int).toNat ((wrap64 (x6_1 + t292)) : Int).toNat, x6_1⟩ : S27) [.int .i64 0, .string (a0.extract (x6_1 : Int).toNat ((wrap64 (x6_1 + t292)) : Int).toNat), .int .i64 x6_1] (fun k_ => some k_ ≠ (u4 : Value).ownBlock) (fun _ => False) rfl rfl ?aP (fun _ hk => hk.elim) ?aF ?aO ?aB ?aS ?aL ?_; (case aP => exact k27_mkM _ _ _ (⟨0, a0.extract (x6_1 : Int).toNat ((wrap64 (x6_1 + t292)) : Int).toNat, x6_1⟩ : S27)); (case aB => exact (by repeat (first | (with_reducible first | exact HB.out | apply below_alloc | apply pw_below_drewN | apply below_drew1 | refine below_set ?_ GE294.out) | exact HB.out))); (case aF => exact (fun k_ hk => Kd.fresh' (Kd.R_lt (by (with_reducible repeat (first | apply Kd.R_alloc | apply Kd.R_drewN | apply Kd.R_drew)); exact HO_4.out)) k_ hk)); (case aO => exact (by (with_reducible repeat (first | apply Kd.R_alloc | apply Kd.R_drewN | apply Kd.R_drew)); exact HO_5.out)); (case aS => exact (below_size (by repeat (first | (with_reducible first | exact HB.out | apply below_alloc | apply pw_below_drewN | apply below_drew1 | refine below_set ?_ GE294.out) | exact HB.out)))); (case aL => have := LMc34.out; omega); intro v302 w38 ho hb hg hat; rw [← Ny301.out] at ho; have n0_ := Aside0.mk (Kd.R_after (ok := (fun _ => True)) (by (with_reducible repeat (first | apply Kd.R_alloc | apply Kd.R_drewN | apply Kd.R_drew)); exact Kd.R_mono HO_4.out (fun _ hk => ⟨trivial, hk⟩)) hg hat); have n1_ := Aside0.mk (blk_grown (g := gb294) (o := .cells #[.int .i64 t291, .int .i64 t292, .int .i64 t293] 41 (0, 0)) (by (with_reducible repeat (first | refine blk_drewN ?_ _ | refine blk_drew ?_ | refine blk_alloc ?_ _)); exact BK294.out) hg (Kd.R_ne HO_5.out BK294.out (by decide))); have n2_ := Aside0.mk (hb); have n3_ := Aside0.mk (ho); clear HO_4; clear BK294; clear HB; clear HO_5; have HO_4 := n0_; have BK294 := n1_; have HB := n2_; have HO303 := n3_; clear n0_ n1_ n2_ n3_; clear ho hb hg hat; have hcz39_0 : w38.cell? ⟨gb294, 0, none⟩ = some (.int .i64 t291) := (blk_cell BK294.out 0).trans rfl; have hcz39_1 : w38.cell? ⟨gb294, 1, none⟩ = some (.int .i64 t292) := (blk_cell BK294.out 1).trans rfl; have hcz39_2 : w38.cell? ⟨gb294, 2, none⟩ = some (.int .i64 t293) := (blk_cell BK294.out 2).trans rfl; have hfz39_0 := blk_frozen BK294.out 0; have hfz39_1 := blk_frozen BK294.out 1; have hfz39_2 := blk_frozen BK294.out 2; obtain ⟨Ao40, co40, eo40⟩ := Kd.R_slice HO_4.out; subst eo40) | ((with_reducible refine gate_callee (f := 22) rfl ?_); refine goesL_ (some 69) rfl rfl Tryd.func22 (by kernel_rfl) rfl #[.slice Ao40 x4_1.length co40, .int .i64 x6_1] rfl (by (try simp only [List.map_toArray, List.map_cons, List.map_nil]); first | done | rfl | (simp only [List.length_drop, List.length_take]; rfl)) ?_; (with_reducible refine (seicheref11_feed.calls kj24 (fun k_ => some k_ = (.slice Ao40 x4_1.length co40 : Value).ownBlock) (.slice Ao40 x4_1.length co40) x4_1 x6_1 t304 w _ ?side1 ?side2 A36.out).mono ?_); (case side1 => repeat (first | (with_reducible first | exact HB.out | apply below_alloc | apply pw_below_drewN | apply below_drew1 | refine below_set ?_ GE294.out) | exact HB.out)); (case side2 => exact Kd.R_tight rfl HO_4.out); rintro e w41 ⟨v305, rfl, ho0, hb, hkp⟩; refine ⟨_, rfl, ?_⟩; have n0_ := Aside0.mk (blk_kept (by (with_reducible repeat (first | refine blk_drewN ?_ _ | refine blk_drew ?_ | refine blk_alloc ?_ _)); exact BK294.out) hkp (fun hs_ => (fun e_ => (Kd.R_ne HO_4.out BK294.out (by decide)) e_) hs_)); have n1_ := Aside0.mk (Kd.R_mono (ok' := fun k_ => some k_ ≠ (v305 : Value).ownBlock) (Kd.R_keptB (HO303.out) hkp (fun k_ hk_ hs_ => (hk_) hs_)) (fun k_ hk_ => fun e_ => Or.elim (ho0.1 k_ e_.symm) (fun hs_ => hk_.2.1 hs_) (fun hn_ => Nat.not_le.2 hk_.2.2 hn_))); have n2_ := Aside0.mk (Kd.R_mono (ok' := fun k_ => some k_ ≠ (v302 : Value).ownBlock) ho0 (fun k_ hk_ => Or.elim hk_ (fun hs_ => fun e_ => (((HO303.out).1 k_ e_.symm)) hs_) (fun hn_ => (Kd.fresh' (Kd.R_lt (by (with_reducible repeat (first | apply Kd.R_alloc | apply Kd.R_drewN | apply Kd.R_drew)); exact HO303.out)) k_ hn_)))); have n3_ := Aside0.mk (hb); clear BK294; clear HO303; clear HB; clear HO_4; have BK294 := n0_; have HO303 := n1_; have HO306 := n2_; have HB := n3_; clear n0_ n1_ n2_ n3_; (try clear hb); (try clear hkp); (try clear ho0); have hcz42_0 : w41.cell? ⟨gb294, 0, none⟩ = some (.int .i64 t291) := (blk_cell BK294.out 0).trans rfl; have hcz42_1 : w41.cell? ⟨gb294, 1, none⟩ = some (.int .i64 t292) := (blk_cell BK294.out 1).trans rfl; have hcz42_2 : w41.cell? ⟨gb294, 2, none⟩ = some (.int .i64 t293) := (blk_cell BK294.out 2).trans rfl; have hfz42_0 := blk_frozen BK294.out 0; have hfz42_1 := blk_frozen BK294.out 1; have hfz42_2 := blk_frozen BK294.out 2))
                              go_roundg kj24
                              case measure => have := HK1.out; have := HJ24.out; omega
                              case rel => exact ⟨(t304), (y301), (wrap64 (x6_1 + t292)), (by first | rfl | (simp; done) | (simp [*]; done)), H', ⟨by have := HK1.out; have := HJ24.out; omega⟩, ⟨by (with_reducible repeat (first | apply Kd.R_alloc | apply Kd.R_drewN | apply Kd.R_drew)); exact HO306.out⟩, ⟨by (with_reducible repeat (first | apply Kd.R_alloc | apply Kd.R_drewN | apply Kd.R_drew)); exact HO303.out⟩, ⟨by repeat (first | (with_reducible first | exact HB.out | apply below_alloc | apply pw_below_drewN | apply below_drew1 | refine below_set ?_ GE294.out) | exact HB.out)⟩⟩
                            · rw [if_neg c35] at H
                              have c35b0 : (t291 == (-4)) = false := beq_eq_false_iff_ne.mpr c35
                              have c35b1 : (t291 != (-4)) = true := bne_iff_ne.mpr c35
                              have H' := Aside0.mk H
                              clear H
                              have hcz43_0 : wc.cell? ⟨gb294, 0, none⟩ = some (.int .i64 t291) := (blk_cell BK294.out 0).trans rfl
                              have hcz43_1 : wc.cell? ⟨gb294, 1, none⟩ = some (.int .i64 t292) := (blk_cell BK294.out 1).trans rfl
                              have hcz43_2 : wc.cell? ⟨gb294, 2, none⟩ = some (.int .i64 t293) := (blk_cell BK294.out 2).trans rfl
                              have hfz43_0 := blk_frozen BK294.out 0; have hfz43_1 := blk_frozen BK294.out 1; have hfz43_2 := blk_frozen BK294.out 2
                              go_wp2_with (first | ((with_reducible refine gate_builtin (b := .append) (xs := #[.tmp 52, .tmp 62]) rfl ?_); at_builtin; refine Kd.R_append k27 (w0 := w) w.heap.size rfl (.tmp 52) (.tmp 62) 24 27 (.agg #[(.int .i64 0), (.string ⟨#[]⟩), (.int .i64 0)]) 32 rfl Tryd.underlying24 info27 rfl (by decide) (by omega) u5 x5_1 (⟨0, a0.extract (x6_1 : Int).toNat ((wrap64 (x6_1 + t292)) : Int).toNat, x6_1⟩ : S27) [.int .i64 0, .string (a0.extract (x6_1 : Int).toNat ((wrap64 (x6_1 + t292)) : Int).toNat), .int .i64 x6_1] (fun k_ => some k_ ≠ (u4 : Value).ownBlock) (fun _ => False) rfl rfl ?aP (fun _ hk => hk.elim) ?aF ?aO ?aB ?aS ?aL ?_; (case aP => exact k27_mkM _ _ _ (⟨0, a0.extract (x6_1 : Int).toNat ((wrap64 (x6_1 + t292)) : Int).toNat, x6_1⟩ : S27)); (case aB => exact (by repeat (first | (with_reducible first | exact HB.out | apply below_alloc | apply pw_below_drewN | apply below_drew1 | refine below_set ?_ GE294.out) | exact HB.out))); (case aF => exact (fun k_ hk => Kd.fresh' (Kd.R_lt (by (with_reducible repeat (first | apply Kd.R_alloc | apply Kd.R_drewN | apply Kd.R_drew)); exact HO_4.out)) k_ hk)); (case aO => exact (by (with_reducible repeat (first | apply Kd.R_alloc | apply Kd.R_drewN | apply Kd.R_drew)); exact HO_5.out)); (case aS => exact (below_size (by repeat (first | (with_reducible first | exact HB.out | apply below_alloc | apply pw_below_drewN | apply below_drew1 | refine below_set ?_ GE294.out) | exact HB.out)))); (case aL => have := LMc34.out; omega); intro v302 w44 ho hb hg hat; rw [← Ny301.out] at ho; have n0_ := Aside0.mk (Kd.R_after (ok := (fun _ => True)) (by (with_reducible repeat (first | apply Kd.R_alloc | apply Kd.R_drewN | apply Kd.R_drew)); exact Kd.R_mono HO_4.out (fun _ hk => ⟨trivial, hk⟩)) hg hat); have n1_ := Aside0.mk (blk_grown (g := gb294) (o := .cells #[.int .i64 t291, .int .i64 t292, .int .i64 t293] 41 (0, 0)) (by (with_reducible repeat (first | refine blk_drewN ?_ _ | refine blk_drew ?_ | refine blk_alloc ?_ _)); exact BK294.out) hg (Kd.R_ne HO_5.out BK294.out (by decide))); have n2_ := Aside0.mk (hb); have n3_ := Aside0.mk (ho); clear HO_4; clear BK294; clear HB; clear HO_5; have HO_4 := n0_; have BK294 := n1_; have HB := n2_; have HO303 := n3_; clear n0_ n1_ n2_ n3_; clear ho hb hg hat; have hcz45_0 : w44.cell? ⟨gb294, 0, none⟩ = some (.int .i64 t291) := (blk_cell BK294.out 0).trans rfl; have hcz45_1 : w44.cell? ⟨gb294, 1, none⟩ = some (.int .i64 t292) := (blk_cell BK294.out 1).trans rfl; have hcz45_2 : w44.cell? ⟨gb294, 2, none⟩ = some (.int .i64 t293) := (blk_cell BK294.out 2).trans rfl; have hfz45_0 := blk_frozen BK294.out 0; have hfz45_1 := blk_frozen BK294.out 1; have hfz45_2 := blk_frozen BK294.out 2))
                              go_roundg kj24
                              case measure => have := HK1.out; have := HJ24.out; omega
                              case rel => exact ⟨(x4_1), (y301), (wrap64 (x6_1 + t292)), (by first | rfl | (simp; done) | (simp [*]; done)), H', ⟨by have := HK1.out; have := HJ24.out; omega⟩, ⟨by (with_reducible repeat (first | apply Kd.R_alloc | apply Kd.R_drewN | apply Kd.R_drew)); exact Kd.R_mono HO_4.out (fun _ hk => hk.2)⟩, ⟨by (with_reducible repeat (first | apply Kd.R_alloc | apply Kd.R_drewN | apply Kd.R_drew)); exact HO303.out⟩, ⟨by repeat (first | (with_reducible first | exact HB.out | apply below_alloc | apply pw_below_drewN | apply below_drew1 | refine below_set ?_ GE294.out) | exact HB.out)⟩⟩
                          · rw [if_neg c34] at H
                            exact absurd H (by simp)
                        · rw [if_neg c33] at H
                          exact absurd H (by simp)
                      · rw [if_neg c32] at H
                        exact absurd H (by simp)
                    · rw [if_neg c31] at H
                      exact absurd H (by simp)
                  · replace c30 := Bool.eq_false_iff.mpr c30
                    subst c30
                    have H1 : (if 0 ≤ x6_1 then (if x6_1 ≤ (wrap64 (x6_1 + t292)) then (if (wrap64 (x6_1 + t292)) ≤ (a0.size : Int) then (if x4_1.length < 4398046511104 then (seicheref11_Lex.l0 kj24 a0 (x4_1 ++ [(⟨t291, a0.extract (x6_1 : Int).toNat ((wrap64 (x6_1 + t292)) : Int).toNat, x6_1⟩ : S27)]) x5_1 (wrap64 (x6_1 + t292))) else (none)) else (none)) else (none)) else (none)) = some (r1, r2) := by rw [if_neg (show ¬ (false = true) by decide)] at H; exact H
                    clear H
                    have H := H1
                    clear H1
                    by_cases c46 : 0 ≤ x6_1
                    · rw [if_pos c46] at H
                      have c46b0 := eq_true c46
                      have c46b1 : decide (0 ≤ x6_1) = true := decide_eq_true c46
                      clear c46
                      by_cases c47 : x6_1 ≤ (wrap64 (x6_1 + t292))
                      · rw [if_pos c47] at H
                        have c47b0 := eq_true c47
                        have c47b1 : decide (x6_1 ≤ (wrap64 (x6_1 + t292))) = true := decide_eq_true c47
                        by_cases c48 : (wrap64 (x6_1 + t292)) ≤ (a0.size : Int)
                        · rw [if_pos c48] at H
                          have c48b0 := eq_true c48
                          have c48b1 : decide ((wrap64 (x6_1 + t292)) ≤ (a0.size : Int)) = true := decide_eq_true c48
                          by_cases c49 : x4_1.length < 4398046511104
                          · rw [if_pos c49] at H
                            have LMc49 := Aside0.mk c49; clear c49
                            obtain ⟨y307, hy307⟩ : ∃ y_ : List (S27), y_ = (x4_1 ++ [(⟨t291, a0.extract (x6_1 : Int).toNat ((wrap64 (x6_1 + t292)) : Int).toNat, x6_1⟩ : S27)]) := ⟨_, rfl⟩
                            replace H : (seicheref11_Lex.l0 kj24 a0 y307 x5_1 (wrap64 (x6_1 + t292))) = some (r1, r2) := by first | (rw [hy307]; with_reducible exact H) | (have H2_ := (Option.bind_some _ _).symm.trans H; rw [hy307]; with_reducible exact H2_) | (have H2_ := (Option.bind_some _ _).symm.trans H; with_reducible exact H2_) | with_reducible exact H | (rw [hy307]; exact H) | exact H
                            have Ny307 := Aside0.mk hy307; clear hy307
                            have H' := Aside0.mk H
                            clear H
                            try go_wp2
                            have n0_ := Aside0.mk (Kd.R_drew HO_4.out)
                            have n1_ := Aside0.mk (Kd.R_drew HO_5.out)
                            have n2_ := Aside0.mk (blk_drew BK294.out)
                            have n3_ := Aside0.mk (below_drew1 HB.out)
                            clear HO_4; clear HO_5; clear BK294; clear HB
                            have HO_4 := n0_
                            have HO_5 := n1_
                            have BK294 := n2_
                            have HB := n3_
                            clear n0_ n1_ n2_ n3_
                            refine start_ (n := 15) (S := fun w' => w'.cell? ⟨gb294, 0, none⟩ = some (.int .i64 t291) ∧ w'.cell? ⟨gb294, 1, none⟩ = some (.int .i64 t292) ∧ w'.cell? ⟨gb294, 2, none⟩ = some (.int .i64 t293)) (ds := []) #[false, false, false, false, false, false, false, false, false, false, false, false, false, false, false] (by kernel_rfl) rfl rfl ⟨(blk_cell BK294.out 0).trans rfl, (blk_cell BK294.out 1).trans rfl, (blk_cell BK294.out 2).trans rfl⟩ (fun hHeld => ?_); refine with_tabW seicheref11_Lex.tab7 seicheref11_Lex.bits7 (fun HT_ HW_ => ?_)
                            generalize wc.drew = w50 at HO_4 HO_5 BK294 HB hHeld ⊢
                            refine pure_ (i := 0) (N := some 19) (v := ?_) (a' := ?_) #[true, false, false, false, false, false, false, false, false, false, false, false, false, false, false] rfl rfl (any_of HT_.out (by kernel_rfl)) (fun _ _ _ h => h) (Or.inl ⟨by rfl, ?_⟩) ?_ ?_
                            rotate_left
                            · intro w'
                              go_simp
                              with_reducible rfl
                            rotate_left
                            · simp only [Act.put, List.setIfInBounds_toArray, List.set_cons_zero, List.set_cons_succ, i64_w, i32_w]
                              rfl
                            refine pure_ (i := 1) (N := some 20) (v := ?_) (a' := ?_) #[true, true, false, false, false, false, false, false, false, false, false, false, false, false, false] rfl rfl (any_of HT_.out (by kernel_rfl)) (fun _ _ _ h => h) (Or.inl ⟨by rfl, ?_⟩) ?_ ?_
                            rotate_left
                            · intro w'
                              go_simp
                              with_reducible rfl
                            rotate_left
                            · simp only [Act.put, List.setIfInBounds_toArray, List.set_cons_zero, List.set_cons_succ, i64_w, i32_w]
                              rfl
                            refine pure_ (i := 3) (N := some 22) (v := ?_) (a' := ?_) #[true, true, false, true, false, false, false, false, false, false, false, false, false, false, false] rfl rfl (any_of HT_.out (by kernel_rfl)) (fun _ _ _ h => h) (Or.inl ⟨by rfl, ?_⟩) ?_ ?_
                            rotate_left
                            · intro w'
                              go_simp
                              with_reducible rfl
                            rotate_left
                            · simp only [Act.put, List.setIfInBounds_toArray, List.set_cons_zero, List.set_cons_succ, i64_w, i32_w]
                              rfl
                            refine pure_ (i := 4) (N := some 23) (v := ?_) (a' := ?_) #[true, true, false, true, true, false, false, false, false, false, false, false, false, false, false] rfl rfl (any_of HT_.out (by kernel_rfl)) (fun _ _ _ h => h) (Or.inl ⟨by rfl, ?_⟩) ?_ ?_
                            rotate_left
                            · intro w'
                              go_simp
                              with_reducible rfl
                            rotate_left
                            · simp only [Act.put, List.setIfInBounds_toArray, List.set_cons_zero, List.set_cons_succ, i64_w, i32_w]
                              rfl
                            refine pure_ (i := 5) (N := some 24) (v := ?_) (a' := ?_) #[true, true, false, true, true, true, false, false, false, false, false, false, false, false, false] rfl rfl (any_of HT_.out (by kernel_rfl)) (fun _ _ _ h => h) (Or.inl ⟨by rfl, ?_⟩) ?_ ?_
                            rotate_left
                            · intro w'
                              go_simp
                              with_reducible rfl
                            rotate_left
                            · simp only [Act.put, List.setIfInBounds_toArray, List.set_cons_zero, List.set_cons_succ, i64_w, i32_w]
                              rfl
                            refine pure_ (i := 6) (N := some 25) (v := ?_) (a' := ?_) #[true, true, false, true, true, true, true, false, false, false, false, false, false, false, false] rfl rfl (any_of HT_.out (by kernel_rfl)) (fun _ _ _ h => h) (Or.inl ⟨by rfl, ?_⟩) ?_ ?_
                            rotate_left
                            · intro w'
                              go_simp
                              with_reducible rfl
                            rotate_left
                            · simp only [Act.put, List.setIfInBounds_toArray, List.set_cons_zero, List.set_cons_succ, i64_w, i32_w]
                              rfl
                            refine pure_ (i := 10) (N := some 29) (v := ?_) (a' := ?_) #[true, true, false, true, true, true, true, false, false, false, true, false, false, false, false] rfl rfl (any_of HT_.out (by kernel_rfl)) (fun _ _ _ h => h) (Or.inl ⟨by rfl, ?_⟩) ?_ ?_
                            rotate_left
                            · intro w'
                              go_simp
                              with_reducible rfl
                            rotate_left
                            · simp only [Act.put, List.setIfInBounds_toArray, List.set_cons_zero, List.set_cons_succ, i64_w, i32_w]
                              rfl
                            refine take_ (i := 2) (N := some 21) (v := ?_) (a' := ?_) #[true, true, true, true, true, true, true, false, false, false, true, false, false, false, false] rfl rfl (take_ofW HT_.out HW_.out (by kernel_rfl)) (fun _ _ _ h => h) (Or.inl ⟨by rfl, ?_⟩) hHeld ?_ ?_
                            rotate_left
                            · rintro w' ⟨s0, s1, s2⟩
                              go_simp
                              with_reducible rfl
                            rotate_left
                            · simp only [Act.put, List.setIfInBounds_toArray, List.set_cons_zero, List.set_cons_succ, i64_w, i32_w]
                              rfl
                            refine take_ (i := 7) (N := some 26) (v := ?_) (a' := ?_) #[true, true, true, true, true, true, true, true, false, false, true, false, false, false, false] rfl rfl (take_ofW HT_.out HW_.out (by kernel_rfl)) (fun _ _ _ h => h) (Or.inl ⟨by rfl, ?_⟩) hHeld ?_ ?_
                            rotate_left
                            · rintro w' ⟨s0, s1, s2⟩
                              go_simp
                              with_reducible rfl
                            rotate_left
                            · simp only [Act.put, List.setIfInBounds_toArray, List.set_cons_zero, List.set_cons_succ, i64_w, i32_w]
                              rfl
                            refine pure_ (i := 8) (N := some 27) (v := ?_) (a' := ?_) #[true, true, true, true, true, true, true, true, true, false, true, false, false, false, false] rfl rfl (any_of HT_.out (by kernel_rfl)) (fun _ _ _ h => h) (Or.inl ⟨by rfl, ?_⟩) ?_ ?_
                            rotate_left
                            · intro w'
                              go_simp
                              with_reducible rfl
                            rotate_left
                            · simp only [Act.put, List.setIfInBounds_toArray, List.set_cons_zero, List.set_cons_succ, i64_w, i32_w]
                              rfl
                            refine pure_ (i := 9) (N := some 28) (v := ?_) (a' := ?_) #[true, true, true, true, true, true, true, true, true, true, true, false, false, false, false] rfl rfl (any_of HT_.out (by kernel_rfl)) (fun _ _ _ h => h) (Or.inl ⟨by rfl, ?_⟩) ?_ ?_
                            rotate_left
                            · intro w'
                              go_simp
                              with_reducible rfl
                            rotate_left
                            · simp only [Act.put, List.setIfInBounds_toArray, List.set_cons_zero, List.set_cons_succ, i64_w, i32_w]
                              rfl
                            refine pure_ (i := 11) (N := some 30) (v := ?_) (a' := ?_) #[true, true, true, true, true, true, true, true, true, true, true, true, false, false, false] rfl rfl (any_of HT_.out (by kernel_rfl)) (fun _ _ _ h => h) (Or.inl ⟨by rfl, ?_⟩) ?_ ?_
                            rotate_left
                            · intro w'
                              go_simp
                              with_reducible rfl
                            rotate_left
                            · simp only [Act.put, List.setIfInBounds_toArray, List.set_cons_zero, List.set_cons_succ, i64_w, i32_w]
                              rfl
                            refine one_ (i := 12) (N := some 31) #[true, true, true, true, true, true, true, true, true, true, true, true, true, false, false] rfl rfl (one_of HT_.out (by kernel_rfl)) (by decide) (fun K hK => ?_)
                            refine value_ (w1 := ?_) (v := ?_) (by rfl) rfl ?_ ?_
                            rotate_left 2
                            · go_simp
                              constructor
                              · rfl
                              · rfl
                            refine hK.out _ _ ⟨(blk_cell (blk_alloc BK294.out _) 0).trans rfl, (blk_cell (blk_alloc BK294.out _) 1).trans rfl, (blk_cell (blk_alloc BK294.out _) 2).trans rfl⟩ (fun hHeld => ?_)
                            clear hK K
                            refine norm_ (a' := ?_) ?_ ?_
                            rotate_left
                            · show Act.put _ (some 31) _ = _
                              simp only [Act.put, List.setIfInBounds_toArray, List.set_cons_zero, List.set_cons_succ, i64_w, i32_w]
                              rfl
                            refine one_ (i := 13) (N := some 32) #[true, true, true, true, true, true, true, true, true, true, true, true, true, true, false] rfl rfl (one_of HT_.out (by kernel_rfl)) (by decide) (fun K hK => ?_)
                            refine Kd.R_append_step k27 (w0 := w) w.heap.size (by rfl) (.tmp 19) (.tmp 31) 24 27 (.agg #[(.int .i64 0), (.string ⟨#[]⟩), (.int .i64 0)]) 32 rfl Tryd.underlying24 info27 rfl (by decide) (by omega) u4 x4_1 (⟨t291, a0.extract (x6_1 : Int).toNat ((wrap64 (x6_1 + t292)) : Int).toNat, x6_1⟩ : S27) [.int .i64 t291, .string (a0.extract (x6_1 : Int).toNat ((wrap64 (x6_1 + t292)) : Int).toNat), .int .i64 x6_1] (fun k_ => some k_ ≠ (u5 : Value).ownBlock) (fun _ => False) rfl rfl ?aP (fun _ hk => hk.elim) ?aF ?aO ?aB ?aS ?aL ?_
                            (case aP => exact k27_mkM _ _ _ (⟨t291, a0.extract (x6_1 : Int).toNat ((wrap64 (x6_1 + t292)) : Int).toNat, x6_1⟩ : S27))
                            (case aB => exact (by repeat (first | (with_reducible first | exact HB.out | apply below_alloc | apply pw_below_drewN | apply below_drew1 | refine below_set ?_ GE294.out) | exact HB.out)))
                            (case aF => exact (fun k_ hk => Kd.fresh' (Kd.R_lt (by (with_reducible repeat (first | apply Kd.R_alloc | apply Kd.R_drewN | apply Kd.R_drew)); exact HO_5.out)) k_ hk))
                            (case aO => exact (by (with_reducible repeat (first | apply Kd.R_alloc | apply Kd.R_drewN | apply Kd.R_drew)); exact HO_4.out))
                            (case aS => exact (below_size (by repeat (first | (with_reducible first | exact HB.out | apply below_alloc | apply pw_below_drewN | apply below_drew1 | refine below_set ?_ GE294.out) | exact HB.out))))
                            (case aL => have := LMc49.out; omega)
                            intro v308 w51 ho hb hg hat
                            rw [← Ny307.out] at ho
                            have n0_ := Aside0.mk (Kd.R_after (ok := (fun _ => True)) (by (with_reducible repeat (first | apply Kd.R_alloc | apply Kd.R_drewN | apply Kd.R_drew)); exact Kd.R_mono HO_5.out (fun _ hk => ⟨trivial, hk⟩)) hg hat)
                            have n1_ := Aside0.mk (blk_grown (g := gb294) (o := .cells #[.int .i64 t291, .int .i64 t292, .int .i64 t293] 41 (0, 0)) (by (with_reducible repeat (first | refine blk_drewN ?_ _ | refine blk_drew ?_ | refine blk_alloc ?_ _)); exact BK294.out) hg (Kd.R_ne HO_4.out BK294.out (by decide)))
                            have n2_ := Aside0.mk (hb)
                            have n3_ := Aside0.mk (ho)
                            clear HO_5; clear BK294; clear HB; clear HO_4
                            have HO_5 := n0_
                            have BK294 := n1_
                            have HB := n2_
                            have HO309 := n3_
                            clear n0_ n1_ n2_ n3_; clear ho hb hg hat
                            refine hK.out _ _ ⟨(blk_cell BK294.out 0).trans rfl, (blk_cell BK294.out 1).trans rfl, (blk_cell BK294.out 2).trans rfl⟩ (fun hHeld => ?_)
                            clear hK K
                            refine norm_ (a' := ?_) ?_ ?_
                            rotate_left
                            · show Act.put _ (some 32) _ = _
                              simp only [Act.put, List.setIfInBounds_toArray, List.set_cons_zero, List.set_cons_succ, i64_w, i32_w]
                              rfl
                            refine pure_ (i := 14) (N := some 4) (v := ?_) (a' := ?_) #[true, true, true, true, true, true, true, true, true, true, true, true, true, true, true] rfl rfl (any_of HT_.out (by kernel_rfl)) (fun _ _ _ h => h) (Or.inl ⟨by rfl, ?_⟩) ?_ ?_
                            rotate_left
                            · intro w'
                              go_simp
                              with_reducible rfl
                            rotate_left
                            · simp only [Act.put, List.setIfInBounds_toArray, List.set_cons_zero, List.set_cons_succ, i64_w, i32_w]
                              rfl
                            refine done_ (done_of HT_.out (by kernel_rfl)) ?_
                            have hcz52_0 : w51.cell? ⟨gb294, 0, none⟩ = some (.int .i64 t291) := (blk_cell BK294.out 0).trans rfl
                            have hcz52_1 : w51.cell? ⟨gb294, 1, none⟩ = some (.int .i64 t292) := (blk_cell BK294.out 1).trans rfl
                            have hcz52_2 : w51.cell? ⟨gb294, 2, none⟩ = some (.int .i64 t293) := (blk_cell BK294.out 2).trans rfl
                            have hfz52_0 := blk_frozen BK294.out 0; have hfz52_1 := blk_frozen BK294.out 1; have hfz52_2 := blk_frozen BK294.out 2
                            try go_wp2
                            go_roundg kj24
                            case measure => have := HK1.out; have := HJ24.out; omega
                            case rel => exact ⟨(y307), (x5_1), (wrap64 (x6_1 + t292)), (by first | rfl | (simp; done) | (simp [*]; done)), H', ⟨by have := HK1.out; have := HJ24.out; omega⟩, ⟨by (with_reducible repeat (first | apply Kd.R_alloc | apply Kd.R_drewN | apply Kd.R_drew)); exact HO309.out⟩, ⟨by (with_reducible repeat (first | apply Kd.R_alloc | apply Kd.R_drewN | apply Kd.R_drew)); exact Kd.R_mono HO_5.out (fun _ hk => hk.2)⟩, ⟨by repeat (first | (with_reducible first | exact HB.out | apply below_alloc | apply pw_below_drewN | apply below_drew1 | refine below_set ?_ GE294.out) | exact HB.out)⟩⟩
                          · rw [if_neg c49] at H
                            exact absurd H (by simp)
                        · rw [if_neg c48] at H
                          exact absurd H (by simp)
                      · rw [if_neg c47] at H
                        exact absurd H (by simp)
                    · rw [if_neg c46] at H
                      exact absurd H (by simp)
      · rw [if_neg c3] at H
        have c3b0 : decide (x6_1 < (a0.size : Int)) = false := decide_eq_false c3
        clear c3
        replace H := Option.bind_eq_some_iff.mp H
        obtain ⟨t285, A530, H⟩ := H
        replace H : (if t285.length < 4398046511104 then (some ((t285 ++ [(⟨0, (⟨#[]⟩ : ByteArray), x6_1⟩ : S27)]), x5_1)) else (none)) = some (r1, r2) := H
        have A53 := Aside0.mk A530; clear A530
        by_cases c54 : t285.length < 4398046511104
        · rw [if_pos c54] at H
          have LMc54 := Aside0.mk c54; clear c54
          obtain ⟨y288, hy288⟩ : ∃ y_ : List (S27), y_ = (t285 ++ [(⟨0, (⟨#[]⟩ : ByteArray), x6_1⟩ : S27)]) := ⟨_, rfl⟩
          replace H : (some (y288, x5_1)) = some (r1, r2) := by first | (rw [hy288]; with_reducible exact H) | (have H2_ := (Option.bind_some _ _).symm.trans H; rw [hy288]; with_reducible exact H2_) | (have H2_ := (Option.bind_some _ _).symm.trans H; with_reducible exact H2_) | with_reducible exact H | (rw [hy288]; exact H) | exact H
          have Ny288 := Aside0.mk hy288; clear hy288
          simp only [Option.some.injEq, Prod.mk.injEq] at H
          obtain ⟨rfl, rfl⟩ := H
          obtain ⟨Ao55, co55, eo55⟩ := Kd.R_slice HO_4.out
          subst eo55
          go_wp2_with (first | ((with_reducible refine gate_callee (f := 22) rfl ?_); refine goesL_ (some 76) rfl rfl Tryd.func22 (by kernel_rfl) rfl #[.slice Ao55 x4_1.length co55, .int .i64 x6_1] rfl (by (try simp only [List.map_toArray, List.map_cons, List.map_nil]); first | done | rfl | (simp only [List.length_drop, List.length_take]; rfl)) ?_; (with_reducible refine (seicheref11_feed.calls k1 (fun k_ => some k_ = (.slice Ao55 x4_1.length co55 : Value).ownBlock) (.slice Ao55 x4_1.length co55) x4_1 x6_1 t285 w _ ?side1 ?side2 A53.out).mono ?_); (case side1 => repeat (first | (with_reducible first | exact HB.out | apply below_alloc | apply pw_below_drewN | apply below_drew1) | exact HB.out)); (case side2 => exact Kd.R_tight rfl HO_4.out); rintro e w56 ⟨v286, rfl, ho0, hb, hkp⟩; refine ⟨_, rfl, ?_⟩; have n0_ := Aside0.mk (Kd.R_mono (ok' := fun k_ => some k_ ≠ (v286 : Value).ownBlock) (Kd.R_keptB (HO_5.out) hkp (fun k_ hk_ hs_ => (hk_) hs_)) (fun k_ hk_ => fun e_ => Or.elim (ho0.1 k_ e_.symm) (fun hs_ => hk_.2.1 hs_) (fun hn_ => Nat.not_le.2 hk_.2.2 hn_))); have n1_ := Aside0.mk (Kd.R_mono (ok' := fun k_ => some k_ ≠ (u5 : Value).ownBlock) ho0 (fun k_ hk_ => Or.elim hk_ (fun hs_ => fun e_ => (((HO_5.out).1 k_ e_.symm)) hs_) (fun hn_ => (Kd.fresh' (Kd.R_lt (by (with_reducible repeat (first | apply Kd.R_alloc | apply Kd.R_drewN | apply Kd.R_drew)); exact HO_5.out)) k_ hn_)))); have n2_ := Aside0.mk (hb); clear HO_5; clear HB; clear HO_4; have HO_5 := n0_; have HO287 := n1_; have HB := n2_; clear n0_ n1_ n2_; (try clear hb); (try clear hkp); (try clear ho0)) | ((with_reducible refine gate_builtin (b := .append) (xs := #[.tmp 76, .tmp 79]) rfl ?_); at_builtin; refine Kd.R_append k27 (w0 := w) w.heap.size rfl (.tmp 76) (.tmp 79) 24 27 (.agg #[(.int .i64 0), (.string ⟨#[]⟩), (.int .i64 0)]) 32 rfl Tryd.underlying24 info27 rfl (by decide) (by omega) v286 t285 (⟨0, (⟨#[]⟩ : ByteArray), x6_1⟩ : S27) [.int .i64 0, .string (⟨#[]⟩ : ByteArray), .int .i64 x6_1] (fun k_ => some k_ ≠ (u5 : Value).ownBlock) (fun _ => False) rfl rfl ?aP (fun _ hk => hk.elim) ?aF ?aO ?aB ?aS ?aL ?_; (case aP => exact k27_mkM _ _ _ (⟨0, (⟨#[]⟩ : ByteArray), x6_1⟩ : S27)); (case aB => exact (by repeat (first | (with_reducible first | exact HB.out | apply below_alloc | apply pw_below_drewN | apply below_drew1) | exact HB.out))); (case aF => exact (fun k_ hk => Kd.fresh' (Kd.R_lt (by (with_reducible repeat (first | apply Kd.R_alloc | apply Kd.R_drewN | apply Kd.R_drew)); exact HO_5.out)) k_ hk)); (case aO => exact (by (with_reducible repeat (first | apply Kd.R_alloc | apply Kd.R_drewN | apply Kd.R_drew)); exact HO287.out)); (case aS => exact (below_size (by repeat (first | (with_reducible first | exact HB.out | apply below_alloc | apply pw_below_drewN | apply below_drew1) | exact HB.out)))); (case aL => have := LMc54.out; omega); intro v289 w57 ho hb hg hat; rw [← Ny288.out] at ho; have n0_ := Aside0.mk (Kd.R_after (ok := (fun _ => True)) (by (with_reducible repeat (first | apply Kd.R_alloc | apply Kd.R_drewN | apply Kd.R_drew)); exact Kd.R_mono HO_5.out (fun _ hk => ⟨trivial, hk⟩)) hg hat); have n1_ := Aside0.mk (hb); have n2_ := Aside0.mk (ho); clear HO_5; clear HB; clear HO287; have HO_5 := n0_; have HB := n1_; have HO290 := n2_; clear n0_ n1_ n2_; clear ho hb hg hat))
          go_ret2
          exact ⟨_, _, by first | rfl | (simp [errW_none, errW_some] <;> rfl) | (simp [*, errW_none, errW_some] <;> rfl), by (with_reducible repeat (first | apply Kd.R_alloc | apply Kd.R_drewN | apply Kd.R_drew)); exact HO290.out, by (with_reducible repeat (first | apply Kd.R_alloc | apply Kd.R_drewN | apply Kd.R_drew)); exact Kd.R_mono HO_5.out (fun _ hk => hk.2), by repeat (first | (with_reducible first | exact HB.out | apply below_alloc | apply pw_below_drewN | apply below_drew1) | exact HB.out)⟩
        · rw [if_neg c54] at H
          exact absurd H (by simp)
end Go.Proofs.YtfolmcfcmonkhaaDoor.PAll

