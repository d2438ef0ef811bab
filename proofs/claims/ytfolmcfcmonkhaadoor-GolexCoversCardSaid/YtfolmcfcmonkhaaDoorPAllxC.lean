-- Written by a program of this session (a changed scratch copy of a tool of the kit); not a print of the kit's own.
import Derived.Test.YtfolmcfcmonkhaaDoorPAllx0
import Derived.Test.YtfolmcfcmonkhaaDoorPAllx1
import Derived.Test.YtfolmcfcmonkhaaDoorPAllx2
import Derived.Test.YtfolmcfcmonkhaaDoorPAllxL
import Derived.Test.YtfolmcfcmonkhaaDoorPAllx3
import Derived.Test.YtfolmcfcmonkhaaDoorPAllxG
import Derived.Test.YtfolmcfcmonkhaaDoorPAllxD
namespace Go.Proofs.YtfolmcfcmonkhaaDoor.PAll
open Go.RowKit Go.Proofs.YtfolmcfcmonkhaaDoorW.PrintWords Go.Proofs.YtfolmcfcmonkhaaDoorW.PrintLast Go.Proofs.YtfolmcfcmonkhaaDoorW.PrintMore Go.Proofs.YtfolmcfcmonkhaaDoorMy Go.Proofs.YtfolmcfcmonkhaaDoor
attribute [local go_sem] max2_int min2_int max_two min_two max_three min_three max_four min_four   -- for this text's walks alone
set_option linter.unusedVariables false
set_option linter.unusedSimpArgs false

def seichelaw11_GolexCovers.T16 : Bool × List (List Nat × List Nat) := (true, [([], []), ([], []), ([0, 1], [0, 1]), ([2], [2]), ([3], [3]), ([], []), ([5], [5]), ([4, 6], [4, 6])])
def seichelaw11_GolexCovers.B16 : List Nat := [0, 0, 3, 7, 15, 0, 32, 127]
theorem seichelaw11_GolexCovers.tab16 : rtab .any (opsOf Tryd.f7 16) = seichelaw11_GolexCovers.T16 := by kernel_rfl
theorem seichelaw11_GolexCovers.bits16 : waitsOk seichelaw11_GolexCovers.T16.2 seichelaw11_GolexCovers.B16 = true := by kernel_rfl
def seichelaw11_GolexCovers.T25 : Bool × List (List Nat × List Nat) := (true, [([], []), ([], []), ([1], [1]), ([0, 2], [0, 2]), ([3], [3]), ([4], [4]), ([4], [4]), ([6, 4], [4, 6]), ([5, 7, 4], [4, 5, 7]), ([8, 4, 4], [4, 8]), ([9], [9]), ([9], [9]), ([10, 11, 9], [9, 10, 11]), ([12, 9], [9, 12]), ([13, 9], [9, 13]), ([9], [9]), ([9], [9]), ([15, 16, 9], [9, 15, 16]), ([17, 9], [9, 17]), ([18, 9], [9, 18]), ([14, 19, 9], [9, 14, 19]), ([9, 20, 4], [4, 9, 20]), ([4, 21], [4, 21])])
def seichelaw11_GolexCovers.B25 : List Nat := [0, 0, 2, 7, 15, 31, 31, 95, 255, 511, 1023, 1023, 4095, 8191, 16383, 1023, 1023, 99327, 230399, 492543, 1048575, 2097151, 4194303]
theorem seichelaw11_GolexCovers.tab25 : rtab .any (opsOf Tryd.f7 25) = seichelaw11_GolexCovers.T25 := by kernel_rfl
theorem seichelaw11_GolexCovers.bits25 : waitsOk seichelaw11_GolexCovers.T25.2 seichelaw11_GolexCovers.B25 = true := by kernel_rfl
def seichelaw11_GolexCovers.T31 : Bool × List (List Nat × List Nat) := (true, [([], []), ([0], [0]), ([], []), ([1, 2], [1, 2]), ([3], [3]), ([4], [4]), ([5, 4], [4, 5]), ([4], [4]), ([7, 4], [4, 7]), ([4], [4]), ([9, 4], [4, 9]), ([10, 4], [4, 10]), ([8, 11, 4], [4, 8, 11]), ([6, 12, 4], [4, 6, 12]), ([4, 13], [4, 13]), ([14, 4], [14]), ([15], [15]), ([15], [15]), ([17, 15], [15, 17]), ([15], [15]), ([19, 15], [15, 19]), ([15], [15]), ([21, 15], [15, 21]), ([22, 15], [15, 22]), ([20, 23, 15], [15, 20, 23]), ([16, 18, 24, 15], [15, 16, 18, 24]), ([15], [15]), ([26, 15], [15, 26]), ([25, 27, 15], [15, 25, 27]), ([15, 28], [15, 28]), ([29, 15], [29]), ([30], [30]), ([30], [30]), ([30], [30]), ([33, 30], [30, 33]), ([31, 32, 34, 30], [30, 31, 32, 34]), ([35, 30, 30], [30, 35]), ([36, 30], [30, 36]), ([30, 37], [30, 37])])
def seichelaw11_GolexCovers.B31 : List Nat := [0, 1, 0, 7, 15, 31, 63, 31, 159, 31, 543, 1567, 3999, 8191, 16383, 32767, 65535, 65535, 196607, 65535, 589823, 65535, 2162687, 6356991, 16318463, 33554431, 65535, 67174399, 268435455, 536870911, 1073741823, 2147483647, 2147483647, 2147483647, 10737418239, 34359738367, 68719476735, 137438953471, 274877906943]
theorem seichelaw11_GolexCovers.tab31 : rtab .any (opsOf Tryd.f7 31) = seichelaw11_GolexCovers.T31 := by kernel_rfl
theorem seichelaw11_GolexCovers.bits31 : waitsOk seichelaw11_GolexCovers.T31.2 seichelaw11_GolexCovers.B31 = true := by kernel_rfl
set_option maxHeartbeats 8000000 in
set_option maxRecDepth 100000 in
theorem seichelaw11_GolexCovers.calls (k : Nat) (a0 : ByteArray) (r : Bool) (w : World) (hT : Tabs w) (h : seichelaw11_GolexCovers.f k a0 = some r) :
    Calls Tryd.prog 7 #[.string a0] w fun e w' => e = .returned (.bool r) ∧ Below w.heap.size w w' := by
  have hu27 := Tryd.underlying27
  have HT := Aside0.mk hT; clear hT
  have HB := Aside0.mk (Below.refl w.heap.size w)
  have H : ((seichelaw11_alive.f).bind fun t119 => (if t119 = true then (if (a0.size : Int) > 2048 then (some true) else ((golex_Lex.f a0).bind fun t120 => ((golex_Notes.f a0).bind fun t123 => ((seicheref10_Skip.f a0).bind fun t126 => (if (t120.length : Int) = 0 then (none) else (if 0 ≤ (wrap64 ((t120.length : Int) - 1)) then (if (wrap64 ((t120.length : Int) - 1)) < (t120.length : Int) then (if ((rd_T27 t120 (wrap64 ((t120.length : Int) - 1))).f0) = 7 then (seichelaw11_GolexCovers.l0 k a0 t120 t123 t126 ((rd_T27 t120 (wrap64 ((t120.length : Int) - 1))).f2) 0 ((rd_T27 t120 (wrap64 ((t120.length : Int) - 1))).f0) ((rd_T27 t120 (wrap64 ((t120.length : Int) - 1))).f1) ((rd_T27 t120 (wrap64 ((t120.length : Int) - 1))).f2)) else (if ((rd_T27 t120 (wrap64 ((t120.length : Int) - 1))).f0) = 0 then (if ((rd_T27 t120 (wrap64 ((t120.length : Int) - 1))).f2) = (a0.size : Int) then (seichelaw11_GolexCovers.j1 k a0 t120 t123 t126 (a0.size : Int)) else (none)) else (none))) else (none)) else (none))))))) else (none))) = some r := h
  clear h
  replace H := Option.bind_eq_some_iff.mp H
  obtain ⟨t119, A20, H⟩ := H
  replace H : (if t119 = true then (if (a0.size : Int) > 2048 then (some true) else ((golex_Lex.f a0).bind fun t120 => ((golex_Notes.f a0).bind fun t123 => ((seicheref10_Skip.f a0).bind fun t126 => (if (t120.length : Int) = 0 then (none) else (if 0 ≤ (wrap64 ((t120.length : Int) - 1)) then (if (wrap64 ((t120.length : Int) - 1)) < (t120.length : Int) then (if ((rd_T27 t120 (wrap64 ((t120.length : Int) - 1))).f0) = 7 then (seichelaw11_GolexCovers.l0 k a0 t120 t123 t126 ((rd_T27 t120 (wrap64 ((t120.length : Int) - 1))).f2) 0 ((rd_T27 t120 (wrap64 ((t120.length : Int) - 1))).f0) ((rd_T27 t120 (wrap64 ((t120.length : Int) - 1))).f1) ((rd_T27 t120 (wrap64 ((t120.length : Int) - 1))).f2)) else (if ((rd_T27 t120 (wrap64 ((t120.length : Int) - 1))).f0) = 0 then (if ((rd_T27 t120 (wrap64 ((t120.length : Int) - 1))).f2) = (a0.size : Int) then (seichelaw11_GolexCovers.j1 k a0 t120 t123 t126 (a0.size : Int)) else (none)) else (none))) else (none)) else (none))))))) else (none)) = some r := H
  have A2 := Aside0.mk A20; clear A20
  by_cases c3 : t119 = true
  · subst c3
    have H1 : (if (a0.size : Int) > 2048 then (some true) else ((golex_Lex.f a0).bind fun t120 => ((golex_Notes.f a0).bind fun t123 => ((seicheref10_Skip.f a0).bind fun t126 => (if (t120.length : Int) = 0 then (none) else (if 0 ≤ (wrap64 ((t120.length : Int) - 1)) then (if (wrap64 ((t120.length : Int) - 1)) < (t120.length : Int) then (if ((rd_T27 t120 (wrap64 ((t120.length : Int) - 1))).f0) = 7 then (seichelaw11_GolexCovers.l0 k a0 t120 t123 t126 ((rd_T27 t120 (wrap64 ((t120.length : Int) - 1))).f2) 0 ((rd_T27 t120 (wrap64 ((t120.length : Int) - 1))).f0) ((rd_T27 t120 (wrap64 ((t120.length : Int) - 1))).f1) ((rd_T27 t120 (wrap64 ((t120.length : Int) - 1))).f2)) else (if ((rd_T27 t120 (wrap64 ((t120.length : Int) - 1))).f0) = 0 then (if ((rd_T27 t120 (wrap64 ((t120.length : Int) - 1))).f2) = (a0.size : Int) then (seichelaw11_GolexCovers.j1 k a0 t120 t123 t126 (a0.size : Int)) else (none)) else (none))) else (none)) else (none))))))) = some r := by rw [if_pos rfl] at H; exact H
    clear H
    have H := H1
    clear H1
    by_cases c4 : (a0.size : Int) > 2048
    · rw [if_pos c4] at H
      have c4b0 : decide (2048 < (a0.size : Int)) = true := decide_eq_true c4
      have c4b1 : decide (2048 < a0.size) = true := decide_eq_true (by omega)
      clear c4
      obtain rfl := Option.some.inj H
      go_enter Tryd.func7, Tryd.ntmps7
      go_wp2_with (first | ((with_reducible refine gate_callee (f := 9) rfl ?_); refine goesL_ (some 12) rfl rfl Tryd.func9 (by kernel_rfl) rfl #[] rfl (by (try simp only [List.map_toArray, List.map_cons, List.map_nil]); first | done | rfl | (simp only [List.length_drop, List.length_take]; rfl)) ?_; (with_reducible refine (seichelaw11_alive.calls  true _ ?side1 A2.out).mono ?_); (case side1 => exact Tabs.below HT.out (by repeat (first | (with_reducible first | exact HB.out | apply below_alloc | apply pw_below_drewN | apply below_drew1) | exact HB.out))); rintro e w5 ⟨rfl, hb⟩; refine ⟨_, rfl, ?_⟩; have n0_ := Aside0.mk (below_step (by repeat (first | (with_reducible first | exact HB.out | apply below_alloc | apply pw_below_drewN | apply below_drew1) | exact HB.out)) hb); clear HB; have HB := n0_; clear n0_; (try clear hb); (try clear hb2); (try clear hk); (try clear hi)))
      go_ret
      exact ⟨by first | rfl | (simp [errW_none, errW_some] <;> rfl) | (simp [*, errW_none, errW_some] <;> rfl), by repeat (first | (with_reducible first | exact HB.out | apply below_alloc | apply pw_below_drewN | apply below_drew1) | exact HB.out)⟩
    · rw [if_neg c4] at H
      have c4b0 : decide (2048 < (a0.size : Int)) = false := decide_eq_false c4
      have c4b1 : decide (2048 < a0.size) = false := decide_eq_false (by omega)
      clear c4
      replace H := Option.bind_eq_some_iff.mp H
      obtain ⟨t120, A60, H⟩ := H
      replace H : ((golex_Notes.f a0).bind fun t123 => ((seicheref10_Skip.f a0).bind fun t126 => (if (t120.length : Int) = 0 then (none) else (if 0 ≤ (wrap64 ((t120.length : Int) - 1)) then (if (wrap64 ((t120.length : Int) - 1)) < (t120.length : Int) then (if ((rd_T27 t120 (wrap64 ((t120.length : Int) - 1))).f0) = 7 then (seichelaw11_GolexCovers.l0 k a0 t120 t123 t126 ((rd_T27 t120 (wrap64 ((t120.length : Int) - 1))).f2) 0 ((rd_T27 t120 (wrap64 ((t120.length : Int) - 1))).f0) ((rd_T27 t120 (wrap64 ((t120.length : Int) - 1))).f1) ((rd_T27 t120 (wrap64 ((t120.length : Int) - 1))).f2)) else (if ((rd_T27 t120 (wrap64 ((t120.length : Int) - 1))).f0) = 0 then (if ((rd_T27 t120 (wrap64 ((t120.length : Int) - 1))).f2) = (a0.size : Int) then (seichelaw11_GolexCovers.j1 k a0 t120 t123 t126 (a0.size : Int)) else (none)) else (none))) else (none)) else (none))))) = some r := H
      have A6 := Aside0.mk A60; clear A60
      replace H := Option.bind_eq_some_iff.mp H
      obtain ⟨t123, A70, H⟩ := H
      replace H : ((seicheref10_Skip.f a0).bind fun t126 => (if (t120.length : Int) = 0 then (none) else (if 0 ≤ (wrap64 ((t120.length : Int) - 1)) then (if (wrap64 ((t120.length : Int) - 1)) < (t120.length : Int) then (if ((rd_T27 t120 (wrap64 ((t120.length : Int) - 1))).f0) = 7 then (seichelaw11_GolexCovers.l0 k a0 t120 t123 t126 ((rd_T27 t120 (wrap64 ((t120.length : Int) - 1))).f2) 0 ((rd_T27 t120 (wrap64 ((t120.length : Int) - 1))).f0) ((rd_T27 t120 (wrap64 ((t120.length : Int) - 1))).f1) ((rd_T27 t120 (wrap64 ((t120.length : Int) - 1))).f2)) else (if ((rd_T27 t120 (wrap64 ((t120.length : Int) - 1))).f0) = 0 then (if ((rd_T27 t120 (wrap64 ((t120.length : Int) - 1))).f2) = (a0.size : Int) then (seichelaw11_GolexCovers.j1 k a0 t120 t123 t126 (a0.size : Int)) else (none)) else (none))) else (none)) else (none)))) = some r := H
      have A7 := Aside0.mk A70; clear A70
      replace H := Option.bind_eq_some_iff.mp H
      obtain ⟨t126, A80, H⟩ := H
      replace H : (if (t120.length : Int) = 0 then (none) else (if 0 ≤ (wrap64 ((t120.length : Int) - 1)) then (if (wrap64 ((t120.length : Int) - 1)) < (t120.length : Int) then (if ((rd_T27 t120 (wrap64 ((t120.length : Int) - 1))).f0) = 7 then (seichelaw11_GolexCovers.l0 k a0 t120 t123 t126 ((rd_T27 t120 (wrap64 ((t120.length : Int) - 1))).f2) 0 ((rd_T27 t120 (wrap64 ((t120.length : Int) - 1))).f0) ((rd_T27 t120 (wrap64 ((t120.length : Int) - 1))).f1) ((rd_T27 t120 (wrap64 ((t120.length : Int) - 1))).f2)) else (if ((rd_T27 t120 (wrap64 ((t120.length : Int) - 1))).f0) = 0 then (if ((rd_T27 t120 (wrap64 ((t120.length : Int) - 1))).f2) = (a0.size : Int) then (seichelaw11_GolexCovers.j1 k a0 t120 t123 t126 (a0.size : Int)) else (none)) else (none))) else (none)) else (none))) = some r := H
      have A8 := Aside0.mk A80; clear A80
      by_cases c9 : (t120.length : Int) = 0
      · rw [if_pos c9] at H
        exact absurd H (by simp)
      · rw [if_neg c9] at H
        have c9b0 : ((t120.length : Int) == 0) = false := beq_eq_false_iff_ne.mpr c9
        have c9b1 : ((t120.length : Int) != 0) = true := bne_iff_ne.mpr c9
        have c9b2 : ¬ (t120 = []) := fun h_ => c9 (by rw [h_]; rfl)
        obtain ⟨ji14, hji14⟩ : ∃ j_ : Int, (wrap64 ((t120.length : Int) - 1)) = j_ := ⟨_, rfl⟩
        replace H : (if 0 ≤ (ji14) then (if (ji14) < (t120.length : Int) then (if ((rd_T27 t120 (ji14)).f0) = 7 then (seichelaw11_GolexCovers.l0 k a0 t120 t123 t126 ((rd_T27 t120 (ji14)).f2) 0 ((rd_T27 t120 (ji14)).f0) ((rd_T27 t120 (ji14)).f1) ((rd_T27 t120 (ji14)).f2)) else (if ((rd_T27 t120 (ji14)).f0) = 0 then (if ((rd_T27 t120 (ji14)).f2) = (a0.size : Int) then (seichelaw11_GolexCovers.j1 k a0 t120 t123 t126 (a0.size : Int)) else (none)) else (none))) else (none)) else (none)) = some r := by first | (rw [hji14] at H; exact H) | (simp only [hji14] at H ⊢; exact H)
        (try rw [hji14] at A2)
        (try rw [hji14] at A6)
        (try rw [hji14] at A7)
        (try rw [hji14] at A8)
        have hji14w : (IntKind.i64.wrap ((t120.length : Int) - 1)) = ji14 := (i64_w _).trans hji14
        by_cases c15 : 0 ≤ (ji14)
        · rw [if_pos c15] at H
          have c15b0 : decide (0 ≤ (ji14)) = true := decide_eq_true c15
          clear c15
          by_cases c16 : (ji14) < (t120.length : Int)
          · rw [if_pos c16] at H
            have c16b0 : decide ((ji14) < (t120.length : Int)) = true := decide_eq_true c16
            clear c16; have HC17 := Aside0.mk H; clear H
            go_enter Tryd.func7, Tryd.ntmps7
            go_upto_if 36 with (first | ((with_reducible refine gate_callee (f := 9) rfl ?_); refine goesL_ (some 12) rfl rfl Tryd.func9 (by kernel_rfl) rfl #[] rfl (by (try simp only [List.map_toArray, List.map_cons, List.map_nil]); first | done | rfl | (simp only [List.length_drop, List.length_take]; rfl)) ?_; (with_reducible refine (seichelaw11_alive.calls  true _ ?side1 A2.out).mono ?_); (case side1 => exact Tabs.below HT.out (by repeat (first | (with_reducible first | exact HB.out | apply below_alloc | apply pw_below_drewN | apply below_drew1) | exact HB.out))); rintro e w18 ⟨rfl, hb⟩; refine ⟨_, rfl, ?_⟩; have n0_ := Aside0.mk (below_step (by repeat (first | (with_reducible first | exact HB.out | apply below_alloc | apply pw_below_drewN | apply below_drew1) | exact HB.out)) hb); clear HB; have HB := n0_; clear n0_; (try clear hb); (try clear hb2); (try clear hk); (try clear hi)) | ((with_reducible refine gate_callee (f := 11) rfl ?_); refine goesL_ (some 18) rfl rfl Tryd.func11 (by kernel_rfl) rfl #[.string a0] rfl (by (try simp only [List.map_toArray, List.map_cons, List.map_nil]); first | done | rfl | (simp only [List.length_drop, List.length_take]; rfl)) ?_; (with_reducible refine (golex_Lex.calls a0 t120 _ ?side1 A6.out).mono ?_); (case side1 => exact Tabs.below HT.out (by repeat (first | (with_reducible first | exact HB.out | apply below_alloc | apply pw_below_drewN | apply below_drew1) | exact HB.out))); rintro e w19 ⟨v121, rfl, ho0, hb⟩; refine ⟨_, rfl, ?_⟩; have n0_ := Aside0.mk (Kd.R_lower ho0 (below_size (by repeat (first | (with_reducible first | exact HB.out | apply below_alloc | apply pw_below_drewN | apply below_drew1) | exact HB.out)))); have n1_ := Aside0.mk (below_step (by repeat (first | (with_reducible first | exact HB.out | apply below_alloc | apply pw_below_drewN | apply below_drew1) | exact HB.out)) hb); clear HB; have HO122 := n0_; have HB := n1_; clear n0_ n1_; (try clear hb); (try clear hb2); (try clear hk); (try clear hi); (try clear ho0)) | ((with_reducible refine gate_callee (f := 14) rfl ?_); refine goesL_ (some 20) rfl rfl Tryd.func14 (by kernel_rfl) rfl #[.string a0] rfl (by (try simp only [List.map_toArray, List.map_cons, List.map_nil]); first | done | rfl | (simp only [List.length_drop, List.length_take]; rfl)) ?_; (with_reducible refine (golex_Notes.calls a0 t123 _ ?side1 A7.out).mono ?_); (case side1 => exact Tabs.below HT.out (by repeat (first | (with_reducible first | exact HB.out | apply below_alloc | apply pw_below_drewN | apply below_drew1) | exact HB.out))); rintro e w20 ⟨v124, rfl, ho0, hb⟩; refine ⟨_, rfl, ?_⟩; have n0_ := Aside0.mk (Kd.R_elder' (by (with_reducible repeat (first | apply Kd.R_alloc | apply Kd.R_drewN | apply Kd.R_drew)); exact HO122.out) (Kd.R_base ho0) hb); have n1_ := Aside0.mk (Kd.R_lower (Kd.R_new' ho0 (Kd.R_lt (by (with_reducible repeat (first | apply Kd.R_alloc | apply Kd.R_drewN | apply Kd.R_drew)); exact HO122.out))) (below_size (by repeat (first | (with_reducible first | exact HB.out | apply below_alloc | apply pw_below_drewN | apply below_drew1) | exact HB.out)))); have n2_ := Aside0.mk (below_step (by repeat (first | (with_reducible first | exact HB.out | apply below_alloc | apply pw_below_drewN | apply below_drew1) | exact HB.out)) hb); clear HO122; clear HB; have HO122 := n0_; have HO125 := n1_; have HB := n2_; clear n0_ n1_ n2_; (try clear hb); (try clear hb2); (try clear hk); (try clear hi); (try clear ho0)) | ((with_reducible refine gate_callee (f := 10) rfl ?_); refine goesL_ (some 22) rfl rfl Tryd.func10 (by kernel_rfl) rfl #[.string a0] rfl (by (try simp only [List.map_toArray, List.map_cons, List.map_nil]); first | done | rfl | (simp only [List.length_drop, List.length_take]; rfl)) ?_; (with_reducible refine (seicheref10_Skip.calls a0 t126 _ A8.out).mono ?_); rintro e w' ⟨rfl, ⟨nd, rfl⟩⟩; refine ⟨_, rfl, ?_⟩; (try (rw [drewN_self w20]; generalize hq_ : World.drewN w20 _ = w20; have n0_ : Aside0 (Kd.R k27 27 w20 w.heap.size (fun k_ => some k_ ≠ (v124 : Value).ownBlock) v121 t120) := ⟨by rw [← hq_]; exact (by (with_reducible repeat (first | apply Kd.R_alloc | apply Kd.R_drewN | apply Kd.R_drew)); exact Kd.R_mono HO122.out (fun _ hk => hk.2))⟩; have n1_ : Aside0 (Kd.R k27 27 w20 w.heap.size (fun k_ => some k_ ≠ (v121 : Value).ownBlock) v124 t123) := ⟨by rw [← hq_]; exact (by (with_reducible repeat (first | apply Kd.R_alloc | apply Kd.R_drewN | apply Kd.R_drew)); exact Kd.R_mono HO125.out (fun _ hk => hk.2))⟩; have n2_ : Aside0 (Below w.heap.size w w20) := ⟨by rw [← hq_]; exact (by repeat (first | (with_reducible first | exact HB.out | apply below_alloc | apply pw_below_drewN | apply below_drew1) | exact HB.out))⟩; clear HO122 HO125 HB hq_; have HO122 := n0_; have HO125 := n1_; have HB := n2_; clear n0_ n1_ n2_)); obtain ⟨Ao21, co21, eo21⟩ := Kd.R_slice HO122.out; subst eo21; have p127 : 0 ≤ ((ji14) : Int) := of_decide_eq_true (by first | (with_reducible assumption) | assumption); have q127 : (ji14) < (t120.length : Int) := of_decide_eq_true (by first | (with_reducible assumption) | assumption); obtain ⟨ad127, e127, hx127_0, hx127_1, hx127_2⟩ := at_T27 (Kd.R_reads' HO122.out).2.2 (ji14) p127 q127; cases e127; replace p127 := eq_true p127; replace q127 := eq_true q127) | ((with_reducible refine gate_dst (N := 7) rfl ?_); (try (refine gate_guard (by rfl) ?_; dsimp only)); refine box_event ?hg (N := 7) ?hd (cs := #[.int .i64 0, .string (⟨#[]⟩ : ByteArray), .int .i64 0]) (t := 27) ?hr ?_; (case hd => rfl); (case hg => rfl); (case hr => first | (go_simp; done) | (go_simp; rfl)); intro gb128 hg w22 hbox hb; have n0_ := Aside0.mk (Kd.R_below (Kd.R_elderB (by (with_reducible repeat (first | apply Kd.R_alloc | apply Kd.R_drewN | apply Kd.R_drew)); exact HO122.out) gb128 (Nat.le_of_eq hg.symm)) hb); have n1_ := Aside0.mk (Kd.R_below (Kd.R_elderB (by (with_reducible repeat (first | apply Kd.R_alloc | apply Kd.R_drewN | apply Kd.R_drew)); exact HO125.out) gb128 (Nat.le_of_eq hg.symm)) hb); have n2_ := Aside0.mk (below_step (by repeat (first | (with_reducible first | exact HB.out | apply below_alloc | apply pw_below_drewN | apply below_drew1) | exact HB.out)) hb); have n3_ := Aside0.mk (hbox); have n4_ := Aside0.mk ((by rw [hg]; exact (below_size (by repeat (first | (with_reducible first | exact HB.out | apply below_alloc | apply pw_below_drewN | apply below_drew1) | exact HB.out))) : w.heap.size ≤ gb128)); have n5_ := Aside0.mk ((by rw [hg]; exact (below_size (by repeat (first | (with_reducible first | exact HB.out | apply below_alloc | apply pw_below_drewN | apply below_drew1) | exact HB.out))) : w.heap.size ≤ gb128)); clear HO122; clear HO125; clear HB; have HO122 := n0_; have HO125 := n1_; have HB := n2_; have BK128 := n3_; have GW128 := n4_; have GE128 := n5_; clear n0_ n1_ n2_ n3_ n4_ n5_; clear hb hbox hg; have hcz23_0 : w22.cell? ⟨gb128, 0, none⟩ = some (.int .i64 0) := (blk_cell BK128.out 0).trans rfl; have hcz23_1 : w22.cell? ⟨gb128, 1, none⟩ = some (.string (⟨#[]⟩ : ByteArray)) := (blk_cell BK128.out 1).trans rfl; have hcz23_2 : w22.cell? ⟨gb128, 2, none⟩ = some (.int .i64 0) := (blk_cell BK128.out 2).trans rfl; have hfz23_0 := blk_frozen BK128.out 0; have hfz23_1 := blk_frozen BK128.out 1; have hfz23_2 := blk_frozen BK128.out 2))
            (try simp only [Act.put, List.setIfInBounds_toArray, List.set_cons_zero, List.set_cons_succ])
            go_cut [6] (fun v6 wc => ∃ (kq : Nat) (x6_16 : Int), v6 = .int .i64 x6_16 ∧ Aside0 (seichelaw11_GolexCovers.j1 kq a0 t120 t123 t126 x6_16 = some r) ∧ Aside0 (kq ≤ k) ∧ Aside0 (Kd.R k27 27 wc w.heap.size (fun k_ => some k_ ≠ (v124 : Value).ownBlock ∧ k_ ≠ gb128) (.slice (some ad127) t120.length co21) t120) ∧ Aside0 (Kd.R k27 27 wc w.heap.size (fun k_ => some k_ ≠ ((.slice (some ad127) t120.length co21) : Value).ownBlock ∧ k_ ≠ gb128) v124 t123) ∧ Aside0 (wc.heap[gb128]? = some (.cells #[.int .i64 ((rd_T27 t120 (ji14)).f0), .string ((rd_T27 t120 (ji14)).f1), .int .i64 ((rd_T27 t120 (ji14)).f2)] 27 (0, 0))) ∧ Aside0 (Below w.heap.size w wc))
            case first =>
              have H := HC17.out
              clear HC17
              by_cases c24 : ((rd_T27 t120 (ji14)).f0) = 7
              · rw [if_pos c24] at H
                have c24b0 : (((rd_T27 t120 (ji14)).f0) == 7) = true := beq_iff_eq.mpr c24
                have c24b1 : (((rd_T27 t120 (ji14)).f0) != 7) = false := bne_eq_false_iff_eq.mpr c24
                clear c24
                (first | rw [c24b0] | (simp only [i64_w, i32_w]; rw [c24b0]) | skip)
                have H' := Aside0.mk H
                clear H
                have hcz25_0 : w22.cell? ⟨gb128, 0, none⟩ = some (.int .i64 0) := (blk_cell BK128.out 0).trans rfl
                have hcz25_1 : w22.cell? ⟨gb128, 1, none⟩ = some (.string (⟨#[]⟩ : ByteArray)) := (blk_cell BK128.out 1).trans rfl
                have hcz25_2 : w22.cell? ⟨gb128, 2, none⟩ = some (.int .i64 0) := (blk_cell BK128.out 2).trans rfl
                have hfz25_0 := blk_frozen BK128.out 0; have hfz25_1 := blk_frozen BK128.out 1; have hfz25_2 := blk_frozen BK128.out 2
                go_wp2
                go_loopg [8] k (fun kq v8 w' => ∃ (x8_1 : Int), v8 = .int .i64 x8_1 ∧ Aside0 (seichelaw11_GolexCovers.l0 kq a0 t120 t123 t126 ((rd_T27 t120 (ji14)).f2) x8_1 ((rd_T27 t120 (ji14)).f0) ((rd_T27 t120 (ji14)).f1) ((rd_T27 t120 (ji14)).f2) = some r) ∧ Aside0 (kq ≤ k) ∧ Aside0 (Kd.R k27 27 w' w.heap.size (fun k_ => some k_ ≠ (v124 : Value).ownBlock ∧ k_ ≠ gb128) (.slice (some ad127) t120.length co21) t120) ∧ Aside0 (Kd.R k27 27 w' w.heap.size (fun k_ => some k_ ≠ ((.slice (some ad127) t120.length co21) : Value).ownBlock ∧ k_ ≠ gb128) v124 t123) ∧ Aside0 (w'.heap[gb128]? = some (.cells #[.int .i64 ((rd_T27 t120 (ji14)).f0), .string ((rd_T27 t120 (ji14)).f1), .int .i64 ((rd_T27 t120 (ji14)).f2)] 27 (0, 0))) ∧ Aside0 (Below w.heap.size w w'))
                case atStart => exact ⟨(0), (by first | rfl | (simp; done) | (simp [*]; done)), H', ⟨Nat.le_refl _⟩, ⟨by (with_reducible repeat (first | apply Kd.R_alloc | apply Kd.R_drewN | apply Kd.R_drew)); exact Kd.R_mono (Kd.R_far (p := ⟨gb128, 2, none⟩) (Kd.R_far (p := ⟨gb128, 1, none⟩) (Kd.R_far (p := ⟨gb128, 0, none⟩) (Kd.R_mono HO122.out (fun k_ hk => (⟨hk, hk.2⟩ : _ ∧ k_ ≠ gb128))) (fun _ hk => hk.2) (.int .i64 ((rd_T27 t120 (ji14)).f0))) (fun _ hk => hk.2) (.string ((rd_T27 t120 (ji14)).f1))) (fun _ hk => hk.2) (.int .i64 ((rd_T27 t120 (ji14)).f2))) (fun _ hk => by first | exact ⟨hk.1.1.2, hk.1.2⟩ | exact ⟨hk.1.1, hk.1.2⟩ | exact ⟨hk.1.1, hk.2⟩ | exact hk.1.1 | exact hk.1)⟩, ⟨by (with_reducible repeat (first | apply Kd.R_alloc | apply Kd.R_drewN | apply Kd.R_drew)); exact Kd.R_mono (Kd.R_far (p := ⟨gb128, 2, none⟩) (Kd.R_far (p := ⟨gb128, 1, none⟩) (Kd.R_far (p := ⟨gb128, 0, none⟩) (Kd.R_mono HO125.out (fun k_ hk => (⟨hk, hk.2⟩ : _ ∧ k_ ≠ gb128))) (fun _ hk => hk.2) (.int .i64 ((rd_T27 t120 (ji14)).f0))) (fun _ hk => hk.2) (.string ((rd_T27 t120 (ji14)).f1))) (fun _ hk => hk.2) (.int .i64 ((rd_T27 t120 (ji14)).f2))) (fun _ hk => by first | exact ⟨hk.1.1.2, hk.1.2⟩ | exact ⟨hk.1.1, hk.1.2⟩ | exact ⟨hk.1.1, hk.2⟩ | exact hk.1.1 | exact hk.1)⟩, ⟨by (with_reducible repeat (first | refine blk_drewN ?_ _ | refine blk_drew ?_ | refine blk_alloc ?_ _)); refine blk_put (cs := #[.int .i64 ((rd_T27 t120 (ji14)).f0), .string ((rd_T27 t120 (ji14)).f1), .int .i64 0]) ?_ 2 _ rfl; (with_reducible repeat (first | refine blk_drewN ?_ _ | refine blk_drew ?_ | refine blk_alloc ?_ _)); refine blk_put (cs := #[.int .i64 ((rd_T27 t120 (ji14)).f0), .string (⟨#[]⟩ : ByteArray), .int .i64 0]) ?_ 1 _ rfl; (with_reducible repeat (first | refine blk_drewN ?_ _ | refine blk_drew ?_ | refine blk_alloc ?_ _)); refine blk_put (cs := #[.int .i64 0, .string (⟨#[]⟩ : ByteArray), .int .i64 0]) ?_ 0 _ rfl; (with_reducible repeat (first | refine blk_drewN ?_ _ | refine blk_drew ?_ | refine blk_alloc ?_ _)); exact BK128.out⟩, ⟨by repeat (first | (with_reducible first | exact HB.out | apply below_alloc | apply pw_below_drewN | apply below_drew1 | refine below_set ?_ GE128.out) | exact HB.out)⟩⟩
                case round =>
                  clear H'
                  (try clear c1); (try clear p1); (try clear q1); (try clear hx1); (try clear c2); (try clear p2); (try clear c3); (try clear c4); (try clear c4b0); (try clear c4b1); (try clear p6); (try clear c7); (try clear c9); (try clear c9b0); (try clear c9b1); (try clear c9b2); (try clear c10); (try clear c11); (try clear p12); (try clear q12); (try clear hx12); (try clear c14); (try clear c15); (try clear c15b0); (try clear c16); (try clear c16b0); (try clear c24); (try clear c24b0); (try clear c24b1); (try clear hcz23_0); (try clear hcz23_1); (try clear hcz23_2); (try clear hcz25_0); (try clear hcz25_1); (try clear hcz25_2); (try clear hfz23_0); (try clear hfz23_1)
                  (try clear hfz23_2); (try clear hfz25_0); (try clear hfz25_1); (try clear hfz25_2); (try clear hx127_0); (try clear hx127_1); (try clear hx127_2); (try clear p127); (try clear q127); obtain ⟨x8_1, rfl, HA, HK1, HO_3, HO_4, BK128, HB⟩ := hrel
                  cases gk with
                  | zero => exact absurd HA.out (by simp [seichelaw11_GolexCovers.l0])
                  | succ k1 =>
                    have H := HA.out
                    clear HA
                    simp only [seichelaw11_GolexCovers.l0] at H
                    by_cases c26 : x8_1 < (wrap64 ((t120.length : Int) - 1))
                    · rw [if_pos c26] at H
                      have c26b0 : decide (x8_1 < (wrap64 ((t120.length : Int) - 1))) = true := decide_eq_true c26
                      rw [hji14] at c26b0
                      clear c26
                      by_cases c27 : 0 ≤ x8_1
                      · rw [if_pos c27] at H
                        have c27b0 : decide (0 ≤ x8_1) = true := decide_eq_true c27
                        clear c27
                        by_cases c28 : x8_1 < (t120.length : Int)
                        · rw [if_pos c28] at H
                          have c28b0 : decide (x8_1 < (t120.length : Int)) = true := decide_eq_true c28
                          clear c28
                          by_cases c29 : ((rd_T27 t120 x8_1).f2) > ((rd_T27 t120 (ji14)).f2)
                          · rw [if_pos c29] at H
                            exact absurd H (by simp)
                          · rw [if_neg c29] at H
                            have c29b0 : decide (((rd_T27 t120 (ji14)).f2) < ((rd_T27 t120 x8_1).f2)) = false := decide_eq_false c29
                            clear c29
                            have H' := Aside0.mk H
                            clear H
                            try go_wp2
                            have n0_ := Aside0.mk (Kd.R_drew HO_3.out)
                            have n1_ := Aside0.mk (Kd.R_drew HO_4.out)
                            have n2_ := Aside0.mk (blk_drew BK128.out)
                            have n3_ := Aside0.mk (below_drew1 HB.out)
                            clear HO_3; clear HO_4; clear BK128; clear HB
                            have HO_3 := n0_
                            have HO_4 := n1_
                            have BK128 := n2_
                            have HB := n3_
                            clear n0_ n1_ n2_ n3_
                            have p129 : 0 ≤ (x8_1 : Int) := of_decide_eq_true (by first | (with_reducible assumption) | assumption)
                            have q129 : x8_1 < (t120.length : Int) := of_decide_eq_true (by first | (with_reducible assumption) | assumption)
                            obtain ⟨ad129, e129, hx129_0, hx129_1, hx129_2⟩ := at_T27 (Kd.R_reads' HO_3.out).2.2 x8_1 p129 q129
                            obtain rfl : ad127 = ad129 := (by injection e129)
                            replace p129 := eq_true p129; replace q129 := eq_true q129
                            refine start_ (n := 8) (S := fun w' => w'.cell? ⟨gb128, 0, none⟩ = some (.int .i64 ((rd_T27 t120 (ji14)).f0)) ∧ w'.cell? ⟨gb128, 1, none⟩ = some (.string ((rd_T27 t120 (ji14)).f1)) ∧ w'.cell? ⟨gb128, 2, none⟩ = some (.int .i64 ((rd_T27 t120 (ji14)).f2)) ∧ w'.cell? (ad127.add ((x8_1).toNat * 3)) = some (.int .i64 ((rd_T27 t120 x8_1).f0)) ∧ w'.cell? ⟨(ad127.add ((x8_1).toNat * 3)).block, (ad127.add ((x8_1).toNat * 3)).off + 1, none⟩ = some (.string ((rd_T27 t120 x8_1).f1)) ∧ w'.cell? ⟨(ad127.add ((x8_1).toNat * 3)).block, (ad127.add ((x8_1).toNat * 3)).off + 2, none⟩ = some (.int .i64 ((rd_T27 t120 x8_1).f2))) (ds := []) #[false, false, false, false, false, false, false, false] (by kernel_rfl) rfl rfl ⟨(blk_cell BK128.out 0).trans rfl, (blk_cell BK128.out 1).trans rfl, (blk_cell BK128.out 2).trans rfl, hx129_0, hx129_1, hx129_2⟩ (fun hHeld => ?_); refine with_tabW seichelaw11_GolexCovers.tab16 seichelaw11_GolexCovers.bits16 (fun HT_ HW_ => ?_)
                            generalize wr.drew = w31 at HO_3 HO_4 BK128 HB hx129_0 hx129_1 hx129_2 hHeld ⊢
                            refine pure_ (i := 0) (N := some 46) (v := ?_) (a' := ?_) #[true, false, false, false, false, false, false, false] rfl rfl (any_of HT_.out (by kernel_rfl)) (fun _ _ _ h => h) (Or.inl ⟨by rfl, ?_⟩) ?_ ?_
                            rotate_left
                            · intro w'
                              go_simp
                              with_reducible rfl
                            rotate_left
                            · simp only [Act.put, List.setIfInBounds_toArray, List.set_cons_zero, List.set_cons_succ, i64_w, i32_w]
                              rfl
                            refine pure_ (i := 1) (N := some 47) (v := ?_) (a' := ?_) #[true, true, false, false, false, false, false, false] rfl rfl (any_of HT_.out (by kernel_rfl)) (fun _ _ _ h => h) (Or.inl ⟨by rfl, ?_⟩) ?_ ?_
                            rotate_left
                            · intro w'
                              go_simp
                              with_reducible rfl
                            rotate_left
                            · simp only [Act.put, List.setIfInBounds_toArray, List.set_cons_zero, List.set_cons_succ, i64_w, i32_w]
                              rfl
                            refine pure_ (i := 2) (N := some 48) (v := ?_) (a' := ?_) #[true, true, true, false, false, false, false, false] rfl rfl (any_of HT_.out (by kernel_rfl)) (fun _ _ _ h => h) (Or.inl ⟨by rfl, ?_⟩) ?_ ?_
                            rotate_left
                            · intro w'
                              go_simp
                              with_reducible rfl
                            rotate_left
                            · simp only [Act.put, List.setIfInBounds_toArray, List.set_cons_zero, List.set_cons_succ, i64_w, i32_w]
                              rfl
                            refine pure_ (i := 3) (N := some 49) (v := ?_) (a' := ?_) #[true, true, true, true, false, false, false, false] rfl rfl (any_of HT_.out (by kernel_rfl)) (fun _ _ _ h => h) (Or.inl ⟨by rfl, ?_⟩) ?_ ?_
                            rotate_left
                            · intro w'
                              go_simp
                              with_reducible rfl
                            rotate_left
                            · simp only [Act.put, List.setIfInBounds_toArray, List.set_cons_zero, List.set_cons_succ, i64_w, i32_w]
                              rfl
                            refine pure_ (i := 5) (N := some 51) (v := ?_) (a' := ?_) #[true, true, true, true, false, true, false, false] rfl rfl (any_of HT_.out (by kernel_rfl)) (fun _ _ _ h => h) (Or.inl ⟨by rfl, ?_⟩) ?_ ?_
                            rotate_left
                            · intro w'
                              go_simp
                              with_reducible rfl
                            rotate_left
                            · simp only [Act.put, List.setIfInBounds_toArray, List.set_cons_zero, List.set_cons_succ, i64_w, i32_w]
                              rfl
                            refine take_ (i := 4) (N := some 50) (v := ?_) (a' := ?_) #[true, true, true, true, true, true, false, false] rfl rfl (take_ofW HT_.out HW_.out (by kernel_rfl)) (fun _ _ _ h => h) (Or.inl ⟨by rfl, ?_⟩) hHeld ?_ ?_
                            rotate_left
                            · rintro w' ⟨s0, s1, s2, s3, s4, s5⟩
                              go_simp
                              with_reducible rfl
                            rotate_left
                            · simp only [Act.put, List.setIfInBounds_toArray, List.set_cons_zero, List.set_cons_succ, i64_w, i32_w]
                              rfl
                            refine take_ (i := 6) (N := some 52) (v := ?_) (a' := ?_) #[true, true, true, true, true, true, true, false] rfl rfl (take_ofW HT_.out HW_.out (by kernel_rfl)) (fun _ _ _ h => h) (Or.inl ⟨by rfl, ?_⟩) hHeld ?_ ?_
                            rotate_left
                            · rintro w' ⟨s0, s1, s2, s3, s4, s5⟩
                              go_simp
                              with_reducible rfl
                            rotate_left
                            · simp only [Act.put, List.setIfInBounds_toArray, List.set_cons_zero, List.set_cons_succ, i64_w, i32_w]
                              rfl
                            refine pure_ (i := 7) (N := some 53) (v := ?_) (a' := ?_) #[true, true, true, true, true, true, true, true] rfl rfl (any_of HT_.out (by kernel_rfl)) (fun _ _ _ h => h) (Or.inl ⟨by rfl, ?_⟩) ?_ ?_
                            rotate_left
                            · intro w'
                              go_simp
                              with_reducible rfl
                            rotate_left
                            · simp only [Act.put, List.setIfInBounds_toArray, List.set_cons_zero, List.set_cons_succ, i64_w, i32_w]
                              rfl
                            refine done_ (done_of HT_.out (by kernel_rfl)) ?_
                            try go_wp2
                            go_roundg k1
                            case measure => have := HK1.out; omega
                            case rel => exact ⟨(wrap64 (x8_1 + 1)), (by first | rfl | (simp; done) | (simp [*]; done)), H', ⟨by have := HK1.out; omega⟩, ⟨by (with_reducible repeat (first | apply Kd.R_alloc | apply Kd.R_drewN | apply Kd.R_drew)); exact HO_3.out⟩, ⟨by (with_reducible repeat (first | apply Kd.R_alloc | apply Kd.R_drewN | apply Kd.R_drew)); exact HO_4.out⟩, ⟨by (with_reducible repeat (first | refine blk_drewN ?_ _ | refine blk_drew ?_ | refine blk_alloc ?_ _)); exact BK128.out⟩, ⟨by repeat (first | (with_reducible first | exact HB.out | apply below_alloc | apply pw_below_drewN | apply below_drew1 | refine below_set ?_ GE128.out) | exact HB.out)⟩⟩
                        · rw [if_neg c28] at H
                          exact absurd H (by simp)
                      · rw [if_neg c27] at H
                        exact absurd H (by simp)
                    · rw [if_neg c26] at H
                      have c26b0 : decide (x8_1 < (wrap64 ((t120.length : Int) - 1))) = false := decide_eq_false c26
                      rw [hji14] at c26b0
                      clear c26
                      have H' := Aside0.mk H
                      clear H
                      go_wp2
                      go_meet
                      case rel => exact ⟨_, (((rd_T27 t120 (ji14)).f2)), (by first | rfl | (simp; done) | (simp only [← hji14] <;> (first | rfl | simp)) | (simp [*]; done)), H', ⟨by have := HK1.out; first | omega | exact Nat.le_refl _⟩, ⟨by (with_reducible repeat (first | apply Kd.R_alloc | apply Kd.R_drewN | apply Kd.R_drew)); exact HO_3.out⟩, ⟨by (with_reducible repeat (first | apply Kd.R_alloc | apply Kd.R_drewN | apply Kd.R_drew)); exact HO_4.out⟩, ⟨by (with_reducible repeat (first | refine blk_drewN ?_ _ | refine blk_drew ?_ | refine blk_alloc ?_ _)); exact BK128.out⟩, ⟨by repeat (first | (with_reducible first | exact HB.out | apply below_alloc | apply pw_below_drewN | apply below_drew1 | refine below_set ?_ GE128.out) | exact HB.out)⟩⟩
              · rw [if_neg c24] at H
                have c24b0 : (((rd_T27 t120 (ji14)).f0) == 7) = false := beq_eq_false_iff_ne.mpr c24
                have c24b1 : (((rd_T27 t120 (ji14)).f0) != 7) = true := bne_iff_ne.mpr c24
                (first | rw [c24b0] | (simp only [i64_w, i32_w]; rw [c24b0]) | skip)
                by_cases c32 : ((rd_T27 t120 (ji14)).f0) = 0
                · rw [if_pos c32] at H
                  have c32b0 : (((rd_T27 t120 (ji14)).f0) == 0) = true := beq_iff_eq.mpr c32
                  have c32b1 : (((rd_T27 t120 (ji14)).f0) != 0) = false := bne_eq_false_iff_eq.mpr c32
                  clear c32
                  by_cases c33 : ((rd_T27 t120 (ji14)).f2) = (a0.size : Int)
                  · rw [if_pos c33] at H
                    have c33b0 : (((rd_T27 t120 (ji14)).f2) == (a0.size : Int)) = true := beq_iff_eq.mpr c33
                    have c33b1 : (((rd_T27 t120 (ji14)).f2) != (a0.size : Int)) = false := bne_eq_false_iff_eq.mpr c33
                    clear c33
                    have H' := Aside0.mk H
                    clear H
                    have hcz34_0 : w22.cell? ⟨gb128, 0, none⟩ = some (.int .i64 0) := (blk_cell BK128.out 0).trans rfl
                    have hcz34_1 : w22.cell? ⟨gb128, 1, none⟩ = some (.string (⟨#[]⟩ : ByteArray)) := (blk_cell BK128.out 1).trans rfl
                    have hcz34_2 : w22.cell? ⟨gb128, 2, none⟩ = some (.int .i64 0) := (blk_cell BK128.out 2).trans rfl
                    have hfz34_0 := blk_frozen BK128.out 0; have hfz34_1 := blk_frozen BK128.out 1; have hfz34_2 := blk_frozen BK128.out 2
                    go_wp2
                    go_meet
                    case rel => exact ⟨_, ((a0.size : Int)), (by first | rfl | (simp; done) | (simp [*]; done)), H', ⟨by first | omega | exact Nat.le_refl _⟩, ⟨by (with_reducible repeat (first | apply Kd.R_alloc | apply Kd.R_drewN | apply Kd.R_drew)); exact Kd.R_mono (Kd.R_far (p := ⟨gb128, 2, none⟩) (Kd.R_far (p := ⟨gb128, 1, none⟩) (Kd.R_far (p := ⟨gb128, 0, none⟩) (Kd.R_mono HO122.out (fun k_ hk => (⟨hk, hk.2⟩ : _ ∧ k_ ≠ gb128))) (fun _ hk => hk.2) (.int .i64 ((rd_T27 t120 (ji14)).f0))) (fun _ hk => hk.2) (.string ((rd_T27 t120 (ji14)).f1))) (fun _ hk => hk.2) (.int .i64 ((rd_T27 t120 (ji14)).f2))) (fun _ hk => by first | exact ⟨hk.1.1.2, hk.1.2⟩ | exact ⟨hk.1.1, hk.1.2⟩ | exact ⟨hk.1.1, hk.2⟩ | exact hk.1.1 | exact hk.1)⟩, ⟨by (with_reducible repeat (first | apply Kd.R_alloc | apply Kd.R_drewN | apply Kd.R_drew)); exact Kd.R_mono (Kd.R_far (p := ⟨gb128, 2, none⟩) (Kd.R_far (p := ⟨gb128, 1, none⟩) (Kd.R_far (p := ⟨gb128, 0, none⟩) (Kd.R_mono HO125.out (fun k_ hk => (⟨hk, hk.2⟩ : _ ∧ k_ ≠ gb128))) (fun _ hk => hk.2) (.int .i64 ((rd_T27 t120 (ji14)).f0))) (fun _ hk => hk.2) (.string ((rd_T27 t120 (ji14)).f1))) (fun _ hk => hk.2) (.int .i64 ((rd_T27 t120 (ji14)).f2))) (fun _ hk => by first | exact ⟨hk.1.1.2, hk.1.2⟩ | exact ⟨hk.1.1, hk.1.2⟩ | exact ⟨hk.1.1, hk.2⟩ | exact hk.1.1 | exact hk.1)⟩, ⟨by (with_reducible repeat (first | refine blk_drewN ?_ _ | refine blk_drew ?_ | refine blk_alloc ?_ _)); refine blk_put (cs := #[.int .i64 ((rd_T27 t120 (ji14)).f0), .string ((rd_T27 t120 (ji14)).f1), .int .i64 0]) ?_ 2 _ rfl; (with_reducible repeat (first | refine blk_drewN ?_ _ | refine blk_drew ?_ | refine blk_alloc ?_ _)); refine blk_put (cs := #[.int .i64 ((rd_T27 t120 (ji14)).f0), .string (⟨#[]⟩ : ByteArray), .int .i64 0]) ?_ 1 _ rfl; (with_reducible repeat (first | refine blk_drewN ?_ _ | refine blk_drew ?_ | refine blk_alloc ?_ _)); refine blk_put (cs := #[.int .i64 0, .string (⟨#[]⟩ : ByteArray), .int .i64 0]) ?_ 0 _ rfl; (with_reducible repeat (first | refine blk_drewN ?_ _ | refine blk_drew ?_ | refine blk_alloc ?_ _)); exact BK128.out⟩, ⟨by repeat (first | (with_reducible first | exact HB.out | apply below_alloc | apply pw_below_drewN | apply below_drew1 | refine below_set ?_ GE128.out) | exact HB.out)⟩⟩
                  · rw [if_neg c33] at H
                    exact absurd H (by simp)
                · rw [if_neg c32] at H
                  exact absurd H (by simp)
            case rest =>
              clear HC17; (try clear c1); (try clear p1); (try clear q1); (try clear hx1); (try clear c2); (try clear p2); (try clear c3); (try clear c4); (try clear c4b0); (try clear c4b1); (try clear p6); (try clear c7); (try clear c9); (try clear c9b0); (try clear c9b1); (try clear c9b2); (try clear c10); (try clear c11); (try clear p12); (try clear q12); (try clear hx12); (try clear c14); (try clear c15); (try clear c15b0); (try clear c16); (try clear c16b0); (try clear c24); (try clear c24b0); (try clear c24b1); (try clear c26); (try clear c26b0); (try clear c27); (try clear c27b0); (try clear c28); (try clear c28b0); (try clear c29); (try clear c29b0); (try clear c32)
              (try clear c32b0); (try clear c32b1); (try clear c33); (try clear c33b0); (try clear c33b1); (try clear hcz23_0); (try clear hcz23_1); (try clear hcz23_2); (try clear hcz25_0); (try clear hcz25_1); (try clear hcz25_2); (try clear hcz34_0); (try clear hcz34_1); (try clear hcz34_2); (try clear hcz35_0); (try clear hcz35_1); (try clear hcz35_2); (try clear hcz36_0); (try clear hcz36_1); (try clear hcz36_2); (try clear hfz23_0); (try clear hfz23_1); (try clear hfz23_2); (try clear hfz25_0); (try clear hfz25_1); (try clear hfz25_2); (try clear hfz34_0); (try clear hfz34_1); (try clear hfz34_2); (try clear hfz35_0); (try clear hfz35_1); (try clear hfz35_2)
              (try clear hfz36_0); (try clear hfz36_1); (try clear hfz36_2); (try clear hx127_0); (try clear hx127_1); (try clear hx127_2); (try clear hx129_0); (try clear hx129_1); (try clear hx129_2); (try clear p1); (try clear p12); (try clear p127); (try clear p129); (try clear p2); (try clear p6); (try clear q1); (try clear q12); (try clear q127); (try clear q129); obtain ⟨kq, x6_16, rfl, HA, HJ16, HO_3, HO_4, BK128, HB⟩ := hcut
              cases kq with
              | zero => exact absurd HA.out (by simp [seichelaw11_GolexCovers.j1])
              | succ kj16 =>
                have H := HA.out
                clear HA
                simp only [seichelaw11_GolexCovers.j1] at H
                have H' := Aside0.mk H
                clear H
                go_wp2
                go_loopg [5, 9, 10] kj16 (fun kq v5 v9 v10 w' => ∃ (x5_2 : Int) (x9_2 : Int) (x10_2 : Int), v5 = .int .i64 x5_2 ∧ v9 = .int .i64 x9_2 ∧ v10 = .int .i64 x10_2 ∧ Aside0 (seichelaw11_GolexCovers.l1 kq a0 t120 t123 x5_2 x6_16 x9_2 x10_2 = some r) ∧ Aside0 (kq ≤ kj16) ∧ Aside0 (Kd.R k27 27 w' w.heap.size (fun k_ => some k_ ≠ (v124 : Value).ownBlock ∧ k_ ≠ gb128) (.slice (some ad127) t120.length co21) t120) ∧ Aside0 (Kd.R k27 27 w' w.heap.size (fun k_ => some k_ ≠ ((.slice (some ad127) t120.length co21) : Value).ownBlock ∧ k_ ≠ gb128) v124 t123) ∧ Aside0 (w'.heap[gb128]? = some (.cells #[.int .i64 ((rd_T27 t120 (ji14)).f0), .string ((rd_T27 t120 (ji14)).f1), .int .i64 ((rd_T27 t120 (ji14)).f2)] 27 (0, 0))) ∧ Aside0 (Below w.heap.size w w'))
                case atStart => exact ⟨(t126), (0), (0), (by first | rfl | (simp; done) | (simp [*]; done)), (by first | rfl | (simp; done) | (simp [*]; done)), (by first | rfl | (simp; done) | (simp [*]; done)), H', ⟨Nat.le_refl _⟩, ⟨by (with_reducible repeat (first | apply Kd.R_alloc | apply Kd.R_drewN | apply Kd.R_drew)); exact HO_3.out⟩, ⟨by (with_reducible repeat (first | apply Kd.R_alloc | apply Kd.R_drewN | apply Kd.R_drew)); exact HO_4.out⟩, ⟨by (with_reducible repeat (first | refine blk_drewN ?_ _ | refine blk_drew ?_ | refine blk_alloc ?_ _)); exact BK128.out⟩, ⟨by repeat (first | (with_reducible first | exact HB.out | apply below_alloc | apply pw_below_drewN | apply below_drew1 | refine below_set ?_ GE128.out) | exact HB.out)⟩⟩
                case round =>
                  clear H'
                  (try clear c1); (try clear p1); (try clear q1); (try clear hx1); (try clear c2); (try clear p2); (try clear c3); (try clear c4); (try clear c4b0); (try clear c4b1); (try clear p6); (try clear c7); (try clear c9); (try clear c9b0); (try clear c9b1); (try clear c9b2); (try clear c10); (try clear c11); (try clear p12); (try clear q12); (try clear hx12); (try clear c14); (try clear c15); (try clear c15b0); (try clear c16); (try clear c16b0); (try clear c24); (try clear c24b0); (try clear c24b1); (try clear c26); (try clear c26b0); (try clear c27); (try clear c27b0); (try clear c28); (try clear c28b0); (try clear c29); (try clear c29b0); (try clear c32); (try clear c32b0)
                  (try clear c32b1); (try clear c33); (try clear c33b0); (try clear c33b1); (try clear hcz23_0); (try clear hcz23_1); (try clear hcz23_2); (try clear hcz25_0); (try clear hcz25_1); (try clear hcz25_2); (try clear hcz34_0); (try clear hcz34_1); (try clear hcz34_2); (try clear hcz35_0); (try clear hcz35_1); (try clear hcz35_2); (try clear hcz36_0); (try clear hcz36_1); (try clear hcz36_2); (try clear hfz23_0); (try clear hfz23_1); (try clear hfz23_2); (try clear hfz25_0); (try clear hfz25_1); (try clear hfz25_2); (try clear hfz34_0); (try clear hfz34_1); (try clear hfz34_2); (try clear hfz35_0); (try clear hfz35_1); (try clear hfz35_2); (try clear hfz36_0)
                  (try clear hfz36_1); (try clear hfz36_2); (try clear hx127_0); (try clear hx127_1); (try clear hx127_2); (try clear hx129_0); (try clear hx129_1); (try clear hx129_2); (try clear p1); (try clear p12); (try clear p127); (try clear p129); (try clear p2); (try clear p6); (try clear q1); (try clear q12); (try clear q127); (try clear q129); obtain ⟨x5_2, x9_2, x10_2, rfl, rfl, rfl, HA, HK2, HO_3, HO_4, BK128, HB⟩ := hrel
                  cases gk with
                  | zero => exact absurd HA.out (by simp [seichelaw11_GolexCovers.l1])
                  | succ k2 =>
                    have H := HA.out
                    clear HA
                    simp only [seichelaw11_GolexCovers.l1] at H
                    have HC37 := Aside0.mk H; clear H
                    go_upto_region 21 with (fail)
                    go_cut [73] (fun v73 wc => ∃ (kq : Nat) (x73_36 : Bool), v73 = .bool x73_36 ∧ Aside0 (seichelaw11_GolexCovers.j3 kq a0 t120 t123 x5_2 x6_16 x9_2 x10_2 x73_36 = some r) ∧ Aside0 (kq ≤ k2) ∧ Aside0 (Kd.R k27 27 wc w.heap.size (fun k_ => some k_ ≠ (v124 : Value).ownBlock ∧ k_ ≠ gb128) (.slice (some ad127) t120.length co21) t120) ∧ Aside0 (Kd.R k27 27 wc w.heap.size (fun k_ => some k_ ≠ ((.slice (some ad127) t120.length co21) : Value).ownBlock ∧ k_ ≠ gb128) v124 t123) ∧ Aside0 (wc.heap[gb128]? = some (.cells #[.int .i64 ((rd_T27 t120 (ji14)).f0), .string ((rd_T27 t120 (ji14)).f1), .int .i64 ((rd_T27 t120 (ji14)).f2)] 27 (0, 0))) ∧ Aside0 (Below w.heap.size w wc))
                    case first =>
                      have H := HC37.out
                      clear HC37
                      by_cases c38 : x9_2 < (t120.length : Int)
                      · rw [if_pos c38] at H
                        have c38b0 : decide (x9_2 < (t120.length : Int)) = true := decide_eq_true c38
                        clear c38
                        (first | rw [c38b0] | (simp only [i64_w, i32_w]; rw [c38b0]) | skip)
                        have H' := Aside0.mk H
                        clear H
                        go_wp2
                        go_meet
                        case rel => exact ⟨_, (true), (by first | rfl | (simp; done) | (simp [*]; done)), H', ⟨by have := HJ16.out; have := HK2.out; first | omega | exact Nat.le_refl _⟩, ⟨by (with_reducible repeat (first | apply Kd.R_alloc | apply Kd.R_drewN | apply Kd.R_drew)); exact HO_3.out⟩, ⟨by (with_reducible repeat (first | apply Kd.R_alloc | apply Kd.R_drewN | apply Kd.R_drew)); exact HO_4.out⟩, ⟨by (with_reducible repeat (first | refine blk_drewN ?_ _ | refine blk_drew ?_ | refine blk_alloc ?_ _)); exact BK128.out⟩, ⟨by repeat (first | (with_reducible first | exact HB.out | apply below_alloc | apply pw_below_drewN | apply below_drew1 | refine below_set ?_ GE128.out) | exact HB.out)⟩⟩
                      · rw [if_neg c38] at H
                        have c38b0 : decide (x9_2 < (t120.length : Int)) = false := decide_eq_false c38
                        clear c38
                        (first | rw [c38b0] | (simp only [i64_w, i32_w]; rw [c38b0]) | skip)
                        have H' := Aside0.mk H
                        clear H
                        obtain ⟨Ao39, co39, eo39⟩ := Kd.R_slice HO_4.out
                        subst eo39
                        go_wp2
                        go_meet
                        case rel => exact ⟨_, (decide (x10_2 < (t123.length : Int))), (by first | rfl | (simp; done) | (simp [*]; done)), H', ⟨by have := HJ16.out; have := HK2.out; first | omega | exact Nat.le_refl _⟩, ⟨by (with_reducible repeat (first | apply Kd.R_alloc | apply Kd.R_drewN | apply Kd.R_drew)); exact HO_3.out⟩, ⟨by (with_reducible repeat (first | apply Kd.R_alloc | apply Kd.R_drewN | apply Kd.R_drew)); exact HO_4.out⟩, ⟨by (with_reducible repeat (first | refine blk_drewN ?_ _ | refine blk_drew ?_ | refine blk_alloc ?_ _)); exact BK128.out⟩, ⟨by repeat (first | (with_reducible first | exact HB.out | apply below_alloc | apply pw_below_drewN | apply below_drew1 | refine below_set ?_ GE128.out) | exact HB.out)⟩⟩
                    case rest =>
                      clear HC37; (try clear c1); (try clear p1); (try clear q1); (try clear hx1); (try clear c2); (try clear p2); (try clear c3); (try clear c4); (try clear c4b0); (try clear c4b1); (try clear p6); (try clear c7); (try clear c9); (try clear c9b0); (try clear c9b1); (try clear c9b2); (try clear c10); (try clear c11); (try clear p12); (try clear q12); (try clear hx12); (try clear c14); (try clear c15); (try clear c15b0); (try clear c16); (try clear c16b0); (try clear c24); (try clear c24b0); (try clear c24b1); (try clear c26); (try clear c26b0); (try clear c27); (try clear c27b0); (try clear c28); (try clear c28b0); (try clear c29); (try clear c29b0); (try clear c32)
                      (try clear c32b0); (try clear c32b1); (try clear c33); (try clear c33b0); (try clear c33b1); (try clear c38); (try clear c38b0); (try clear hcz23_0); (try clear hcz23_1); (try clear hcz23_2); (try clear hcz25_0); (try clear hcz25_1); (try clear hcz25_2); (try clear hcz34_0); (try clear hcz34_1); (try clear hcz34_2); (try clear hcz35_0); (try clear hcz35_1); (try clear hcz35_2); (try clear hcz36_0); (try clear hcz36_1); (try clear hcz36_2); (try clear hfz23_0); (try clear hfz23_1); (try clear hfz23_2); (try clear hfz25_0); (try clear hfz25_1); (try clear hfz25_2); (try clear hfz34_0); (try clear hfz34_1); (try clear hfz34_2); (try clear hfz35_0)
                      (try clear hfz35_1); (try clear hfz35_2); (try clear hfz36_0); (try clear hfz36_1); (try clear hfz36_2); (try clear hx127_0); (try clear hx127_1); (try clear hx127_2); (try clear hx129_0); (try clear hx129_1); (try clear hx129_2); (try clear p1); (try clear p12); (try clear p127); (try clear p129); (try clear p2); (try clear p6); (try clear q1); (try clear q12); (try clear q127); (try clear q129); obtain ⟨kq, x73_36, rfl, HA, HJ36, HO_3, HO_4, BK128, HB⟩ := hcut
                      cases kq with
                      | zero => exact absurd HA.out (by simp [seichelaw11_GolexCovers.j3])
                      | succ kj36 =>
                        have H := HA.out
                        clear HA
                        simp only [seichelaw11_GolexCovers.j3] at H
                        by_cases c40 : x73_36 = true
                        · subst c40
                          have H1 : (seichelaw11_GolexCovers.l2 kj36 a0 t120 t123 x5_2 x6_16 x9_2 x10_2) = some r := by rw [if_pos rfl] at H; exact H
                          clear H
                          have H := H1
                          clear H1; have HC41 := Aside0.mk H; clear H
                          go_upto_block 4 with (fail)
                          go_cut [9] (fun v9 wc => ∃ (kq : Nat) (x9_40 : Int), v9 = .int .i64 x9_40 ∧ Aside0 (seichelaw11_GolexCovers.j5 kq a0 t120 t123 x5_2 x6_16 x9_40 x10_2 = some r) ∧ Aside0 (kq ≤ kj36) ∧ Aside0 (Kd.R k27 27 wc w.heap.size (fun k_ => some k_ ≠ (v124 : Value).ownBlock ∧ k_ ≠ gb128) (.slice (some ad127) t120.length co21) t120) ∧ Aside0 (Kd.R k27 27 wc w.heap.size (fun k_ => some k_ ≠ ((.slice (some ad127) t120.length co21) : Value).ownBlock ∧ k_ ≠ gb128) v124 t123) ∧ Aside0 (wc.heap[gb128]? = some (.cells #[.int .i64 ((rd_T27 t120 (ji14)).f0), .string ((rd_T27 t120 (ji14)).f1), .int .i64 ((rd_T27 t120 (ji14)).f2)] 27 (0, 0))) ∧ Aside0 (Below w.heap.size w wc))
                          case first =>
                            have H := HC41.out
                            clear HC41
                            have H' := Aside0.mk H
                            clear H
                            go_wp2
                            go_loopg [9] kj36 (fun kq v9 w' => ∃ (x9_4 : Int), v9 = .int .i64 x9_4 ∧ Aside0 (seichelaw11_GolexCovers.l2 kq a0 t120 t123 x5_2 x6_16 x9_4 x10_2 = some r) ∧ Aside0 (kq ≤ kj36) ∧ Aside0 (Kd.R k27 27 w' w.heap.size (fun k_ => some k_ ≠ (v124 : Value).ownBlock ∧ k_ ≠ gb128) (.slice (some ad127) t120.length co21) t120) ∧ Aside0 (Kd.R k27 27 w' w.heap.size (fun k_ => some k_ ≠ ((.slice (some ad127) t120.length co21) : Value).ownBlock ∧ k_ ≠ gb128) v124 t123) ∧ Aside0 (w'.heap[gb128]? = some (.cells #[.int .i64 ((rd_T27 t120 (ji14)).f0), .string ((rd_T27 t120 (ji14)).f1), .int .i64 ((rd_T27 t120 (ji14)).f2)] 27 (0, 0))) ∧ Aside0 (Below w.heap.size w w'))
                            case atStart => exact ⟨(x9_2), (by first | rfl | (simp; done) | (simp [*]; done)), H', ⟨Nat.le_refl _⟩, ⟨by (with_reducible repeat (first | apply Kd.R_alloc | apply Kd.R_drewN | apply Kd.R_drew)); exact HO_3.out⟩, ⟨by (with_reducible repeat (first | apply Kd.R_alloc | apply Kd.R_drewN | apply Kd.R_drew)); exact HO_4.out⟩, ⟨by (with_reducible repeat (first | refine blk_drewN ?_ _ | refine blk_drew ?_ | refine blk_alloc ?_ _)); exact BK128.out⟩, ⟨by repeat (first | (with_reducible first | exact HB.out | apply below_alloc | apply pw_below_drewN | apply below_drew1 | refine below_set ?_ GE128.out) | exact HB.out)⟩⟩
                            case round =>
                              clear H'
                              (try clear c1); (try clear p1); (try clear q1); (try clear hx1); (try clear c2); (try clear p2); (try clear c3); (try clear c4); (try clear c4b0); (try clear c4b1); (try clear p6); (try clear c7); (try clear c9); (try clear c9b0); (try clear c9b1); (try clear c9b2); (try clear c10); (try clear c11); (try clear p12); (try clear q12); (try clear hx12); (try clear c14); (try clear c15); (try clear c15b0); (try clear c16); (try clear c16b0); (try clear c24); (try clear c24b0); (try clear c24b1); (try clear c26); (try clear c26b0); (try clear c27); (try clear c27b0); (try clear c28); (try clear c28b0); (try clear c29); (try clear c29b0); (try clear c32)
                              (try clear c32b0); (try clear c32b1); (try clear c33); (try clear c33b0); (try clear c33b1); (try clear c38); (try clear c38b0); (try clear c40); (try clear hcz23_0); (try clear hcz23_1); (try clear hcz23_2); (try clear hcz25_0); (try clear hcz25_1); (try clear hcz25_2); (try clear hcz34_0); (try clear hcz34_1); (try clear hcz34_2); (try clear hcz35_0); (try clear hcz35_1); (try clear hcz35_2); (try clear hcz36_0); (try clear hcz36_1); (try clear hcz36_2); (try clear hfz23_0); (try clear hfz23_1); (try clear hfz23_2); (try clear hfz25_0); (try clear hfz25_1); (try clear hfz25_2); (try clear hfz34_0); (try clear hfz34_1); (try clear hfz34_2)
                              (try clear hfz35_0); (try clear hfz35_1); (try clear hfz35_2); (try clear hfz36_0); (try clear hfz36_1); (try clear hfz36_2); (try clear hx127_0); (try clear hx127_1); (try clear hx127_2); (try clear hx129_0); (try clear hx129_1); (try clear hx129_2); (try clear p1); (try clear p12); (try clear p127); (try clear p129); (try clear p2); (try clear p6); (try clear q1); (try clear q12); (try clear q127); (try clear q129); obtain ⟨x9_4, rfl, HA, HK4, HO_3, HO_4, BK128, HB⟩ := hrel
                              cases gk with
                              | zero => exact absurd HA.out (by simp [seichelaw11_GolexCovers.l2])
                              | succ k4 =>
                                have H := HA.out
                                clear HA
                                simp only [seichelaw11_GolexCovers.l2] at H
                                by_cases c42 : x9_4 < (t120.length : Int)
                                · rw [if_pos c42] at H
                                  have c42b0 : decide (x9_4 < (t120.length : Int)) = true := decide_eq_true c42
                                  clear c42
                                  (first | rw [c42b0] | (simp only [i64_w, i32_w]; rw [c42b0]) | skip)
                                  by_cases c43 : 0 ≤ x9_4
                                  · rw [if_pos c43] at H
                                    have c43b0 : decide (0 ≤ x9_4) = true := decide_eq_true c43
                                    clear c43
                                    by_cases c44 : ((rd_T27 t120 x9_4).f1).toList = ([] : List UInt8)
                                    · rw [if_pos c44] at H
                                      have c44b0 : (((rd_T27 t120 x9_4).f1).toList == ([] : List UInt8)) = true := beq_iff_eq.mpr c44
                                      have c44b1 : (((rd_T27 t120 x9_4).f1).toList != ([] : List UInt8)) = false := bne_eq_false_iff_eq.mpr c44
                                      clear c44
                                      have H' := Aside0.mk H
                                      clear H
                                      have p132 : 0 ≤ (x9_4 : Int) := of_decide_eq_true (by first | (with_reducible assumption) | assumption)
                                      have q132 : x9_4 < (t120.length : Int) := of_decide_eq_true (by first | (with_reducible assumption) | assumption)
                                      obtain ⟨ad132, e132, hx132_0, hx132_1, hx132_2⟩ := at_T27 (Kd.R_reads' HO_3.out).2.2 x9_4 p132 q132
                                      obtain rfl : ad127 = ad132 := (by injection e132)
                                      replace p132 := eq_true p132; replace q132 := eq_true q132
                                      go_wp2
                                      go_roundg k4
                                      case measure => have := HJ16.out; have := HK2.out; have := HJ36.out; have := HK4.out; omega
                                      case rel => exact ⟨(wrap64 (x9_4 + 1)), (by first | rfl | (simp; done) | (simp [*]; done)), H', ⟨by have := HJ16.out; have := HK2.out; have := HJ36.out; have := HK4.out; omega⟩, ⟨by (with_reducible repeat (first | apply Kd.R_alloc | apply Kd.R_drewN | apply Kd.R_drew)); exact HO_3.out⟩, ⟨by (with_reducible repeat (first | apply Kd.R_alloc | apply Kd.R_drewN | apply Kd.R_drew)); exact HO_4.out⟩, ⟨by (with_reducible repeat (first | refine blk_drewN ?_ _ | refine blk_drew ?_ | refine blk_alloc ?_ _)); exact BK128.out⟩, ⟨by repeat (first | (with_reducible first | exact HB.out | apply below_alloc | apply pw_below_drewN | apply below_drew1 | refine below_set ?_ GE128.out) | exact HB.out)⟩⟩
                                    · rw [if_neg c44] at H
                                      have c44b0 : (((rd_T27 t120 x9_4).f1).toList == ([] : List UInt8)) = false := beq_eq_false_iff_ne.mpr c44
                                      have c44b1 : (((rd_T27 t120 x9_4).f1).toList != ([] : List UInt8)) = true := bne_iff_ne.mpr c44
                                      have H' := Aside0.mk H
                                      clear H
                                      have p132 : 0 ≤ (x9_4 : Int) := of_decide_eq_true (by first | (with_reducible assumption) | assumption)
                                      have q132 : x9_4 < (t120.length : Int) := of_decide_eq_true (by first | (with_reducible assumption) | assumption)
                                      obtain ⟨ad132, e132, hx132_0, hx132_1, hx132_2⟩ := at_T27 (Kd.R_reads' HO_3.out).2.2 x9_4 p132 q132
                                      obtain rfl : ad127 = ad132 := (by injection e132)
                                      replace p132 := eq_true p132; replace q132 := eq_true q132
                                      go_wp2
                                      go_meet
                                      case rel => exact ⟨_, (x9_4), (by first | rfl | (simp; done) | (simp [*]; done)), H', ⟨by have := HJ16.out; have := HK2.out; have := HJ36.out; have := HK4.out; first | omega | exact Nat.le_refl _⟩, ⟨by (with_reducible repeat (first | apply Kd.R_alloc | apply Kd.R_drewN | apply Kd.R_drew)); exact HO_3.out⟩, ⟨by (with_reducible repeat (first | apply Kd.R_alloc | apply Kd.R_drewN | apply Kd.R_drew)); exact HO_4.out⟩, ⟨by (with_reducible repeat (first | refine blk_drewN ?_ _ | refine blk_drew ?_ | refine blk_alloc ?_ _)); exact BK128.out⟩, ⟨by repeat (first | (with_reducible first | exact HB.out | apply below_alloc | apply pw_below_drewN | apply below_drew1 | refine below_set ?_ GE128.out) | exact HB.out)⟩⟩
                                  · rw [if_neg c43] at H
                                    exact absurd H (by simp)
                                · rw [if_neg c42] at H
                                  have c42b0 : decide (x9_4 < (t120.length : Int)) = false := decide_eq_false c42
                                  clear c42
                                  (first | rw [c42b0] | (simp only [i64_w, i32_w]; rw [c42b0]) | skip)
                                  have H' := Aside0.mk H
                                  clear H
                                  go_wp2
                                  go_meet
                                  case rel => exact ⟨_, (x9_4), (by first | rfl | (simp; done) | (simp [*]; done)), H', ⟨by have := HJ16.out; have := HK2.out; have := HJ36.out; have := HK4.out; first | omega | exact Nat.le_refl _⟩, ⟨by (with_reducible repeat (first | apply Kd.R_alloc | apply Kd.R_drewN | apply Kd.R_drew)); exact HO_3.out⟩, ⟨by (with_reducible repeat (first | apply Kd.R_alloc | apply Kd.R_drewN | apply Kd.R_drew)); exact HO_4.out⟩, ⟨by (with_reducible repeat (first | refine blk_drewN ?_ _ | refine blk_drew ?_ | refine blk_alloc ?_ _)); exact BK128.out⟩, ⟨by repeat (first | (with_reducible first | exact HB.out | apply below_alloc | apply pw_below_drewN | apply below_drew1 | refine below_set ?_ GE128.out) | exact HB.out)⟩⟩
                          case rest =>
                            clear HC41; (try clear c1); (try clear p1); (try clear q1); (try clear hx1); (try clear c2); (try clear p2); (try clear c3); (try clear c4); (try clear c4b0); (try clear c4b1); (try clear p6); (try clear c7); (try clear c9); (try clear c9b0); (try clear c9b1); (try clear c9b2); (try clear c10); (try clear c11); (try clear p12); (try clear q12); (try clear hx12); (try clear p13); (try clear q13); (try clear hx13); (try clear c14); (try clear c15); (try clear c15b0); (try clear c16); (try clear c16b0); (try clear c24); (try clear c24b0); (try clear c24b1); (try clear c26); (try clear c26b0); (try clear c27); (try clear c27b0); (try clear c28)
                            (try clear c28b0); (try clear c29); (try clear c29b0); (try clear c32); (try clear c32b0); (try clear c32b1); (try clear c33); (try clear c33b0); (try clear c33b1); (try clear c38); (try clear c38b0); (try clear c40); (try clear c42); (try clear c42b0); (try clear c43); (try clear c43b0); (try clear c44); (try clear c44b0); (try clear c44b1); (try clear hcz23_0); (try clear hcz23_1); (try clear hcz23_2); (try clear hcz25_0); (try clear hcz25_1); (try clear hcz25_2); (try clear hcz34_0); (try clear hcz34_1); (try clear hcz34_2); (try clear hcz35_0); (try clear hcz35_1); (try clear hcz35_2); (try clear hcz36_0); (try clear hcz36_1); (try clear hcz36_2)
                            (try clear hfz23_0); (try clear hfz23_1); (try clear hfz23_2); (try clear hfz25_0); (try clear hfz25_1); (try clear hfz25_2); (try clear hfz34_0); (try clear hfz34_1); (try clear hfz34_2); (try clear hfz35_0); (try clear hfz35_1); (try clear hfz35_2); (try clear hfz36_0); (try clear hfz36_1); (try clear hfz36_2); (try clear hx127_0); (try clear hx127_1); (try clear hx127_2); (try clear hx129_0); (try clear hx129_1); (try clear hx129_2); (try clear hx132_0); (try clear hx132_1); (try clear hx132_2); (try clear p1); (try clear p12); (try clear p127); (try clear p129); (try clear p132); (try clear p2); (try clear p6); (try clear q1)
                            (try clear q12); (try clear q127); (try clear q129); (try clear q132); obtain ⟨kq, x9_40, rfl, HA, HJ40, HO_3, HO_4, BK128, HB⟩ := hcut
                            cases kq with
                            | zero => exact absurd HA.out (by simp [seichelaw11_GolexCovers.j5])
                            | succ kj40 =>
                              have H := HA.out
                              clear HA
                              simp only [seichelaw11_GolexCovers.j5] at H
                              have HC45 := Aside0.mk H; clear H
                              go_upto_region 25 with (first | ((with_reducible refine gate_dst (N := 11) rfl ?_); (try (refine gate_guard (by rfl) ?_; dsimp only)); refine box_event ?hg (N := 11) ?hd (cs := #[.int .i64 0, .string (⟨#[]⟩ : ByteArray), .int .i64 0]) (t := 27) ?hr ?_; (case hd => rfl); (case hg => rfl); (case hr => first | (go_simp; done) | (go_simp; rfl)); intro gb133 hg w46 hbox hb; have n0_ := Aside0.mk (Kd.R_below (Kd.R_elderB (by (with_reducible repeat (first | apply Kd.R_alloc | apply Kd.R_drewN | apply Kd.R_drew)); exact HO_3.out) gb133 (Nat.le_of_eq hg.symm)) hb); have n1_ := Aside0.mk (Kd.R_below (Kd.R_elderB (by (with_reducible repeat (first | apply Kd.R_alloc | apply Kd.R_drewN | apply Kd.R_drew)); exact HO_4.out) gb133 (Nat.le_of_eq hg.symm)) hb); have n2_ := Aside0.mk (blk_below (g := gb128) (o := .cells #[.int .i64 ((rd_T27 t120 (ji14)).f0), .string ((rd_T27 t120 (ji14)).f1), .int .i64 ((rd_T27 t120 (ji14)).f2)] 27 (0, 0)) (by (with_reducible repeat (first | refine blk_drewN ?_ _ | refine blk_drew ?_ | refine blk_alloc ?_ _)); exact BK128.out) hb); have n3_ := Aside0.mk (below_step (by repeat (first | (with_reducible first | exact HB.out | apply below_alloc | apply pw_below_drewN | apply below_drew1 | refine below_set ?_ GE128.out) | exact HB.out)) hb); have n4_ := Aside0.mk (hbox); have n5_ := Aside0.mk ((by rw [hg]; exact (below_size (by repeat (first | (with_reducible first | exact HB.out | apply below_alloc | apply pw_below_drewN | apply below_drew1 | refine below_set ?_ GE128.out) | exact HB.out))) : w.heap.size ≤ gb133)); have n6_ := Aside0.mk ((by rw [hg]; exact (below_size (by repeat (first | (with_reducible first | exact HB.out | apply below_alloc | apply pw_below_drewN | apply below_drew1 | refine below_set ?_ GE128.out) | exact HB.out))) : w.heap.size ≤ gb133)); have n7_ := Aside0.mk ((by rw [hg]; exact Nat.ne_of_lt (blk_lt (g := gb128) (o := .cells #[.int .i64 ((rd_T27 t120 (ji14)).f0), .string ((rd_T27 t120 (ji14)).f1), .int .i64 ((rd_T27 t120 (ji14)).f2)] 27 (0, 0)) (by (with_reducible repeat (first | refine blk_drewN ?_ _ | refine blk_drew ?_ | refine blk_alloc ?_ _)); exact BK128.out)) : gb128 ≠ gb133)); have n8_ := Aside0.mk ((by rw [hg]; exact Nat.ne_of_gt (blk_lt (g := gb128) (o := .cells #[.int .i64 ((rd_T27 t120 (ji14)).f0), .string ((rd_T27 t120 (ji14)).f1), .int .i64 ((rd_T27 t120 (ji14)).f2)] 27 (0, 0)) (by (with_reducible repeat (first | refine blk_drewN ?_ _ | refine blk_drew ?_ | refine blk_alloc ?_ _)); exact BK128.out)) : gb133 ≠ gb128)); clear HO_3; clear HO_4; clear BK128; clear HB; have HO_3 := n0_; have HO_4 := n1_; have BK128 := n2_; have HB := n3_; have BK133 := n4_; have GW133 := n5_; have GE133 := n6_; have NB128_133 := n7_; have NB133_128 := n8_; clear n0_ n1_ n2_ n3_ n4_ n5_ n6_ n7_ n8_; clear hb hbox hg; have hnb47 := NB133_128.out; have hnc47 := NB128_133.out; have hcz48_0 : w46.cell? ⟨gb133, 0, none⟩ = some (.int .i64 0) := (blk_cell BK133.out 0).trans rfl; have hcz48_1 : w46.cell? ⟨gb133, 1, none⟩ = some (.string (⟨#[]⟩ : ByteArray)) := (blk_cell BK133.out 1).trans rfl; have hcz48_2 : w46.cell? ⟨gb133, 2, none⟩ = some (.int .i64 0) := (blk_cell BK133.out 2).trans rfl; have hfz48_0 := blk_frozen BK133.out 0; have hfz48_1 := blk_frozen BK133.out 1; have hfz48_2 := blk_frozen BK133.out 2))
                              (try simp only [Act.put, List.setIfInBounds_toArray, List.set_cons_zero, List.set_cons_succ])
                              go_cut [113] (fun v113 wc => ∃ (kq : Nat) (x113_44 : Bool), v113 = .bool x113_44 ∧ Aside0 (seichelaw11_GolexCovers.j6 kq a0 t120 t123 x5_2 x6_16 x9_40 x10_2 x113_44 = some r) ∧ Aside0 (kq ≤ kj40) ∧ Aside0 (Kd.R k27 27 wc w.heap.size (fun k_ => some k_ ≠ (v124 : Value).ownBlock ∧ k_ ≠ gb128 ∧ k_ ≠ gb133) (.slice (some ad127) t120.length co21) t120) ∧ Aside0 (Kd.R k27 27 wc w.heap.size (fun k_ => some k_ ≠ ((.slice (some ad127) t120.length co21) : Value).ownBlock ∧ k_ ≠ gb128 ∧ k_ ≠ gb133) v124 t123) ∧ Aside0 (wc.heap[gb128]? = some (.cells #[.int .i64 ((rd_T27 t120 (ji14)).f0), .string ((rd_T27 t120 (ji14)).f1), .int .i64 ((rd_T27 t120 (ji14)).f2)] 27 (0, 0))) ∧ Aside0 (wc.heap[gb133]? = some (.cells #[.int .i64 0, .string (⟨#[]⟩ : ByteArray), .int .i64 (a0.size : Int)] 27 (0, 0))) ∧ Aside0 (Below w.heap.size w wc))
                              case first =>
                                have H := HC45.out
                                clear HC45
                                by_cases c49 : x9_40 < (t120.length : Int)
                                · rw [if_pos c49] at H
                                  have c49b0 : decide (x9_40 < (t120.length : Int)) = true := decide_eq_true c49
                                  clear c49
                                  (first | rw [c49b0] | (simp only [i64_w, i32_w]; rw [c49b0]) | skip)
                                  by_cases c50 : x10_2 ≥ (t123.length : Int)
                                  · rw [if_pos c50] at H
                                    have c50b0 : decide ((t123.length : Int) ≤ x10_2) = true := decide_eq_true c50
                                    clear c50
                                    have H' := Aside0.mk H
                                    clear H
                                    try go_wp2
                                    have n0_ : Aside0 (Kd.R k27 27 (((w46.setCell ⟨gb133, 0, none⟩ (.int .i64 0)).setCell ⟨gb133, 1, none⟩ (.string (⟨#[]⟩ : ByteArray))).setCell ⟨gb133, 2, none⟩ (.int .i64 (a0.size : Int))) w.heap.size (fun k_ => some k_ ≠ (v124 : Value).ownBlock ∧ k_ ≠ gb128 ∧ k_ ≠ gb133) (.slice (some ad127) t120.length co21) t120) := ⟨by (with_reducible repeat (first | apply Kd.R_alloc | apply Kd.R_drewN | apply Kd.R_drew)); exact Kd.R_mono (Kd.R_far (p := ⟨gb133, 2, none⟩) (Kd.R_far (p := ⟨gb133, 1, none⟩) (Kd.R_far (p := ⟨gb133, 0, none⟩) (Kd.R_mono HO_3.out (fun k_ hk => (⟨hk, hk.2⟩ : _ ∧ k_ ≠ gb133))) (fun _ hk => hk.2) (.int .i64 0)) (fun _ hk => hk.2) (.string (⟨#[]⟩ : ByteArray))) (fun _ hk => hk.2) (.int .i64 (a0.size : Int))) (fun _ hk => ⟨hk.1.1.1, ⟨hk.1.1.2, hk.1.2⟩⟩)⟩
                                    have n1_ : Aside0 (Kd.R k27 27 (((w46.setCell ⟨gb133, 0, none⟩ (.int .i64 0)).setCell ⟨gb133, 1, none⟩ (.string (⟨#[]⟩ : ByteArray))).setCell ⟨gb133, 2, none⟩ (.int .i64 (a0.size : Int))) w.heap.size (fun k_ => some k_ ≠ (.slice (some ad127) t120.length co21 : Value).ownBlock ∧ k_ ≠ gb128 ∧ k_ ≠ gb133) v124 t123) := ⟨by (with_reducible repeat (first | apply Kd.R_alloc | apply Kd.R_drewN | apply Kd.R_drew)); exact Kd.R_mono (Kd.R_far (p := ⟨gb133, 2, none⟩) (Kd.R_far (p := ⟨gb133, 1, none⟩) (Kd.R_far (p := ⟨gb133, 0, none⟩) (Kd.R_mono HO_4.out (fun k_ hk => (⟨hk, hk.2⟩ : _ ∧ k_ ≠ gb133))) (fun _ hk => hk.2) (.int .i64 0)) (fun _ hk => hk.2) (.string (⟨#[]⟩ : ByteArray))) (fun _ hk => hk.2) (.int .i64 (a0.size : Int))) (fun _ hk => ⟨hk.1.1.1, ⟨hk.1.1.2, hk.1.2⟩⟩)⟩
                                    have n2_ : Aside0 ((((w46.setCell ⟨gb133, 0, none⟩ (.int .i64 0)).setCell ⟨gb133, 1, none⟩ (.string (⟨#[]⟩ : ByteArray))).setCell ⟨gb133, 2, none⟩ (.int .i64 (a0.size : Int))).heap[gb128]? = some (.cells #[.int .i64 ((rd_T27 t120 (ji14)).f0), .string ((rd_T27 t120 (ji14)).f1), .int .i64 ((rd_T27 t120 (ji14)).f2)] 27 (0, 0))) := ⟨by (with_reducible repeat (first | refine blk_drewN ?_ _ | refine blk_drew ?_ | refine blk_alloc ?_ _)); refine blk_far ?_ NB128_133.out _; (with_reducible repeat (first | refine blk_drewN ?_ _ | refine blk_drew ?_ | refine blk_alloc ?_ _)); refine blk_far ?_ NB128_133.out _; (with_reducible repeat (first | refine blk_drewN ?_ _ | refine blk_drew ?_ | refine blk_alloc ?_ _)); refine blk_far ?_ NB128_133.out _; (with_reducible repeat (first | refine blk_drewN ?_ _ | refine blk_drew ?_ | refine blk_alloc ?_ _)); exact BK128.out⟩
                                    have n3_ : Aside0 ((((w46.setCell ⟨gb133, 0, none⟩ (.int .i64 0)).setCell ⟨gb133, 1, none⟩ (.string (⟨#[]⟩ : ByteArray))).setCell ⟨gb133, 2, none⟩ (.int .i64 (a0.size : Int))).heap[gb133]? = some (.cells #[.int .i64 0, .string (⟨#[]⟩ : ByteArray), .int .i64 (a0.size : Int)] 27 (0, 0))) := ⟨by (with_reducible repeat (first | refine blk_drewN ?_ _ | refine blk_drew ?_ | refine blk_alloc ?_ _)); refine blk_put (cs := #[.int .i64 0, .string (⟨#[]⟩ : ByteArray), .int .i64 0]) ?_ 2 _ rfl; (with_reducible repeat (first | refine blk_drewN ?_ _ | refine blk_drew ?_ | refine blk_alloc ?_ _)); refine blk_put (cs := #[.int .i64 0, .string (⟨#[]⟩ : ByteArray), .int .i64 0]) ?_ 1 _ rfl; (with_reducible repeat (first | refine blk_drewN ?_ _ | refine blk_drew ?_ | refine blk_alloc ?_ _)); refine blk_put (cs := #[.int .i64 0, .string (⟨#[]⟩ : ByteArray), .int .i64 0]) ?_ 0 _ rfl; (with_reducible repeat (first | refine blk_drewN ?_ _ | refine blk_drew ?_ | refine blk_alloc ?_ _)); exact BK133.out⟩
                                    have n4_ : Aside0 (Below w.heap.size w (((w46.setCell ⟨gb133, 0, none⟩ (.int .i64 0)).setCell ⟨gb133, 1, none⟩ (.string (⟨#[]⟩ : ByteArray))).setCell ⟨gb133, 2, none⟩ (.int .i64 (a0.size : Int)))) := ⟨by repeat (first | (with_reducible first | exact HB.out | apply below_alloc | apply pw_below_drewN | apply below_drew1 | refine below_set ?_ GE128.out | refine below_set ?_ GE133.out) | exact HB.out)⟩
                                    (try clear HO_3)
                                    (try clear HO_4)
                                    (try clear BK128)
                                    (try clear BK133)
                                    (try clear HB)
                                    generalize (((w46.setCell ⟨gb133, 0, none⟩ (.int .i64 0)).setCell ⟨gb133, 1, none⟩ (.string (⟨#[]⟩ : ByteArray))).setCell ⟨gb133, 2, none⟩ (.int .i64 (a0.size : Int))) = w51 at n0_ n1_ n2_ n3_ n4_ ⊢
                                    have HO_3 := n0_
                                    have HO_4 := n1_
                                    have BK128 := n2_
                                    have BK133 := n3_
                                    have HB := n4_
                                    clear n0_ n1_ n2_ n3_ n4_
                                    have n0_ := Aside0.mk (Kd.R_drew HO_3.out)
                                    have n1_ := Aside0.mk (Kd.R_drew HO_4.out)
                                    have n2_ := Aside0.mk (blk_drew BK128.out)
                                    have n3_ := Aside0.mk (blk_drew BK133.out)
                                    have n4_ := Aside0.mk (below_drew1 HB.out)
                                    clear HO_3; clear HO_4; clear BK128; clear BK133; clear HB
                                    have HO_3 := n0_
                                    have HO_4 := n1_
                                    have BK128 := n2_
                                    have BK133 := n3_
                                    have HB := n4_
                                    clear n0_ n1_ n2_ n3_ n4_
                                    obtain ⟨Ao53, co53, eo53⟩ := Kd.R_slice HO_4.out
                                    (first | subst eo53 | (injection eo53 with f1_ f2_ f3_; have f4_ := f1_.symm; have f5_ := f3_.symm; clear f1_ f2_ f3_; subst f4_; subst f5_))
                                    refine start_ (n := 23) (S := fun w' => True) (ds := []) #[false, false, false, false, false, false, false, false, false, false, false, false, false, false, false, false, false, false, false, false, false, false, false] (by kernel_rfl) rfl rfl trivial (fun hHeld => ?_); refine with_tabW seichelaw11_GolexCovers.tab25 seichelaw11_GolexCovers.bits25 (fun HT_ HW_ => ?_)
                                    generalize w51.drew = w52 at HO_3 HO_4 BK128 BK133 HB hHeld ⊢
                                    refine pure_ (i := 0) (N := some 91) (v := ?_) (a' := ?_) #[true, false, false, false, false, false, false, false, false, false, false, false, false, false, false, false, false, false, false, false, false, false, false] rfl rfl (any_of HT_.out (by kernel_rfl)) (fun _ _ _ h => h) (Or.inl ⟨by rfl, ?_⟩) ?_ ?_
                                    rotate_left
                                    · intro w'
                                      go_simp
                                      with_reducible rfl
                                    rotate_left
                                    · simp only [Act.put, List.setIfInBounds_toArray, List.set_cons_zero, List.set_cons_succ, i64_w, i32_w]
                                      rfl
                                    refine pure_ (i := 1) (N := some 92) (v := ?_) (a' := ?_) #[true, true, false, false, false, false, false, false, false, false, false, false, false, false, false, false, false, false, false, false, false, false, false] rfl rfl (any_of HT_.out (by kernel_rfl)) (fun _ _ _ h => h) (Or.inl ⟨by rfl, ?_⟩) ?_ ?_
                                    rotate_left
                                    · intro w'
                                      go_simp
                                      with_reducible rfl
                                    rotate_left
                                    · simp only [Act.put, List.setIfInBounds_toArray, List.set_cons_zero, List.set_cons_succ, i64_w, i32_w]
                                      rfl
                                    refine pure_ (i := 2) (N := some 93) (v := ?_) (a' := ?_) #[true, true, true, false, false, false, false, false, false, false, false, false, false, false, false, false, false, false, false, false, false, false, false] rfl rfl (any_of HT_.out (by kernel_rfl)) (fun _ _ _ h => h) (Or.inl ⟨by rfl, ?_⟩) ?_ ?_
                                    rotate_left
                                    · intro w'
                                      go_simp
                                      with_reducible rfl
                                    rotate_left
                                    · simp only [Act.put, List.setIfInBounds_toArray, List.set_cons_zero, List.set_cons_succ, i64_w, i32_w]
                                      rfl
                                    refine pure_ (i := 3) (N := some 94) (v := ?_) (a' := ?_) #[true, true, true, true, false, false, false, false, false, false, false, false, false, false, false, false, false, false, false, false, false, false, false] rfl rfl (any_of HT_.out (by kernel_rfl)) (fun _ _ _ h => h) (Or.inl ⟨by rfl, ?_⟩) ?_ ?_
                                    rotate_left
                                    · intro w'
                                      go_simp
                                      with_reducible rfl
                                    rotate_left
                                    · simp only [Act.put, List.setIfInBounds_toArray, List.set_cons_zero, List.set_cons_succ, i64_w, i32_w]
                                      rfl
                                    refine pure_ (i := 4) (N := some 95) (v := ?_) (a' := ?_) #[true, true, true, true, true, false, false, false, false, false, false, false, false, false, false, false, false, false, false, false, false, false, false] rfl rfl (any_of HT_.out (by kernel_rfl)) (fun _ _ _ h => h) (Or.inl ⟨by rfl, ?_⟩) ?_ ?_
                                    rotate_left
                                    · intro w'
                                      go_simp
                                      with_reducible rfl
                                    rotate_left
                                    · simp only [Act.put, List.setIfInBounds_toArray, List.set_cons_zero, List.set_cons_succ, i64_w, i32_w]
                                      rfl
                                    refine pure_ (i := 5) (N := some 96) (v := ?_) (a' := ?_) #[true, true, true, true, true, true, false, false, false, false, false, false, false, false, false, false, false, false, false, false, false, false, false] rfl rfl (any_of HT_.out (by kernel_rfl)) (fun _ _ _ h => h) (Or.inl ⟨by rfl, ?_⟩) ?_ ?_
                                    rotate_left
                                    · intro w'
                                      go_simp
                                      with_reducible rfl
                                    rotate_left
                                    · simp only [Act.put, List.setIfInBounds_toArray, List.set_cons_zero, List.set_cons_succ, i64_w, i32_w]
                                      rfl
                                    refine pure_ (i := 6) (N := some 97) (v := ?_) (a' := ?_) #[true, true, true, true, true, true, true, false, false, false, false, false, false, false, false, false, false, false, false, false, false, false, false] rfl rfl (any_of HT_.out (by kernel_rfl)) (fun _ _ _ h => h) (Or.inl ⟨by rfl, ?_⟩) ?_ ?_
                                    rotate_left
                                    · intro w'
                                      go_simp
                                      with_reducible rfl
                                    rotate_left
                                    · simp only [Act.put, List.setIfInBounds_toArray, List.set_cons_zero, List.set_cons_succ, i64_w, i32_w]
                                      rfl
                                    refine pure_ (i := 7) (N := some 98) (v := ?_) (a' := ?_) #[true, true, true, true, true, true, true, true, false, false, false, false, false, false, false, false, false, false, false, false, false, false, false] rfl rfl (any_of HT_.out (by kernel_rfl)) (fun _ _ _ h => h) (Or.inl ⟨by rfl, ?_⟩) ?_ ?_
                                    rotate_left
                                    · intro w'
                                      go_simp
                                      with_reducible rfl
                                    rotate_left
                                    · simp only [Act.put, List.setIfInBounds_toArray, List.set_cons_zero, List.set_cons_succ, i64_w, i32_w]
                                      rfl
                                    refine pure_ (i := 8) (N := some 99) (v := ?_) (a' := ?_) #[true, true, true, true, true, true, true, true, true, false, false, false, false, false, false, false, false, false, false, false, false, false, false] rfl rfl (any_of HT_.out (by kernel_rfl)) (fun _ _ _ h => h) (Or.inl ⟨by rfl, ?_⟩) ?_ ?_
                                    rotate_left
                                    · intro w'
                                      go_simp
                                      with_reducible rfl
                                    rotate_left
                                    · simp only [Act.put, List.setIfInBounds_toArray, List.set_cons_zero, List.set_cons_succ, i64_w, i32_w]
                                      rfl
                                    refine pure_ (i := 9) (N := some 100) (v := ?_) (a' := ?_) #[true, true, true, true, true, true, true, true, true, true, false, false, false, false, false, false, false, false, false, false, false, false, false] rfl rfl (any_of HT_.out (by kernel_rfl)) (fun _ _ _ h => h) (Or.inl ⟨by rfl, ?_⟩) ?_ ?_
                                    rotate_left
                                    · intro w'
                                      go_simp
                                      with_reducible rfl
                                    rotate_left
                                    · simp only [Act.put, List.setIfInBounds_toArray, List.set_cons_zero, List.set_cons_succ, i64_w, i32_w]
                                      rfl
                                    refine pure_ (i := 10) (N := some 101) (v := undef) (a' := ?_) #[true, true, true, true, true, true, true, true, true, true, true, false, false, false, false, false, false, false, false, false, false, false, false] rfl rfl (any_of HT_.out (by kernel_rfl)) (fun _ _ _ h => h) (Or.inr ⟨by rfl, rfl⟩) ?_ ?_
                                    rotate_left
                                    · simp only [Act.put, List.setIfInBounds_toArray, List.set_cons_zero, List.set_cons_succ, i64_w, i32_w]
                                      rfl
                                    refine pure_ (i := 11) (N := some 102) (v := undef) (a' := ?_) #[true, true, true, true, true, true, true, true, true, true, true, true, false, false, false, false, false, false, false, false, false, false, false] rfl rfl (any_of HT_.out (by kernel_rfl)) (fun _ _ _ h => h) (Or.inr ⟨by rfl, rfl⟩) ?_ ?_
                                    rotate_left
                                    · simp only [Act.put, List.setIfInBounds_toArray, List.set_cons_zero, List.set_cons_succ, i64_w, i32_w]
                                      rfl
                                    refine pure_ (i := 12) (N := some 103) (v := undef) (a' := ?_) #[true, true, true, true, true, true, true, true, true, true, true, true, true, false, false, false, false, false, false, false, false, false, false] rfl rfl (any_of HT_.out (by kernel_rfl)) (fun _ _ _ h => h) (Or.inr ⟨by rfl, rfl⟩) ?_ ?_
                                    rotate_left
                                    · simp only [Act.put, List.setIfInBounds_toArray, List.set_cons_zero, List.set_cons_succ, i64_w, i32_w]
                                      rfl
                                    refine pure_ (i := 13) (N := some 104) (v := undef) (a' := ?_) #[true, true, true, true, true, true, true, true, true, true, true, true, true, true, false, false, false, false, false, false, false, false, false] rfl rfl (any_of HT_.out (by kernel_rfl)) (fun _ _ _ h => h) (Or.inr ⟨by rfl, rfl⟩) ?_ ?_
                                    rotate_left
                                    · simp only [Act.put, List.setIfInBounds_toArray, List.set_cons_zero, List.set_cons_succ, i64_w, i32_w]
                                      rfl
                                    refine pure_ (i := 14) (N := some 105) (v := undef) (a' := ?_) #[true, true, true, true, true, true, true, true, true, true, true, true, true, true, true, false, false, false, false, false, false, false, false] rfl rfl (any_of HT_.out (by kernel_rfl)) (fun _ _ _ h => h) (Or.inr ⟨by rfl, rfl⟩) ?_ ?_
                                    rotate_left
                                    · simp only [Act.put, List.setIfInBounds_toArray, List.set_cons_zero, List.set_cons_succ, i64_w, i32_w]
                                      rfl
                                    refine pure_ (i := 15) (N := some 106) (v := undef) (a' := ?_) #[true, true, true, true, true, true, true, true, true, true, true, true, true, true, true, true, false, false, false, false, false, false, false] rfl rfl (any_of HT_.out (by kernel_rfl)) (fun _ _ _ h => h) (Or.inr ⟨by rfl, rfl⟩) ?_ ?_
                                    rotate_left
                                    · simp only [Act.put, List.setIfInBounds_toArray, List.set_cons_zero, List.set_cons_succ, i64_w, i32_w]
                                      rfl
                                    refine pure_ (i := 16) (N := some 107) (v := undef) (a' := ?_) #[true, true, true, true, true, true, true, true, true, true, true, true, true, true, true, true, true, false, false, false, false, false, false] rfl rfl (any_of HT_.out (by kernel_rfl)) (fun _ _ _ h => h) (Or.inr ⟨by rfl, rfl⟩) ?_ ?_
                                    rotate_left
                                    · simp only [Act.put, List.setIfInBounds_toArray, List.set_cons_zero, List.set_cons_succ, i64_w, i32_w]
                                      rfl
                                    refine pure_ (i := 17) (N := some 108) (v := undef) (a' := ?_) #[true, true, true, true, true, true, true, true, true, true, true, true, true, true, true, true, true, true, false, false, false, false, false] rfl rfl (any_of HT_.out (by kernel_rfl)) (fun _ _ _ h => h) (Or.inr ⟨by rfl, rfl⟩) ?_ ?_
                                    rotate_left
                                    · simp only [Act.put, List.setIfInBounds_toArray, List.set_cons_zero, List.set_cons_succ, i64_w, i32_w]
                                      rfl
                                    refine pure_ (i := 18) (N := some 109) (v := undef) (a' := ?_) #[true, true, true, true, true, true, true, true, true, true, true, true, true, true, true, true, true, true, true, false, false, false, false] rfl rfl (any_of HT_.out (by kernel_rfl)) (fun _ _ _ h => h) (Or.inr ⟨by rfl, rfl⟩) ?_ ?_
                                    rotate_left
                                    · simp only [Act.put, List.setIfInBounds_toArray, List.set_cons_zero, List.set_cons_succ, i64_w, i32_w]
                                      rfl
                                    refine pure_ (i := 19) (N := some 110) (v := undef) (a' := ?_) #[true, true, true, true, true, true, true, true, true, true, true, true, true, true, true, true, true, true, true, true, false, false, false] rfl rfl (any_of HT_.out (by kernel_rfl)) (fun _ _ _ h => h) (Or.inr ⟨by rfl, rfl⟩) ?_ ?_
                                    rotate_left
                                    · simp only [Act.put, List.setIfInBounds_toArray, List.set_cons_zero, List.set_cons_succ, i64_w, i32_w]
                                      rfl
                                    refine pure_ (i := 20) (N := some 111) (v := undef) (a' := ?_) #[true, true, true, true, true, true, true, true, true, true, true, true, true, true, true, true, true, true, true, true, true, false, false] rfl rfl (any_of HT_.out (by kernel_rfl)) (fun _ _ _ h => h) (Or.inr ⟨by rfl, rfl⟩) ?_ ?_
                                    rotate_left
                                    · simp only [Act.put, List.setIfInBounds_toArray, List.set_cons_zero, List.set_cons_succ, i64_w, i32_w]
                                      rfl
                                    refine pure_ (i := 21) (N := some 112) (v := ?_) (a' := ?_) #[true, true, true, true, true, true, true, true, true, true, true, true, true, true, true, true, true, true, true, true, true, true, false] rfl rfl (any_of HT_.out (by kernel_rfl)) (fun _ _ _ h => h) (Or.inl ⟨by rfl, ?_⟩) ?_ ?_
                                    rotate_left
                                    · intro w'
                                      go_simp
                                      with_reducible rfl
                                    rotate_left
                                    · simp only [Act.put, List.setIfInBounds_toArray, List.set_cons_zero, List.set_cons_succ, i64_w, i32_w]
                                      rfl
                                    refine pure_ (i := 22) (N := some 113) (v := ?_) (a' := ?_) #[true, true, true, true, true, true, true, true, true, true, true, true, true, true, true, true, true, true, true, true, true, true, true] rfl rfl (any_of HT_.out (by kernel_rfl)) (fun _ _ _ h => h) (Or.inl ⟨by rfl, ?_⟩) ?_ ?_
                                    rotate_left
                                    · intro w'
                                      go_simp
                                      with_reducible rfl
                                    rotate_left
                                    · simp only [Act.put, List.setIfInBounds_toArray, List.set_cons_zero, List.set_cons_succ, i64_w, i32_w]
                                      rfl
                                    refine done_ (done_of HT_.out (by kernel_rfl)) ?_
                                    try go_wp2
                                    go_meet
                                    case rel => exact ⟨_, (true), (by first | rfl | (simp; done) | (simp [*]; done)), H', ⟨by have := HJ16.out; have := HK2.out; have := HJ36.out; have := HJ40.out; first | omega | exact Nat.le_refl _⟩, ⟨by (with_reducible repeat (first | apply Kd.R_alloc | apply Kd.R_drewN | apply Kd.R_drew)); exact HO_3.out⟩, ⟨by (with_reducible repeat (first | apply Kd.R_alloc | apply Kd.R_drewN | apply Kd.R_drew)); exact HO_4.out⟩, ⟨by (with_reducible repeat (first | refine blk_drewN ?_ _ | refine blk_drew ?_ | refine blk_alloc ?_ _)); exact BK128.out⟩, ⟨by (with_reducible repeat (first | refine blk_drewN ?_ _ | refine blk_drew ?_ | refine blk_alloc ?_ _)); exact BK133.out⟩, ⟨by repeat (first | (with_reducible first | exact HB.out | apply below_alloc | apply pw_below_drewN | apply below_drew1 | refine below_set ?_ GE128.out | refine below_set ?_ GE133.out) | exact HB.out)⟩⟩
                                  · rw [if_neg c50] at H
                                    have c50b0 : decide ((t123.length : Int) ≤ x10_2) = false := decide_eq_false c50
                                    clear c50
                                    by_cases c54 : 0 ≤ x9_40
                                    · rw [if_pos c54] at H
                                      have c54b0 : decide (0 ≤ x9_40) = true := decide_eq_true c54
                                      clear c54
                                      by_cases c55 : 0 ≤ x10_2
                                      · rw [if_pos c55] at H
                                        have c55b0 : decide (0 ≤ x10_2) = true := decide_eq_true c55
                                        clear c55
                                        by_cases c56 : x10_2 < (t123.length : Int)
                                        · rw [if_pos c56] at H
                                          have c56b0 : decide (x10_2 < (t123.length : Int)) = true := decide_eq_true c56
                                          clear c56
                                          have H' := Aside0.mk H
                                          clear H
                                          try go_wp2
                                          have n0_ : Aside0 (Kd.R k27 27 (((w46.setCell ⟨gb133, 0, none⟩ (.int .i64 0)).setCell ⟨gb133, 1, none⟩ (.string (⟨#[]⟩ : ByteArray))).setCell ⟨gb133, 2, none⟩ (.int .i64 (a0.size : Int))) w.heap.size (fun k_ => some k_ ≠ (v124 : Value).ownBlock ∧ k_ ≠ gb128 ∧ k_ ≠ gb133) (.slice (some ad127) t120.length co21) t120) := ⟨by (with_reducible repeat (first | apply Kd.R_alloc | apply Kd.R_drewN | apply Kd.R_drew)); exact Kd.R_mono (Kd.R_far (p := ⟨gb133, 2, none⟩) (Kd.R_far (p := ⟨gb133, 1, none⟩) (Kd.R_far (p := ⟨gb133, 0, none⟩) (Kd.R_mono HO_3.out (fun k_ hk => (⟨hk, hk.2⟩ : _ ∧ k_ ≠ gb133))) (fun _ hk => hk.2) (.int .i64 0)) (fun _ hk => hk.2) (.string (⟨#[]⟩ : ByteArray))) (fun _ hk => hk.2) (.int .i64 (a0.size : Int))) (fun _ hk => ⟨hk.1.1.1, ⟨hk.1.1.2, hk.1.2⟩⟩)⟩
                                          have n1_ : Aside0 (Kd.R k27 27 (((w46.setCell ⟨gb133, 0, none⟩ (.int .i64 0)).setCell ⟨gb133, 1, none⟩ (.string (⟨#[]⟩ : ByteArray))).setCell ⟨gb133, 2, none⟩ (.int .i64 (a0.size : Int))) w.heap.size (fun k_ => some k_ ≠ (.slice (some ad127) t120.length co21 : Value).ownBlock ∧ k_ ≠ gb128 ∧ k_ ≠ gb133) v124 t123) := ⟨by (with_reducible repeat (first | apply Kd.R_alloc | apply Kd.R_drewN | apply Kd.R_drew)); exact Kd.R_mono (Kd.R_far (p := ⟨gb133, 2, none⟩) (Kd.R_far (p := ⟨gb133, 1, none⟩) (Kd.R_far (p := ⟨gb133, 0, none⟩) (Kd.R_mono HO_4.out (fun k_ hk => (⟨hk, hk.2⟩ : _ ∧ k_ ≠ gb133))) (fun _ hk => hk.2) (.int .i64 0)) (fun _ hk => hk.2) (.string (⟨#[]⟩ : ByteArray))) (fun _ hk => hk.2) (.int .i64 (a0.size : Int))) (fun _ hk => ⟨hk.1.1.1, ⟨hk.1.1.2, hk.1.2⟩⟩)⟩
                                          have n2_ : Aside0 ((((w46.setCell ⟨gb133, 0, none⟩ (.int .i64 0)).setCell ⟨gb133, 1, none⟩ (.string (⟨#[]⟩ : ByteArray))).setCell ⟨gb133, 2, none⟩ (.int .i64 (a0.size : Int))).heap[gb128]? = some (.cells #[.int .i64 ((rd_T27 t120 (ji14)).f0), .string ((rd_T27 t120 (ji14)).f1), .int .i64 ((rd_T27 t120 (ji14)).f2)] 27 (0, 0))) := ⟨by (with_reducible repeat (first | refine blk_drewN ?_ _ | refine blk_drew ?_ | refine blk_alloc ?_ _)); refine blk_far ?_ NB128_133.out _; (with_reducible repeat (first | refine blk_drewN ?_ _ | refine blk_drew ?_ | refine blk_alloc ?_ _)); refine blk_far ?_ NB128_133.out _; (with_reducible repeat (first | refine blk_drewN ?_ _ | refine blk_drew ?_ | refine blk_alloc ?_ _)); refine blk_far ?_ NB128_133.out _; (with_reducible repeat (first | refine blk_drewN ?_ _ | refine blk_drew ?_ | refine blk_alloc ?_ _)); exact BK128.out⟩
                                          have n3_ : Aside0 ((((w46.setCell ⟨gb133, 0, none⟩ (.int .i64 0)).setCell ⟨gb133, 1, none⟩ (.string (⟨#[]⟩ : ByteArray))).setCell ⟨gb133, 2, none⟩ (.int .i64 (a0.size : Int))).heap[gb133]? = some (.cells #[.int .i64 0, .string (⟨#[]⟩ : ByteArray), .int .i64 (a0.size : Int)] 27 (0, 0))) := ⟨by (with_reducible repeat (first | refine blk_drewN ?_ _ | refine blk_drew ?_ | refine blk_alloc ?_ _)); refine blk_put (cs := #[.int .i64 0, .string (⟨#[]⟩ : ByteArray), .int .i64 0]) ?_ 2 _ rfl; (with_reducible repeat (first | refine blk_drewN ?_ _ | refine blk_drew ?_ | refine blk_alloc ?_ _)); refine blk_put (cs := #[.int .i64 0, .string (⟨#[]⟩ : ByteArray), .int .i64 0]) ?_ 1 _ rfl; (with_reducible repeat (first | refine blk_drewN ?_ _ | refine blk_drew ?_ | refine blk_alloc ?_ _)); refine blk_put (cs := #[.int .i64 0, .string (⟨#[]⟩ : ByteArray), .int .i64 0]) ?_ 0 _ rfl; (with_reducible repeat (first | refine blk_drewN ?_ _ | refine blk_drew ?_ | refine blk_alloc ?_ _)); exact BK133.out⟩
                                          have n4_ : Aside0 (Below w.heap.size w (((w46.setCell ⟨gb133, 0, none⟩ (.int .i64 0)).setCell ⟨gb133, 1, none⟩ (.string (⟨#[]⟩ : ByteArray))).setCell ⟨gb133, 2, none⟩ (.int .i64 (a0.size : Int)))) := ⟨by repeat (first | (with_reducible first | exact HB.out | apply below_alloc | apply pw_below_drewN | apply below_drew1 | refine below_set ?_ GE128.out | refine below_set ?_ GE133.out) | exact HB.out)⟩
                                          (try clear HO_3)
                                          (try clear HO_4)
                                          (try clear BK128)
                                          (try clear BK133)
                                          (try clear HB)
                                          generalize (((w46.setCell ⟨gb133, 0, none⟩ (.int .i64 0)).setCell ⟨gb133, 1, none⟩ (.string (⟨#[]⟩ : ByteArray))).setCell ⟨gb133, 2, none⟩ (.int .i64 (a0.size : Int))) = w57 at n0_ n1_ n2_ n3_ n4_ ⊢
                                          have HO_3 := n0_
                                          have HO_4 := n1_
                                          have BK128 := n2_
                                          have BK133 := n3_
                                          have HB := n4_
                                          clear n0_ n1_ n2_ n3_ n4_
                                          have n0_ := Aside0.mk (Kd.R_drew HO_3.out)
                                          have n1_ := Aside0.mk (Kd.R_drew HO_4.out)
                                          have n2_ := Aside0.mk (blk_drew BK128.out)
                                          have n3_ := Aside0.mk (blk_drew BK133.out)
                                          have n4_ := Aside0.mk (below_drew1 HB.out)
                                          clear HO_3; clear HO_4; clear BK128; clear BK133; clear HB
                                          have HO_3 := n0_
                                          have HO_4 := n1_
                                          have BK128 := n2_
                                          have BK133 := n3_
                                          have HB := n4_
                                          clear n0_ n1_ n2_ n3_ n4_
                                          obtain ⟨Ao59, co59, eo59⟩ := Kd.R_slice HO_4.out
                                          (first | subst eo59 | (injection eo59 with f1_ f2_ f3_; have f4_ := f1_.symm; have f5_ := f3_.symm; clear f1_ f2_ f3_; subst f4_; subst f5_))
                                          have p134 : 0 ≤ (x9_40 : Int) := of_decide_eq_true (by first | (with_reducible assumption) | assumption)
                                          have q134 : x9_40 < (t120.length : Int) := of_decide_eq_true (by first | (with_reducible assumption) | assumption)
                                          obtain ⟨ad134, e134, hx134_0, hx134_1, hx134_2⟩ := at_T27 (Kd.R_reads' HO_3.out).2.2 x9_40 p134 q134
                                          obtain rfl : ad127 = ad134 := (by injection e134)
                                          replace p134 := eq_true p134; replace q134 := eq_true q134
                                          have p135 : 0 ≤ (x10_2 : Int) := of_decide_eq_true (by first | (with_reducible assumption) | assumption)
                                          have q135 : x10_2 < (t123.length : Int) := of_decide_eq_true (by first | (with_reducible assumption) | assumption)
                                          obtain ⟨ad135, e135, hx135_0, hx135_1, hx135_2⟩ := at_T27 (Kd.R_reads' HO_4.out).2.2 x10_2 p135 q135
                                          cases e135
                                          replace p135 := eq_true p135; replace q135 := eq_true q135
                                          refine start_ (n := 23) (S := fun w' => w'.cell? (ad127.add ((x9_40).toNat * 3)) = some (.int .i64 ((rd_T27 t120 x9_40).f0)) ∧ w'.cell? ⟨(ad127.add ((x9_40).toNat * 3)).block, (ad127.add ((x9_40).toNat * 3)).off + 1, none⟩ = some (.string ((rd_T27 t120 x9_40).f1)) ∧ w'.cell? ⟨(ad127.add ((x9_40).toNat * 3)).block, (ad127.add ((x9_40).toNat * 3)).off + 2, none⟩ = some (.int .i64 ((rd_T27 t120 x9_40).f2)) ∧ w'.cell? (ad135.add ((x10_2).toNat * 3)) = some (.int .i64 ((rd_T27 t123 x10_2).f0)) ∧ w'.cell? ⟨(ad135.add ((x10_2).toNat * 3)).block, (ad135.add ((x10_2).toNat * 3)).off + 1, none⟩ = some (.string ((rd_T27 t123 x10_2).f1)) ∧ w'.cell? ⟨(ad135.add ((x10_2).toNat * 3)).block, (ad135.add ((x10_2).toNat * 3)).off + 2, none⟩ = some (.int .i64 ((rd_T27 t123 x10_2).f2))) (ds := []) #[false, false, false, false, false, false, false, false, false, false, false, false, false, false, false, false, false, false, false, false, false, false, false] (by kernel_rfl) rfl rfl ⟨hx134_0, hx134_1, hx134_2, hx135_0, hx135_1, hx135_2⟩ (fun hHeld => ?_); refine with_tabW seichelaw11_GolexCovers.tab25 seichelaw11_GolexCovers.bits25 (fun HT_ HW_ => ?_)
                                          generalize w57.drew = w58 at HO_3 HO_4 BK128 BK133 HB hx134_0 hx134_1 hx134_2 hx135_0 hx135_1 hx135_2 hHeld ⊢
                                          refine pure_ (i := 0) (N := some 91) (v := ?_) (a' := ?_) #[true, false, false, false, false, false, false, false, false, false, false, false, false, false, false, false, false, false, false, false, false, false, false] rfl rfl (any_of HT_.out (by kernel_rfl)) (fun _ _ _ h => h) (Or.inl ⟨by rfl, ?_⟩) ?_ ?_
                                          rotate_left
                                          · intro w'
                                            go_simp
                                            with_reducible rfl
                                          rotate_left
                                          · simp only [Act.put, List.setIfInBounds_toArray, List.set_cons_zero, List.set_cons_succ, i64_w, i32_w]
                                            rfl
                                          refine pure_ (i := 1) (N := some 92) (v := ?_) (a' := ?_) #[true, true, false, false, false, false, false, false, false, false, false, false, false, false, false, false, false, false, false, false, false, false, false] rfl rfl (any_of HT_.out (by kernel_rfl)) (fun _ _ _ h => h) (Or.inl ⟨by rfl, ?_⟩) ?_ ?_
                                          rotate_left
                                          · intro w'
                                            go_simp
                                            with_reducible rfl
                                          rotate_left
                                          · simp only [Act.put, List.setIfInBounds_toArray, List.set_cons_zero, List.set_cons_succ, i64_w, i32_w]
                                            rfl
                                          refine pure_ (i := 2) (N := some 93) (v := ?_) (a' := ?_) #[true, true, true, false, false, false, false, false, false, false, false, false, false, false, false, false, false, false, false, false, false, false, false] rfl rfl (any_of HT_.out (by kernel_rfl)) (fun _ _ _ h => h) (Or.inl ⟨by rfl, ?_⟩) ?_ ?_
                                          rotate_left
                                          · intro w'
                                            go_simp
                                            with_reducible rfl
                                          rotate_left
                                          · simp only [Act.put, List.setIfInBounds_toArray, List.set_cons_zero, List.set_cons_succ, i64_w, i32_w]
                                            rfl
                                          refine pure_ (i := 3) (N := some 94) (v := ?_) (a' := ?_) #[true, true, true, true, false, false, false, false, false, false, false, false, false, false, false, false, false, false, false, false, false, false, false] rfl rfl (any_of HT_.out (by kernel_rfl)) (fun _ _ _ h => h) (Or.inl ⟨by rfl, ?_⟩) ?_ ?_
                                          rotate_left
                                          · intro w'
                                            go_simp
                                            with_reducible rfl
                                          rotate_left
                                          · simp only [Act.put, List.setIfInBounds_toArray, List.set_cons_zero, List.set_cons_succ, i64_w, i32_w]
                                            rfl
                                          refine pure_ (i := 4) (N := some 95) (v := ?_) (a' := ?_) #[true, true, true, true, true, false, false, false, false, false, false, false, false, false, false, false, false, false, false, false, false, false, false] rfl rfl (any_of HT_.out (by kernel_rfl)) (fun _ _ _ h => h) (Or.inl ⟨by rfl, ?_⟩) ?_ ?_
                                          rotate_left
                                          · intro w'
                                            go_simp
                                            with_reducible rfl
                                          rotate_left
                                          · simp only [Act.put, List.setIfInBounds_toArray, List.set_cons_zero, List.set_cons_succ, i64_w, i32_w]
                                            rfl
                                          refine pure_ (i := 5) (N := some 96) (v := ?_) (a' := ?_) #[true, true, true, true, true, true, false, false, false, false, false, false, false, false, false, false, false, false, false, false, false, false, false] rfl rfl (any_of HT_.out (by kernel_rfl)) (fun _ _ _ h => h) (Or.inl ⟨by rfl, ?_⟩) ?_ ?_
                                          rotate_left
                                          · intro w'
                                            go_simp
                                            with_reducible rfl
                                          rotate_left
                                          · simp only [Act.put, List.setIfInBounds_toArray, List.set_cons_zero, List.set_cons_succ, i64_w, i32_w]
                                            rfl
                                          refine pure_ (i := 6) (N := some 97) (v := ?_) (a' := ?_) #[true, true, true, true, true, true, true, false, false, false, false, false, false, false, false, false, false, false, false, false, false, false, false] rfl rfl (any_of HT_.out (by kernel_rfl)) (fun _ _ _ h => h) (Or.inl ⟨by rfl, ?_⟩) ?_ ?_
                                          rotate_left
                                          · intro w'
                                            go_simp
                                            with_reducible rfl
                                          rotate_left
                                          · simp only [Act.put, List.setIfInBounds_toArray, List.set_cons_zero, List.set_cons_succ, i64_w, i32_w]
                                            rfl
                                          refine pure_ (i := 7) (N := some 98) (v := ?_) (a' := ?_) #[true, true, true, true, true, true, true, true, false, false, false, false, false, false, false, false, false, false, false, false, false, false, false] rfl rfl (any_of HT_.out (by kernel_rfl)) (fun _ _ _ h => h) (Or.inl ⟨by rfl, ?_⟩) ?_ ?_
                                          rotate_left
                                          · intro w'
                                            go_simp
                                            with_reducible rfl
                                          rotate_left
                                          · simp only [Act.put, List.setIfInBounds_toArray, List.set_cons_zero, List.set_cons_succ, i64_w, i32_w]
                                            rfl
                                          refine pure_ (i := 8) (N := some 99) (v := ?_) (a' := ?_) #[true, true, true, true, true, true, true, true, true, false, false, false, false, false, false, false, false, false, false, false, false, false, false] rfl rfl (any_of HT_.out (by kernel_rfl)) (fun _ _ _ h => h) (Or.inl ⟨by rfl, ?_⟩) ?_ ?_
                                          rotate_left
                                          · intro w'
                                            go_simp
                                            with_reducible rfl
                                          rotate_left
                                          · simp only [Act.put, List.setIfInBounds_toArray, List.set_cons_zero, List.set_cons_succ, i64_w, i32_w]
                                            rfl
                                          refine pure_ (i := 9) (N := some 100) (v := ?_) (a' := ?_) #[true, true, true, true, true, true, true, true, true, true, false, false, false, false, false, false, false, false, false, false, false, false, false] rfl rfl (any_of HT_.out (by kernel_rfl)) (fun _ _ _ h => h) (Or.inl ⟨by rfl, ?_⟩) ?_ ?_
                                          rotate_left
                                          · intro w'
                                            go_simp
                                            with_reducible rfl
                                          rotate_left
                                          · simp only [Act.put, List.setIfInBounds_toArray, List.set_cons_zero, List.set_cons_succ, i64_w, i32_w]
                                            rfl
                                          refine pure_ (i := 10) (N := some 101) (v := ?_) (a' := ?_) #[true, true, true, true, true, true, true, true, true, true, true, false, false, false, false, false, false, false, false, false, false, false, false] rfl rfl (any_of HT_.out (by kernel_rfl)) (fun _ _ _ h => h) (Or.inl ⟨by rfl, ?_⟩) ?_ ?_
                                          rotate_left
                                          · intro w'
                                            go_simp
                                            with_reducible rfl
                                          rotate_left
                                          · simp only [Act.put, List.setIfInBounds_toArray, List.set_cons_zero, List.set_cons_succ, i64_w, i32_w]
                                            rfl
                                          refine pure_ (i := 11) (N := some 102) (v := ?_) (a' := ?_) #[true, true, true, true, true, true, true, true, true, true, true, true, false, false, false, false, false, false, false, false, false, false, false] rfl rfl (any_of HT_.out (by kernel_rfl)) (fun _ _ _ h => h) (Or.inl ⟨by rfl, ?_⟩) ?_ ?_
                                          rotate_left
                                          · intro w'
                                            go_simp
                                            with_reducible rfl
                                          rotate_left
                                          · simp only [Act.put, List.setIfInBounds_toArray, List.set_cons_zero, List.set_cons_succ, i64_w, i32_w]
                                            rfl
                                          refine pure_ (i := 12) (N := some 103) (v := ?_) (a' := ?_) #[true, true, true, true, true, true, true, true, true, true, true, true, true, false, false, false, false, false, false, false, false, false, false] rfl rfl (any_of HT_.out (by kernel_rfl)) (fun _ _ _ h => h) (Or.inl ⟨by rfl, ?_⟩) ?_ ?_
                                          rotate_left
                                          · intro w'
                                            go_simp
                                            with_reducible rfl
                                          rotate_left
                                          · simp only [Act.put, List.setIfInBounds_toArray, List.set_cons_zero, List.set_cons_succ, i64_w, i32_w]
                                            rfl
                                          refine pure_ (i := 13) (N := some 104) (v := ?_) (a' := ?_) #[true, true, true, true, true, true, true, true, true, true, true, true, true, true, false, false, false, false, false, false, false, false, false] rfl rfl (any_of HT_.out (by kernel_rfl)) (fun _ _ _ h => h) (Or.inl ⟨by rfl, ?_⟩) ?_ ?_
                                          rotate_left
                                          · intro w'
                                            go_simp
                                            with_reducible rfl
                                          rotate_left
                                          · simp only [Act.put, List.setIfInBounds_toArray, List.set_cons_zero, List.set_cons_succ, i64_w, i32_w]
                                            rfl
                                          refine pure_ (i := 15) (N := some 106) (v := ?_) (a' := ?_) #[true, true, true, true, true, true, true, true, true, true, true, true, true, true, false, true, false, false, false, false, false, false, false] rfl rfl (any_of HT_.out (by kernel_rfl)) (fun _ _ _ h => h) (Or.inl ⟨by rfl, ?_⟩) ?_ ?_
                                          rotate_left
                                          · intro w'
                                            go_simp
                                            with_reducible rfl
                                          rotate_left
                                          · simp only [Act.put, List.setIfInBounds_toArray, List.set_cons_zero, List.set_cons_succ, i64_w, i32_w]
                                            rfl
                                          refine pure_ (i := 16) (N := some 107) (v := ?_) (a' := ?_) #[true, true, true, true, true, true, true, true, true, true, true, true, true, true, false, true, true, false, false, false, false, false, false] rfl rfl (any_of HT_.out (by kernel_rfl)) (fun _ _ _ h => h) (Or.inl ⟨by rfl, ?_⟩) ?_ ?_
                                          rotate_left
                                          · intro w'
                                            go_simp
                                            with_reducible rfl
                                          rotate_left
                                          · simp only [Act.put, List.setIfInBounds_toArray, List.set_cons_zero, List.set_cons_succ, i64_w, i32_w]
                                            rfl
                                          refine pure_ (i := 17) (N := some 108) (v := ?_) (a' := ?_) #[true, true, true, true, true, true, true, true, true, true, true, true, true, true, false, true, true, true, false, false, false, false, false] rfl rfl (any_of HT_.out (by kernel_rfl)) (fun _ _ _ h => h) (Or.inl ⟨by rfl, ?_⟩) ?_ ?_
                                          rotate_left
                                          · intro w'
                                            go_simp
                                            with_reducible rfl
                                          rotate_left
                                          · simp only [Act.put, List.setIfInBounds_toArray, List.set_cons_zero, List.set_cons_succ, i64_w, i32_w]
                                            rfl
                                          refine pure_ (i := 18) (N := some 109) (v := ?_) (a' := ?_) #[true, true, true, true, true, true, true, true, true, true, true, true, true, true, false, true, true, true, true, false, false, false, false] rfl rfl (any_of HT_.out (by kernel_rfl)) (fun _ _ _ h => h) (Or.inl ⟨by rfl, ?_⟩) ?_ ?_
                                          rotate_left
                                          · intro w'
                                            go_simp
                                            with_reducible rfl
                                          rotate_left
                                          · simp only [Act.put, List.setIfInBounds_toArray, List.set_cons_zero, List.set_cons_succ, i64_w, i32_w]
                                            rfl
                                          refine take_ (i := 14) (N := some 105) (v := ?_) (a' := ?_) #[true, true, true, true, true, true, true, true, true, true, true, true, true, true, true, true, true, true, true, false, false, false, false] rfl rfl (take_ofW HT_.out HW_.out (by kernel_rfl)) (fun _ _ _ h => h) (Or.inl ⟨by rfl, ?_⟩) hHeld ?_ ?_
                                          rotate_left
                                          · rintro w' ⟨s0, s1, s2, s3, s4, s5⟩
                                            go_simp
                                            with_reducible rfl
                                          rotate_left
                                          · simp only [Act.put, List.setIfInBounds_toArray, List.set_cons_zero, List.set_cons_succ, i64_w, i32_w]
                                            rfl
                                          refine take_ (i := 19) (N := some 110) (v := ?_) (a' := ?_) #[true, true, true, true, true, true, true, true, true, true, true, true, true, true, true, true, true, true, true, true, false, false, false] rfl rfl (take_ofW HT_.out HW_.out (by kernel_rfl)) (fun _ _ _ h => h) (Or.inl ⟨by rfl, ?_⟩) hHeld ?_ ?_
                                          rotate_left
                                          · rintro w' ⟨s0, s1, s2, s3, s4, s5⟩
                                            go_simp
                                            with_reducible rfl
                                          rotate_left
                                          · simp only [Act.put, List.setIfInBounds_toArray, List.set_cons_zero, List.set_cons_succ, i64_w, i32_w]
                                            rfl
                                          refine pure_ (i := 20) (N := some 111) (v := ?_) (a' := ?_) #[true, true, true, true, true, true, true, true, true, true, true, true, true, true, true, true, true, true, true, true, true, false, false] rfl rfl (any_of HT_.out (by kernel_rfl)) (fun _ _ _ h => h) (Or.inl ⟨by rfl, ?_⟩) ?_ ?_
                                          rotate_left
                                          · intro w'
                                            go_simp
                                            with_reducible rfl
                                          rotate_left
                                          · simp only [Act.put, List.setIfInBounds_toArray, List.set_cons_zero, List.set_cons_succ, i64_w, i32_w]
                                            rfl
                                          refine pure_ (i := 21) (N := some 112) (v := ?_) (a' := ?_) #[true, true, true, true, true, true, true, true, true, true, true, true, true, true, true, true, true, true, true, true, true, true, false] rfl rfl (any_of HT_.out (by kernel_rfl)) (fun _ _ _ h => h) (Or.inl ⟨by rfl, ?_⟩) ?_ ?_
                                          rotate_left
                                          · intro w'
                                            go_simp
                                            with_reducible rfl
                                          rotate_left
                                          · simp only [Act.put, List.setIfInBounds_toArray, List.set_cons_zero, List.set_cons_succ, i64_w, i32_w]
                                            rfl
                                          refine pure_ (i := 22) (N := some 113) (v := ?_) (a' := ?_) #[true, true, true, true, true, true, true, true, true, true, true, true, true, true, true, true, true, true, true, true, true, true, true] rfl rfl (any_of HT_.out (by kernel_rfl)) (fun _ _ _ h => h) (Or.inl ⟨by rfl, ?_⟩) ?_ ?_
                                          rotate_left
                                          · intro w'
                                            go_simp
                                            with_reducible rfl
                                          rotate_left
                                          · simp only [Act.put, List.setIfInBounds_toArray, List.set_cons_zero, List.set_cons_succ, i64_w, i32_w]
                                            rfl
                                          refine done_ (done_of HT_.out (by kernel_rfl)) ?_
                                          try go_wp2
                                          go_meet
                                          case rel => exact ⟨_, (decide (((rd_T27 t120 x9_40).f2) < ((rd_T27 t123 x10_2).f2))), (by first | rfl | (simp; done) | (simp [*]; done)), H', ⟨by have := HJ16.out; have := HK2.out; have := HJ36.out; have := HJ40.out; first | omega | exact Nat.le_refl _⟩, ⟨by (with_reducible repeat (first | apply Kd.R_alloc | apply Kd.R_drewN | apply Kd.R_drew)); exact HO_3.out⟩, ⟨by (with_reducible repeat (first | apply Kd.R_alloc | apply Kd.R_drewN | apply Kd.R_drew)); exact HO_4.out⟩, ⟨by (with_reducible repeat (first | refine blk_drewN ?_ _ | refine blk_drew ?_ | refine blk_alloc ?_ _)); exact BK128.out⟩, ⟨by (with_reducible repeat (first | refine blk_drewN ?_ _ | refine blk_drew ?_ | refine blk_alloc ?_ _)); exact BK133.out⟩, ⟨by repeat (first | (with_reducible first | exact HB.out | apply below_alloc | apply pw_below_drewN | apply below_drew1 | refine below_set ?_ GE128.out | refine below_set ?_ GE133.out) | exact HB.out)⟩⟩
                                        · rw [if_neg c56] at H
                                          exact absurd H (by simp)
                                      · rw [if_neg c55] at H
                                        exact absurd H (by simp)
                                    · rw [if_neg c54] at H
                                      exact absurd H (by simp)
                                · rw [if_neg c49] at H
                                  have c49b0 : decide (x9_40 < (t120.length : Int)) = false := decide_eq_false c49
                                  clear c49
                                  (first | rw [c49b0] | (simp only [i64_w, i32_w]; rw [c49b0]) | skip)
                                  have H' := Aside0.mk H
                                  clear H
                                  try go_wp2
                                  have n0_ : Aside0 (Kd.R k27 27 (((w46.setCell ⟨gb133, 0, none⟩ (.int .i64 0)).setCell ⟨gb133, 1, none⟩ (.string (⟨#[]⟩ : ByteArray))).setCell ⟨gb133, 2, none⟩ (.int .i64 (a0.size : Int))) w.heap.size (fun k_ => some k_ ≠ (v124 : Value).ownBlock ∧ k_ ≠ gb128 ∧ k_ ≠ gb133) (.slice (some ad127) t120.length co21) t120) := ⟨by (with_reducible repeat (first | apply Kd.R_alloc | apply Kd.R_drewN | apply Kd.R_drew)); exact Kd.R_mono (Kd.R_far (p := ⟨gb133, 2, none⟩) (Kd.R_far (p := ⟨gb133, 1, none⟩) (Kd.R_far (p := ⟨gb133, 0, none⟩) (Kd.R_mono HO_3.out (fun k_ hk => (⟨hk, hk.2⟩ : _ ∧ k_ ≠ gb133))) (fun _ hk => hk.2) (.int .i64 0)) (fun _ hk => hk.2) (.string (⟨#[]⟩ : ByteArray))) (fun _ hk => hk.2) (.int .i64 (a0.size : Int))) (fun _ hk => ⟨hk.1.1.1, ⟨hk.1.1.2, hk.1.2⟩⟩)⟩
                                  have n1_ : Aside0 (Kd.R k27 27 (((w46.setCell ⟨gb133, 0, none⟩ (.int .i64 0)).setCell ⟨gb133, 1, none⟩ (.string (⟨#[]⟩ : ByteArray))).setCell ⟨gb133, 2, none⟩ (.int .i64 (a0.size : Int))) w.heap.size (fun k_ => some k_ ≠ (.slice (some ad127) t120.length co21 : Value).ownBlock ∧ k_ ≠ gb128 ∧ k_ ≠ gb133) v124 t123) := ⟨by (with_reducible repeat (first | apply Kd.R_alloc | apply Kd.R_drewN | apply Kd.R_drew)); exact Kd.R_mono (Kd.R_far (p := ⟨gb133, 2, none⟩) (Kd.R_far (p := ⟨gb133, 1, none⟩) (Kd.R_far (p := ⟨gb133, 0, none⟩) (Kd.R_mono HO_4.out (fun k_ hk => (⟨hk, hk.2⟩ : _ ∧ k_ ≠ gb133))) (fun _ hk => hk.2) (.int .i64 0)) (fun _ hk => hk.2) (.string (⟨#[]⟩ : ByteArray))) (fun _ hk => hk.2) (.int .i64 (a0.size : Int))) (fun _ hk => ⟨hk.1.1.1, ⟨hk.1.1.2, hk.1.2⟩⟩)⟩
                                  have n2_ : Aside0 ((((w46.setCell ⟨gb133, 0, none⟩ (.int .i64 0)).setCell ⟨gb133, 1, none⟩ (.string (⟨#[]⟩ : ByteArray))).setCell ⟨gb133, 2, none⟩ (.int .i64 (a0.size : Int))).heap[gb128]? = some (.cells #[.int .i64 ((rd_T27 t120 (ji14)).f0), .string ((rd_T27 t120 (ji14)).f1), .int .i64 ((rd_T27 t120 (ji14)).f2)] 27 (0, 0))) := ⟨by (with_reducible repeat (first | refine blk_drewN ?_ _ | refine blk_drew ?_ | refine blk_alloc ?_ _)); refine blk_far ?_ NB128_133.out _; (with_reducible repeat (first | refine blk_drewN ?_ _ | refine blk_drew ?_ | refine blk_alloc ?_ _)); refine blk_far ?_ NB128_133.out _; (with_reducible repeat (first | refine blk_drewN ?_ _ | refine blk_drew ?_ | refine blk_alloc ?_ _)); refine blk_far ?_ NB128_133.out _; (with_reducible repeat (first | refine blk_drewN ?_ _ | refine blk_drew ?_ | refine blk_alloc ?_ _)); exact BK128.out⟩
                                  have n3_ : Aside0 ((((w46.setCell ⟨gb133, 0, none⟩ (.int .i64 0)).setCell ⟨gb133, 1, none⟩ (.string (⟨#[]⟩ : ByteArray))).setCell ⟨gb133, 2, none⟩ (.int .i64 (a0.size : Int))).heap[gb133]? = some (.cells #[.int .i64 0, .string (⟨#[]⟩ : ByteArray), .int .i64 (a0.size : Int)] 27 (0, 0))) := ⟨by (with_reducible repeat (first | refine blk_drewN ?_ _ | refine blk_drew ?_ | refine blk_alloc ?_ _)); refine blk_put (cs := #[.int .i64 0, .string (⟨#[]⟩ : ByteArray), .int .i64 0]) ?_ 2 _ rfl; (with_reducible repeat (first | refine blk_drewN ?_ _ | refine blk_drew ?_ | refine blk_alloc ?_ _)); refine blk_put (cs := #[.int .i64 0, .string (⟨#[]⟩ : ByteArray), .int .i64 0]) ?_ 1 _ rfl; (with_reducible repeat (first | refine blk_drewN ?_ _ | refine blk_drew ?_ | refine blk_alloc ?_ _)); refine blk_put (cs := #[.int .i64 0, .string (⟨#[]⟩ : ByteArray), .int .i64 0]) ?_ 0 _ rfl; (with_reducible repeat (first | refine blk_drewN ?_ _ | refine blk_drew ?_ | refine blk_alloc ?_ _)); exact BK133.out⟩
                                  have n4_ : Aside0 (Below w.heap.size w (((w46.setCell ⟨gb133, 0, none⟩ (.int .i64 0)).setCell ⟨gb133, 1, none⟩ (.string (⟨#[]⟩ : ByteArray))).setCell ⟨gb133, 2, none⟩ (.int .i64 (a0.size : Int)))) := ⟨by repeat (first | (with_reducible first | exact HB.out | apply below_alloc | apply pw_below_drewN | apply below_drew1 | refine below_set ?_ GE128.out | refine below_set ?_ GE133.out) | exact HB.out)⟩
                                  (try clear HO_3)
                                  (try clear HO_4)
                                  (try clear BK128)
                                  (try clear BK133)
                                  (try clear HB)
                                  generalize (((w46.setCell ⟨gb133, 0, none⟩ (.int .i64 0)).setCell ⟨gb133, 1, none⟩ (.string (⟨#[]⟩ : ByteArray))).setCell ⟨gb133, 2, none⟩ (.int .i64 (a0.size : Int))) = w60 at n0_ n1_ n2_ n3_ n4_ ⊢
                                  have HO_3 := n0_
                                  have HO_4 := n1_
                                  have BK128 := n2_
                                  have BK133 := n3_
                                  have HB := n4_
                                  clear n0_ n1_ n2_ n3_ n4_
                                  have n0_ := Aside0.mk (Kd.R_drew HO_3.out)
                                  have n1_ := Aside0.mk (Kd.R_drew HO_4.out)
                                  have n2_ := Aside0.mk (blk_drew BK128.out)
                                  have n3_ := Aside0.mk (blk_drew BK133.out)
                                  have n4_ := Aside0.mk (below_drew1 HB.out)
                                  clear HO_3; clear HO_4; clear BK128; clear BK133; clear HB
                                  have HO_3 := n0_
                                  have HO_4 := n1_
                                  have BK128 := n2_
                                  have BK133 := n3_
                                  have HB := n4_
                                  clear n0_ n1_ n2_ n3_ n4_
                                  refine start_ (n := 23) (S := fun w' => True) (ds := []) #[false, false, false, false, false, false, false, false, false, false, false, false, false, false, false, false, false, false, false, false, false, false, false] (by kernel_rfl) rfl rfl trivial (fun hHeld => ?_); refine with_tabW seichelaw11_GolexCovers.tab25 seichelaw11_GolexCovers.bits25 (fun HT_ HW_ => ?_)
                                  generalize w60.drew = w61 at HO_3 HO_4 BK128 BK133 HB hHeld ⊢
                                  refine pure_ (i := 0) (N := some 91) (v := ?_) (a' := ?_) #[true, false, false, false, false, false, false, false, false, false, false, false, false, false, false, false, false, false, false, false, false, false, false] rfl rfl (any_of HT_.out (by kernel_rfl)) (fun _ _ _ h => h) (Or.inl ⟨by rfl, ?_⟩) ?_ ?_
                                  rotate_left
                                  · intro w'
                                    go_simp
                                    with_reducible rfl
                                  rotate_left
                                  · simp only [Act.put, List.setIfInBounds_toArray, List.set_cons_zero, List.set_cons_succ, i64_w, i32_w]
                                    rfl
                                  refine pure_ (i := 1) (N := some 92) (v := ?_) (a' := ?_) #[true, true, false, false, false, false, false, false, false, false, false, false, false, false, false, false, false, false, false, false, false, false, false] rfl rfl (any_of HT_.out (by kernel_rfl)) (fun _ _ _ h => h) (Or.inl ⟨by rfl, ?_⟩) ?_ ?_
                                  rotate_left
                                  · intro w'
                                    go_simp
                                    with_reducible rfl
                                  rotate_left
                                  · simp only [Act.put, List.setIfInBounds_toArray, List.set_cons_zero, List.set_cons_succ, i64_w, i32_w]
                                    rfl
                                  refine pure_ (i := 2) (N := some 93) (v := ?_) (a' := ?_) #[true, true, true, false, false, false, false, false, false, false, false, false, false, false, false, false, false, false, false, false, false, false, false] rfl rfl (any_of HT_.out (by kernel_rfl)) (fun _ _ _ h => h) (Or.inl ⟨by rfl, ?_⟩) ?_ ?_
                                  rotate_left
                                  · intro w'
                                    go_simp
                                    with_reducible rfl
                                  rotate_left
                                  · simp only [Act.put, List.setIfInBounds_toArray, List.set_cons_zero, List.set_cons_succ, i64_w, i32_w]
                                    rfl
                                  refine pure_ (i := 3) (N := some 94) (v := ?_) (a' := ?_) #[true, true, true, true, false, false, false, false, false, false, false, false, false, false, false, false, false, false, false, false, false, false, false] rfl rfl (any_of HT_.out (by kernel_rfl)) (fun _ _ _ h => h) (Or.inl ⟨by rfl, ?_⟩) ?_ ?_
                                  rotate_left
                                  · intro w'
                                    go_simp
                                    with_reducible rfl
                                  rotate_left
                                  · simp only [Act.put, List.setIfInBounds_toArray, List.set_cons_zero, List.set_cons_succ, i64_w, i32_w]
                                    rfl
                                  refine pure_ (i := 4) (N := some 95) (v := ?_) (a' := ?_) #[true, true, true, true, true, false, false, false, false, false, false, false, false, false, false, false, false, false, false, false, false, false, false] rfl rfl (any_of HT_.out (by kernel_rfl)) (fun _ _ _ h => h) (Or.inl ⟨by rfl, ?_⟩) ?_ ?_
                                  rotate_left
                                  · intro w'
                                    go_simp
                                    with_reducible rfl
                                  rotate_left
                                  · simp only [Act.put, List.setIfInBounds_toArray, List.set_cons_zero, List.set_cons_succ, i64_w, i32_w]
                                    rfl
                                  refine pure_ (i := 5) (N := some 96) (v := undef) (a' := ?_) #[true, true, true, true, true, true, false, false, false, false, false, false, false, false, false, false, false, false, false, false, false, false, false] rfl rfl (any_of HT_.out (by kernel_rfl)) (fun _ _ _ h => h) (Or.inr ⟨by rfl, rfl⟩) ?_ ?_
                                  rotate_left
                                  · simp only [Act.put, List.setIfInBounds_toArray, List.set_cons_zero, List.set_cons_succ, i64_w, i32_w]
                                    rfl
                                  refine pure_ (i := 6) (N := some 97) (v := undef) (a' := ?_) #[true, true, true, true, true, true, true, false, false, false, false, false, false, false, false, false, false, false, false, false, false, false, false] rfl rfl (any_of HT_.out (by kernel_rfl)) (fun _ _ _ h => h) (Or.inr ⟨by rfl, rfl⟩) ?_ ?_
                                  rotate_left
                                  · simp only [Act.put, List.setIfInBounds_toArray, List.set_cons_zero, List.set_cons_succ, i64_w, i32_w]
                                    rfl
                                  refine pure_ (i := 7) (N := some 98) (v := undef) (a' := ?_) #[true, true, true, true, true, true, true, true, false, false, false, false, false, false, false, false, false, false, false, false, false, false, false] rfl rfl (any_of HT_.out (by kernel_rfl)) (fun _ _ _ h => h) (Or.inr ⟨by rfl, rfl⟩) ?_ ?_
                                  rotate_left
                                  · simp only [Act.put, List.setIfInBounds_toArray, List.set_cons_zero, List.set_cons_succ, i64_w, i32_w]
                                    rfl
                                  refine pure_ (i := 8) (N := some 99) (v := undef) (a' := ?_) #[true, true, true, true, true, true, true, true, true, false, false, false, false, false, false, false, false, false, false, false, false, false, false] rfl rfl (any_of HT_.out (by kernel_rfl)) (fun _ _ _ h => h) (Or.inr ⟨by rfl, rfl⟩) ?_ ?_
                                  rotate_left
                                  · simp only [Act.put, List.setIfInBounds_toArray, List.set_cons_zero, List.set_cons_succ, i64_w, i32_w]
                                    rfl
                                  refine pure_ (i := 9) (N := some 100) (v := undef) (a' := ?_) #[true, true, true, true, true, true, true, true, true, true, false, false, false, false, false, false, false, false, false, false, false, false, false] rfl rfl (any_of HT_.out (by kernel_rfl)) (fun _ _ _ h => h) (Or.inr ⟨by rfl, rfl⟩) ?_ ?_
                                  rotate_left
                                  · simp only [Act.put, List.setIfInBounds_toArray, List.set_cons_zero, List.set_cons_succ, i64_w, i32_w]
                                    rfl
                                  refine pure_ (i := 10) (N := some 101) (v := undef) (a' := ?_) #[true, true, true, true, true, true, true, true, true, true, true, false, false, false, false, false, false, false, false, false, false, false, false] rfl rfl (any_of HT_.out (by kernel_rfl)) (fun _ _ _ h => h) (Or.inr ⟨by rfl, rfl⟩) ?_ ?_
                                  rotate_left
                                  · simp only [Act.put, List.setIfInBounds_toArray, List.set_cons_zero, List.set_cons_succ, i64_w, i32_w]
                                    rfl
                                  refine pure_ (i := 11) (N := some 102) (v := undef) (a' := ?_) #[true, true, true, true, true, true, true, true, true, true, true, true, false, false, false, false, false, false, false, false, false, false, false] rfl rfl (any_of HT_.out (by kernel_rfl)) (fun _ _ _ h => h) (Or.inr ⟨by rfl, rfl⟩) ?_ ?_
                                  rotate_left
                                  · simp only [Act.put, List.setIfInBounds_toArray, List.set_cons_zero, List.set_cons_succ, i64_w, i32_w]
                                    rfl
                                  refine pure_ (i := 12) (N := some 103) (v := undef) (a' := ?_) #[true, true, true, true, true, true, true, true, true, true, true, true, true, false, false, false, false, false, false, false, false, false, false] rfl rfl (any_of HT_.out (by kernel_rfl)) (fun _ _ _ h => h) (Or.inr ⟨by rfl, rfl⟩) ?_ ?_
                                  rotate_left
                                  · simp only [Act.put, List.setIfInBounds_toArray, List.set_cons_zero, List.set_cons_succ, i64_w, i32_w]
                                    rfl
                                  refine pure_ (i := 13) (N := some 104) (v := undef) (a' := ?_) #[true, true, true, true, true, true, true, true, true, true, true, true, true, true, false, false, false, false, false, false, false, false, false] rfl rfl (any_of HT_.out (by kernel_rfl)) (fun _ _ _ h => h) (Or.inr ⟨by rfl, rfl⟩) ?_ ?_
                                  rotate_left
                                  · simp only [Act.put, List.setIfInBounds_toArray, List.set_cons_zero, List.set_cons_succ, i64_w, i32_w]
                                    rfl
                                  refine pure_ (i := 14) (N := some 105) (v := undef) (a' := ?_) #[true, true, true, true, true, true, true, true, true, true, true, true, true, true, true, false, false, false, false, false, false, false, false] rfl rfl (any_of HT_.out (by kernel_rfl)) (fun _ _ _ h => h) (Or.inr ⟨by rfl, rfl⟩) ?_ ?_
                                  rotate_left
                                  · simp only [Act.put, List.setIfInBounds_toArray, List.set_cons_zero, List.set_cons_succ, i64_w, i32_w]
                                    rfl
                                  refine pure_ (i := 15) (N := some 106) (v := undef) (a' := ?_) #[true, true, true, true, true, true, true, true, true, true, true, true, true, true, true, true, false, false, false, false, false, false, false] rfl rfl (any_of HT_.out (by kernel_rfl)) (fun _ _ _ h => h) (Or.inr ⟨by rfl, rfl⟩) ?_ ?_
                                  rotate_left
                                  · simp only [Act.put, List.setIfInBounds_toArray, List.set_cons_zero, List.set_cons_succ, i64_w, i32_w]
                                    rfl
                                  refine pure_ (i := 16) (N := some 107) (v := undef) (a' := ?_) #[true, true, true, true, true, true, true, true, true, true, true, true, true, true, true, true, true, false, false, false, false, false, false] rfl rfl (any_of HT_.out (by kernel_rfl)) (fun _ _ _ h => h) (Or.inr ⟨by rfl, rfl⟩) ?_ ?_
                                  rotate_left
                                  · simp only [Act.put, List.setIfInBounds_toArray, List.set_cons_zero, List.set_cons_succ, i64_w, i32_w]
                                    rfl
                                  refine pure_ (i := 17) (N := some 108) (v := undef) (a' := ?_) #[true, true, true, true, true, true, true, true, true, true, true, true, true, true, true, true, true, true, false, false, false, false, false] rfl rfl (any_of HT_.out (by kernel_rfl)) (fun _ _ _ h => h) (Or.inr ⟨by rfl, rfl⟩) ?_ ?_
                                  rotate_left
                                  · simp only [Act.put, List.setIfInBounds_toArray, List.set_cons_zero, List.set_cons_succ, i64_w, i32_w]
                                    rfl
                                  refine pure_ (i := 18) (N := some 109) (v := undef) (a' := ?_) #[true, true, true, true, true, true, true, true, true, true, true, true, true, true, true, true, true, true, true, false, false, false, false] rfl rfl (any_of HT_.out (by kernel_rfl)) (fun _ _ _ h => h) (Or.inr ⟨by rfl, rfl⟩) ?_ ?_
                                  rotate_left
                                  · simp only [Act.put, List.setIfInBounds_toArray, List.set_cons_zero, List.set_cons_succ, i64_w, i32_w]
                                    rfl
                                  refine pure_ (i := 19) (N := some 110) (v := undef) (a' := ?_) #[true, true, true, true, true, true, true, true, true, true, true, true, true, true, true, true, true, true, true, true, false, false, false] rfl rfl (any_of HT_.out (by kernel_rfl)) (fun _ _ _ h => h) (Or.inr ⟨by rfl, rfl⟩) ?_ ?_
                                  rotate_left
                                  · simp only [Act.put, List.setIfInBounds_toArray, List.set_cons_zero, List.set_cons_succ, i64_w, i32_w]
                                    rfl
                                  refine pure_ (i := 20) (N := some 111) (v := undef) (a' := ?_) #[true, true, true, true, true, true, true, true, true, true, true, true, true, true, true, true, true, true, true, true, true, false, false] rfl rfl (any_of HT_.out (by kernel_rfl)) (fun _ _ _ h => h) (Or.inr ⟨by rfl, rfl⟩) ?_ ?_
                                  rotate_left
                                  · simp only [Act.put, List.setIfInBounds_toArray, List.set_cons_zero, List.set_cons_succ, i64_w, i32_w]
                                    rfl
                                  refine pure_ (i := 21) (N := some 112) (v := undef) (a' := ?_) #[true, true, true, true, true, true, true, true, true, true, true, true, true, true, true, true, true, true, true, true, true, true, false] rfl rfl (any_of HT_.out (by kernel_rfl)) (fun _ _ _ h => h) (Or.inr ⟨by rfl, rfl⟩) ?_ ?_
                                  rotate_left
                                  · simp only [Act.put, List.setIfInBounds_toArray, List.set_cons_zero, List.set_cons_succ, i64_w, i32_w]
                                    rfl
                                  refine pure_ (i := 22) (N := some 113) (v := ?_) (a' := ?_) #[true, true, true, true, true, true, true, true, true, true, true, true, true, true, true, true, true, true, true, true, true, true, true] rfl rfl (any_of HT_.out (by kernel_rfl)) (fun _ _ _ h => h) (Or.inl ⟨by rfl, ?_⟩) ?_ ?_
                                  rotate_left
                                  · intro w'
                                    go_simp
                                    with_reducible rfl
                                  rotate_left
                                  · simp only [Act.put, List.setIfInBounds_toArray, List.set_cons_zero, List.set_cons_succ, i64_w, i32_w]
                                    rfl
                                  refine done_ (done_of HT_.out (by kernel_rfl)) ?_
                                  try go_wp2
                                  go_meet
                                  case rel => exact ⟨_, (false), (by first | rfl | (simp; done) | (simp [*]; done)), H', ⟨by have := HJ16.out; have := HK2.out; have := HJ36.out; have := HJ40.out; first | omega | exact Nat.le_refl _⟩, ⟨by (with_reducible repeat (first | apply Kd.R_alloc | apply Kd.R_drewN | apply Kd.R_drew)); exact HO_3.out⟩, ⟨by (with_reducible repeat (first | apply Kd.R_alloc | apply Kd.R_drewN | apply Kd.R_drew)); exact HO_4.out⟩, ⟨by (with_reducible repeat (first | refine blk_drewN ?_ _ | refine blk_drew ?_ | refine blk_alloc ?_ _)); exact BK128.out⟩, ⟨by (with_reducible repeat (first | refine blk_drewN ?_ _ | refine blk_drew ?_ | refine blk_alloc ?_ _)); exact BK133.out⟩, ⟨by repeat (first | (with_reducible first | exact HB.out | apply below_alloc | apply pw_below_drewN | apply below_drew1 | refine below_set ?_ GE128.out | refine below_set ?_ GE133.out) | exact HB.out)⟩⟩
                              case rest =>
                                clear HC45; (try clear p1); (try clear q1); (try clear hx1); (try clear p2); (try clear c4); (try clear c5); (try clear p13); (try clear q13); (try clear hx13); (try clear c49); (try clear c49b0); (try clear c50); (try clear c50b0); (try clear c54); (try clear c54b0); (try clear c55); (try clear c55b0); (try clear c56); (try clear c56b0); (try clear hx134_0); (try clear hx134_1); (try clear hx134_2); (try clear hx135_0); (try clear hx135_1); (try clear hx135_2); (try clear p134); (try clear p135); (try clear q134); (try clear q135); obtain ⟨kq, x113_44, rfl, HA, HJ44, HO_3, HO_4, BK128, BK133, HB⟩ := hcut
                                cases kq with
                                | zero => exact absurd HA.out (by simp [seichelaw11_GolexCovers.j6])
                                | succ kj44 =>
                                  have H := HA.out
                                  clear HA
                                  simp only [seichelaw11_GolexCovers.j6] at H
                                  by_cases c62 : x113_44 = true
                                  · subst c62
                                    have H1 : (if 0 ≤ x9_40 then (if x9_40 < (t120.length : Int) then (if ((rd_T27 t120 x9_40).f2) < x5_2 then (none) else (if ((rd_T27 t120 x9_40).f2) > (wrap64 ((a0.size : Int) - (((rd_T27 t120 x9_40).f1).size : Int))) then (none) else (if 0 ≤ ((rd_T27 t120 x9_40).f2) then (if ((rd_T27 t120 x9_40).f2) ≤ (wrap64 (((rd_T27 t120 x9_40).f2) + (((rd_T27 t120 x9_40).f1).size : Int))) then (if (wrap64 (((rd_T27 t120 x9_40).f2) + (((rd_T27 t120 x9_40).f1).size : Int))) ≤ (a0.size : Int) then (if (a0.extract (((rd_T27 t120 x9_40).f2) : Int).toNat ((wrap64 (((rd_T27 t120 x9_40).f2) + (((rd_T27 t120 x9_40).f1).size : Int))) : Int).toNat).toList = ((rd_T27 t120 x9_40).f1).toList then (if 0 ≤ x5_2 then (if x5_2 ≤ ((rd_T27 t120 x9_40).f2) then (if ((rd_T27 t120 x9_40).f2) ≤ (a0.size : Int) then ((seichelaw11_blank.f kj44 (a0.extract (x5_2 : Int).toNat (((rd_T27 t120 x9_40).f2) : Int).toNat)).bind fun t137 => (if t137 = true then (seichelaw11_GolexCovers.l1 kj44 a0 t120 t123 (wrap64 (((rd_T27 t120 x9_40).f2) + (((rd_T27 t120 x9_40).f1).size : Int))) x6_16 (wrap64 (x9_40 + 1)) x10_2) else (none))) else (none)) else (none)) else (none)) else (none)) else (none)) else (none)) else (none)))) else (none)) else (none)) = some r := by rw [if_pos rfl] at H; exact H
                                    clear H
                                    have H := H1
                                    clear H1
                                    by_cases c63 : 0 ≤ x9_40
                                    · rw [if_pos c63] at H
                                      have c63b0 : decide (0 ≤ x9_40) = true := decide_eq_true c63
                                      clear c63
                                      by_cases c64 : x9_40 < (t120.length : Int)
                                      · rw [if_pos c64] at H
                                        have c64b0 : decide (x9_40 < (t120.length : Int)) = true := decide_eq_true c64
                                        clear c64
                                        by_cases c65 : ((rd_T27 t120 x9_40).f2) < x5_2
                                        · rw [if_pos c65] at H
                                          exact absurd H (by simp)
                                        · rw [if_neg c65] at H
                                          have c65b0 : decide (((rd_T27 t120 x9_40).f2) < x5_2) = false := decide_eq_false c65
                                          clear c65
                                          by_cases c70 : ((rd_T27 t120 x9_40).f2) > (wrap64 ((a0.size : Int) - (((rd_T27 t120 x9_40).f1).size : Int)))
                                          · rw [if_pos c70] at H
                                            exact absurd H (by simp)
                                          · rw [if_neg c70] at H
                                            have c70b0 : decide ((wrap64 ((a0.size : Int) - (((rd_T27 t120 x9_40).f1).size : Int))) < ((rd_T27 t120 x9_40).f2)) = false := decide_eq_false c70
                                            clear c70
                                            by_cases c75 : 0 ≤ ((rd_T27 t120 x9_40).f2)
                                            · rw [if_pos c75] at H
                                              have c75b0 := eq_true c75
                                              have c75b1 : decide (0 ≤ ((rd_T27 t120 x9_40).f2)) = true := decide_eq_true c75
                                              clear c75
                                              by_cases c76 : ((rd_T27 t120 x9_40).f2) ≤ (wrap64 (((rd_T27 t120 x9_40).f2) + (((rd_T27 t120 x9_40).f1).size : Int)))
                                              · rw [if_pos c76] at H
                                                have c76b0 := eq_true c76
                                                have c76b1 : decide (((rd_T27 t120 x9_40).f2) ≤ (wrap64 (((rd_T27 t120 x9_40).f2) + (((rd_T27 t120 x9_40).f1).size : Int)))) = true := decide_eq_true c76
                                                by_cases c77 : (wrap64 (((rd_T27 t120 x9_40).f2) + (((rd_T27 t120 x9_40).f1).size : Int))) ≤ (a0.size : Int)
                                                · rw [if_pos c77] at H
                                                  have c77b0 := eq_true c77
                                                  have c77b1 : decide ((wrap64 (((rd_T27 t120 x9_40).f2) + (((rd_T27 t120 x9_40).f1).size : Int))) ≤ (a0.size : Int)) = true := decide_eq_true c77
                                                  by_cases c78 : (a0.extract (((rd_T27 t120 x9_40).f2) : Int).toNat ((wrap64 (((rd_T27 t120 x9_40).f2) + (((rd_T27 t120 x9_40).f1).size : Int))) : Int).toNat).toList = ((rd_T27 t120 x9_40).f1).toList
                                                  · rw [if_pos c78] at H
                                                    have c78b0 : ((a0.extract (((rd_T27 t120 x9_40).f2) : Int).toNat ((wrap64 (((rd_T27 t120 x9_40).f2) + (((rd_T27 t120 x9_40).f1).size : Int))) : Int).toNat).toList == ((rd_T27 t120 x9_40).f1).toList) = true := beq_iff_eq.mpr c78
                                                    have c78b1 : ((a0.extract (((rd_T27 t120 x9_40).f2) : Int).toNat ((wrap64 (((rd_T27 t120 x9_40).f2) + (((rd_T27 t120 x9_40).f1).size : Int))) : Int).toNat).toList != ((rd_T27 t120 x9_40).f1).toList) = false := bne_eq_false_iff_eq.mpr c78
                                                    clear c78
                                                    by_cases c79 : 0 ≤ x5_2
                                                    · rw [if_pos c79] at H
                                                      have c79b0 := eq_true c79
                                                      have c79b1 : decide (0 ≤ x5_2) = true := decide_eq_true c79
                                                      clear c79
                                                      by_cases c80 : x5_2 ≤ ((rd_T27 t120 x9_40).f2)
                                                      · rw [if_pos c80] at H
                                                        have c80b0 := eq_true c80
                                                        have c80b1 : decide (x5_2 ≤ ((rd_T27 t120 x9_40).f2)) = true := decide_eq_true c80
                                                        clear c80
                                                        by_cases c81 : ((rd_T27 t120 x9_40).f2) ≤ (a0.size : Int)
                                                        · rw [if_pos c81] at H
                                                          have c81b0 := eq_true c81
                                                          have c81b1 : decide (((rd_T27 t120 x9_40).f2) ≤ (a0.size : Int)) = true := decide_eq_true c81
                                                          clear c81
                                                          replace H := Option.bind_eq_some_iff.mp H
                                                          obtain ⟨t137, A820, H⟩ := H
                                                          replace H : (if t137 = true then (seichelaw11_GolexCovers.l1 kj44 a0 t120 t123 (wrap64 (((rd_T27 t120 x9_40).f2) + (((rd_T27 t120 x9_40).f1).size : Int))) x6_16 (wrap64 (x9_40 + 1)) x10_2) else (none)) = some r := H
                                                          have A82 := Aside0.mk A820; clear A820
                                                          by_cases c83 : t137 = true
                                                          · subst c83
                                                            have H1 : (seichelaw11_GolexCovers.l1 kj44 a0 t120 t123 (wrap64 (((rd_T27 t120 x9_40).f2) + (((rd_T27 t120 x9_40).f1).size : Int))) x6_16 (wrap64 (x9_40 + 1)) x10_2) = some r := by rw [if_pos rfl] at H; exact H
                                                            clear H
                                                            have H := H1
                                                            clear H1
                                                            have H' := Aside0.mk H
                                                            clear H
                                                            have p136 : 0 ≤ (x9_40 : Int) := of_decide_eq_true (by first | (with_reducible assumption) | assumption)
                                                            have q136 : x9_40 < (t120.length : Int) := of_decide_eq_true (by first | (with_reducible assumption) | assumption)
                                                            obtain ⟨ad136, e136, hx136_0, hx136_1, hx136_2⟩ := at_T27 (Kd.R_reads' HO_3.out).2.2 x9_40 p136 q136
                                                            obtain rfl : ad127 = ad136 := (by injection e136)
                                                            replace p136 := eq_true p136; replace q136 := eq_true q136
                                                            have hnb84 := NB133_128.out
                                                            have hnc84 := NB128_133.out
                                                            have hcz85_0 : wc.cell? ⟨gb133, 0, none⟩ = some (.int .i64 0) := (blk_cell BK133.out 0).trans rfl
                                                            have hcz85_1 : wc.cell? ⟨gb133, 1, none⟩ = some (.string (⟨#[]⟩ : ByteArray)) := (blk_cell BK133.out 1).trans rfl
                                                            have hcz85_2 : wc.cell? ⟨gb133, 2, none⟩ = some (.int .i64 (a0.size : Int)) := (blk_cell BK133.out 2).trans rfl
                                                            have hfz85_0 := blk_frozen BK133.out 0; have hfz85_1 := blk_frozen BK133.out 1; have hfz85_2 := blk_frozen BK133.out 2
                                                            try go_wp2
                                                            have n0_ : Aside0 (Kd.R k27 27 (((wc.setCell ⟨gb133, 0, none⟩ (.int .i64 ((rd_T27 t120 x9_40).f0))).setCell ⟨gb133, 1, none⟩ (.string ((rd_T27 t120 x9_40).f1))).setCell ⟨gb133, 2, none⟩ (.int .i64 ((rd_T27 t120 x9_40).f2))) w.heap.size (fun k_ => some k_ ≠ (v124 : Value).ownBlock ∧ k_ ≠ gb128 ∧ k_ ≠ gb133) (.slice (some ad127) t120.length co21) t120) := ⟨by (with_reducible repeat (first | apply Kd.R_alloc | apply Kd.R_drewN | apply Kd.R_drew)); exact Kd.R_mono (Kd.R_far (p := ⟨gb133, 2, none⟩) (Kd.R_far (p := ⟨gb133, 1, none⟩) (Kd.R_far (p := ⟨gb133, 0, none⟩) (Kd.R_mono HO_3.out (fun k_ hk => (⟨hk, hk.2.2⟩ : _ ∧ k_ ≠ gb133))) (fun _ hk => hk.2) (.int .i64 ((rd_T27 t120 x9_40).f0))) (fun _ hk => hk.2) (.string ((rd_T27 t120 x9_40).f1))) (fun _ hk => hk.2) (.int .i64 ((rd_T27 t120 x9_40).f2))) (fun _ hk => ⟨hk.1.1, ⟨hk.1.2.1, hk.1.2.2⟩⟩)⟩
                                                            have n1_ : Aside0 (Kd.R k27 27 (((wc.setCell ⟨gb133, 0, none⟩ (.int .i64 ((rd_T27 t120 x9_40).f0))).setCell ⟨gb133, 1, none⟩ (.string ((rd_T27 t120 x9_40).f1))).setCell ⟨gb133, 2, none⟩ (.int .i64 ((rd_T27 t120 x9_40).f2))) w.heap.size (fun k_ => some k_ ≠ (.slice (some ad127) t120.length co21 : Value).ownBlock ∧ k_ ≠ gb128 ∧ k_ ≠ gb133) v124 t123) := ⟨by (with_reducible repeat (first | apply Kd.R_alloc | apply Kd.R_drewN | apply Kd.R_drew)); exact Kd.R_mono (Kd.R_far (p := ⟨gb133, 2, none⟩) (Kd.R_far (p := ⟨gb133, 1, none⟩) (Kd.R_far (p := ⟨gb133, 0, none⟩) (Kd.R_mono HO_4.out (fun k_ hk => (⟨hk, hk.2.2⟩ : _ ∧ k_ ≠ gb133))) (fun _ hk => hk.2) (.int .i64 ((rd_T27 t120 x9_40).f0))) (fun _ hk => hk.2) (.string ((rd_T27 t120 x9_40).f1))) (fun _ hk => hk.2) (.int .i64 ((rd_T27 t120 x9_40).f2))) (fun _ hk => ⟨hk.1.1, ⟨hk.1.2.1, hk.1.2.2⟩⟩)⟩
                                                            have n2_ : Aside0 ((((wc.setCell ⟨gb133, 0, none⟩ (.int .i64 ((rd_T27 t120 x9_40).f0))).setCell ⟨gb133, 1, none⟩ (.string ((rd_T27 t120 x9_40).f1))).setCell ⟨gb133, 2, none⟩ (.int .i64 ((rd_T27 t120 x9_40).f2))).heap[gb128]? = some (.cells #[.int .i64 ((rd_T27 t120 (ji14)).f0), .string ((rd_T27 t120 (ji14)).f1), .int .i64 ((rd_T27 t120 (ji14)).f2)] 27 (0, 0))) := ⟨by (with_reducible repeat (first | refine blk_drewN ?_ _ | refine blk_drew ?_ | refine blk_alloc ?_ _)); refine blk_far ?_ NB128_133.out _; (with_reducible repeat (first | refine blk_drewN ?_ _ | refine blk_drew ?_ | refine blk_alloc ?_ _)); refine blk_far ?_ NB128_133.out _; (with_reducible repeat (first | refine blk_drewN ?_ _ | refine blk_drew ?_ | refine blk_alloc ?_ _)); refine blk_far ?_ NB128_133.out _; (with_reducible repeat (first | refine blk_drewN ?_ _ | refine blk_drew ?_ | refine blk_alloc ?_ _)); exact BK128.out⟩
                                                            have n3_ : Aside0 ((((wc.setCell ⟨gb133, 0, none⟩ (.int .i64 ((rd_T27 t120 x9_40).f0))).setCell ⟨gb133, 1, none⟩ (.string ((rd_T27 t120 x9_40).f1))).setCell ⟨gb133, 2, none⟩ (.int .i64 ((rd_T27 t120 x9_40).f2))).heap[gb133]? = some (.cells #[.int .i64 ((rd_T27 t120 x9_40).f0), .string ((rd_T27 t120 x9_40).f1), .int .i64 ((rd_T27 t120 x9_40).f2)] 27 (0, 0))) := ⟨by (with_reducible repeat (first | refine blk_drewN ?_ _ | refine blk_drew ?_ | refine blk_alloc ?_ _)); refine blk_put (cs := #[.int .i64 ((rd_T27 t120 x9_40).f0), .string ((rd_T27 t120 x9_40).f1), .int .i64 (a0.size : Int)]) ?_ 2 _ rfl; (with_reducible repeat (first | refine blk_drewN ?_ _ | refine blk_drew ?_ | refine blk_alloc ?_ _)); refine blk_put (cs := #[.int .i64 ((rd_T27 t120 x9_40).f0), .string (⟨#[]⟩ : ByteArray), .int .i64 (a0.size : Int)]) ?_ 1 _ rfl; (with_reducible repeat (first | refine blk_drewN ?_ _ | refine blk_drew ?_ | refine blk_alloc ?_ _)); refine blk_put (cs := #[.int .i64 0, .string (⟨#[]⟩ : ByteArray), .int .i64 (a0.size : Int)]) ?_ 0 _ rfl; (with_reducible repeat (first | refine blk_drewN ?_ _ | refine blk_drew ?_ | refine blk_alloc ?_ _)); exact BK133.out⟩
                                                            have n4_ : Aside0 (Below w.heap.size w (((wc.setCell ⟨gb133, 0, none⟩ (.int .i64 ((rd_T27 t120 x9_40).f0))).setCell ⟨gb133, 1, none⟩ (.string ((rd_T27 t120 x9_40).f1))).setCell ⟨gb133, 2, none⟩ (.int .i64 ((rd_T27 t120 x9_40).f2)))) := ⟨by repeat (first | (with_reducible first | exact HB.out | apply below_alloc | apply pw_below_drewN | apply below_drew1 | refine below_set ?_ GE128.out | refine below_set ?_ GE133.out) | exact HB.out)⟩
                                                            (try clear HO_3)
                                                            (try clear HO_4)
                                                            (try clear BK128)
                                                            (try clear BK133)
                                                            (try clear HB)
                                                            generalize (((wc.setCell ⟨gb133, 0, none⟩ (.int .i64 ((rd_T27 t120 x9_40).f0))).setCell ⟨gb133, 1, none⟩ (.string ((rd_T27 t120 x9_40).f1))).setCell ⟨gb133, 2, none⟩ (.int .i64 ((rd_T27 t120 x9_40).f2))) = w86 at n0_ n1_ n2_ n3_ n4_ ⊢
                                                            have HO_3 := n0_
                                                            have HO_4 := n1_
                                                            have BK128 := n2_
                                                            have BK133 := n3_
                                                            have HB := n4_
                                                            clear n0_ n1_ n2_ n3_ n4_
                                                            have n0_ := Aside0.mk (Kd.R_drew HO_3.out)
                                                            have n1_ := Aside0.mk (Kd.R_drew HO_4.out)
                                                            have n2_ := Aside0.mk (blk_drew BK128.out)
                                                            have n3_ := Aside0.mk (blk_drew BK133.out)
                                                            have n4_ := Aside0.mk (below_drew1 HB.out)
                                                            clear HO_3; clear HO_4; clear BK128; clear BK133; clear HB
                                                            have HO_3 := n0_
                                                            have HO_4 := n1_
                                                            have BK128 := n2_
                                                            have BK133 := n3_
                                                            have HB := n4_
                                                            clear n0_ n1_ n2_ n3_ n4_
                                                            refine start_ (n := 39) (S := fun w' => w'.cell? ⟨gb133, 0, none⟩ = some (.int .i64 ((rd_T27 t120 x9_40).f0)) ∧ w'.cell? ⟨gb133, 1, none⟩ = some (.string ((rd_T27 t120 x9_40).f1)) ∧ w'.cell? ⟨gb133, 2, none⟩ = some (.int .i64 ((rd_T27 t120 x9_40).f2))) (ds := []) #[false, false, false, false, false, false, false, false, false, false, false, false, false, false, false, false, false, false, false, false, false, false, false, false, false, false, false, false, false, false, false, false, false, false, false, false, false, false, false] (by kernel_rfl) rfl rfl ⟨(blk_cell BK133.out 0).trans rfl, (blk_cell BK133.out 1).trans rfl, (blk_cell BK133.out 2).trans rfl⟩ (fun hHeld => ?_); refine with_tabW seichelaw11_GolexCovers.tab31 seichelaw11_GolexCovers.bits31 (fun HT_ HW_ => ?_)
                                                            generalize w86.drew = w87 at HO_3 HO_4 BK128 BK133 HB hHeld ⊢
                                                            refine pure_ (i := 0) (N := some 130) (v := ?_) (a' := ?_) #[true, false, false, false, false, false, false, false, false, false, false, false, false, false, false, false, false, false, false, false, false, false, false, false, false, false, false, false, false, false, false, false, false, false, false, false, false, false, false] rfl rfl (any_of HT_.out (by kernel_rfl)) (fun _ _ _ h => h) (Or.inl ⟨by rfl, ?_⟩) ?_ ?_
                                                            rotate_left
                                                            · intro w'
                                                              go_simp
                                                              with_reducible rfl
                                                            rotate_left
                                                            · simp only [Act.put, List.setIfInBounds_toArray, List.set_cons_zero, List.set_cons_succ, i64_w, i32_w]
                                                              rfl
                                                            refine pure_ (i := 2) (N := some 132) (v := ?_) (a' := ?_) #[true, false, true, false, false, false, false, false, false, false, false, false, false, false, false, false, false, false, false, false, false, false, false, false, false, false, false, false, false, false, false, false, false, false, false, false, false, false, false] rfl rfl (any_of HT_.out (by kernel_rfl)) (fun _ _ _ h => h) (Or.inl ⟨by rfl, ?_⟩) ?_ ?_
                                                            rotate_left
                                                            · intro w'
                                                              go_simp
                                                              with_reducible rfl
                                                            rotate_left
                                                            · simp only [Act.put, List.setIfInBounds_toArray, List.set_cons_zero, List.set_cons_succ, i64_w, i32_w]
                                                              rfl
                                                            refine take_ (i := 1) (N := some 131) (v := ?_) (a' := ?_) #[true, true, true, false, false, false, false, false, false, false, false, false, false, false, false, false, false, false, false, false, false, false, false, false, false, false, false, false, false, false, false, false, false, false, false, false, false, false, false] rfl rfl (take_ofW HT_.out HW_.out (by kernel_rfl)) (fun _ _ _ h => h) (Or.inl ⟨by rfl, ?_⟩) hHeld ?_ ?_
                                                            rotate_left
                                                            · rintro w' ⟨s0, s1, s2⟩
                                                              go_simp
                                                              with_reducible rfl
                                                            rotate_left
                                                            · simp only [Act.put, List.setIfInBounds_toArray, List.set_cons_zero, List.set_cons_succ, i64_w, i32_w]
                                                              rfl
                                                            refine pure_ (i := 3) (N := some 133) (v := ?_) (a' := ?_) #[true, true, true, true, false, false, false, false, false, false, false, false, false, false, false, false, false, false, false, false, false, false, false, false, false, false, false, false, false, false, false, false, false, false, false, false, false, false, false] rfl rfl (any_of HT_.out (by kernel_rfl)) (fun _ _ _ h => h) (Or.inl ⟨by rfl, ?_⟩) ?_ ?_
                                                            rotate_left
                                                            · intro w'
                                                              go_simp
                                                              with_reducible rfl
                                                            rotate_left
                                                            · simp only [Act.put, List.setIfInBounds_toArray, List.set_cons_zero, List.set_cons_succ, i64_w, i32_w]
                                                              rfl
                                                            refine pure_ (i := 4) (N := some 134) (v := ?_) (a' := ?_) #[true, true, true, true, true, false, false, false, false, false, false, false, false, false, false, false, false, false, false, false, false, false, false, false, false, false, false, false, false, false, false, false, false, false, false, false, false, false, false] rfl rfl (any_of HT_.out (by kernel_rfl)) (fun _ _ _ h => h) (Or.inl ⟨by rfl, ?_⟩) ?_ ?_
                                                            rotate_left
                                                            · intro w'
                                                              go_simp
                                                              with_reducible rfl
                                                            rotate_left
                                                            · simp only [Act.put, List.setIfInBounds_toArray, List.set_cons_zero, List.set_cons_succ, i64_w, i32_w]
                                                              rfl
                                                            refine pure_ (i := 5) (N := some 135) (v := ?_) (a' := ?_) #[true, true, true, true, true, true, false, false, false, false, false, false, false, false, false, false, false, false, false, false, false, false, false, false, false, false, false, false, false, false, false, false, false, false, false, false, false, false, false] rfl rfl (any_of HT_.out (by kernel_rfl)) (fun _ _ _ h => h) (Or.inl ⟨by rfl, ?_⟩) ?_ ?_
                                                            rotate_left
                                                            · intro w'
                                                              go_simp
                                                              with_reducible rfl
                                                            rotate_left
                                                            · simp only [Act.put, List.setIfInBounds_toArray, List.set_cons_zero, List.set_cons_succ, i64_w, i32_w]
                                                              rfl
                                                            refine pure_ (i := 7) (N := some 137) (v := ?_) (a' := ?_) #[true, true, true, true, true, true, false, true, false, false, false, false, false, false, false, false, false, false, false, false, false, false, false, false, false, false, false, false, false, false, false, false, false, false, false, false, false, false, false] rfl rfl (any_of HT_.out (by kernel_rfl)) (fun _ _ _ h => h) (Or.inl ⟨by rfl, ?_⟩) ?_ ?_
                                                            rotate_left
                                                            · intro w'
                                                              go_simp
                                                              with_reducible rfl
                                                            rotate_left
                                                            · simp only [Act.put, List.setIfInBounds_toArray, List.set_cons_zero, List.set_cons_succ, i64_w, i32_w]
                                                              rfl
                                                            refine pure_ (i := 8) (N := some 138) (v := ?_) (a' := ?_) #[true, true, true, true, true, true, false, true, true, false, false, false, false, false, false, false, false, false, false, false, false, false, false, false, false, false, false, false, false, false, false, false, false, false, false, false, false, false, false] rfl rfl (any_of HT_.out (by kernel_rfl)) (fun _ _ _ h => h) (Or.inl ⟨by rfl, ?_⟩) ?_ ?_
                                                            rotate_left
                                                            · intro w'
                                                              go_simp
                                                              with_reducible rfl
                                                            rotate_left
                                                            · simp only [Act.put, List.setIfInBounds_toArray, List.set_cons_zero, List.set_cons_succ, i64_w, i32_w]
                                                              rfl
                                                            refine pure_ (i := 9) (N := some 139) (v := ?_) (a' := ?_) #[true, true, true, true, true, true, false, true, true, true, false, false, false, false, false, false, false, false, false, false, false, false, false, false, false, false, false, false, false, false, false, false, false, false, false, false, false, false, false] rfl rfl (any_of HT_.out (by kernel_rfl)) (fun _ _ _ h => h) (Or.inl ⟨by rfl, ?_⟩) ?_ ?_
                                                            rotate_left
                                                            · intro w'
                                                              go_simp
                                                              with_reducible rfl
                                                            rotate_left
                                                            · simp only [Act.put, List.setIfInBounds_toArray, List.set_cons_zero, List.set_cons_succ, i64_w, i32_w]
                                                              rfl
                                                            refine take_ (i := 6) (N := some 136) (v := ?_) (a' := ?_) #[true, true, true, true, true, true, true, true, true, true, false, false, false, false, false, false, false, false, false, false, false, false, false, false, false, false, false, false, false, false, false, false, false, false, false, false, false, false, false] rfl rfl (take_ofW HT_.out HW_.out (by kernel_rfl)) (fun _ _ _ h => h) (Or.inl ⟨by rfl, ?_⟩) hHeld ?_ ?_
                                                            rotate_left
                                                            · rintro w' ⟨s0, s1, s2⟩
                                                              go_simp
                                                              with_reducible rfl
                                                            rotate_left
                                                            · simp only [Act.put, List.setIfInBounds_toArray, List.set_cons_zero, List.set_cons_succ, i64_w, i32_w]
                                                              rfl
                                                            refine take_ (i := 10) (N := some 140) (v := ?_) (a' := ?_) #[true, true, true, true, true, true, true, true, true, true, true, false, false, false, false, false, false, false, false, false, false, false, false, false, false, false, false, false, false, false, false, false, false, false, false, false, false, false, false] rfl rfl (take_ofW HT_.out HW_.out (by kernel_rfl)) (fun _ _ _ h => h) (Or.inl ⟨by rfl, ?_⟩) hHeld ?_ ?_
                                                            rotate_left
                                                            · rintro w' ⟨s0, s1, s2⟩
                                                              go_simp
                                                              with_reducible rfl
                                                            rotate_left
                                                            · simp only [Act.put, List.setIfInBounds_toArray, List.set_cons_zero, List.set_cons_succ, i64_w, i32_w]
                                                              rfl
                                                            refine pure_ (i := 11) (N := some 141) (v := ?_) (a' := ?_) #[true, true, true, true, true, true, true, true, true, true, true, true, false, false, false, false, false, false, false, false, false, false, false, false, false, false, false, false, false, false, false, false, false, false, false, false, false, false, false] rfl rfl (any_of HT_.out (by kernel_rfl)) (fun _ _ _ h => h) (Or.inl ⟨by rfl, ?_⟩) ?_ ?_
                                                            rotate_left
                                                            · intro w'
                                                              go_simp
                                                              with_reducible rfl
                                                            rotate_left
                                                            · simp only [Act.put, List.setIfInBounds_toArray, List.set_cons_zero, List.set_cons_succ, i64_w, i32_w]
                                                              rfl
                                                            refine pure_ (i := 12) (N := some 142) (v := ?_) (a' := ?_) #[true, true, true, true, true, true, true, true, true, true, true, true, true, false, false, false, false, false, false, false, false, false, false, false, false, false, false, false, false, false, false, false, false, false, false, false, false, false, false] rfl rfl (any_of HT_.out (by kernel_rfl)) (fun _ _ _ h => h) (Or.inl ⟨by rfl, ?_⟩) ?_ ?_
                                                            rotate_left
                                                            · intro w'
                                                              go_simp
                                                              with_reducible rfl
                                                            rotate_left
                                                            · simp only [Act.put, List.setIfInBounds_toArray, List.set_cons_zero, List.set_cons_succ, i64_w, i32_w]
                                                              rfl
                                                            refine pure_ (i := 13) (N := some 143) (v := ?_) (a' := ?_) #[true, true, true, true, true, true, true, true, true, true, true, true, true, true, false, false, false, false, false, false, false, false, false, false, false, false, false, false, false, false, false, false, false, false, false, false, false, false, false] rfl rfl (any_of HT_.out (by kernel_rfl)) (fun _ _ _ h => h) (Or.inl ⟨by rfl, ?_⟩) ?_ ?_
                                                            rotate_left
                                                            · intro w'
                                                              go_simp
                                                              with_reducible rfl
                                                            rotate_left
                                                            · simp only [Act.put, List.setIfInBounds_toArray, List.set_cons_zero, List.set_cons_succ, i64_w, i32_w]
                                                              rfl
                                                            refine pure_ (i := 14) (N := some 144) (v := ?_) (a' := ?_) #[true, true, true, true, true, true, true, true, true, true, true, true, true, true, true, false, false, false, false, false, false, false, false, false, false, false, false, false, false, false, false, false, false, false, false, false, false, false, false] rfl rfl (any_of HT_.out (by kernel_rfl)) (fun _ _ _ h => h) (Or.inl ⟨by rfl, ?_⟩) ?_ ?_
                                                            rotate_left
                                                            · intro w'
                                                              go_simp
                                                              with_reducible rfl
                                                            rotate_left
                                                            · simp only [Act.put, List.setIfInBounds_toArray, List.set_cons_zero, List.set_cons_succ, i64_w, i32_w]
                                                              rfl
                                                            refine pure_ (i := 15) (N := some 145) (v := ?_) (a' := ?_) #[true, true, true, true, true, true, true, true, true, true, true, true, true, true, true, true, false, false, false, false, false, false, false, false, false, false, false, false, false, false, false, false, false, false, false, false, false, false, false] rfl rfl (any_of HT_.out (by kernel_rfl)) (fun _ _ _ h => h) (Or.inl ⟨by rfl, ?_⟩) ?_ ?_
                                                            rotate_left
                                                            · intro w'
                                                              go_simp
                                                              with_reducible rfl
                                                            rotate_left
                                                            · simp only [Act.put, List.setIfInBounds_toArray, List.set_cons_zero, List.set_cons_succ, i64_w, i32_w]
                                                              rfl
                                                            refine pure_ (i := 16) (N := some 146) (v := ?_) (a' := ?_) #[true, true, true, true, true, true, true, true, true, true, true, true, true, true, true, true, true, false, false, false, false, false, false, false, false, false, false, false, false, false, false, false, false, false, false, false, false, false, false] rfl rfl (any_of HT_.out (by kernel_rfl)) (fun _ _ _ h => h) (Or.inl ⟨by rfl, ?_⟩) ?_ ?_
                                                            rotate_left
                                                            · intro w'
                                                              go_simp
                                                              with_reducible rfl
                                                            rotate_left
                                                            · simp only [Act.put, List.setIfInBounds_toArray, List.set_cons_zero, List.set_cons_succ, i64_w, i32_w]
                                                              rfl
                                                            refine pure_ (i := 17) (N := some 147) (v := ?_) (a' := ?_) #[true, true, true, true, true, true, true, true, true, true, true, true, true, true, true, true, true, true, false, false, false, false, false, false, false, false, false, false, false, false, false, false, false, false, false, false, false, false, false] rfl rfl (any_of HT_.out (by kernel_rfl)) (fun _ _ _ h => h) (Or.inl ⟨by rfl, ?_⟩) ?_ ?_
                                                            rotate_left
                                                            · intro w'
                                                              go_simp
                                                              with_reducible rfl
                                                            rotate_left
                                                            · simp only [Act.put, List.setIfInBounds_toArray, List.set_cons_zero, List.set_cons_succ, i64_w, i32_w]
                                                              rfl
                                                            refine pure_ (i := 19) (N := some 149) (v := ?_) (a' := ?_) #[true, true, true, true, true, true, true, true, true, true, true, true, true, true, true, true, true, true, false, true, false, false, false, false, false, false, false, false, false, false, false, false, false, false, false, false, false, false, false] rfl rfl (any_of HT_.out (by kernel_rfl)) (fun _ _ _ h => h) (Or.inl ⟨by rfl, ?_⟩) ?_ ?_
                                                            rotate_left
                                                            · intro w'
                                                              go_simp
                                                              with_reducible rfl
                                                            rotate_left
                                                            · simp only [Act.put, List.setIfInBounds_toArray, List.set_cons_zero, List.set_cons_succ, i64_w, i32_w]
                                                              rfl
                                                            refine pure_ (i := 21) (N := some 151) (v := ?_) (a' := ?_) #[true, true, true, true, true, true, true, true, true, true, true, true, true, true, true, true, true, true, false, true, false, true, false, false, false, false, false, false, false, false, false, false, false, false, false, false, false, false, false] rfl rfl (any_of HT_.out (by kernel_rfl)) (fun _ _ _ h => h) (Or.inl ⟨by rfl, ?_⟩) ?_ ?_
                                                            rotate_left
                                                            · intro w'
                                                              go_simp
                                                              with_reducible rfl
                                                            rotate_left
                                                            · simp only [Act.put, List.setIfInBounds_toArray, List.set_cons_zero, List.set_cons_succ, i64_w, i32_w]
                                                              rfl
                                                            refine pure_ (i := 26) (N := some 156) (v := ?_) (a' := ?_) #[true, true, true, true, true, true, true, true, true, true, true, true, true, true, true, true, true, true, false, true, false, true, false, false, false, false, true, false, false, false, false, false, false, false, false, false, false, false, false] rfl rfl (any_of HT_.out (by kernel_rfl)) (fun _ _ _ h => h) (Or.inl ⟨by rfl, ?_⟩) ?_ ?_
                                                            rotate_left
                                                            · intro w'
                                                              go_simp
                                                              with_reducible rfl
                                                            rotate_left
                                                            · simp only [Act.put, List.setIfInBounds_toArray, List.set_cons_zero, List.set_cons_succ, i64_w, i32_w]
                                                              rfl
                                                            refine take_ (i := 18) (N := some 148) (v := ?_) (a' := ?_) #[true, true, true, true, true, true, true, true, true, true, true, true, true, true, true, true, true, true, true, true, false, true, false, false, false, false, true, false, false, false, false, false, false, false, false, false, false, false, false] rfl rfl (take_ofW HT_.out HW_.out (by kernel_rfl)) (fun _ _ _ h => h) (Or.inl ⟨by rfl, ?_⟩) hHeld ?_ ?_
                                                            rotate_left
                                                            · rintro w' ⟨s0, s1, s2⟩
                                                              go_simp
                                                              with_reducible rfl
                                                            rotate_left
                                                            · simp only [Act.put, List.setIfInBounds_toArray, List.set_cons_zero, List.set_cons_succ, i64_w, i32_w]
                                                              rfl
                                                            refine take_ (i := 20) (N := some 150) (v := ?_) (a' := ?_) #[true, true, true, true, true, true, true, true, true, true, true, true, true, true, true, true, true, true, true, true, true, true, false, false, false, false, true, false, false, false, false, false, false, false, false, false, false, false, false] rfl rfl (take_ofW HT_.out HW_.out (by kernel_rfl)) (fun _ _ _ h => h) (Or.inl ⟨by rfl, ?_⟩) hHeld ?_ ?_
                                                            rotate_left
                                                            · rintro w' ⟨s0, s1, s2⟩
                                                              go_simp
                                                              with_reducible rfl
                                                            rotate_left
                                                            · simp only [Act.put, List.setIfInBounds_toArray, List.set_cons_zero, List.set_cons_succ, i64_w, i32_w]
                                                              rfl
                                                            refine take_ (i := 22) (N := some 152) (v := ?_) (a' := ?_) #[true, true, true, true, true, true, true, true, true, true, true, true, true, true, true, true, true, true, true, true, true, true, true, false, false, false, true, false, false, false, false, false, false, false, false, false, false, false, false] rfl rfl (take_ofW HT_.out HW_.out (by kernel_rfl)) (fun _ _ _ h => h) (Or.inl ⟨by rfl, ?_⟩) hHeld ?_ ?_
                                                            rotate_left
                                                            · rintro w' ⟨s0, s1, s2⟩
                                                              go_simp
                                                              with_reducible rfl
                                                            rotate_left
                                                            · simp only [Act.put, List.setIfInBounds_toArray, List.set_cons_zero, List.set_cons_succ, i64_w, i32_w]
                                                              rfl
                                                            refine pure_ (i := 23) (N := some 153) (v := ?_) (a' := ?_) #[true, true, true, true, true, true, true, true, true, true, true, true, true, true, true, true, true, true, true, true, true, true, true, true, false, false, true, false, false, false, false, false, false, false, false, false, false, false, false] rfl rfl (any_of HT_.out (by kernel_rfl)) (fun _ _ _ h => h) (Or.inl ⟨by rfl, ?_⟩) ?_ ?_
                                                            rotate_left
                                                            · intro w'
                                                              go_simp
                                                              with_reducible rfl
                                                            rotate_left
                                                            · simp only [Act.put, List.setIfInBounds_toArray, List.set_cons_zero, List.set_cons_succ, i64_w, i32_w]
                                                              rfl
                                                            refine pure_ (i := 24) (N := some 154) (v := ?_) (a' := ?_) #[true, true, true, true, true, true, true, true, true, true, true, true, true, true, true, true, true, true, true, true, true, true, true, true, true, false, true, false, false, false, false, false, false, false, false, false, false, false, false] rfl rfl (any_of HT_.out (by kernel_rfl)) (fun _ _ _ h => h) (Or.inl ⟨by rfl, ?_⟩) ?_ ?_
                                                            rotate_left
                                                            · intro w'
                                                              go_simp
                                                              with_reducible rfl
                                                            rotate_left
                                                            · simp only [Act.put, List.setIfInBounds_toArray, List.set_cons_zero, List.set_cons_succ, i64_w, i32_w]
                                                              rfl
                                                            refine pure_ (i := 25) (N := some 155) (v := ?_) (a' := ?_) #[true, true, true, true, true, true, true, true, true, true, true, true, true, true, true, true, true, true, true, true, true, true, true, true, true, true, true, false, false, false, false, false, false, false, false, false, false, false, false] rfl rfl (any_of HT_.out (by kernel_rfl)) (fun _ _ _ h => h) (Or.inl ⟨by rfl, ?_⟩) ?_ ?_
                                                            rotate_left
                                                            · intro w'
                                                              go_simp
                                                              with_reducible rfl
                                                            rotate_left
                                                            · simp only [Act.put, List.setIfInBounds_toArray, List.set_cons_zero, List.set_cons_succ, i64_w, i32_w]
                                                              rfl
                                                            refine take_ (i := 27) (N := some 157) (v := ?_) (a' := ?_) #[true, true, true, true, true, true, true, true, true, true, true, true, true, true, true, true, true, true, true, true, true, true, true, true, true, true, true, true, false, false, false, false, false, false, false, false, false, false, false] rfl rfl (take_ofW HT_.out HW_.out (by kernel_rfl)) (fun _ _ _ h => h) (Or.inl ⟨by rfl, ?_⟩) hHeld ?_ ?_
                                                            rotate_left
                                                            · rintro w' ⟨s0, s1, s2⟩
                                                              go_simp
                                                              with_reducible rfl
                                                            rotate_left
                                                            · simp only [Act.put, List.setIfInBounds_toArray, List.set_cons_zero, List.set_cons_succ, i64_w, i32_w]
                                                              rfl
                                                            refine pure_ (i := 28) (N := some 158) (v := ?_) (a' := ?_) #[true, true, true, true, true, true, true, true, true, true, true, true, true, true, true, true, true, true, true, true, true, true, true, true, true, true, true, true, true, false, false, false, false, false, false, false, false, false, false] rfl rfl (any_of HT_.out (by kernel_rfl)) (fun _ _ _ h => h) (Or.inl ⟨by rfl, ?_⟩) ?_ ?_
                                                            rotate_left
                                                            · intro w'
                                                              go_simp
                                                              with_reducible rfl
                                                            rotate_left
                                                            · simp only [Act.put, List.setIfInBounds_toArray, List.set_cons_zero, List.set_cons_succ, i64_w, i32_w]
                                                              rfl
                                                            refine pure_ (i := 29) (N := some 159) (v := ?_) (a' := ?_) #[true, true, true, true, true, true, true, true, true, true, true, true, true, true, true, true, true, true, true, true, true, true, true, true, true, true, true, true, true, true, false, false, false, false, false, false, false, false, false] rfl rfl (any_of HT_.out (by kernel_rfl)) (fun _ _ _ h => h) (Or.inl ⟨by rfl, ?_⟩) ?_ ?_
                                                            rotate_left
                                                            · intro w'
                                                              go_simp
                                                              with_reducible rfl
                                                            rotate_left
                                                            · simp only [Act.put, List.setIfInBounds_toArray, List.set_cons_zero, List.set_cons_succ, i64_w, i32_w]
                                                              rfl
                                                            refine pure_ (i := 30) (N := some 160) (v := ?_) (a' := ?_) #[true, true, true, true, true, true, true, true, true, true, true, true, true, true, true, true, true, true, true, true, true, true, true, true, true, true, true, true, true, true, true, false, false, false, false, false, false, false, false] rfl rfl (any_of HT_.out (by kernel_rfl)) (fun _ _ _ h => h) (Or.inl ⟨by rfl, ?_⟩) ?_ ?_
                                                            rotate_left
                                                            · intro w'
                                                              go_simp
                                                              with_reducible rfl
                                                            rotate_left
                                                            · simp only [Act.put, List.setIfInBounds_toArray, List.set_cons_zero, List.set_cons_succ, i64_w, i32_w]
                                                              rfl
                                                            refine pure_ (i := 31) (N := some 161) (v := ?_) (a' := ?_) #[true, true, true, true, true, true, true, true, true, true, true, true, true, true, true, true, true, true, true, true, true, true, true, true, true, true, true, true, true, true, true, true, false, false, false, false, false, false, false] rfl rfl (any_of HT_.out (by kernel_rfl)) (fun _ _ _ h => h) (Or.inl ⟨by rfl, ?_⟩) ?_ ?_
                                                            rotate_left
                                                            · intro w'
                                                              go_simp
                                                              with_reducible rfl
                                                            rotate_left
                                                            · simp only [Act.put, List.setIfInBounds_toArray, List.set_cons_zero, List.set_cons_succ, i64_w, i32_w]
                                                              rfl
                                                            refine pure_ (i := 32) (N := some 162) (v := ?_) (a' := ?_) #[true, true, true, true, true, true, true, true, true, true, true, true, true, true, true, true, true, true, true, true, true, true, true, true, true, true, true, true, true, true, true, true, true, false, false, false, false, false, false] rfl rfl (any_of HT_.out (by kernel_rfl)) (fun _ _ _ h => h) (Or.inl ⟨by rfl, ?_⟩) ?_ ?_
                                                            rotate_left
                                                            · intro w'
                                                              go_simp
                                                              with_reducible rfl
                                                            rotate_left
                                                            · simp only [Act.put, List.setIfInBounds_toArray, List.set_cons_zero, List.set_cons_succ, i64_w, i32_w]
                                                              rfl
                                                            refine pure_ (i := 33) (N := some 163) (v := ?_) (a' := ?_) #[true, true, true, true, true, true, true, true, true, true, true, true, true, true, true, true, true, true, true, true, true, true, true, true, true, true, true, true, true, true, true, true, true, true, false, false, false, false, false] rfl rfl (any_of HT_.out (by kernel_rfl)) (fun _ _ _ h => h) (Or.inl ⟨by rfl, ?_⟩) ?_ ?_
                                                            rotate_left
                                                            · intro w'
                                                              go_simp
                                                              with_reducible rfl
                                                            rotate_left
                                                            · simp only [Act.put, List.setIfInBounds_toArray, List.set_cons_zero, List.set_cons_succ, i64_w, i32_w]
                                                              rfl
                                                            refine take_ (i := 34) (N := some 164) (v := ?_) (a' := ?_) #[true, true, true, true, true, true, true, true, true, true, true, true, true, true, true, true, true, true, true, true, true, true, true, true, true, true, true, true, true, true, true, true, true, true, true, false, false, false, false] rfl rfl (take_ofW HT_.out HW_.out (by kernel_rfl)) (fun _ _ _ h => h) (Or.inl ⟨by rfl, ?_⟩) hHeld ?_ ?_
                                                            rotate_left
                                                            · rintro w' ⟨s0, s1, s2⟩
                                                              go_simp
                                                              with_reducible rfl
                                                            rotate_left
                                                            · simp only [Act.put, List.setIfInBounds_toArray, List.set_cons_zero, List.set_cons_succ, i64_w, i32_w]
                                                              rfl
                                                            refine pure_ (i := 35) (N := some 165) (v := ?_) (a' := ?_) #[true, true, true, true, true, true, true, true, true, true, true, true, true, true, true, true, true, true, true, true, true, true, true, true, true, true, true, true, true, true, true, true, true, true, true, true, false, false, false] rfl rfl (any_of HT_.out (by kernel_rfl)) (fun _ _ _ h => h) (Or.inl ⟨by rfl, ?_⟩) ?_ ?_
                                                            rotate_left
                                                            · intro w'
                                                              go_simp
                                                              with_reducible rfl
                                                            rotate_left
                                                            · simp only [Act.put, List.setIfInBounds_toArray, List.set_cons_zero, List.set_cons_succ, i64_w, i32_w]
                                                              rfl
                                                            refine one_ (i := 36) (N := some 166) #[true, true, true, true, true, true, true, true, true, true, true, true, true, true, true, true, true, true, true, true, true, true, true, true, true, true, true, true, true, true, true, true, true, true, true, true, true, false, false] rfl rfl (one_of HT_.out (by kernel_rfl)) (by decide) (fun K hK => ?_)
                                                            refine goes_ Tryd.func15 (by kernel_rfl) rfl #[.string (a0.extract (x5_2 : Int).toNat (((rd_T27 t120 x9_40).f2) : Int).toNat)] (by rfl) rfl rfl (by (try simp only [List.map_toArray, List.map_cons, List.map_nil]); first | done | rfl | (simp only [List.length_drop, List.length_take]; rfl)) ?_
                                                            with_reducible refine (seichelaw11_blank.calls kj44 (a0.extract (x5_2 : Int).toNat (((rd_T27 t120 x9_40).f2) : Int).toNat) true _ A82.out).mono ?_
                                                            rintro e w' ⟨rfl, ⟨nd, rfl⟩⟩
                                                            refine ⟨_, rfl, ?_⟩
                                                            refine hK.out _ _ ⟨(blk_cell BK133.out 0).trans rfl, (blk_cell BK133.out 1).trans rfl, (blk_cell BK133.out 2).trans rfl⟩ (fun hHeld => ?_)
                                                            clear hK K
                                                            refine norm_ (a' := ?_) ?_ ?_
                                                            rotate_left
                                                            · show Act.put _ (some 166) _ = _
                                                              simp only [Act.put, List.setIfInBounds_toArray, List.set_cons_zero, List.set_cons_succ, i64_w, i32_w]
                                                              rfl
                                                            refine pure_ (i := 37) (N := some 167) (v := ?_) (a' := ?_) #[true, true, true, true, true, true, true, true, true, true, true, true, true, true, true, true, true, true, true, true, true, true, true, true, true, true, true, true, true, true, true, true, true, true, true, true, true, true, false] rfl rfl (any_of HT_.out (by kernel_rfl)) (fun _ _ _ h => h) (Or.inl ⟨by rfl, ?_⟩) ?_ ?_
                                                            rotate_left
                                                            · intro w'
                                                              go_simp
                                                              with_reducible rfl
                                                            rotate_left
                                                            · simp only [Act.put, List.setIfInBounds_toArray, List.set_cons_zero, List.set_cons_succ, i64_w, i32_w]
                                                              rfl
                                                            refine pure_ (i := 38) (N := some 168) (v := ?_) (a' := ?_) #[true, true, true, true, true, true, true, true, true, true, true, true, true, true, true, true, true, true, true, true, true, true, true, true, true, true, true, true, true, true, true, true, true, true, true, true, true, true, true] rfl rfl (any_of HT_.out (by kernel_rfl)) (fun _ _ _ h => h) (Or.inl ⟨by rfl, ?_⟩) ?_ ?_
                                                            rotate_left
                                                            · intro w'
                                                              go_simp
                                                              with_reducible rfl
                                                            rotate_left
                                                            · simp only [Act.put, List.setIfInBounds_toArray, List.set_cons_zero, List.set_cons_succ, i64_w, i32_w]
                                                              rfl
                                                            refine done_ (done_of HT_.out (by kernel_rfl)) ?_
                                                            have hcz88_0 : w87.cell? ⟨gb133, 0, none⟩ = some (.int .i64 ((rd_T27 t120 x9_40).f0)) := (blk_cell BK133.out 0).trans rfl
                                                            have hcz88_1 : w87.cell? ⟨gb133, 1, none⟩ = some (.string ((rd_T27 t120 x9_40).f1)) := (blk_cell BK133.out 1).trans rfl
                                                            have hcz88_2 : w87.cell? ⟨gb133, 2, none⟩ = some (.int .i64 ((rd_T27 t120 x9_40).f2)) := (blk_cell BK133.out 2).trans rfl
                                                            have hfz88_0 := blk_frozen BK133.out 0; have hfz88_1 := blk_frozen BK133.out 1; have hfz88_2 := blk_frozen BK133.out 2
                                                            try go_wp2
                                                            go_roundg kj44
                                                            case measure => have := HJ16.out; have := HK2.out; have := HJ36.out; have := HJ40.out; have := HJ44.out; omega
                                                            case rel => exact ⟨(wrap64 (((rd_T27 t120 x9_40).f2) + (((rd_T27 t120 x9_40).f1).size : Int))), (wrap64 (x9_40 + 1)), (x10_2), (by first | rfl | (simp; done) | (simp [*]; done)), (by first | rfl | (simp; done) | (simp [*]; done)), (by first | rfl | (simp; done) | (simp [*]; done)), H', ⟨by have := HJ16.out; have := HK2.out; have := HJ36.out; have := HJ40.out; have := HJ44.out; omega⟩, ⟨by (with_reducible repeat (first | apply Kd.R_alloc | apply Kd.R_drewN | apply Kd.R_drew)); exact Kd.R_mono HO_3.out (fun _ hk => ⟨hk.1, hk.2.1⟩)⟩, ⟨by (with_reducible repeat (first | apply Kd.R_alloc | apply Kd.R_drewN | apply Kd.R_drew)); exact Kd.R_mono HO_4.out (fun _ hk => ⟨hk.1, hk.2.1⟩)⟩, ⟨by (with_reducible repeat (first | refine blk_drewN ?_ _ | refine blk_drew ?_ | refine blk_alloc ?_ _)); exact BK128.out⟩, ⟨by repeat (first | (with_reducible first | exact HB.out | apply below_alloc | apply pw_below_drewN | apply below_drew1 | refine below_set ?_ GE128.out | refine below_set ?_ GE133.out) | exact HB.out)⟩⟩
                                                          · rw [if_neg c83] at H
                                                            exact absurd H (by simp)
                                                        · rw [if_neg c81] at H
                                                          exact absurd H (by simp)
                                                      · rw [if_neg c80] at H
                                                        exact absurd H (by simp)
                                                    · rw [if_neg c79] at H
                                                      exact absurd H (by simp)
                                                  · rw [if_neg c78] at H
                                                    exact absurd H (by simp)
                                                · rw [if_neg c77] at H
                                                  exact absurd H (by simp)
                                              · rw [if_neg c76] at H
                                                exact absurd H (by simp)
                                            · rw [if_neg c75] at H
                                              exact absurd H (by simp)
                                      · rw [if_neg c64] at H
                                        exact absurd H (by simp)
                                    · rw [if_neg c63] at H
                                      exact absurd H (by simp)
                                  · replace c62 := Bool.eq_false_iff.mpr c62
                                    subst c62
                                    have H1 : (if x10_2 < (t123.length : Int) then (if 0 ≤ x10_2 then (if ((rd_T27 t123 x10_2).f2) < x5_2 then (none) else (if ((rd_T27 t123 x10_2).f2) > (wrap64 ((a0.size : Int) - (((rd_T27 t123 x10_2).f1).size : Int))) then (none) else (if 0 ≤ ((rd_T27 t123 x10_2).f2) then (if ((rd_T27 t123 x10_2).f2) ≤ (wrap64 (((rd_T27 t123 x10_2).f2) + (((rd_T27 t123 x10_2).f1).size : Int))) then (if (wrap64 (((rd_T27 t123 x10_2).f2) + (((rd_T27 t123 x10_2).f1).size : Int))) ≤ (a0.size : Int) then (if (a0.extract (((rd_T27 t123 x10_2).f2) : Int).toNat ((wrap64 (((rd_T27 t123 x10_2).f2) + (((rd_T27 t123 x10_2).f1).size : Int))) : Int).toNat).toList = ((rd_T27 t123 x10_2).f1).toList then (if 0 ≤ x5_2 then (if x5_2 ≤ ((rd_T27 t123 x10_2).f2) then (if ((rd_T27 t123 x10_2).f2) ≤ (a0.size : Int) then ((seichelaw11_blank.f kj44 (a0.extract (x5_2 : Int).toNat (((rd_T27 t123 x10_2).f2) : Int).toNat)).bind fun t139 => (if t139 = true then (seichelaw11_GolexCovers.l1 kj44 a0 t120 t123 (wrap64 (((rd_T27 t123 x10_2).f2) + (((rd_T27 t123 x10_2).f1).size : Int))) x6_16 x9_40 (wrap64 (x10_2 + 1))) else (none))) else (none)) else (none)) else (none)) else (none)) else (none)) else (none)) else (none)))) else (none)) else (if x5_2 ≤ x6_16 then (if 0 ≤ (wrap64 ((t120.length : Int) - 1)) then (if (wrap64 ((t120.length : Int) - 1)) < (t120.length : Int) then (if ((rd_T27 t120 (wrap64 ((t120.length : Int) - 1))).f0) = 7 then (some true) else (if 0 ≤ x5_2 then (if x5_2 ≤ (a0.size : Int) then ((seichelaw11_blank.f kj44 (a0.extract (x5_2 : Int).toNat a0.size)).bind fun t141 => (some t141)) else (none)) else (none))) else (none)) else (none)) else (none))) = some r := by rw [if_neg (show ¬ (false = true) by decide)] at H; exact H
                                    clear H
                                    have H := H1
                                    clear H1
                                    by_cases c97 : x10_2 < (t123.length : Int)
                                    · rw [if_pos c97] at H
                                      have c97b0 : decide (x10_2 < (t123.length : Int)) = true := decide_eq_true c97
                                      clear c97
                                      by_cases c98 : 0 ≤ x10_2
                                      · rw [if_pos c98] at H
                                        have c98b0 : decide (0 ≤ x10_2) = true := decide_eq_true c98
                                        clear c98
                                        by_cases c99 : ((rd_T27 t123 x10_2).f2) < x5_2
                                        · rw [if_pos c99] at H
                                          exact absurd H (by simp)
                                        · rw [if_neg c99] at H
                                          have c99b0 : decide (((rd_T27 t123 x10_2).f2) < x5_2) = false := decide_eq_false c99
                                          clear c99
                                          by_cases c105 : ((rd_T27 t123 x10_2).f2) > (wrap64 ((a0.size : Int) - (((rd_T27 t123 x10_2).f1).size : Int)))
                                          · rw [if_pos c105] at H
                                            exact absurd H (by simp)
                                          · rw [if_neg c105] at H
                                            have c105b0 : decide ((wrap64 ((a0.size : Int) - (((rd_T27 t123 x10_2).f1).size : Int))) < ((rd_T27 t123 x10_2).f2)) = false := decide_eq_false c105
                                            clear c105
                                            by_cases c111 : 0 ≤ ((rd_T27 t123 x10_2).f2)
                                            · rw [if_pos c111] at H
                                              have c111b0 := eq_true c111
                                              have c111b1 : decide (0 ≤ ((rd_T27 t123 x10_2).f2)) = true := decide_eq_true c111
                                              clear c111
                                              by_cases c112 : ((rd_T27 t123 x10_2).f2) ≤ (wrap64 (((rd_T27 t123 x10_2).f2) + (((rd_T27 t123 x10_2).f1).size : Int)))
                                              · rw [if_pos c112] at H
                                                have c112b0 := eq_true c112
                                                have c112b1 : decide (((rd_T27 t123 x10_2).f2) ≤ (wrap64 (((rd_T27 t123 x10_2).f2) + (((rd_T27 t123 x10_2).f1).size : Int)))) = true := decide_eq_true c112
                                                by_cases c113 : (wrap64 (((rd_T27 t123 x10_2).f2) + (((rd_T27 t123 x10_2).f1).size : Int))) ≤ (a0.size : Int)
                                                · rw [if_pos c113] at H
                                                  have c113b0 := eq_true c113
                                                  have c113b1 : decide ((wrap64 (((rd_T27 t123 x10_2).f2) + (((rd_T27 t123 x10_2).f1).size : Int))) ≤ (a0.size : Int)) = true := decide_eq_true c113
                                                  by_cases c114 : (a0.extract (((rd_T27 t123 x10_2).f2) : Int).toNat ((wrap64 (((rd_T27 t123 x10_2).f2) + (((rd_T27 t123 x10_2).f1).size : Int))) : Int).toNat).toList = ((rd_T27 t123 x10_2).f1).toList
                                                  · rw [if_pos c114] at H
                                                    have c114b0 : ((a0.extract (((rd_T27 t123 x10_2).f2) : Int).toNat ((wrap64 (((rd_T27 t123 x10_2).f2) + (((rd_T27 t123 x10_2).f1).size : Int))) : Int).toNat).toList == ((rd_T27 t123 x10_2).f1).toList) = true := beq_iff_eq.mpr c114
                                                    have c114b1 : ((a0.extract (((rd_T27 t123 x10_2).f2) : Int).toNat ((wrap64 (((rd_T27 t123 x10_2).f2) + (((rd_T27 t123 x10_2).f1).size : Int))) : Int).toNat).toList != ((rd_T27 t123 x10_2).f1).toList) = false := bne_eq_false_iff_eq.mpr c114
                                                    clear c114
                                                    by_cases c115 : 0 ≤ x5_2
                                                    · rw [if_pos c115] at H
                                                      have c115b0 := eq_true c115
                                                      have c115b1 : decide (0 ≤ x5_2) = true := decide_eq_true c115
                                                      clear c115
                                                      by_cases c116 : x5_2 ≤ ((rd_T27 t123 x10_2).f2)
                                                      · rw [if_pos c116] at H
                                                        have c116b0 := eq_true c116
                                                        have c116b1 : decide (x5_2 ≤ ((rd_T27 t123 x10_2).f2)) = true := decide_eq_true c116
                                                        clear c116
                                                        by_cases c117 : ((rd_T27 t123 x10_2).f2) ≤ (a0.size : Int)
                                                        · rw [if_pos c117] at H
                                                          have c117b0 := eq_true c117
                                                          have c117b1 : decide (((rd_T27 t123 x10_2).f2) ≤ (a0.size : Int)) = true := decide_eq_true c117
                                                          clear c117
                                                          replace H := Option.bind_eq_some_iff.mp H
                                                          obtain ⟨t139, A1180, H⟩ := H
                                                          replace H : (if t139 = true then (seichelaw11_GolexCovers.l1 kj44 a0 t120 t123 (wrap64 (((rd_T27 t123 x10_2).f2) + (((rd_T27 t123 x10_2).f1).size : Int))) x6_16 x9_40 (wrap64 (x10_2 + 1))) else (none)) = some r := H
                                                          have A118 := Aside0.mk A1180; clear A1180
                                                          by_cases c119 : t139 = true
                                                          · subst c119
                                                            have H1 : (seichelaw11_GolexCovers.l1 kj44 a0 t120 t123 (wrap64 (((rd_T27 t123 x10_2).f2) + (((rd_T27 t123 x10_2).f1).size : Int))) x6_16 x9_40 (wrap64 (x10_2 + 1))) = some r := by rw [if_pos rfl] at H; exact H
                                                            clear H
                                                            have H := H1
                                                            clear H1
                                                            have H' := Aside0.mk H
                                                            clear H
                                                            obtain ⟨Ao120, co120, eo120⟩ := Kd.R_slice HO_4.out
                                                            subst eo120
                                                            have p138 : 0 ≤ (x10_2 : Int) := of_decide_eq_true (by first | (with_reducible assumption) | assumption)
                                                            have q138 : x10_2 < (t123.length : Int) := of_decide_eq_true (by first | (with_reducible assumption) | assumption)
                                                            obtain ⟨ad138, e138, hx138_0, hx138_1, hx138_2⟩ := at_T27 (Kd.R_reads' HO_4.out).2.2 x10_2 p138 q138
                                                            cases e138
                                                            replace p138 := eq_true p138; replace q138 := eq_true q138
                                                            have hnb121 := NB133_128.out
                                                            have hnc121 := NB128_133.out
                                                            have hcz122_0 : wc.cell? ⟨gb133, 0, none⟩ = some (.int .i64 0) := (blk_cell BK133.out 0).trans rfl
                                                            have hcz122_1 : wc.cell? ⟨gb133, 1, none⟩ = some (.string (⟨#[]⟩ : ByteArray)) := (blk_cell BK133.out 1).trans rfl
                                                            have hcz122_2 : wc.cell? ⟨gb133, 2, none⟩ = some (.int .i64 (a0.size : Int)) := (blk_cell BK133.out 2).trans rfl
                                                            have hfz122_0 := blk_frozen BK133.out 0; have hfz122_1 := blk_frozen BK133.out 1; have hfz122_2 := blk_frozen BK133.out 2
                                                            try go_wp2
                                                            have n0_ : Aside0 (Kd.R k27 27 (((wc.setCell ⟨gb133, 0, none⟩ (.int .i64 ((rd_T27 t123 x10_2).f0))).setCell ⟨gb133, 1, none⟩ (.string ((rd_T27 t123 x10_2).f1))).setCell ⟨gb133, 2, none⟩ (.int .i64 ((rd_T27 t123 x10_2).f2))) w.heap.size (fun k_ => some k_ ≠ (.slice (some ad138) t123.length co120 : Value).ownBlock ∧ k_ ≠ gb128 ∧ k_ ≠ gb133) (.slice (some ad127) t120.length co21) t120) := ⟨by (with_reducible repeat (first | apply Kd.R_alloc | apply Kd.R_drewN | apply Kd.R_drew)); exact Kd.R_mono (Kd.R_far (p := ⟨gb133, 2, none⟩) (Kd.R_far (p := ⟨gb133, 1, none⟩) (Kd.R_far (p := ⟨gb133, 0, none⟩) (Kd.R_mono HO_3.out (fun k_ hk => (⟨hk, hk.2.2⟩ : _ ∧ k_ ≠ gb133))) (fun _ hk => hk.2) (.int .i64 ((rd_T27 t123 x10_2).f0))) (fun _ hk => hk.2) (.string ((rd_T27 t123 x10_2).f1))) (fun _ hk => hk.2) (.int .i64 ((rd_T27 t123 x10_2).f2))) (fun _ hk => ⟨hk.1.1, ⟨hk.1.2.1, hk.1.2.2⟩⟩)⟩
                                                            have n1_ : Aside0 (Kd.R k27 27 (((wc.setCell ⟨gb133, 0, none⟩ (.int .i64 ((rd_T27 t123 x10_2).f0))).setCell ⟨gb133, 1, none⟩ (.string ((rd_T27 t123 x10_2).f1))).setCell ⟨gb133, 2, none⟩ (.int .i64 ((rd_T27 t123 x10_2).f2))) w.heap.size (fun k_ => some k_ ≠ (.slice (some ad127) t120.length co21 : Value).ownBlock ∧ k_ ≠ gb128 ∧ k_ ≠ gb133) (.slice (some ad138) t123.length co120) t123) := ⟨by (with_reducible repeat (first | apply Kd.R_alloc | apply Kd.R_drewN | apply Kd.R_drew)); exact Kd.R_mono (Kd.R_far (p := ⟨gb133, 2, none⟩) (Kd.R_far (p := ⟨gb133, 1, none⟩) (Kd.R_far (p := ⟨gb133, 0, none⟩) (Kd.R_mono HO_4.out (fun k_ hk => (⟨hk, hk.2.2⟩ : _ ∧ k_ ≠ gb133))) (fun _ hk => hk.2) (.int .i64 ((rd_T27 t123 x10_2).f0))) (fun _ hk => hk.2) (.string ((rd_T27 t123 x10_2).f1))) (fun _ hk => hk.2) (.int .i64 ((rd_T27 t123 x10_2).f2))) (fun _ hk => ⟨hk.1.1, ⟨hk.1.2.1, hk.1.2.2⟩⟩)⟩
                                                            have n2_ : Aside0 ((((wc.setCell ⟨gb133, 0, none⟩ (.int .i64 ((rd_T27 t123 x10_2).f0))).setCell ⟨gb133, 1, none⟩ (.string ((rd_T27 t123 x10_2).f1))).setCell ⟨gb133, 2, none⟩ (.int .i64 ((rd_T27 t123 x10_2).f2))).heap[gb128]? = some (.cells #[.int .i64 ((rd_T27 t120 (ji14)).f0), .string ((rd_T27 t120 (ji14)).f1), .int .i64 ((rd_T27 t120 (ji14)).f2)] 27 (0, 0))) := ⟨by (with_reducible repeat (first | refine blk_drewN ?_ _ | refine blk_drew ?_ | refine blk_alloc ?_ _)); refine blk_far ?_ NB128_133.out _; (with_reducible repeat (first | refine blk_drewN ?_ _ | refine blk_drew ?_ | refine blk_alloc ?_ _)); refine blk_far ?_ NB128_133.out _; (with_reducible repeat (first | refine blk_drewN ?_ _ | refine blk_drew ?_ | refine blk_alloc ?_ _)); refine blk_far ?_ NB128_133.out _; (with_reducible repeat (first | refine blk_drewN ?_ _ | refine blk_drew ?_ | refine blk_alloc ?_ _)); exact BK128.out⟩
                                                            have n3_ : Aside0 ((((wc.setCell ⟨gb133, 0, none⟩ (.int .i64 ((rd_T27 t123 x10_2).f0))).setCell ⟨gb133, 1, none⟩ (.string ((rd_T27 t123 x10_2).f1))).setCell ⟨gb133, 2, none⟩ (.int .i64 ((rd_T27 t123 x10_2).f2))).heap[gb133]? = some (.cells #[.int .i64 ((rd_T27 t123 x10_2).f0), .string ((rd_T27 t123 x10_2).f1), .int .i64 ((rd_T27 t123 x10_2).f2)] 27 (0, 0))) := ⟨by (with_reducible repeat (first | refine blk_drewN ?_ _ | refine blk_drew ?_ | refine blk_alloc ?_ _)); refine blk_put (cs := #[.int .i64 ((rd_T27 t123 x10_2).f0), .string ((rd_T27 t123 x10_2).f1), .int .i64 (a0.size : Int)]) ?_ 2 _ rfl; (with_reducible repeat (first | refine blk_drewN ?_ _ | refine blk_drew ?_ | refine blk_alloc ?_ _)); refine blk_put (cs := #[.int .i64 ((rd_T27 t123 x10_2).f0), .string (⟨#[]⟩ : ByteArray), .int .i64 (a0.size : Int)]) ?_ 1 _ rfl; (with_reducible repeat (first | refine blk_drewN ?_ _ | refine blk_drew ?_ | refine blk_alloc ?_ _)); refine blk_put (cs := #[.int .i64 0, .string (⟨#[]⟩ : ByteArray), .int .i64 (a0.size : Int)]) ?_ 0 _ rfl; (with_reducible repeat (first | refine blk_drewN ?_ _ | refine blk_drew ?_ | refine blk_alloc ?_ _)); exact BK133.out⟩
                                                            have n4_ : Aside0 (Below w.heap.size w (((wc.setCell ⟨gb133, 0, none⟩ (.int .i64 ((rd_T27 t123 x10_2).f0))).setCell ⟨gb133, 1, none⟩ (.string ((rd_T27 t123 x10_2).f1))).setCell ⟨gb133, 2, none⟩ (.int .i64 ((rd_T27 t123 x10_2).f2)))) := ⟨by repeat (first | (with_reducible first | exact HB.out | apply below_alloc | apply pw_below_drewN | apply below_drew1 | refine below_set ?_ GE128.out | refine below_set ?_ GE133.out) | exact HB.out)⟩
                                                            (try clear HO_3)
                                                            (try clear HO_4)
                                                            (try clear BK128)
                                                            (try clear BK133)
                                                            (try clear HB)
                                                            generalize (((wc.setCell ⟨gb133, 0, none⟩ (.int .i64 ((rd_T27 t123 x10_2).f0))).setCell ⟨gb133, 1, none⟩ (.string ((rd_T27 t123 x10_2).f1))).setCell ⟨gb133, 2, none⟩ (.int .i64 ((rd_T27 t123 x10_2).f2))) = w123 at n0_ n1_ n2_ n3_ n4_ ⊢
                                                            have HO_3 := n0_
                                                            have HO_4 := n1_
                                                            have BK128 := n2_
                                                            have BK133 := n3_
                                                            have HB := n4_
                                                            clear n0_ n1_ n2_ n3_ n4_
                                                            have n0_ := Aside0.mk (Kd.R_drew HO_3.out)
                                                            have n1_ := Aside0.mk (Kd.R_drew HO_4.out)
                                                            have n2_ := Aside0.mk (blk_drew BK128.out)
                                                            have n3_ := Aside0.mk (blk_drew BK133.out)
                                                            have n4_ := Aside0.mk (below_drew1 HB.out)
                                                            clear HO_3; clear HO_4; clear BK128; clear BK133; clear HB
                                                            have HO_3 := n0_
                                                            have HO_4 := n1_
                                                            have BK128 := n2_
                                                            have BK133 := n3_
                                                            have HB := n4_
                                                            clear n0_ n1_ n2_ n3_ n4_
                                                            refine start_ (n := 39) (S := fun w' => w'.cell? ⟨gb133, 0, none⟩ = some (.int .i64 ((rd_T27 t123 x10_2).f0)) ∧ w'.cell? ⟨gb133, 1, none⟩ = some (.string ((rd_T27 t123 x10_2).f1)) ∧ w'.cell? ⟨gb133, 2, none⟩ = some (.int .i64 ((rd_T27 t123 x10_2).f2))) (ds := []) #[false, false, false, false, false, false, false, false, false, false, false, false, false, false, false, false, false, false, false, false, false, false, false, false, false, false, false, false, false, false, false, false, false, false, false, false, false, false, false] (by kernel_rfl) rfl rfl ⟨(blk_cell BK133.out 0).trans rfl, (blk_cell BK133.out 1).trans rfl, (blk_cell BK133.out 2).trans rfl⟩ (fun hHeld => ?_); refine with_tabW seichelaw11_GolexCovers.tab31 seichelaw11_GolexCovers.bits31 (fun HT_ HW_ => ?_)
                                                            generalize w123.drew = w124 at HO_3 HO_4 BK128 BK133 HB hHeld ⊢
                                                            refine pure_ (i := 0) (N := some 130) (v := ?_) (a' := ?_) #[true, false, false, false, false, false, false, false, false, false, false, false, false, false, false, false, false, false, false, false, false, false, false, false, false, false, false, false, false, false, false, false, false, false, false, false, false, false, false] rfl rfl (any_of HT_.out (by kernel_rfl)) (fun _ _ _ h => h) (Or.inl ⟨by rfl, ?_⟩) ?_ ?_
                                                            rotate_left
                                                            · intro w'
                                                              go_simp
                                                              with_reducible rfl
                                                            rotate_left
                                                            · simp only [Act.put, List.setIfInBounds_toArray, List.set_cons_zero, List.set_cons_succ, i64_w, i32_w]
                                                              rfl
                                                            refine pure_ (i := 2) (N := some 132) (v := ?_) (a' := ?_) #[true, false, true, false, false, false, false, false, false, false, false, false, false, false, false, false, false, false, false, false, false, false, false, false, false, false, false, false, false, false, false, false, false, false, false, false, false, false, false] rfl rfl (any_of HT_.out (by kernel_rfl)) (fun _ _ _ h => h) (Or.inl ⟨by rfl, ?_⟩) ?_ ?_
                                                            rotate_left
                                                            · intro w'
                                                              go_simp
                                                              with_reducible rfl
                                                            rotate_left
                                                            · simp only [Act.put, List.setIfInBounds_toArray, List.set_cons_zero, List.set_cons_succ, i64_w, i32_w]
                                                              rfl
                                                            refine take_ (i := 1) (N := some 131) (v := ?_) (a' := ?_) #[true, true, true, false, false, false, false, false, false, false, false, false, false, false, false, false, false, false, false, false, false, false, false, false, false, false, false, false, false, false, false, false, false, false, false, false, false, false, false] rfl rfl (take_ofW HT_.out HW_.out (by kernel_rfl)) (fun _ _ _ h => h) (Or.inl ⟨by rfl, ?_⟩) hHeld ?_ ?_
                                                            rotate_left
                                                            · rintro w' ⟨s0, s1, s2⟩
                                                              go_simp
                                                              with_reducible rfl
                                                            rotate_left
                                                            · simp only [Act.put, List.setIfInBounds_toArray, List.set_cons_zero, List.set_cons_succ, i64_w, i32_w]
                                                              rfl
                                                            refine pure_ (i := 3) (N := some 133) (v := ?_) (a' := ?_) #[true, true, true, true, false, false, false, false, false, false, false, false, false, false, false, false, false, false, false, false, false, false, false, false, false, false, false, false, false, false, false, false, false, false, false, false, false, false, false] rfl rfl (any_of HT_.out (by kernel_rfl)) (fun _ _ _ h => h) (Or.inl ⟨by rfl, ?_⟩) ?_ ?_
                                                            rotate_left
                                                            · intro w'
                                                              go_simp
                                                              with_reducible rfl
                                                            rotate_left
                                                            · simp only [Act.put, List.setIfInBounds_toArray, List.set_cons_zero, List.set_cons_succ, i64_w, i32_w]
                                                              rfl
                                                            refine pure_ (i := 4) (N := some 134) (v := ?_) (a' := ?_) #[true, true, true, true, true, false, false, false, false, false, false, false, false, false, false, false, false, false, false, false, false, false, false, false, false, false, false, false, false, false, false, false, false, false, false, false, false, false, false] rfl rfl (any_of HT_.out (by kernel_rfl)) (fun _ _ _ h => h) (Or.inl ⟨by rfl, ?_⟩) ?_ ?_
                                                            rotate_left
                                                            · intro w'
                                                              go_simp
                                                              with_reducible rfl
                                                            rotate_left
                                                            · simp only [Act.put, List.setIfInBounds_toArray, List.set_cons_zero, List.set_cons_succ, i64_w, i32_w]
                                                              rfl
                                                            refine pure_ (i := 5) (N := some 135) (v := ?_) (a' := ?_) #[true, true, true, true, true, true, false, false, false, false, false, false, false, false, false, false, false, false, false, false, false, false, false, false, false, false, false, false, false, false, false, false, false, false, false, false, false, false, false] rfl rfl (any_of HT_.out (by kernel_rfl)) (fun _ _ _ h => h) (Or.inl ⟨by rfl, ?_⟩) ?_ ?_
                                                            rotate_left
                                                            · intro w'
                                                              go_simp
                                                              with_reducible rfl
                                                            rotate_left
                                                            · simp only [Act.put, List.setIfInBounds_toArray, List.set_cons_zero, List.set_cons_succ, i64_w, i32_w]
                                                              rfl
                                                            refine pure_ (i := 7) (N := some 137) (v := ?_) (a' := ?_) #[true, true, true, true, true, true, false, true, false, false, false, false, false, false, false, false, false, false, false, false, false, false, false, false, false, false, false, false, false, false, false, false, false, false, false, false, false, false, false] rfl rfl (any_of HT_.out (by kernel_rfl)) (fun _ _ _ h => h) (Or.inl ⟨by rfl, ?_⟩) ?_ ?_
                                                            rotate_left
                                                            · intro w'
                                                              go_simp
                                                              with_reducible rfl
                                                            rotate_left
                                                            · simp only [Act.put, List.setIfInBounds_toArray, List.set_cons_zero, List.set_cons_succ, i64_w, i32_w]
                                                              rfl
                                                            refine pure_ (i := 8) (N := some 138) (v := ?_) (a' := ?_) #[true, true, true, true, true, true, false, true, true, false, false, false, false, false, false, false, false, false, false, false, false, false, false, false, false, false, false, false, false, false, false, false, false, false, false, false, false, false, false] rfl rfl (any_of HT_.out (by kernel_rfl)) (fun _ _ _ h => h) (Or.inl ⟨by rfl, ?_⟩) ?_ ?_
                                                            rotate_left
                                                            · intro w'
                                                              go_simp
                                                              with_reducible rfl
                                                            rotate_left
                                                            · simp only [Act.put, List.setIfInBounds_toArray, List.set_cons_zero, List.set_cons_succ, i64_w, i32_w]
                                                              rfl
                                                            refine pure_ (i := 9) (N := some 139) (v := ?_) (a' := ?_) #[true, true, true, true, true, true, false, true, true, true, false, false, false, false, false, false, false, false, false, false, false, false, false, false, false, false, false, false, false, false, false, false, false, false, false, false, false, false, false] rfl rfl (any_of HT_.out (by kernel_rfl)) (fun _ _ _ h => h) (Or.inl ⟨by rfl, ?_⟩) ?_ ?_
                                                            rotate_left
                                                            · intro w'
                                                              go_simp
                                                              with_reducible rfl
                                                            rotate_left
                                                            · simp only [Act.put, List.setIfInBounds_toArray, List.set_cons_zero, List.set_cons_succ, i64_w, i32_w]
                                                              rfl
                                                            refine take_ (i := 6) (N := some 136) (v := ?_) (a' := ?_) #[true, true, true, true, true, true, true, true, true, true, false, false, false, false, false, false, false, false, false, false, false, false, false, false, false, false, false, false, false, false, false, false, false, false, false, false, false, false, false] rfl rfl (take_ofW HT_.out HW_.out (by kernel_rfl)) (fun _ _ _ h => h) (Or.inl ⟨by rfl, ?_⟩) hHeld ?_ ?_
                                                            rotate_left
                                                            · rintro w' ⟨s0, s1, s2⟩
                                                              go_simp
                                                              with_reducible rfl
                                                            rotate_left
                                                            · simp only [Act.put, List.setIfInBounds_toArray, List.set_cons_zero, List.set_cons_succ, i64_w, i32_w]
                                                              rfl
                                                            refine take_ (i := 10) (N := some 140) (v := ?_) (a' := ?_) #[true, true, true, true, true, true, true, true, true, true, true, false, false, false, false, false, false, false, false, false, false, false, false, false, false, false, false, false, false, false, false, false, false, false, false, false, false, false, false] rfl rfl (take_ofW HT_.out HW_.out (by kernel_rfl)) (fun _ _ _ h => h) (Or.inl ⟨by rfl, ?_⟩) hHeld ?_ ?_
                                                            rotate_left
                                                            · rintro w' ⟨s0, s1, s2⟩
                                                              go_simp
                                                              with_reducible rfl
                                                            rotate_left
                                                            · simp only [Act.put, List.setIfInBounds_toArray, List.set_cons_zero, List.set_cons_succ, i64_w, i32_w]
                                                              rfl
                                                            refine pure_ (i := 11) (N := some 141) (v := ?_) (a' := ?_) #[true, true, true, true, true, true, true, true, true, true, true, true, false, false, false, false, false, false, false, false, false, false, false, false, false, false, false, false, false, false, false, false, false, false, false, false, false, false, false] rfl rfl (any_of HT_.out (by kernel_rfl)) (fun _ _ _ h => h) (Or.inl ⟨by rfl, ?_⟩) ?_ ?_
                                                            rotate_left
                                                            · intro w'
                                                              go_simp
                                                              with_reducible rfl
                                                            rotate_left
                                                            · simp only [Act.put, List.setIfInBounds_toArray, List.set_cons_zero, List.set_cons_succ, i64_w, i32_w]
                                                              rfl
                                                            refine pure_ (i := 12) (N := some 142) (v := ?_) (a' := ?_) #[true, true, true, true, true, true, true, true, true, true, true, true, true, false, false, false, false, false, false, false, false, false, false, false, false, false, false, false, false, false, false, false, false, false, false, false, false, false, false] rfl rfl (any_of HT_.out (by kernel_rfl)) (fun _ _ _ h => h) (Or.inl ⟨by rfl, ?_⟩) ?_ ?_
                                                            rotate_left
                                                            · intro w'
                                                              go_simp
                                                              with_reducible rfl
                                                            rotate_left
                                                            · simp only [Act.put, List.setIfInBounds_toArray, List.set_cons_zero, List.set_cons_succ, i64_w, i32_w]
                                                              rfl
                                                            refine pure_ (i := 13) (N := some 143) (v := ?_) (a' := ?_) #[true, true, true, true, true, true, true, true, true, true, true, true, true, true, false, false, false, false, false, false, false, false, false, false, false, false, false, false, false, false, false, false, false, false, false, false, false, false, false] rfl rfl (any_of HT_.out (by kernel_rfl)) (fun _ _ _ h => h) (Or.inl ⟨by rfl, ?_⟩) ?_ ?_
                                                            rotate_left
                                                            · intro w'
                                                              go_simp
                                                              with_reducible rfl
                                                            rotate_left
                                                            · simp only [Act.put, List.setIfInBounds_toArray, List.set_cons_zero, List.set_cons_succ, i64_w, i32_w]
                                                              rfl
                                                            refine pure_ (i := 14) (N := some 144) (v := ?_) (a' := ?_) #[true, true, true, true, true, true, true, true, true, true, true, true, true, true, true, false, false, false, false, false, false, false, false, false, false, false, false, false, false, false, false, false, false, false, false, false, false, false, false] rfl rfl (any_of HT_.out (by kernel_rfl)) (fun _ _ _ h => h) (Or.inl ⟨by rfl, ?_⟩) ?_ ?_
                                                            rotate_left
                                                            · intro w'
                                                              go_simp
                                                              with_reducible rfl
                                                            rotate_left
                                                            · simp only [Act.put, List.setIfInBounds_toArray, List.set_cons_zero, List.set_cons_succ, i64_w, i32_w]
                                                              rfl
                                                            refine pure_ (i := 15) (N := some 145) (v := ?_) (a' := ?_) #[true, true, true, true, true, true, true, true, true, true, true, true, true, true, true, true, false, false, false, false, false, false, false, false, false, false, false, false, false, false, false, false, false, false, false, false, false, false, false] rfl rfl (any_of HT_.out (by kernel_rfl)) (fun _ _ _ h => h) (Or.inl ⟨by rfl, ?_⟩) ?_ ?_
                                                            rotate_left
                                                            · intro w'
                                                              go_simp
                                                              with_reducible rfl
                                                            rotate_left
                                                            · simp only [Act.put, List.setIfInBounds_toArray, List.set_cons_zero, List.set_cons_succ, i64_w, i32_w]
                                                              rfl
                                                            refine pure_ (i := 16) (N := some 146) (v := ?_) (a' := ?_) #[true, true, true, true, true, true, true, true, true, true, true, true, true, true, true, true, true, false, false, false, false, false, false, false, false, false, false, false, false, false, false, false, false, false, false, false, false, false, false] rfl rfl (any_of HT_.out (by kernel_rfl)) (fun _ _ _ h => h) (Or.inl ⟨by rfl, ?_⟩) ?_ ?_
                                                            rotate_left
                                                            · intro w'
                                                              go_simp
                                                              with_reducible rfl
                                                            rotate_left
                                                            · simp only [Act.put, List.setIfInBounds_toArray, List.set_cons_zero, List.set_cons_succ, i64_w, i32_w]
                                                              rfl
                                                            refine pure_ (i := 17) (N := some 147) (v := ?_) (a' := ?_) #[true, true, true, true, true, true, true, true, true, true, true, true, true, true, true, true, true, true, false, false, false, false, false, false, false, false, false, false, false, false, false, false, false, false, false, false, false, false, false] rfl rfl (any_of HT_.out (by kernel_rfl)) (fun _ _ _ h => h) (Or.inl ⟨by rfl, ?_⟩) ?_ ?_
                                                            rotate_left
                                                            · intro w'
                                                              go_simp
                                                              with_reducible rfl
                                                            rotate_left
                                                            · simp only [Act.put, List.setIfInBounds_toArray, List.set_cons_zero, List.set_cons_succ, i64_w, i32_w]
                                                              rfl
                                                            refine pure_ (i := 19) (N := some 149) (v := ?_) (a' := ?_) #[true, true, true, true, true, true, true, true, true, true, true, true, true, true, true, true, true, true, false, true, false, false, false, false, false, false, false, false, false, false, false, false, false, false, false, false, false, false, false] rfl rfl (any_of HT_.out (by kernel_rfl)) (fun _ _ _ h => h) (Or.inl ⟨by rfl, ?_⟩) ?_ ?_
                                                            rotate_left
                                                            · intro w'
                                                              go_simp
                                                              with_reducible rfl
                                                            rotate_left
                                                            · simp only [Act.put, List.setIfInBounds_toArray, List.set_cons_zero, List.set_cons_succ, i64_w, i32_w]
                                                              rfl
                                                            refine pure_ (i := 21) (N := some 151) (v := ?_) (a' := ?_) #[true, true, true, true, true, true, true, true, true, true, true, true, true, true, true, true, true, true, false, true, false, true, false, false, false, false, false, false, false, false, false, false, false, false, false, false, false, false, false] rfl rfl (any_of HT_.out (by kernel_rfl)) (fun _ _ _ h => h) (Or.inl ⟨by rfl, ?_⟩) ?_ ?_
                                                            rotate_left
                                                            · intro w'
                                                              go_simp
                                                              with_reducible rfl
                                                            rotate_left
                                                            · simp only [Act.put, List.setIfInBounds_toArray, List.set_cons_zero, List.set_cons_succ, i64_w, i32_w]
                                                              rfl
                                                            refine pure_ (i := 26) (N := some 156) (v := ?_) (a' := ?_) #[true, true, true, true, true, true, true, true, true, true, true, true, true, true, true, true, true, true, false, true, false, true, false, false, false, false, true, false, false, false, false, false, false, false, false, false, false, false, false] rfl rfl (any_of HT_.out (by kernel_rfl)) (fun _ _ _ h => h) (Or.inl ⟨by rfl, ?_⟩) ?_ ?_
                                                            rotate_left
                                                            · intro w'
                                                              go_simp
                                                              with_reducible rfl
                                                            rotate_left
                                                            · simp only [Act.put, List.setIfInBounds_toArray, List.set_cons_zero, List.set_cons_succ, i64_w, i32_w]
                                                              rfl
                                                            refine take_ (i := 18) (N := some 148) (v := ?_) (a' := ?_) #[true, true, true, true, true, true, true, true, true, true, true, true, true, true, true, true, true, true, true, true, false, true, false, false, false, false, true, false, false, false, false, false, false, false, false, false, false, false, false] rfl rfl (take_ofW HT_.out HW_.out (by kernel_rfl)) (fun _ _ _ h => h) (Or.inl ⟨by rfl, ?_⟩) hHeld ?_ ?_
                                                            rotate_left
                                                            · rintro w' ⟨s0, s1, s2⟩
                                                              go_simp
                                                              with_reducible rfl
                                                            rotate_left
                                                            · simp only [Act.put, List.setIfInBounds_toArray, List.set_cons_zero, List.set_cons_succ, i64_w, i32_w]
                                                              rfl
                                                            refine take_ (i := 20) (N := some 150) (v := ?_) (a' := ?_) #[true, true, true, true, true, true, true, true, true, true, true, true, true, true, true, true, true, true, true, true, true, true, false, false, false, false, true, false, false, false, false, false, false, false, false, false, false, false, false] rfl rfl (take_ofW HT_.out HW_.out (by kernel_rfl)) (fun _ _ _ h => h) (Or.inl ⟨by rfl, ?_⟩) hHeld ?_ ?_
                                                            rotate_left
                                                            · rintro w' ⟨s0, s1, s2⟩
                                                              go_simp
                                                              with_reducible rfl
                                                            rotate_left
                                                            · simp only [Act.put, List.setIfInBounds_toArray, List.set_cons_zero, List.set_cons_succ, i64_w, i32_w]
                                                              rfl
                                                            refine take_ (i := 22) (N := some 152) (v := ?_) (a' := ?_) #[true, true, true, true, true, true, true, true, true, true, true, true, true, true, true, true, true, true, true, true, true, true, true, false, false, false, true, false, false, false, false, false, false, false, false, false, false, false, false] rfl rfl (take_ofW HT_.out HW_.out (by kernel_rfl)) (fun _ _ _ h => h) (Or.inl ⟨by rfl, ?_⟩) hHeld ?_ ?_
                                                            rotate_left
                                                            · rintro w' ⟨s0, s1, s2⟩
                                                              go_simp
                                                              with_reducible rfl
                                                            rotate_left
                                                            · simp only [Act.put, List.setIfInBounds_toArray, List.set_cons_zero, List.set_cons_succ, i64_w, i32_w]
                                                              rfl
                                                            refine pure_ (i := 23) (N := some 153) (v := ?_) (a' := ?_) #[true, true, true, true, true, true, true, true, true, true, true, true, true, true, true, true, true, true, true, true, true, true, true, true, false, false, true, false, false, false, false, false, false, false, false, false, false, false, false] rfl rfl (any_of HT_.out (by kernel_rfl)) (fun _ _ _ h => h) (Or.inl ⟨by rfl, ?_⟩) ?_ ?_
                                                            rotate_left
                                                            · intro w'
                                                              go_simp
                                                              with_reducible rfl
                                                            rotate_left
                                                            · simp only [Act.put, List.setIfInBounds_toArray, List.set_cons_zero, List.set_cons_succ, i64_w, i32_w]
                                                              rfl
                                                            refine pure_ (i := 24) (N := some 154) (v := ?_) (a' := ?_) #[true, true, true, true, true, true, true, true, true, true, true, true, true, true, true, true, true, true, true, true, true, true, true, true, true, false, true, false, false, false, false, false, false, false, false, false, false, false, false] rfl rfl (any_of HT_.out (by kernel_rfl)) (fun _ _ _ h => h) (Or.inl ⟨by rfl, ?_⟩) ?_ ?_
                                                            rotate_left
                                                            · intro w'
                                                              go_simp
                                                              with_reducible rfl
                                                            rotate_left
                                                            · simp only [Act.put, List.setIfInBounds_toArray, List.set_cons_zero, List.set_cons_succ, i64_w, i32_w]
                                                              rfl
                                                            refine pure_ (i := 25) (N := some 155) (v := ?_) (a' := ?_) #[true, true, true, true, true, true, true, true, true, true, true, true, true, true, true, true, true, true, true, true, true, true, true, true, true, true, true, false, false, false, false, false, false, false, false, false, false, false, false] rfl rfl (any_of HT_.out (by kernel_rfl)) (fun _ _ _ h => h) (Or.inl ⟨by rfl, ?_⟩) ?_ ?_
                                                            rotate_left
                                                            · intro w'
                                                              go_simp
                                                              with_reducible rfl
                                                            rotate_left
                                                            · simp only [Act.put, List.setIfInBounds_toArray, List.set_cons_zero, List.set_cons_succ, i64_w, i32_w]
                                                              rfl
                                                            refine take_ (i := 27) (N := some 157) (v := ?_) (a' := ?_) #[true, true, true, true, true, true, true, true, true, true, true, true, true, true, true, true, true, true, true, true, true, true, true, true, true, true, true, true, false, false, false, false, false, false, false, false, false, false, false] rfl rfl (take_ofW HT_.out HW_.out (by kernel_rfl)) (fun _ _ _ h => h) (Or.inl ⟨by rfl, ?_⟩) hHeld ?_ ?_
                                                            rotate_left
                                                            · rintro w' ⟨s0, s1, s2⟩
                                                              go_simp
                                                              with_reducible rfl
                                                            rotate_left
                                                            · simp only [Act.put, List.setIfInBounds_toArray, List.set_cons_zero, List.set_cons_succ, i64_w, i32_w]
                                                              rfl
                                                            refine pure_ (i := 28) (N := some 158) (v := ?_) (a' := ?_) #[true, true, true, true, true, true, true, true, true, true, true, true, true, true, true, true, true, true, true, true, true, true, true, true, true, true, true, true, true, false, false, false, false, false, false, false, false, false, false] rfl rfl (any_of HT_.out (by kernel_rfl)) (fun _ _ _ h => h) (Or.inl ⟨by rfl, ?_⟩) ?_ ?_
                                                            rotate_left
                                                            · intro w'
                                                              go_simp
                                                              with_reducible rfl
                                                            rotate_left
                                                            · simp only [Act.put, List.setIfInBounds_toArray, List.set_cons_zero, List.set_cons_succ, i64_w, i32_w]
                                                              rfl
                                                            refine pure_ (i := 29) (N := some 159) (v := ?_) (a' := ?_) #[true, true, true, true, true, true, true, true, true, true, true, true, true, true, true, true, true, true, true, true, true, true, true, true, true, true, true, true, true, true, false, false, false, false, false, false, false, false, false] rfl rfl (any_of HT_.out (by kernel_rfl)) (fun _ _ _ h => h) (Or.inl ⟨by rfl, ?_⟩) ?_ ?_
                                                            rotate_left
                                                            · intro w'
                                                              go_simp
                                                              with_reducible rfl
                                                            rotate_left
                                                            · simp only [Act.put, List.setIfInBounds_toArray, List.set_cons_zero, List.set_cons_succ, i64_w, i32_w]
                                                              rfl
                                                            refine pure_ (i := 30) (N := some 160) (v := ?_) (a' := ?_) #[true, true, true, true, true, true, true, true, true, true, true, true, true, true, true, true, true, true, true, true, true, true, true, true, true, true, true, true, true, true, true, false, false, false, false, false, false, false, false] rfl rfl (any_of HT_.out (by kernel_rfl)) (fun _ _ _ h => h) (Or.inl ⟨by rfl, ?_⟩) ?_ ?_
                                                            rotate_left
                                                            · intro w'
                                                              go_simp
                                                              with_reducible rfl
                                                            rotate_left
                                                            · simp only [Act.put, List.setIfInBounds_toArray, List.set_cons_zero, List.set_cons_succ, i64_w, i32_w]
                                                              rfl
                                                            refine pure_ (i := 31) (N := some 161) (v := ?_) (a' := ?_) #[true, true, true, true, true, true, true, true, true, true, true, true, true, true, true, true, true, true, true, true, true, true, true, true, true, true, true, true, true, true, true, true, false, false, false, false, false, false, false] rfl rfl (any_of HT_.out (by kernel_rfl)) (fun _ _ _ h => h) (Or.inl ⟨by rfl, ?_⟩) ?_ ?_
                                                            rotate_left
                                                            · intro w'
                                                              go_simp
                                                              with_reducible rfl
                                                            rotate_left
                                                            · simp only [Act.put, List.setIfInBounds_toArray, List.set_cons_zero, List.set_cons_succ, i64_w, i32_w]
                                                              rfl
                                                            refine pure_ (i := 32) (N := some 162) (v := ?_) (a' := ?_) #[true, true, true, true, true, true, true, true, true, true, true, true, true, true, true, true, true, true, true, true, true, true, true, true, true, true, true, true, true, true, true, true, true, false, false, false, false, false, false] rfl rfl (any_of HT_.out (by kernel_rfl)) (fun _ _ _ h => h) (Or.inl ⟨by rfl, ?_⟩) ?_ ?_
                                                            rotate_left
                                                            · intro w'
                                                              go_simp
                                                              with_reducible rfl
                                                            rotate_left
                                                            · simp only [Act.put, List.setIfInBounds_toArray, List.set_cons_zero, List.set_cons_succ, i64_w, i32_w]
                                                              rfl
                                                            refine pure_ (i := 33) (N := some 163) (v := ?_) (a' := ?_) #[true, true, true, true, true, true, true, true, true, true, true, true, true, true, true, true, true, true, true, true, true, true, true, true, true, true, true, true, true, true, true, true, true, true, false, false, false, false, false] rfl rfl (any_of HT_.out (by kernel_rfl)) (fun _ _ _ h => h) (Or.inl ⟨by rfl, ?_⟩) ?_ ?_
                                                            rotate_left
                                                            · intro w'
                                                              go_simp
                                                              with_reducible rfl
                                                            rotate_left
                                                            · simp only [Act.put, List.setIfInBounds_toArray, List.set_cons_zero, List.set_cons_succ, i64_w, i32_w]
                                                              rfl
                                                            refine take_ (i := 34) (N := some 164) (v := ?_) (a' := ?_) #[true, true, true, true, true, true, true, true, true, true, true, true, true, true, true, true, true, true, true, true, true, true, true, true, true, true, true, true, true, true, true, true, true, true, true, false, false, false, false] rfl rfl (take_ofW HT_.out HW_.out (by kernel_rfl)) (fun _ _ _ h => h) (Or.inl ⟨by rfl, ?_⟩) hHeld ?_ ?_
                                                            rotate_left
                                                            · rintro w' ⟨s0, s1, s2⟩
                                                              go_simp
                                                              with_reducible rfl
                                                            rotate_left
                                                            · simp only [Act.put, List.setIfInBounds_toArray, List.set_cons_zero, List.set_cons_succ, i64_w, i32_w]
                                                              rfl
                                                            refine pure_ (i := 35) (N := some 165) (v := ?_) (a' := ?_) #[true, true, true, true, true, true, true, true, true, true, true, true, true, true, true, true, true, true, true, true, true, true, true, true, true, true, true, true, true, true, true, true, true, true, true, true, false, false, false] rfl rfl (any_of HT_.out (by kernel_rfl)) (fun _ _ _ h => h) (Or.inl ⟨by rfl, ?_⟩) ?_ ?_
                                                            rotate_left
                                                            · intro w'
                                                              go_simp
                                                              with_reducible rfl
                                                            rotate_left
                                                            · simp only [Act.put, List.setIfInBounds_toArray, List.set_cons_zero, List.set_cons_succ, i64_w, i32_w]
                                                              rfl
                                                            refine one_ (i := 36) (N := some 166) #[true, true, true, true, true, true, true, true, true, true, true, true, true, true, true, true, true, true, true, true, true, true, true, true, true, true, true, true, true, true, true, true, true, true, true, true, true, false, false] rfl rfl (one_of HT_.out (by kernel_rfl)) (by decide) (fun K hK => ?_)
                                                            refine goes_ Tryd.func15 (by kernel_rfl) rfl #[.string (a0.extract (x5_2 : Int).toNat (((rd_T27 t123 x10_2).f2) : Int).toNat)] (by rfl) rfl rfl (by (try simp only [List.map_toArray, List.map_cons, List.map_nil]); first | done | rfl | (simp only [List.length_drop, List.length_take]; rfl)) ?_
                                                            with_reducible refine (seichelaw11_blank.calls kj44 (a0.extract (x5_2 : Int).toNat (((rd_T27 t123 x10_2).f2) : Int).toNat) true _ A118.out).mono ?_
                                                            rintro e w' ⟨rfl, ⟨nd, rfl⟩⟩
                                                            refine ⟨_, rfl, ?_⟩
                                                            refine hK.out _ _ ⟨(blk_cell BK133.out 0).trans rfl, (blk_cell BK133.out 1).trans rfl, (blk_cell BK133.out 2).trans rfl⟩ (fun hHeld => ?_)
                                                            clear hK K
                                                            refine norm_ (a' := ?_) ?_ ?_
                                                            rotate_left
                                                            · show Act.put _ (some 166) _ = _
                                                              simp only [Act.put, List.setIfInBounds_toArray, List.set_cons_zero, List.set_cons_succ, i64_w, i32_w]
                                                              rfl
                                                            refine pure_ (i := 37) (N := some 167) (v := ?_) (a' := ?_) #[true, true, true, true, true, true, true, true, true, true, true, true, true, true, true, true, true, true, true, true, true, true, true, true, true, true, true, true, true, true, true, true, true, true, true, true, true, true, false] rfl rfl (any_of HT_.out (by kernel_rfl)) (fun _ _ _ h => h) (Or.inl ⟨by rfl, ?_⟩) ?_ ?_
                                                            rotate_left
                                                            · intro w'
                                                              go_simp
                                                              with_reducible rfl
                                                            rotate_left
                                                            · simp only [Act.put, List.setIfInBounds_toArray, List.set_cons_zero, List.set_cons_succ, i64_w, i32_w]
                                                              rfl
                                                            refine pure_ (i := 38) (N := some 168) (v := ?_) (a' := ?_) #[true, true, true, true, true, true, true, true, true, true, true, true, true, true, true, true, true, true, true, true, true, true, true, true, true, true, true, true, true, true, true, true, true, true, true, true, true, true, true] rfl rfl (any_of HT_.out (by kernel_rfl)) (fun _ _ _ h => h) (Or.inl ⟨by rfl, ?_⟩) ?_ ?_
                                                            rotate_left
                                                            · intro w'
                                                              go_simp
                                                              with_reducible rfl
                                                            rotate_left
                                                            · simp only [Act.put, List.setIfInBounds_toArray, List.set_cons_zero, List.set_cons_succ, i64_w, i32_w]
                                                              rfl
                                                            refine done_ (done_of HT_.out (by kernel_rfl)) ?_
                                                            have hcz125_0 : w124.cell? ⟨gb133, 0, none⟩ = some (.int .i64 ((rd_T27 t123 x10_2).f0)) := (blk_cell BK133.out 0).trans rfl
                                                            have hcz125_1 : w124.cell? ⟨gb133, 1, none⟩ = some (.string ((rd_T27 t123 x10_2).f1)) := (blk_cell BK133.out 1).trans rfl
                                                            have hcz125_2 : w124.cell? ⟨gb133, 2, none⟩ = some (.int .i64 ((rd_T27 t123 x10_2).f2)) := (blk_cell BK133.out 2).trans rfl
                                                            have hfz125_0 := blk_frozen BK133.out 0; have hfz125_1 := blk_frozen BK133.out 1; have hfz125_2 := blk_frozen BK133.out 2
                                                            try go_wp2
                                                            go_roundg kj44
                                                            case measure => have := HJ16.out; have := HK2.out; have := HJ36.out; have := HJ40.out; have := HJ44.out; omega
                                                            case rel => exact ⟨(wrap64 (((rd_T27 t123 x10_2).f2) + (((rd_T27 t123 x10_2).f1).size : Int))), (x9_40), (wrap64 (x10_2 + 1)), (by first | rfl | (simp; done) | (simp [*]; done)), (by first | rfl | (simp; done) | (simp [*]; done)), (by first | rfl | (simp; done) | (simp [*]; done)), H', ⟨by have := HJ16.out; have := HK2.out; have := HJ36.out; have := HJ40.out; have := HJ44.out; omega⟩, ⟨by (with_reducible repeat (first | apply Kd.R_alloc | apply Kd.R_drewN | apply Kd.R_drew)); exact Kd.R_mono HO_3.out (fun _ hk => ⟨hk.1, hk.2.1⟩)⟩, ⟨by (with_reducible repeat (first | apply Kd.R_alloc | apply Kd.R_drewN | apply Kd.R_drew)); exact Kd.R_mono HO_4.out (fun _ hk => ⟨hk.1, hk.2.1⟩)⟩, ⟨by (with_reducible repeat (first | refine blk_drewN ?_ _ | refine blk_drew ?_ | refine blk_alloc ?_ _)); exact BK128.out⟩, ⟨by repeat (first | (with_reducible first | exact HB.out | apply below_alloc | apply pw_below_drewN | apply below_drew1 | refine below_set ?_ GE128.out | refine below_set ?_ GE133.out) | exact HB.out)⟩⟩
                                                          · rw [if_neg c119] at H
                                                            exact absurd H (by simp)
                                                        · rw [if_neg c117] at H
                                                          exact absurd H (by simp)
                                                      · rw [if_neg c116] at H
                                                        exact absurd H (by simp)
                                                    · rw [if_neg c115] at H
                                                      exact absurd H (by simp)
                                                  · rw [if_neg c114] at H
                                                    exact absurd H (by simp)
                                                · rw [if_neg c113] at H
                                                  exact absurd H (by simp)
                                              · rw [if_neg c112] at H
                                                exact absurd H (by simp)
                                            · rw [if_neg c111] at H
                                              exact absurd H (by simp)
                                      · rw [if_neg c98] at H
                                        exact absurd H (by simp)
                                    · rw [if_neg c97] at H
                                      have c97b0 : decide (x10_2 < (t123.length : Int)) = false := decide_eq_false c97
                                      clear c97
                                      by_cases c136 : x5_2 ≤ x6_16
                                      · rw [if_pos c136] at H
                                        have c136b0 : decide (x5_2 ≤ x6_16) = true := decide_eq_true c136
                                        clear c136
                                        obtain ⟨ji137, hji137⟩ : ∃ j_ : Int, (wrap64 ((t120.length : Int) - 1)) = j_ := ⟨_, rfl⟩
                                        replace H : (if 0 ≤ (ji137) then (if (ji137) < (t120.length : Int) then (if ((rd_T27 t120 (ji137)).f0) = 7 then (some true) else (if 0 ≤ x5_2 then (if x5_2 ≤ (a0.size : Int) then ((seichelaw11_blank.f kj44 (a0.extract (x5_2 : Int).toNat a0.size)).bind fun t141 => (some t141)) else (none)) else (none))) else (none)) else (none)) = some r := by first | (rw [hji137] at H; exact H) | (simp only [hji137] at H ⊢; exact H)
                                        have hji137w : (IntKind.i64.wrap ((t120.length : Int) - 1)) = ji137 := (i64_w _).trans hji137
                                        obtain rfl : ji137 = ji14 := hji137.symm.trans hji14
                                        (try rw [hji137] at hji14)
                                        (try rw [hji137] at hji14w)
                                        by_cases c138 : 0 ≤ (ji137)
                                        · rw [if_pos c138] at H
                                          have c138b0 : decide (0 ≤ (ji137)) = true := decide_eq_true c138
                                          clear c138
                                          by_cases c139 : (ji137) < (t120.length : Int)
                                          · rw [if_pos c139] at H
                                            have c139b0 : decide ((ji137) < (t120.length : Int)) = true := decide_eq_true c139
                                            clear c139
                                            by_cases c140 : ((rd_T27 t120 (ji137)).f0) = 7
                                            · rw [if_pos c140] at H
                                              have c140b0 : (((rd_T27 t120 (ji137)).f0) == 7) = true := beq_iff_eq.mpr c140
                                              have c140b1 : (((rd_T27 t120 (ji137)).f0) != 7) = false := bne_eq_false_iff_eq.mpr c140
                                              clear c140
                                              obtain rfl := Option.some.inj H
                                              obtain ⟨Ao141, co141, eo141⟩ := Kd.R_slice HO_4.out
                                              subst eo141
                                              have p140 : 0 ≤ ((ji137) : Int) := of_decide_eq_true (by first | (with_reducible assumption) | assumption)
                                              have q140 : (ji137) < (t120.length : Int) := of_decide_eq_true (by first | (with_reducible assumption) | assumption)
                                              obtain ⟨ad140, e140, hx140_0, hx140_1, hx140_2⟩ := at_T27 (Kd.R_reads' HO_3.out).2.2 (ji137) p140 q140
                                              obtain rfl : ad127 = ad140 := (by injection e140)
                                              replace p140 := eq_true p140; replace q140 := eq_true q140
                                              go_wp2
                                              go_ret
                                              exact ⟨by first | rfl | (simp [errW_none, errW_some] <;> rfl) | (simp only [← hji14, ← hji137]; first | rfl | (simp [errW_none, errW_some] <;> rfl)) | (simp [*, errW_none, errW_some] <;> rfl), by repeat (first | (with_reducible first | exact HB.out | apply below_alloc | apply pw_below_drewN | apply below_drew1 | refine below_set ?_ GE128.out | refine below_set ?_ GE133.out) | exact HB.out)⟩
                                            · rw [if_neg c140] at H
                                              have c140b0 : (((rd_T27 t120 (ji137)).f0) == 7) = false := beq_eq_false_iff_ne.mpr c140
                                              have c140b1 : (((rd_T27 t120 (ji137)).f0) != 7) = true := bne_iff_ne.mpr c140
                                              by_cases c142 : 0 ≤ x5_2
                                              · rw [if_pos c142] at H
                                                have c142b0 := eq_true c142
                                                have c142b1 : decide (0 ≤ x5_2) = true := decide_eq_true c142
                                                clear c142
                                                by_cases c143 : x5_2 ≤ (a0.size : Int)
                                                · rw [if_pos c143] at H
                                                  have c143b0 := eq_true c143
                                                  have c143b1 : decide (x5_2 ≤ (a0.size : Int)) = true := decide_eq_true c143
                                                  clear c143
                                                  replace H := Option.bind_eq_some_iff.mp H
                                                  obtain ⟨t141, A1440, H⟩ := H
                                                  replace H : (some t141) = some r := H
                                                  have A144 := Aside0.mk A1440; clear A1440
                                                  obtain rfl := Option.some.inj H
                                                  obtain ⟨Ao145, co145, eo145⟩ := Kd.R_slice HO_4.out
                                                  subst eo145
                                                  have p140 : 0 ≤ ((ji137) : Int) := of_decide_eq_true (by first | (with_reducible assumption) | assumption)
                                                  have q140 : (ji137) < (t120.length : Int) := of_decide_eq_true (by first | (with_reducible assumption) | assumption)
                                                  obtain ⟨ad140, e140, hx140_0, hx140_1, hx140_2⟩ := at_T27 (Kd.R_reads' HO_3.out).2.2 (ji137) p140 q140
                                                  obtain rfl : ad127 = ad140 := (by injection e140)
                                                  replace p140 := eq_true p140; replace q140 := eq_true q140
                                                  go_wp2_with (first | (go_at_call 15; (with_reducible refine (seichelaw11_blank.calls kj44 (a0.extract (x5_2 : Int).toNat a0.size) t141 _ A144.out).mono ?_); rintro e w' ⟨rfl, ⟨nd, rfl⟩⟩))
                                                  go_ret
                                                  exact ⟨by first | rfl | (simp [errW_none, errW_some] <;> rfl) | (simp only [← hji14, ← hji137]; first | rfl | (simp [errW_none, errW_some] <;> rfl)) | (simp [*, errW_none, errW_some] <;> rfl), by repeat (first | (with_reducible first | exact HB.out | apply below_alloc | apply pw_below_drewN | apply below_drew1 | refine below_set ?_ GE128.out | refine below_set ?_ GE133.out) | exact HB.out)⟩
                                                · rw [if_neg c143] at H
                                                  exact absurd H (by simp)
                                              · rw [if_neg c142] at H
                                                exact absurd H (by simp)
                                          · rw [if_neg c139] at H
                                            exact absurd H (by simp)
                                        · rw [if_neg c138] at H
                                          exact absurd H (by simp)
                                      · rw [if_neg c136] at H
                                        exact absurd H (by simp)
                        · replace c40 := Bool.eq_false_iff.mpr c40
                          subst c40
                          have H1 : (if x5_2 ≤ x6_16 then (if 0 ≤ (wrap64 ((t120.length : Int) - 1)) then (if (wrap64 ((t120.length : Int) - 1)) < (t120.length : Int) then (if ((rd_T27 t120 (wrap64 ((t120.length : Int) - 1))).f0) = 7 then (some true) else (if 0 ≤ x5_2 then (if x5_2 ≤ (a0.size : Int) then ((seichelaw11_blank.f kj36 (a0.extract (x5_2 : Int).toNat a0.size)).bind fun t131 => (some t131)) else (none)) else (none))) else (none)) else (none)) else (none)) = some r := by rw [if_neg (show ¬ (false = true) by decide)] at H; exact H
                          clear H
                          have H := H1
                          clear H1
                          by_cases c147 : x5_2 ≤ x6_16
                          · rw [if_pos c147] at H
                            have c147b0 : decide (x5_2 ≤ x6_16) = true := decide_eq_true c147
                            clear c147
                            obtain ⟨ji148, hji148⟩ : ∃ j_ : Int, (wrap64 ((t120.length : Int) - 1)) = j_ := ⟨_, rfl⟩
                            replace H : (if 0 ≤ (ji148) then (if (ji148) < (t120.length : Int) then (if ((rd_T27 t120 (ji148)).f0) = 7 then (some true) else (if 0 ≤ x5_2 then (if x5_2 ≤ (a0.size : Int) then ((seichelaw11_blank.f kj36 (a0.extract (x5_2 : Int).toNat a0.size)).bind fun t131 => (some t131)) else (none)) else (none))) else (none)) else (none)) = some r := by first | (rw [hji148] at H; exact H) | (simp only [hji148] at H ⊢; exact H)
                            have hji148w : (IntKind.i64.wrap ((t120.length : Int) - 1)) = ji148 := (i64_w _).trans hji148
                            obtain rfl : ji148 = ji14 := hji148.symm.trans hji14
                            (try rw [hji148] at hji14)
                            (try rw [hji148] at hji14w)
                            by_cases c149 : 0 ≤ (ji148)
                            · rw [if_pos c149] at H
                              have c149b0 : decide (0 ≤ (ji148)) = true := decide_eq_true c149
                              clear c149
                              by_cases c150 : (ji148) < (t120.length : Int)
                              · rw [if_pos c150] at H
                                have c150b0 : decide ((ji148) < (t120.length : Int)) = true := decide_eq_true c150
                                clear c150
                                by_cases c151 : ((rd_T27 t120 (ji148)).f0) = 7
                                · rw [if_pos c151] at H
                                  have c151b0 : (((rd_T27 t120 (ji148)).f0) == 7) = true := beq_iff_eq.mpr c151
                                  have c151b1 : (((rd_T27 t120 (ji148)).f0) != 7) = false := bne_eq_false_iff_eq.mpr c151
                                  clear c151
                                  obtain rfl := Option.some.inj H
                                  have p130 : 0 ≤ ((ji148) : Int) := of_decide_eq_true (by first | (with_reducible assumption) | assumption)
                                  have q130 : (ji148) < (t120.length : Int) := of_decide_eq_true (by first | (with_reducible assumption) | assumption)
                                  obtain ⟨ad130, e130, hx130_0, hx130_1, hx130_2⟩ := at_T27 (Kd.R_reads' HO_3.out).2.2 (ji148) p130 q130
                                  obtain rfl : ad127 = ad130 := (by injection e130)
                                  replace p130 := eq_true p130; replace q130 := eq_true q130
                                  go_wp2
                                  go_ret
                                  exact ⟨by first | rfl | (simp [errW_none, errW_some] <;> rfl) | (simp only [← hji14, ← hji148]; first | rfl | (simp [errW_none, errW_some] <;> rfl)) | (simp [*, errW_none, errW_some] <;> rfl), by repeat (first | (with_reducible first | exact HB.out | apply below_alloc | apply pw_below_drewN | apply below_drew1 | refine below_set ?_ GE128.out) | exact HB.out)⟩
                                · rw [if_neg c151] at H
                                  have c151b0 : (((rd_T27 t120 (ji148)).f0) == 7) = false := beq_eq_false_iff_ne.mpr c151
                                  have c151b1 : (((rd_T27 t120 (ji148)).f0) != 7) = true := bne_iff_ne.mpr c151
                                  by_cases c152 : 0 ≤ x5_2
                                  · rw [if_pos c152] at H
                                    have c152b0 := eq_true c152
                                    have c152b1 : decide (0 ≤ x5_2) = true := decide_eq_true c152
                                    clear c152
                                    by_cases c153 : x5_2 ≤ (a0.size : Int)
                                    · rw [if_pos c153] at H
                                      have c153b0 := eq_true c153
                                      have c153b1 : decide (x5_2 ≤ (a0.size : Int)) = true := decide_eq_true c153
                                      clear c153
                                      replace H := Option.bind_eq_some_iff.mp H
                                      obtain ⟨t131, A1540, H⟩ := H
                                      replace H : (some t131) = some r := H
                                      have A154 := Aside0.mk A1540; clear A1540
                                      obtain rfl := Option.some.inj H
                                      have p130 : 0 ≤ ((ji148) : Int) := of_decide_eq_true (by first | (with_reducible assumption) | assumption)
                                      have q130 : (ji148) < (t120.length : Int) := of_decide_eq_true (by first | (with_reducible assumption) | assumption)
                                      obtain ⟨ad130, e130, hx130_0, hx130_1, hx130_2⟩ := at_T27 (Kd.R_reads' HO_3.out).2.2 (ji148) p130 q130
                                      obtain rfl : ad127 = ad130 := (by injection e130)
                                      replace p130 := eq_true p130; replace q130 := eq_true q130
                                      go_wp2_with (first | (go_at_call 15; (with_reducible refine (seichelaw11_blank.calls kj36 (a0.extract (x5_2 : Int).toNat a0.size) t131 _ A154.out).mono ?_); rintro e w' ⟨rfl, ⟨nd, rfl⟩⟩))
                                      go_ret
                                      exact ⟨by first | rfl | (simp [errW_none, errW_some] <;> rfl) | (simp only [← hji14, ← hji148]; first | rfl | (simp [errW_none, errW_some] <;> rfl)) | (simp [*, errW_none, errW_some] <;> rfl), by repeat (first | (with_reducible first | exact HB.out | apply below_alloc | apply pw_below_drewN | apply below_drew1 | refine below_set ?_ GE128.out) | exact HB.out)⟩
                                    · rw [if_neg c153] at H
                                      exact absurd H (by simp)
                                  · rw [if_neg c152] at H
                                    exact absurd H (by simp)
                              · rw [if_neg c150] at H
                                exact absurd H (by simp)
                            · rw [if_neg c149] at H
                              exact absurd H (by simp)
                          · rw [if_neg c147] at H
                            exact absurd H (by simp)
          · rw [if_neg c16] at H
            exact absurd H (by simp)
        · rw [if_neg c15] at H
          exact absurd H (by simp)
  · rw [if_neg c3] at H
    exact absurd H (by simp)
/-- THE ONE PURE STATEMENT of seichelaw11_GolexCovers: yours. -/
def seichelaw11_GolexCovers.Pure : Prop := ∀ (a0 : ByteArray), a0.size ≤ 140737488351232 → ∃ k, seichelaw11_GolexCovers.f k a0 = some true
theorem seichelaw11_GolexCovers.walk (P : seichelaw11_GolexCovers.Pure) (a0 : ByteArray) (w : World) (hT : Tabs w) (w0 : a0.size ≤ 140737488351232) :
    Calls Tryd.prog 7 #[.string a0] w fun e w' => e = .returned (.bool true) ∧ Below w.heap.size w w' := by
  obtain ⟨k, h⟩ := P a0 w0
  refine (seichelaw11_GolexCovers.calls k a0 true w hT h).mono ?_
  rintro e w' ⟨rfl, hd⟩
  exact ⟨rfl, hd⟩
end Go.Proofs.YtfolmcfcmonkhaaDoor.PAll

