-- Written by a program of this session (a changed scratch copy of a tool of the kit); not a print of the kit's own.
import Derived.Test.YtmeaphgjkodioaaPAllx0
import Derived.Test.YtmeaphgjkodioaaPAllx1
import Derived.Test.YtmeaphgjkodioaaPAllx3
namespace Go.Proofs.Ytmeaphgjkodioaa.PAll
open Go.RowKit Go.Proofs.YtmeaphgjkodioaaW.PrintWords Go.Proofs.YtmeaphgjkodioaaW.PrintLast Go.Proofs.YtmeaphgjkodioaaW.PrintMore Go.Proofs.YtmeaphgjkodioaaMy
attribute [local go_sem] max2_int min2_int max_two min_two max_three min_three max_four min_four   -- for this text's walks alone
set_option linter.unusedVariables false
set_option linter.unusedSimpArgs false

/-! ### seichelaw04_FrameSplits: function 4 -/
def seichelaw04_FrameSplits.f (k : Nat) (l0 : List Int) : Option (Bool) := (seichelaw04_alive.f k).bind fun t171 => (if t171 = true then (if (l0.length : Int) > 8192 then (some true) else ((frame_Split.f k l0).bind fun bt172 => ((seicheref04_Split.f k (strOfNums l0)).bind fun bt176 => ((seicheref01_Same.f k bt172.1 bt176.1).bind fun t180 => (if t180 = true then (some (bt172.2 == bt176.2)) else (some false)))))) else (some false))
theorem seichelaw04_FrameSplits.mono : ∀ a0 k, LeO (seichelaw04_FrameSplits.f k a0) (seichelaw04_FrameSplits.f (k + 1) a0) := by
  intro a0 k
  unfold seichelaw04_FrameSplits.f
  repeat' first
      | (with_reducible exact frame_Split.mono _ _)
      | (with_reducible exact seichelaw04_alive.mono _)
      | (with_reducible exact seicheref01_Same.mono _ _ _)
      | (with_reducible exact seicheref04_Split.mono _ _)
      | (with_reducible exact LeO.refl _)
      | (with_reducible exact LeO.none _)
      | (with_reducible refine LeO.ite ?_ ?_)
      | (with_reducible refine LeO.bind ?_ (fun _ => ?_))
      | exact frame_Split.mono _ _
      | exact seichelaw04_alive.mono _
      | exact seicheref01_Same.mono _ _ _
      | exact seicheref04_Split.mono _ _
      | exact LeO.none _
      | refine LeO.ite ?_ ?_
      | refine LeO.bind ?_ (fun _ => ?_)
set_option maxHeartbeats 8000000 in
set_option maxRecDepth 100000 in
theorem seichelaw04_FrameSplits.calls (k : Nat) (A0 : Option Addr) (c0 : Nat) (l0 : List Int) (r : Bool) (w : World) (hr0 : Kd.C (Kd.int .u8) w A0 l0.length l0) (hc0 : l0.length ≤ c0) (h : seichelaw04_FrameSplits.f k l0 = some r) :
    Calls Try.prog 4 #[.slice A0 l0.length c0] w fun e w' => e = .returned (.bool r) ∧ Below w.heap.size w w' := by
  have HR0 := Aside0.mk hr0
  have HC0 := Aside0.mk hc0
  clear hr0 hc0
  have HB := Aside0.mk (Below.refl w.heap.size w)
  have H : ((seichelaw04_alive.f k).bind fun t171 => (if t171 = true then (if (l0.length : Int) > 8192 then (some true) else ((frame_Split.f k l0).bind fun bt172 => ((seicheref04_Split.f k (strOfNums l0)).bind fun bt176 => ((seicheref01_Same.f k bt172.1 bt176.1).bind fun t180 => (if t180 = true then (some (bt172.2 == bt176.2)) else (some false)))))) else (some false))) = some r := h
  clear h
  replace H := Option.bind_eq_some_iff.mp H
  obtain ⟨t171, A20, H⟩ := H
  replace H : (if t171 = true then (if (l0.length : Int) > 8192 then (some true) else ((frame_Split.f k l0).bind fun bt172 => ((seicheref04_Split.f k (strOfNums l0)).bind fun bt176 => ((seicheref01_Same.f k bt172.1 bt176.1).bind fun t180 => (if t180 = true then (some (bt172.2 == bt176.2)) else (some false)))))) else (some false)) = some r := H
  have A2 := Aside0.mk A20
  clear A20
  by_cases c3 : t171 = true
  · subst c3
    have H1 : (if (l0.length : Int) > 8192 then (some true) else ((frame_Split.f k l0).bind fun bt172 => ((seicheref04_Split.f k (strOfNums l0)).bind fun bt176 => ((seicheref01_Same.f k bt172.1 bt176.1).bind fun t180 => (if t180 = true then (some (bt172.2 == bt176.2)) else (some false)))))) = some r := by rw [if_pos rfl] at H; exact H
    clear H
    have H := H1
    clear H1
    by_cases c4 : (l0.length : Int) > 8192
    · rw [if_pos c4] at H
      have c4b0 : decide (8192 < (l0.length : Int)) = true := decide_eq_true c4
      have c4b1 : decide (8192 < l0.length) = true := decide_eq_true (by omega)
      clear c4
      obtain rfl := Option.some.inj H
      go_enter Try.func4, Try.ntmps4
      go_wp2_with (first | ((with_reducible refine gate_callee (f := 10) rfl ?_); refine goesL_ (some 7) rfl rfl Try.func10 (by kernel_rfl) rfl #[] rfl (by (try simp only [List.map_toArray, List.map_cons, List.map_nil]); first | done | rfl | (simp only [List.length_drop, List.length_take]; rfl)) ?_; (with_reducible refine (seichelaw04_alive.calls k  true _ A2.out).mono ?_); rintro e w5 ⟨rfl, hb⟩; refine ⟨_, rfl, ?_⟩; have n0_ := Aside0.mk (below_step (by repeat (first | (with_reducible first | exact HB.out | apply below_alloc | apply pw_below_drewN | apply below_drew1) | exact HB.out)) hb); clear HB; have HB := n0_; clear n0_; (try clear hb); (try clear hb2); (try clear hk); (try clear hi)))
      go_ret
      exact ⟨by first | rfl | (simp [errW_none, errW_some] <;> rfl) | (simp [*, errW_none, errW_some] <;> rfl), by repeat (first | (with_reducible first | exact HB.out | apply below_alloc | apply pw_below_drewN | apply below_drew1) | exact HB.out)⟩
    · rw [if_neg c4] at H
      have c4b0 : decide (8192 < (l0.length : Int)) = false := decide_eq_false c4
      have c4b1 : decide (8192 < l0.length) = false := decide_eq_false (by omega)
      clear c4
      replace H := Option.bind_eq_some_iff.mp H
      obtain ⟨⟨t172, t173⟩, A60, H⟩ := H
      replace H : ((seicheref04_Split.f k (strOfNums l0)).bind fun bt176 => ((seicheref01_Same.f k t172 bt176.1).bind fun t180 => (if t180 = true then (some (t173 == bt176.2)) else (some false)))) = some r := H
      have A6 := Aside0.mk A60
      clear A60
      replace H := Option.bind_eq_some_iff.mp H
      obtain ⟨⟨t176, t177⟩, A70, H⟩ := H
      replace H : ((seicheref01_Same.f k t172 t176).bind fun t180 => (if t180 = true then (some (t173 == t177)) else (some false))) = some r := H
      have A7 := Aside0.mk A70
      clear A70
      replace H := Option.bind_eq_some_iff.mp H
      obtain ⟨t180, A80, H⟩ := H
      replace H : (if t180 = true then (some (t173 == t177)) else (some false)) = some r := H
      have A8 := Aside0.mk A80
      clear A80
      by_cases c9 : t180 = true
      · subst c9
        have H1 : (some (t173 == t177)) = some r := by rw [if_pos rfl] at H; exact H
        clear H
        have H := H1
        clear H1
        obtain rfl := Option.some.inj H
        go_enter Try.func4, Try.ntmps4
        go_wp2_with (first | ((with_reducible refine gate_callee (f := 10) rfl ?_); refine goesL_ (some 7) rfl rfl Try.func10 (by kernel_rfl) rfl #[] rfl (by (try simp only [List.map_toArray, List.map_cons, List.map_nil]); first | done | rfl | (simp only [List.length_drop, List.length_take]; rfl)) ?_; (with_reducible refine (seichelaw04_alive.calls k  true _ A2.out).mono ?_); rintro e w10 ⟨rfl, hb⟩; refine ⟨_, rfl, ?_⟩; have n0_ := Aside0.mk (below_step (by repeat (first | (with_reducible first | exact HB.out | apply below_alloc | apply pw_below_drewN | apply below_drew1) | exact HB.out)) hb); clear HB; have HB := n0_; clear n0_; (try clear hb); (try clear hb2); (try clear hk); (try clear hi)) | ((with_reducible refine gate_callee (f := 16) rfl ?_); refine goesL_ (some 14) rfl rfl Try.func16 (by kernel_rfl) rfl #[.slice A0 l0.length c0] rfl (by (try simp only [List.map_toArray, List.map_cons, List.map_nil]); first | done | rfl | (simp only [List.length_drop, List.length_take]; rfl)) ?_; (with_reducible refine (frame_Split.calls k _ _ l0 t172 t173 _ ?side1 ?side2 A6.out).mono ?_); (case side1 => repeat (first | exact (Kd.C_below HR0.out HB.out) | (with_reducible refine Kd.C_alloc ?_ _) | (with_reducible refine Kd.C_drewN ?_ _) | (with_reducible refine Kd.C_drew ?_))); (case side2 => exact HC0.out); rintro e w11 ⟨v174, rfl, ho0, hb⟩; refine ⟨_, rfl, ?_⟩; have n0_ := Aside0.mk (Kd.R_lower ho0 (below_size (by repeat (first | (with_reducible first | exact HB.out | apply below_alloc | apply pw_below_drewN | apply below_drew1) | exact HB.out)))); have n1_ := Aside0.mk (below_step (by repeat (first | (with_reducible first | exact HB.out | apply below_alloc | apply pw_below_drewN | apply below_drew1) | exact HB.out)) hb); clear HB; have HO175 := n0_; have HB := n1_; clear n0_ n1_; (try clear hb); (try clear hb2); (try clear hk); (try clear hi); (try clear ho0); have hcv12 := Kd.C_string (P := Try.prog) (A := A0) (c := c0) Try.underlying22 Try.underlying5 Try.underlying9 (Kd.C_below HR0.out HB.out)) | ((with_reducible refine gate_callee (f := 17) rfl ?_); refine goesL_ (some 20) rfl rfl Try.func17 (by kernel_rfl) rfl #[.string (strOfNums l0)] rfl (by (try simp only [List.map_toArray, List.map_cons, List.map_nil]); first | done | rfl | (simp only [List.length_drop, List.length_take]; rfl)) ?_; (with_reducible refine (seicheref04_Split.calls k (strOfNums l0) t176 t177 _ A7.out).mono ?_); rintro e w13 ⟨v178, rfl, ho0, hb⟩; refine ⟨_, rfl, ?_⟩; have n0_ := Aside0.mk (Kd.R_elder' (by (with_reducible repeat (first | apply Kd.R_alloc | apply Kd.R_drewN | apply Kd.R_drew)); exact HO175.out) (Kd.R_base ho0) hb); have n1_ := Aside0.mk (Kd.R_lower (Kd.R_new' ho0 (Kd.R_lt (by (with_reducible repeat (first | apply Kd.R_alloc | apply Kd.R_drewN | apply Kd.R_drew)); exact HO175.out))) (below_size (by repeat (first | (with_reducible first | exact HB.out | apply below_alloc | apply pw_below_drewN | apply below_drew1) | exact HB.out)))); have n2_ := Aside0.mk (below_step (by repeat (first | (with_reducible first | exact HB.out | apply below_alloc | apply pw_below_drewN | apply below_drew1) | exact HB.out)) hb); clear HO175; clear HB; have HO175 := n0_; have HO179 := n1_; have HB := n2_; clear n0_ n1_ n2_; (try clear hb); (try clear hb2); (try clear hk); (try clear hi); (try clear ho0); obtain ⟨Ao14, co14, eo14⟩ := Kd.R_slice HO175.out; subst eo14; obtain ⟨Ao15, co15, eo15⟩ := Kd.R_slice HO179.out; subst eo15) | ((with_reducible refine gate_callee (f := 18) rfl ?_); refine goesL_ (some 25) rfl rfl Try.func18 (by kernel_rfl) rfl #[.slice Ao14 t172.length co14, .slice Ao15 t176.length co15] rfl (by (try simp only [List.map_toArray, List.map_cons, List.map_nil]); first | done | rfl | (simp only [List.length_drop, List.length_take]; rfl)) ?_; (with_reducible refine (seicheref01_Same.calls k _ _ t172 _ _ t176 true _ ?side1 ?side2 ?side3 ?side4 A8.out).mono ?_); (case side1 => repeat (first | exact (Kd.R_reads' HO175.out).2.2 | (with_reducible refine Kd.C_alloc ?_ _) | (with_reducible refine Kd.C_drewN ?_ _) | (with_reducible refine Kd.C_drew ?_))); (case side2 => exact (Kd.R_reads' HO175.out).2.1); (case side3 => repeat (first | exact (Kd.R_reads' HO179.out).2.2 | (with_reducible refine Kd.C_alloc ?_ _) | (with_reducible refine Kd.C_drewN ?_ _) | (with_reducible refine Kd.C_drew ?_))); (case side4 => exact (Kd.R_reads' HO179.out).2.1); rintro e w' ⟨rfl, ⟨nd, rfl⟩⟩; refine ⟨_, rfl, ?_⟩))
        go_ret
        exact ⟨by first | rfl | (simp [errW_none, errW_some] <;> rfl) | (simp [*, errW_none, errW_some] <;> rfl), by repeat (first | (with_reducible first | exact HB.out | apply below_alloc | apply pw_below_drewN | apply below_drew1) | exact HB.out)⟩
      · replace c9 := Bool.eq_false_iff.mpr c9
        subst c9
        have H1 : (some false) = some r := by rw [if_neg (show ¬ (false = true) by decide)] at H; exact H
        clear H
        have H := H1
        clear H1
        obtain rfl := Option.some.inj H
        go_enter Try.func4, Try.ntmps4
        go_wp2_with (first | ((with_reducible refine gate_callee (f := 10) rfl ?_); refine goesL_ (some 7) rfl rfl Try.func10 (by kernel_rfl) rfl #[] rfl (by (try simp only [List.map_toArray, List.map_cons, List.map_nil]); first | done | rfl | (simp only [List.length_drop, List.length_take]; rfl)) ?_; (with_reducible refine (seichelaw04_alive.calls k  true _ A2.out).mono ?_); rintro e w16 ⟨rfl, hb⟩; refine ⟨_, rfl, ?_⟩; have n0_ := Aside0.mk (below_step (by repeat (first | (with_reducible first | exact HB.out | apply below_alloc | apply pw_below_drewN | apply below_drew1) | exact HB.out)) hb); clear HB; have HB := n0_; clear n0_; (try clear hb); (try clear hb2); (try clear hk); (try clear hi)) | ((with_reducible refine gate_callee (f := 16) rfl ?_); refine goesL_ (some 14) rfl rfl Try.func16 (by kernel_rfl) rfl #[.slice A0 l0.length c0] rfl (by (try simp only [List.map_toArray, List.map_cons, List.map_nil]); first | done | rfl | (simp only [List.length_drop, List.length_take]; rfl)) ?_; (with_reducible refine (frame_Split.calls k _ _ l0 t172 t173 _ ?side1 ?side2 A6.out).mono ?_); (case side1 => repeat (first | exact (Kd.C_below HR0.out HB.out) | (with_reducible refine Kd.C_alloc ?_ _) | (with_reducible refine Kd.C_drewN ?_ _) | (with_reducible refine Kd.C_drew ?_))); (case side2 => exact HC0.out); rintro e w17 ⟨v174, rfl, ho0, hb⟩; refine ⟨_, rfl, ?_⟩; have n0_ := Aside0.mk (Kd.R_lower ho0 (below_size (by repeat (first | (with_reducible first | exact HB.out | apply below_alloc | apply pw_below_drewN | apply below_drew1) | exact HB.out)))); have n1_ := Aside0.mk (below_step (by repeat (first | (with_reducible first | exact HB.out | apply below_alloc | apply pw_below_drewN | apply below_drew1) | exact HB.out)) hb); clear HB; have HO175 := n0_; have HB := n1_; clear n0_ n1_; (try clear hb); (try clear hb2); (try clear hk); (try clear hi); (try clear ho0); have hcv18 := Kd.C_string (P := Try.prog) (A := A0) (c := c0) Try.underlying22 Try.underlying5 Try.underlying9 (Kd.C_below HR0.out HB.out)) | ((with_reducible refine gate_callee (f := 17) rfl ?_); refine goesL_ (some 20) rfl rfl Try.func17 (by kernel_rfl) rfl #[.string (strOfNums l0)] rfl (by (try simp only [List.map_toArray, List.map_cons, List.map_nil]); first | done | rfl | (simp only [List.length_drop, List.length_take]; rfl)) ?_; (with_reducible refine (seicheref04_Split.calls k (strOfNums l0) t176 t177 _ A7.out).mono ?_); rintro e w19 ⟨v178, rfl, ho0, hb⟩; refine ⟨_, rfl, ?_⟩; have n0_ := Aside0.mk (Kd.R_elder' (by (with_reducible repeat (first | apply Kd.R_alloc | apply Kd.R_drewN | apply Kd.R_drew)); exact HO175.out) (Kd.R_base ho0) hb); have n1_ := Aside0.mk (Kd.R_lower (Kd.R_new' ho0 (Kd.R_lt (by (with_reducible repeat (first | apply Kd.R_alloc | apply Kd.R_drewN | apply Kd.R_drew)); exact HO175.out))) (below_size (by repeat (first | (with_reducible first | exact HB.out | apply below_alloc | apply pw_below_drewN | apply below_drew1) | exact HB.out)))); have n2_ := Aside0.mk (below_step (by repeat (first | (with_reducible first | exact HB.out | apply below_alloc | apply pw_below_drewN | apply below_drew1) | exact HB.out)) hb); clear HO175; clear HB; have HO175 := n0_; have HO179 := n1_; have HB := n2_; clear n0_ n1_ n2_; (try clear hb); (try clear hb2); (try clear hk); (try clear hi); (try clear ho0); obtain ⟨Ao20, co20, eo20⟩ := Kd.R_slice HO175.out; subst eo20; obtain ⟨Ao21, co21, eo21⟩ := Kd.R_slice HO179.out; subst eo21) | ((with_reducible refine gate_callee (f := 18) rfl ?_); refine goesL_ (some 25) rfl rfl Try.func18 (by kernel_rfl) rfl #[.slice Ao20 t172.length co20, .slice Ao21 t176.length co21] rfl (by (try simp only [List.map_toArray, List.map_cons, List.map_nil]); first | done | rfl | (simp only [List.length_drop, List.length_take]; rfl)) ?_; (with_reducible refine (seicheref01_Same.calls k _ _ t172 _ _ t176 false _ ?side1 ?side2 ?side3 ?side4 A8.out).mono ?_); (case side1 => repeat (first | exact (Kd.R_reads' HO175.out).2.2 | (with_reducible refine Kd.C_alloc ?_ _) | (with_reducible refine Kd.C_drewN ?_ _) | (with_reducible refine Kd.C_drew ?_))); (case side2 => exact (Kd.R_reads' HO175.out).2.1); (case side3 => repeat (first | exact (Kd.R_reads' HO179.out).2.2 | (with_reducible refine Kd.C_alloc ?_ _) | (with_reducible refine Kd.C_drewN ?_ _) | (with_reducible refine Kd.C_drew ?_))); (case side4 => exact (Kd.R_reads' HO179.out).2.1); rintro e w' ⟨rfl, ⟨nd, rfl⟩⟩; refine ⟨_, rfl, ?_⟩))
        go_ret
        exact ⟨by first | rfl | (simp [errW_none, errW_some] <;> rfl) | (simp [*, errW_none, errW_some] <;> rfl), by repeat (first | (with_reducible first | exact HB.out | apply below_alloc | apply pw_below_drewN | apply below_drew1) | exact HB.out)⟩
  · replace c3 := Bool.eq_false_iff.mpr c3
    subst c3
    have H1 : (some false) = some r := by rw [if_neg (show ¬ (false = true) by decide)] at H; exact H
    clear H
    have H := H1
    clear H1
    obtain rfl := Option.some.inj H
    go_enter Try.func4, Try.ntmps4
    go_wp2_with (first | ((with_reducible refine gate_callee (f := 10) rfl ?_); refine goesL_ (some 7) rfl rfl Try.func10 (by kernel_rfl) rfl #[] rfl (by (try simp only [List.map_toArray, List.map_cons, List.map_nil]); first | done | rfl | (simp only [List.length_drop, List.length_take]; rfl)) ?_; (with_reducible refine (seichelaw04_alive.calls k  false _ A2.out).mono ?_); rintro e w22 ⟨rfl, hb⟩; refine ⟨_, rfl, ?_⟩; have n0_ := Aside0.mk (below_step (by repeat (first | (with_reducible first | exact HB.out | apply below_alloc | apply pw_below_drewN | apply below_drew1) | exact HB.out)) hb); clear HB; have HB := n0_; clear n0_; (try clear hb); (try clear hb2); (try clear hk); (try clear hi)))
    go_ret
    exact ⟨by first | rfl | (simp [errW_none, errW_some] <;> rfl) | (simp [*, errW_none, errW_some] <;> rfl), by repeat (first | (with_reducible first | exact HB.out | apply below_alloc | apply pw_below_drewN | apply below_drew1) | exact HB.out)⟩

/-- THE ONE PURE STATEMENT of seichelaw04_FrameSplits: yours. -/
def seichelaw04_FrameSplits.Pure : Prop := ∀ (l0 : List Int), l0.length ≤ maxLen → l0.length * 1 ≤ 140737488351232 → (∀ x ∈ l0, (Lit.int .u8 x).wf = true) → ∃ k, seichelaw04_FrameSplits.f k l0 = some true
theorem seichelaw04_FrameSplits.walk (P : seichelaw04_FrameSplits.Pure) (a0 : Option Addr) (len0 cap0 : Nat) (z0 : List Int) (w : World) (w0 : (a0 = none ∧ len0 = 0 ∧ cap0 = 0 ∧ z0 = []) ∨ ∃ x, a0 = some x ∧ len0 ≤ cap0 ∧ cap0 ≤ maxLen ∧ z0.length = cap0 ∧ (∀ i, i < z0.length → w.cell? (x.add i) = some (.int .u8 (z0.getD i 0))) ∧ ∀ n ∈ z0, (Lit.int .u8 n).wf = true) (y0 : len0 * 1 ≤ 140737488351232) :
    Calls Try.prog 4 #[.slice a0 len0 cap0] w fun e w' => e = .returned (.bool true) ∧ Below w.heap.size w w' := by
  obtain ⟨l0, rfl, hr0, hm0, hw0, hc0⟩ := ReadsInt.ofRowC w0
  obtain ⟨k, h⟩ := P l0 hm0 y0 hw0
  refine (seichelaw04_FrameSplits.calls k _ _ l0 true w (Kd.C_of_reads (d := (0 : Int)) (h1 := fun _ => rfl) hr0) hc0 h).mono ?_
  rintro e w' ⟨rfl, hd⟩
  exact ⟨rfl, hd⟩

/-! ### seichelaw04_FrameBack: function 5 -/
mutual
def seichelaw04_FrameBack.j0 : Nat → List ByteArray → Int → List Int → Bool → Option (Bool)
  | 0, _, _, _, _ => none
  | k + 1, x0, x1, x5, x33 => if x33 = true then (some false) else (if x1 < 0 then (seichelaw04_FrameBack.j1 k x0 x1 x5 true) else (seichelaw04_FrameBack.j1 k x0 x1 x5 (decide (x1 > (x5.length : Int)))))
def seichelaw04_FrameBack.j1 : Nat → List ByteArray → Int → List Int → Bool → Option (Bool)
  | 0, _, _, _, _ => none
  | k + 1, x0, x1, x5, x41 => if x41 = true then (some true) else (if 0 ≤ x1 then (if x1 ≤ (x5.length : Int) then ((frame_Split.f k (x5.take (x1 : Int).toNat)).bind fun bt195 => (seichelaw04_FrameBack.l0 k x0 x1 bt195.1 bt195.2 0 x0 (x0.length : Int) 0)) else (none)) else (none))
def seichelaw04_FrameBack.l0 : Nat → List ByteArray → Int → List ByteArray → Int → Int → List ByteArray → Int → Int → Option (Bool)
  | 0, _, _, _, _, _, _, _, _ => none
  | k + 1, x0, x1, x8, x9, x10, x49, x50, x51 => if x51 < x50 then (if 0 ≤ x51 then (if x51 < (x49.length : Int) then (if (wrap64 ((wrap64 (x10 + 8)) + ((rdOf ByteArray.empty x49 x51).size : Int))) > x1 then (if x51 ≤ (x0.length : Int) then ((seicheref01_Same.f k x8 (x0.take (x51 : Int).toNat)).bind fun t201 => (if t201 = true then (some (x9 == x10)) else (some false))) else (none)) else (seichelaw04_FrameBack.l0 k x0 x1 x8 x9 (wrap64 (x10 + (wrap64 (8 + ((rdOf ByteArray.empty x49 x51).size : Int))))) x49 x50 (wrap64 (x51 + 1)))) else (none)) else (none)) else ((seicheref01_Same.f k x8 x0).bind fun t202 => (if t202 = true then (some (x9 == x10)) else (some false)))
end
def seichelaw04_FrameBack.f (k : Nat) (l0 : List ByteArray) (a1 : Int) : Option (Bool) := (seichelaw04_alive.f k).bind fun t181 => (if t181 = true then ((seichelaw04_great.f k l0).bind fun t182 => (if t182 = true then (some true) else ((frame_Put.f k ([] : List Int) l0).bind fun t183 => ((frame_Split.f k t183).bind fun bt186 => ((seicheref01_Same.f k bt186.1 l0).bind fun t190 => (if t190 = true then (seichelaw04_FrameBack.j0 k l0 a1 t183 (bt186.2 != (t183.length : Int))) else (seichelaw04_FrameBack.j0 k l0 a1 t183 true))))))) else (some false))
theorem seichelaw04_FrameBack.mono_l : ∀ k, (∀ y0 y1 y2 y3, LeO (seichelaw04_FrameBack.j0 k y0 y1 y2 y3) (seichelaw04_FrameBack.j0 (k + 1) y0 y1 y2 y3)) ∧ (∀ y0 y1 y2 y3, LeO (seichelaw04_FrameBack.j1 k y0 y1 y2 y3) (seichelaw04_FrameBack.j1 (k + 1) y0 y1 y2 y3)) ∧ (∀ y0 y1 y2 y3 y4 y5 y6 y7, LeO (seichelaw04_FrameBack.l0 k y0 y1 y2 y3 y4 y5 y6 y7) (seichelaw04_FrameBack.l0 (k + 1) y0 y1 y2 y3 y4 y5 y6 y7))
  | 0 => ⟨fun _ _ _ _ r h => by simp [seichelaw04_FrameBack.j0] at h, fun _ _ _ _ r h => by simp [seichelaw04_FrameBack.j1] at h, fun _ _ _ _ _ _ _ _ r h => by simp [seichelaw04_FrameBack.l0] at h⟩
  | k + 1 => by
    obtain ⟨ih0, ih1, ih2⟩ := seichelaw04_FrameBack.mono_l k
    refine ⟨?_, ?_, ?_⟩
    · intro y0 y1 y2 y3
      unfold seichelaw04_FrameBack.j0
      repeat' first
      | (with_reducible exact ih0 _ _ _ _)
      | (with_reducible exact ih1 _ _ _ _)
      | (with_reducible exact ih2 _ _ _ _ _ _ _ _)
      | (with_reducible exact frame_Put.mono _ _ _)
      | (with_reducible exact frame_Split.mono _ _)
      | (with_reducible exact seichelaw04_alive.mono _)
      | (with_reducible exact seichelaw04_great.mono _ _)
      | (with_reducible exact seicheref01_Same.mono _ _ _)
      | (with_reducible exact LeO.refl _)
      | (with_reducible exact LeO.none _)
      | (with_reducible refine LeO.ite ?_ ?_)
      | (with_reducible refine LeO.bind ?_ (fun _ => ?_))
      | exact ih0 _ _ _ _
      | exact ih1 _ _ _ _
      | exact ih2 _ _ _ _ _ _ _ _
      | exact frame_Put.mono _ _ _
      | exact frame_Split.mono _ _
      | exact seichelaw04_alive.mono _
      | exact seichelaw04_great.mono _ _
      | exact seicheref01_Same.mono _ _ _
      | exact LeO.none _
      | refine LeO.ite ?_ ?_
      | refine LeO.bind ?_ (fun _ => ?_)
    · intro y0 y1 y2 y3
      unfold seichelaw04_FrameBack.j1
      repeat' first
      | (with_reducible exact ih0 _ _ _ _)
      | (with_reducible exact ih1 _ _ _ _)
      | (with_reducible exact ih2 _ _ _ _ _ _ _ _)
      | (with_reducible exact frame_Put.mono _ _ _)
      | (with_reducible exact frame_Split.mono _ _)
      | (with_reducible exact seichelaw04_alive.mono _)
      | (with_reducible exact seichelaw04_great.mono _ _)
      | (with_reducible exact seicheref01_Same.mono _ _ _)
      | (with_reducible exact LeO.refl _)
      | (with_reducible exact LeO.none _)
      | (with_reducible refine LeO.ite ?_ ?_)
      | (with_reducible refine LeO.bind ?_ (fun _ => ?_))
      | exact ih0 _ _ _ _
      | exact ih1 _ _ _ _
      | exact ih2 _ _ _ _ _ _ _ _
      | exact frame_Put.mono _ _ _
      | exact frame_Split.mono _ _
      | exact seichelaw04_alive.mono _
      | exact seichelaw04_great.mono _ _
      | exact seicheref01_Same.mono _ _ _
      | exact LeO.none _
      | refine LeO.ite ?_ ?_
      | refine LeO.bind ?_ (fun _ => ?_)
    · intro y0 y1 y2 y3 y4 y5 y6 y7
      unfold seichelaw04_FrameBack.l0
      repeat' first
      | (with_reducible exact ih0 _ _ _ _)
      | (with_reducible exact ih1 _ _ _ _)
      | (with_reducible exact ih2 _ _ _ _ _ _ _ _)
      | (with_reducible exact frame_Put.mono _ _ _)
      | (with_reducible exact frame_Split.mono _ _)
      | (with_reducible exact seichelaw04_alive.mono _)
      | (with_reducible exact seichelaw04_great.mono _ _)
      | (with_reducible exact seicheref01_Same.mono _ _ _)
      | (with_reducible exact LeO.refl _)
      | (with_reducible exact LeO.none _)
      | (with_reducible refine LeO.ite ?_ ?_)
      | (with_reducible refine LeO.bind ?_ (fun _ => ?_))
      | exact ih0 _ _ _ _
      | exact ih1 _ _ _ _
      | exact ih2 _ _ _ _ _ _ _ _
      | exact frame_Put.mono _ _ _
      | exact frame_Split.mono _ _
      | exact seichelaw04_alive.mono _
      | exact seichelaw04_great.mono _ _
      | exact seicheref01_Same.mono _ _ _
      | exact LeO.none _
      | refine LeO.ite ?_ ?_
      | refine LeO.bind ?_ (fun _ => ?_)
theorem seichelaw04_FrameBack.mono : ∀ a0 a1 k, LeO (seichelaw04_FrameBack.f k a0 a1) (seichelaw04_FrameBack.f (k + 1) a0 a1) := by
  intro a0 a1 k
  obtain ⟨ih0, ih1, ih2⟩ := seichelaw04_FrameBack.mono_l k
  unfold seichelaw04_FrameBack.f
  repeat' first
      | (with_reducible exact ih0 _ _ _ _)
      | (with_reducible exact ih1 _ _ _ _)
      | (with_reducible exact ih2 _ _ _ _ _ _ _ _)
      | (with_reducible exact frame_Put.mono _ _ _)
      | (with_reducible exact frame_Split.mono _ _)
      | (with_reducible exact seichelaw04_alive.mono _)
      | (with_reducible exact seichelaw04_great.mono _ _)
      | (with_reducible exact seicheref01_Same.mono _ _ _)
      | (with_reducible exact LeO.refl _)
      | (with_reducible exact LeO.none _)
      | (with_reducible refine LeO.ite ?_ ?_)
      | (with_reducible refine LeO.bind ?_ (fun _ => ?_))
      | exact ih0 _ _ _ _
      | exact ih1 _ _ _ _
      | exact ih2 _ _ _ _ _ _ _ _
      | exact frame_Put.mono _ _ _
      | exact frame_Split.mono _ _
      | exact seichelaw04_alive.mono _
      | exact seichelaw04_great.mono _ _
      | exact seicheref01_Same.mono _ _ _
      | exact LeO.none _
      | refine LeO.ite ?_ ?_
      | refine LeO.bind ?_ (fun _ => ?_)
set_option maxHeartbeats 8000000 in
set_option maxRecDepth 100000 in
theorem seichelaw04_FrameBack.calls (k : Nat) (A0 : Option Addr) (c0 : Nat) (l0 : List ByteArray) (a1 : Int) (r : Bool) (w : World) (hr0 : Kd.C Kd.string w A0 l0.length l0) (hc0 : l0.length ≤ c0) (h : seichelaw04_FrameBack.f k l0 a1 = some r) :
    Calls Try.prog 5 #[.slice A0 l0.length c0, .int .i64 a1] w fun e w' => e = .returned (.bool r) ∧ Below w.heap.size w w' := by
  have HR0 := Aside0.mk hr0
  have HC0 := Aside0.mk hc0
  clear hr0 hc0
  have HB := Aside0.mk (Below.refl w.heap.size w)
  have H : ((seichelaw04_alive.f k).bind fun t181 => (if t181 = true then ((seichelaw04_great.f k l0).bind fun t182 => (if t182 = true then (some true) else ((frame_Put.f k ([] : List Int) l0).bind fun t183 => ((frame_Split.f k t183).bind fun bt186 => ((seicheref01_Same.f k bt186.1 l0).bind fun t190 => (if t190 = true then (seichelaw04_FrameBack.j0 k l0 a1 t183 (bt186.2 != (t183.length : Int))) else (seichelaw04_FrameBack.j0 k l0 a1 t183 true))))))) else (some false))) = some r := h
  clear h
  replace H := Option.bind_eq_some_iff.mp H
  obtain ⟨t181, A30, H⟩ := H
  replace H : (if t181 = true then ((seichelaw04_great.f k l0).bind fun t182 => (if t182 = true then (some true) else ((frame_Put.f k ([] : List Int) l0).bind fun t183 => ((frame_Split.f k t183).bind fun bt186 => ((seicheref01_Same.f k bt186.1 l0).bind fun t190 => (if t190 = true then (seichelaw04_FrameBack.j0 k l0 a1 t183 (bt186.2 != (t183.length : Int))) else (seichelaw04_FrameBack.j0 k l0 a1 t183 true))))))) else (some false)) = some r := H
  have A3 := Aside0.mk A30
  clear A30
  by_cases c4 : t181 = true
  · subst c4
    have H1 : ((seichelaw04_great.f k l0).bind fun t182 => (if t182 = true then (some true) else ((frame_Put.f k ([] : List Int) l0).bind fun t183 => ((frame_Split.f k t183).bind fun bt186 => ((seicheref01_Same.f k bt186.1 l0).bind fun t190 => (if t190 = true then (seichelaw04_FrameBack.j0 k l0 a1 t183 (bt186.2 != (t183.length : Int))) else (seichelaw04_FrameBack.j0 k l0 a1 t183 true))))))) = some r := by rw [if_pos rfl] at H; exact H
    clear H
    have H := H1
    clear H1
    replace H := Option.bind_eq_some_iff.mp H
    obtain ⟨t182, A50, H⟩ := H
    replace H : (if t182 = true then (some true) else ((frame_Put.f k ([] : List Int) l0).bind fun t183 => ((frame_Split.f k t183).bind fun bt186 => ((seicheref01_Same.f k bt186.1 l0).bind fun t190 => (if t190 = true then (seichelaw04_FrameBack.j0 k l0 a1 t183 (bt186.2 != (t183.length : Int))) else (seichelaw04_FrameBack.j0 k l0 a1 t183 true)))))) = some r := H
    have A5 := Aside0.mk A50
    clear A50
    by_cases c6 : t182 = true
    · subst c6
      have H1 : (some true) = some r := by rw [if_pos rfl] at H; exact H
      clear H
      have H := H1
      clear H1
      obtain rfl := Option.some.inj H
      go_enter Try.func5, Try.ntmps5
      go_wp2_with (first | ((with_reducible refine gate_callee (f := 10) rfl ?_); refine goesL_ (some 13) rfl rfl Try.func10 (by kernel_rfl) rfl #[] rfl (by (try simp only [List.map_toArray, List.map_cons, List.map_nil]); first | done | rfl | (simp only [List.length_drop, List.length_take]; rfl)) ?_; (with_reducible refine (seichelaw04_alive.calls k  true _ A3.out).mono ?_); rintro e w7 ⟨rfl, hb⟩; refine ⟨_, rfl, ?_⟩; have n0_ := Aside0.mk (below_step (by repeat (first | (with_reducible first | exact HB.out | apply below_alloc | apply pw_below_drewN | apply below_drew1) | exact HB.out)) hb); clear HB; have HB := n0_; clear n0_; (try clear hb); (try clear hb2); (try clear hk); (try clear hi)) | ((with_reducible refine gate_callee (f := 11) rfl ?_); refine goesL_ (some 16) rfl rfl Try.func11 (by kernel_rfl) rfl #[.slice A0 l0.length c0] rfl (by (try simp only [List.map_toArray, List.map_cons, List.map_nil]); first | done | rfl | (simp only [List.length_drop, List.length_take]; rfl)) ?_; (with_reducible refine (seichelaw04_great.calls k _ _ l0 true _ ?side1 ?side2 A5.out).mono ?_); (case side1 => repeat (first | exact (Kd.C_below HR0.out HB.out) | (with_reducible refine Kd.C_alloc ?_ _) | (with_reducible refine Kd.C_drewN ?_ _) | (with_reducible refine Kd.C_drew ?_))); (case side2 => exact HC0.out); rintro e w' ⟨rfl, ⟨nd, rfl⟩⟩; refine ⟨_, rfl, ?_⟩))
      go_ret
      exact ⟨by first | rfl | (simp [errW_none, errW_some] <;> rfl) | (simp [*, errW_none, errW_some] <;> rfl), by repeat (first | (with_reducible first | exact HB.out | apply below_alloc | apply pw_below_drewN | apply below_drew1) | exact HB.out)⟩
    · replace c6 := Bool.eq_false_iff.mpr c6
      subst c6
      have H1 : ((frame_Put.f k ([] : List Int) l0).bind fun t183 => ((frame_Split.f k t183).bind fun bt186 => ((seicheref01_Same.f k bt186.1 l0).bind fun t190 => (if t190 = true then (seichelaw04_FrameBack.j0 k l0 a1 t183 (bt186.2 != (t183.length : Int))) else (seichelaw04_FrameBack.j0 k l0 a1 t183 true))))) = some r := by rw [if_neg (show ¬ (false = true) by decide)] at H; exact H
      clear H
      have H := H1
      clear H1
      replace H := Option.bind_eq_some_iff.mp H
      obtain ⟨t183, A80, H⟩ := H
      replace H : ((frame_Split.f k t183).bind fun bt186 => ((seicheref01_Same.f k bt186.1 l0).bind fun t190 => (if t190 = true then (seichelaw04_FrameBack.j0 k l0 a1 t183 (bt186.2 != (t183.length : Int))) else (seichelaw04_FrameBack.j0 k l0 a1 t183 true)))) = some r := H
      have A8 := Aside0.mk A80
      clear A80
      replace H := Option.bind_eq_some_iff.mp H
      obtain ⟨⟨t186, t187⟩, A90, H⟩ := H
      replace H : ((seicheref01_Same.f k t186 l0).bind fun t190 => (if t190 = true then (seichelaw04_FrameBack.j0 k l0 a1 t183 (t187 != (t183.length : Int))) else (seichelaw04_FrameBack.j0 k l0 a1 t183 true))) = some r := H
      have A9 := Aside0.mk A90
      clear A90
      have HC10 := Aside0.mk H
      clear H
      go_enter Try.func5, Try.ntmps5
      go_upto_region 7 with (first | ((with_reducible refine gate_callee (f := 10) rfl ?_); refine goesL_ (some 13) rfl rfl Try.func10 (by kernel_rfl) rfl #[] rfl (by (try simp only [List.map_toArray, List.map_cons, List.map_nil]); first | done | rfl | (simp only [List.length_drop, List.length_take]; rfl)) ?_; (with_reducible refine (seichelaw04_alive.calls k  true _ A3.out).mono ?_); rintro e w11 ⟨rfl, hb⟩; refine ⟨_, rfl, ?_⟩; have n0_ := Aside0.mk (below_step (by repeat (first | (with_reducible first | exact HB.out | apply below_alloc | apply pw_below_drewN | apply below_drew1) | exact HB.out)) hb); clear HB; have HB := n0_; clear n0_; (try clear hb); (try clear hb2); (try clear hk); (try clear hi)) | ((with_reducible refine gate_callee (f := 11) rfl ?_); refine goesL_ (some 16) rfl rfl Try.func11 (by kernel_rfl) rfl #[.slice A0 l0.length c0] rfl (by (try simp only [List.map_toArray, List.map_cons, List.map_nil]); first | done | rfl | (simp only [List.length_drop, List.length_take]; rfl)) ?_; (with_reducible refine (seichelaw04_great.calls k _ _ l0 false _ ?side1 ?side2 A5.out).mono ?_); (case side1 => repeat (first | exact (Kd.C_below HR0.out HB.out) | (with_reducible refine Kd.C_alloc ?_ _) | (with_reducible refine Kd.C_drewN ?_ _) | (with_reducible refine Kd.C_drew ?_))); (case side2 => exact HC0.out); rintro e w' ⟨rfl, ⟨nd, rfl⟩⟩; refine ⟨_, rfl, ?_⟩) | ((with_reducible refine gate_callee (f := 15) rfl ?_); refine goesL_ (some 18) rfl rfl Try.func15 (by kernel_rfl) rfl #[.slice none 0 0, .slice A0 l0.length c0] rfl (by (try simp only [List.map_toArray, List.map_cons, List.map_nil]); first | done | rfl | (simp only [List.length_drop, List.length_take]; rfl)) ?_; (refine (frame_Put.calls k (fun k_ => some k_ = (.slice none 0 0 : Value).ownBlock) (.slice none 0 0) ([] : List Int) _ _ l0 t183 w _ ?side1 ?side2 ?side3 ?side4 A8.out).mono ?_); (case side1 => repeat (first | (with_reducible first | exact HB.out | apply below_alloc | apply pw_below_drewN | apply below_drew1) | exact HB.out)); (case side2 => exact Kd.R_nil _ _ _ _ _); (case side3 => exact Kd.C_kept_came Kd.heap_string HR0.out (by repeat (first | (with_reducible first | exact HB.out | apply below_alloc | apply pw_below_drewN | apply below_drew1) | exact HB.out)) (fun k_ hs_ => (fun e_ => by simp [Value.ownBlock] at e_) hs_)); (case side4 => exact HC0.out); rintro e w12 ⟨v184, rfl, ho0, hb, hkp⟩; refine ⟨_, rfl, ?_⟩; have n0_ := Aside0.mk (Kd.R_mono (ok' := fun k_ => True) ho0 (fun k_ hk_ => trivial)); have n1_ := Aside0.mk (hb); clear HB; have HO185 := n0_; have HB := n1_; clear n0_ n1_; (try clear hb); (try clear hkp); (try clear ho0); obtain ⟨Ao13, co13, eo13⟩ := Kd.R_slice HO185.out; subst eo13) | ((with_reducible refine gate_callee (f := 16) rfl ?_); refine goesL_ (some 21) rfl rfl Try.func16 (by kernel_rfl) rfl #[.slice Ao13 t183.length co13] rfl (by (try simp only [List.map_toArray, List.map_cons, List.map_nil]); first | done | rfl | (simp only [List.length_drop, List.length_take]; rfl)) ?_; (with_reducible refine (frame_Split.calls k _ _ t183 t186 t187 _ ?side1 ?side2 A9.out).mono ?_); (case side1 => repeat (first | exact (Kd.R_reads' HO185.out).2.2 | (with_reducible refine Kd.C_alloc ?_ _) | (with_reducible refine Kd.C_drewN ?_ _) | (with_reducible refine Kd.C_drew ?_))); (case side2 => exact (Kd.R_reads' HO185.out).2.1); rintro e w14 ⟨v188, rfl, ho0, hb⟩; refine ⟨_, rfl, ?_⟩; have n0_ := Aside0.mk (Kd.R_below (by (with_reducible repeat (first | apply Kd.R_alloc | apply Kd.R_drewN | apply Kd.R_drew)); exact HO185.out) hb); have n1_ := Aside0.mk (Kd.R_lower ho0 (below_size (by repeat (first | (with_reducible first | exact HB.out | apply below_alloc | apply pw_below_drewN | apply below_drew1) | exact HB.out)))); have n2_ := Aside0.mk (below_step (by repeat (first | (with_reducible first | exact HB.out | apply below_alloc | apply pw_below_drewN | apply below_drew1) | exact HB.out)) hb); clear HO185; clear HB; have HO185 := n0_; have HO189 := n1_; have HB := n2_; clear n0_ n1_ n2_; (try clear hb); (try clear hb2); (try clear hk); (try clear hi); (try clear ho0)))
      (try simp only [Act.put, List.setIfInBounds_toArray, List.set_cons_zero, List.set_cons_succ])
      go_cut [33] (fun v33 wc => ∃ (kq : Nat) (x33_9 : Bool), v33 = .bool x33_9 ∧ Aside0 (seichelaw04_FrameBack.j0 kq l0 a1 t183 x33_9 = some r) ∧ Aside0 (kq ≤ k) ∧ Aside0 (Kd.R (Kd.int .u8) 5 wc w.heap.size (fun _ => True) (.slice Ao13 t183.length co13) t183) ∧ Aside0 (Below w.heap.size w wc))
      case first =>
        have H := HC10.out
        clear HC10
        replace H := Option.bind_eq_some_iff.mp H
        obtain ⟨t190, A150, H⟩ := H
        replace H : (if t190 = true then (seichelaw04_FrameBack.j0 k l0 a1 t183 (t187 != (t183.length : Int))) else (seichelaw04_FrameBack.j0 k l0 a1 t183 true)) = some r := H
        have A15 := Aside0.mk A150
        clear A150
        by_cases c16 : t190 = true
        · subst c16
          have H1 : (seichelaw04_FrameBack.j0 k l0 a1 t183 (t187 != (t183.length : Int))) = some r := by rw [if_pos rfl] at H; exact H
          clear H
          have H := H1
          clear H1
          have H' := Aside0.mk H
          clear H
          obtain ⟨Ao17, co17, eo17⟩ := Kd.R_slice HO189.out
          subst eo17
          go_wp2_with (first | ((with_reducible refine gate_callee (f := 18) rfl ?_); refine goesL_ (some 26) rfl rfl Try.func18 (by kernel_rfl) rfl #[.slice Ao17 t186.length co17, .slice A0 l0.length c0] rfl (by (try simp only [List.map_toArray, List.map_cons, List.map_nil]); first | done | rfl | (simp only [List.length_drop, List.length_take]; rfl)) ?_; (with_reducible refine (seicheref01_Same.calls k _ _ t186 _ _ l0 true _ ?side1 ?side2 ?side3 ?side4 A15.out).mono ?_); (case side1 => repeat (first | exact (Kd.R_reads' HO189.out).2.2 | (with_reducible refine Kd.C_alloc ?_ _) | (with_reducible refine Kd.C_drewN ?_ _) | (with_reducible refine Kd.C_drew ?_))); (case side2 => exact (Kd.R_reads' HO189.out).2.1); (case side3 => repeat (first | exact (Kd.C_below HR0.out HB.out) | (with_reducible refine Kd.C_alloc ?_ _) | (with_reducible refine Kd.C_drewN ?_ _) | (with_reducible refine Kd.C_drew ?_))); (case side4 => exact HC0.out); rintro e w' ⟨rfl, ⟨nd, rfl⟩⟩; refine ⟨_, rfl, ?_⟩))
          go_meet
          case rel => exact ⟨_, ((t187 != (t183.length : Int))), (by first | rfl | (simp; done) | (simp [*]; done)), H', ⟨by first | omega | exact Nat.le_refl _⟩, ⟨by (with_reducible repeat (first | apply Kd.R_alloc | apply Kd.R_drewN | apply Kd.R_drew)); exact HO185.out⟩, ⟨by repeat (first | (with_reducible first | exact HB.out | apply below_alloc | apply pw_below_drewN | apply below_drew1) | exact HB.out)⟩⟩
        · replace c16 := Bool.eq_false_iff.mpr c16
          subst c16
          have H1 : (seichelaw04_FrameBack.j0 k l0 a1 t183 true) = some r := by rw [if_neg (show ¬ (false = true) by decide)] at H; exact H
          clear H
          have H := H1
          clear H1
          have H' := Aside0.mk H
          clear H
          obtain ⟨Ao18, co18, eo18⟩ := Kd.R_slice HO189.out
          subst eo18
          go_wp2_with (first | ((with_reducible refine gate_callee (f := 18) rfl ?_); refine goesL_ (some 26) rfl rfl Try.func18 (by kernel_rfl) rfl #[.slice Ao18 t186.length co18, .slice A0 l0.length c0] rfl (by (try simp only [List.map_toArray, List.map_cons, List.map_nil]); first | done | rfl | (simp only [List.length_drop, List.length_take]; rfl)) ?_; (with_reducible refine (seicheref01_Same.calls k _ _ t186 _ _ l0 false _ ?side1 ?side2 ?side3 ?side4 A15.out).mono ?_); (case side1 => repeat (first | exact (Kd.R_reads' HO189.out).2.2 | (with_reducible refine Kd.C_alloc ?_ _) | (with_reducible refine Kd.C_drewN ?_ _) | (with_reducible refine Kd.C_drew ?_))); (case side2 => exact (Kd.R_reads' HO189.out).2.1); (case side3 => repeat (first | exact (Kd.C_below HR0.out HB.out) | (with_reducible refine Kd.C_alloc ?_ _) | (with_reducible refine Kd.C_drewN ?_ _) | (with_reducible refine Kd.C_drew ?_))); (case side4 => exact HC0.out); rintro e w' ⟨rfl, ⟨nd, rfl⟩⟩; refine ⟨_, rfl, ?_⟩))
          go_meet
          case rel => exact ⟨_, (true), (by first | rfl | (simp; done) | (simp [*]; done)), H', ⟨by first | omega | exact Nat.le_refl _⟩, ⟨by (with_reducible repeat (first | apply Kd.R_alloc | apply Kd.R_drewN | apply Kd.R_drew)); exact HO185.out⟩, ⟨by repeat (first | (with_reducible first | exact HB.out | apply below_alloc | apply pw_below_drewN | apply below_drew1) | exact HB.out)⟩⟩
      case rest =>
        clear HC10
        try clear c1
        try clear p2
        try clear c4
        try clear c5
        try clear c6
        try clear c10
        try clear c11
        try clear c15
        try clear c16
        try clear c18
        obtain ⟨kq, x33_9, rfl, HA, HJ9, HO_5, HB⟩ := hcut
        cases kq with
        | zero => exact absurd HA.out (by simp [seichelaw04_FrameBack.j0])
        | succ kj9 =>
          have H := HA.out
          clear HA
          simp only [seichelaw04_FrameBack.j0] at H
          by_cases c19 : x33_9 = true
          · subst c19
            have H1 : (some false) = some r := by rw [if_pos rfl] at H; exact H
            clear H
            have H := H1
            clear H1
            obtain rfl := Option.some.inj H
            go_wp2
            go_ret
            exact ⟨by first | rfl | (simp [errW_none, errW_some] <;> rfl) | (simp [*, errW_none, errW_some] <;> rfl), by repeat (first | (with_reducible first | exact HB.out | apply below_alloc | apply pw_below_drewN | apply below_drew1) | exact HB.out)⟩
          · replace c19 := Bool.eq_false_iff.mpr c19
            subst c19
            have H1 : (if a1 < 0 then (seichelaw04_FrameBack.j1 kj9 l0 a1 t183 true) else (seichelaw04_FrameBack.j1 kj9 l0 a1 t183 (decide (a1 > (t183.length : Int))))) = some r := by rw [if_neg (show ¬ (false = true) by decide)] at H; exact H
            clear H
            have H := H1
            clear H1
            have HC20 := Aside0.mk H
            clear H
            go_upto_region 9 with (fail)
            go_cut [41] (fun v41 wc => ∃ (kq : Nat) (x41_19 : Bool), v41 = .bool x41_19 ∧ Aside0 (seichelaw04_FrameBack.j1 kq l0 a1 t183 x41_19 = some r) ∧ Aside0 (kq ≤ kj9) ∧ Aside0 (Kd.R (Kd.int .u8) 5 wc w.heap.size (fun _ => True) (.slice Ao13 t183.length co13) t183) ∧ Aside0 (Below w.heap.size w wc))
            case first =>
              have H := HC20.out
              clear HC20
              by_cases c21 : a1 < 0
              · rw [if_pos c21] at H
                have c21b0 : decide (a1 < 0) = true := decide_eq_true c21
                clear c21
                (first | rw [c21b0] | (simp only [i64_w, i32_w]; rw [c21b0]) | skip)
                have H' := Aside0.mk H
                clear H
                go_wp2
                go_meet
                case rel => exact ⟨_, (true), (by first | rfl | (simp; done) | (simp [*]; done)), H', ⟨by have := HJ9.out; first | omega | exact Nat.le_refl _⟩, ⟨by (with_reducible repeat (first | apply Kd.R_alloc | apply Kd.R_drewN | apply Kd.R_drew)); exact HO_5.out⟩, ⟨by repeat (first | (with_reducible first | exact HB.out | apply below_alloc | apply pw_below_drewN | apply below_drew1) | exact HB.out)⟩⟩
              · rw [if_neg c21] at H
                have c21b0 : decide (a1 < 0) = false := decide_eq_false c21
                clear c21
                (first | rw [c21b0] | (simp only [i64_w, i32_w]; rw [c21b0]) | skip)
                have H' := Aside0.mk H
                clear H
                go_wp2
                go_meet
                case rel => exact ⟨_, (decide (a1 > (t183.length : Int))), (by first | rfl | (simp; done) | (simp [*]; done)), H', ⟨by have := HJ9.out; first | omega | exact Nat.le_refl _⟩, ⟨by (with_reducible repeat (first | apply Kd.R_alloc | apply Kd.R_drewN | apply Kd.R_drew)); exact HO_5.out⟩, ⟨by repeat (first | (with_reducible first | exact HB.out | apply below_alloc | apply pw_below_drewN | apply below_drew1) | exact HB.out)⟩⟩
            case rest =>
              clear HC20
              try clear c1
              try clear c2
              try clear p2
              try clear c4
              try clear c5
              try clear c6
              try clear c10
              try clear c11
              try clear c15
              try clear c16
              try clear c18
              try clear c19
              try clear c21
              try clear c21b0
              try clear p2
              obtain ⟨kq, x41_19, rfl, HA, HJ19, HO_5, HB⟩ := hcut
              cases kq with
              | zero => exact absurd HA.out (by simp [seichelaw04_FrameBack.j1])
              | succ kj19 =>
                have H := HA.out
                clear HA
                simp only [seichelaw04_FrameBack.j1] at H
                by_cases c22 : x41_19 = true
                · subst c22
                  have H1 : (some true) = some r := by rw [if_pos rfl] at H; exact H
                  clear H
                  have H := H1
                  clear H1
                  obtain rfl := Option.some.inj H
                  go_wp2
                  go_ret
                  exact ⟨by first | rfl | (simp [errW_none, errW_some] <;> rfl) | (simp [*, errW_none, errW_some] <;> rfl), by repeat (first | (with_reducible first | exact HB.out | apply below_alloc | apply pw_below_drewN | apply below_drew1) | exact HB.out)⟩
                · replace c22 := Bool.eq_false_iff.mpr c22
                  subst c22
                  have H1 : (if 0 ≤ a1 then (if a1 ≤ (t183.length : Int) then ((frame_Split.f kj19 (t183.take (a1 : Int).toNat)).bind fun bt195 => (seichelaw04_FrameBack.l0 kj19 l0 a1 bt195.1 bt195.2 0 l0 (l0.length : Int) 0)) else (none)) else (none)) = some r := by rw [if_neg (show ¬ (false = true) by decide)] at H; exact H
                  clear H
                  have H := H1
                  clear H1
                  by_cases c23 : 0 ≤ a1
                  · rw [if_pos c23] at H
                    have c23b0 := eq_true c23
                    have c23b1 : decide (0 ≤ a1) = true := decide_eq_true c23
                    clear c23
                    by_cases c24 : a1 ≤ (t183.length : Int)
                    · rw [if_pos c24] at H
                      have c24b0 := eq_true c24
                      have c24b1 : decide (a1 ≤ (t183.length : Int)) = true := decide_eq_true c24
                      clear c24
                      obtain ⟨y191, hy191⟩ : ∃ y_ : List Int, y_ = (t183.take (a1 : Int).toNat) := ⟨_, rfl⟩
                      replace H : ((frame_Split.f kj19 y191).bind fun bt195 => (seichelaw04_FrameBack.l0 kj19 l0 a1 bt195.1 bt195.2 0 l0 (l0.length : Int) 0)) = some r := by first | (rw [hy191]; with_reducible exact H) | (have H2_ := (Option.bind_some _ _).symm.trans H; rw [hy191]; with_reducible exact H2_) | (have H2_ := (Option.bind_some _ _).symm.trans H; with_reducible exact H2_) | with_reducible exact H | (rw [hy191]; exact H) | exact H
                      have Ny191 := Aside0.mk hy191
                      clear hy191
                      replace H := Option.bind_eq_some_iff.mp H
                      obtain ⟨⟨t195, t196⟩, A250, H⟩ := H
                      replace H : (seichelaw04_FrameBack.l0 kj19 l0 a1 t195 t196 0 l0 (l0.length : Int) 0) = some r := H
                      have A25 := Aside0.mk A250
                      clear A250
                      have H' := Aside0.mk H
                      clear H
                      have q26 : (a1 : Int) ≤ ((t183.length : Int) : Int) := of_decide_eq_true (by first | (with_reducible assumption) | assumption)
                      obtain ⟨i026, hi026, _, hsz26, _⟩ := info_parts info5
                      have hroom26 : t183.length ≤ co13 := (Kd.R_reads' HO_5.out).2.1
                      have hC26 : Kd.C (Kd.int .u8) _ Ao13 t183.length t183 := (Kd.R_reads' HO_5.out).2.2
                      have hcut26 := cut_to (P := Try.prog) 22 5 .i64 Try.underlying22 hi026 Ao13 t183.length co13 a1 (of_decide_eq_true (by first | (with_reducible assumption) | assumption)) q26 hroom26
                      have hr26 := Kd.C_take (m := (a1 : Int).toNat) hC26 (by omega)
                      have hy26 : y191.length = (a1 : Int).toNat := (by rw [Ny191.out, List.length_take]; omega)
                      rw [← Ny191.out] at hr26
                      rw [← hy26] at hcut26
                      have HR194 := Aside0.mk hr26
                      have HC194 := Aside0.mk (show y191.length ≤ co13 from by omega)
                      clear hr26 hC26 hroom26 hi026 hsz26
                      have KY26 := Aside0.mk hy26
                      clear hy26
                      have KL26 := Aside0.mk (show (a1 : Int).toNat ≤ t183.length from by omega)
                      replace q26 := eq_true q26
                      go_wp2_with (first | ((with_reducible refine gate_callee (f := 16) rfl ?_); refine goesL_ (some 46) rfl rfl Try.func16 (by kernel_rfl) rfl #[.slice Ao13 y191.length co13] rfl (by (try simp only [List.map_toArray, List.map_cons, List.map_nil]); first | done | rfl | (simp only [List.length_drop, List.length_take]; rfl)) ?_; (with_reducible refine (frame_Split.calls kj19 _ _ y191 t195 t196 _ ?side1 ?side2 A25.out).mono ?_); (case side1 => repeat (first | exact (by repeat (first | (with_reducible exact HR194.out) | (with_reducible refine Kd.C_alloc ?_ _) | (with_reducible refine Kd.C_drewN ?_ _) | (with_reducible refine Kd.C_drew ?_) | exact HR194.out)) | (with_reducible refine Kd.C_alloc ?_ _) | (with_reducible refine Kd.C_drewN ?_ _) | (with_reducible refine Kd.C_drew ?_))); (case side2 => exact HC194.out); rintro e w27 ⟨v197, rfl, ho0, hb⟩; refine ⟨_, rfl, ?_⟩; have n0_ := Aside0.mk (Kd.R_below (by (with_reducible repeat (first | apply Kd.R_alloc | apply Kd.R_drewN | apply Kd.R_drew)); exact HO_5.out) hb); have n1_ := Aside0.mk (Kd.R_lower ho0 (below_size (by repeat (first | (with_reducible first | exact HB.out | apply below_alloc | apply pw_below_drewN | apply below_drew1) | exact HB.out)))); have n2_ := Aside0.mk (Kd.C_below (by repeat (first | (with_reducible exact HR194.out) | (with_reducible refine Kd.C_alloc ?_ _) | (with_reducible refine Kd.C_drewN ?_ _) | (with_reducible refine Kd.C_drew ?_) | exact HR194.out)) hb); have n3_ := Aside0.mk (below_step (by repeat (first | (with_reducible first | exact HB.out | apply below_alloc | apply pw_below_drewN | apply below_drew1) | exact HB.out)) hb); clear HO_5; clear HR194; clear HB; have HO_5 := n0_; have HO198 := n1_; have HR194 := n2_; have HB := n3_; clear n0_ n1_ n2_ n3_; (try clear hb); (try clear hb2); (try clear hk); (try clear hi); (try clear ho0)))
                      go_loopg [10, 51] kj19 (fun kq v10 v51 w' => ∃ (x10_3 : Int) (x51_3 : Int), v10 = .int .i64 x10_3 ∧ v51 = .int .i64 x51_3 ∧ Aside0 (seichelaw04_FrameBack.l0 kq l0 a1 t195 t196 x10_3 l0 (l0.length : Int) x51_3 = some r) ∧ Aside0 (kq ≤ kj19) ∧ Aside0 (Kd.R Kd.string 9 w' w.heap.size (fun _ => True) v197 t195) ∧ Aside0 (Kd.C (Kd.int .u8) w' Ao13 y191.length y191) ∧ Aside0 (Below w.heap.size w w'))
                      case atStart => exact ⟨(0), (0), (by first | rfl | (simp; done) | (simp [*]; done)), (by first | rfl | (simp; done) | (simp [*]; done)), H', ⟨Nat.le_refl _⟩, ⟨by (with_reducible repeat (first | apply Kd.R_alloc | apply Kd.R_drewN | apply Kd.R_drew)); exact HO198.out⟩, ⟨by repeat (first | (with_reducible exact HR194.out) | (with_reducible refine Kd.C_alloc ?_ _) | (with_reducible refine Kd.C_drewN ?_ _) | (with_reducible refine Kd.C_drew ?_) | exact HR194.out)⟩, ⟨by repeat (first | (with_reducible first | exact HB.out | apply below_alloc | apply pw_below_drewN | apply below_drew1) | exact HB.out)⟩⟩
                      case round =>
                        clear H'
                        try clear c1
                        try clear c2
                        try clear p2
                        try clear q2
                        try clear c4
                        try clear c5
                        try clear c6
                        try clear c10
                        try clear c11
                        try clear c15
                        try clear c16
                        try clear c18
                        try clear c19
                        try clear c21
                        try clear c21b0
                        try clear c22
                        try clear c23
                        try clear c23b0
                        try clear c23b1
                        try clear c24
                        try clear c24b0
                        try clear c24b1
                        try clear q26
                        try clear p2
                        try clear q26
                        obtain ⟨x10_3, x51_3, rfl, rfl, HA, HK3, HO_8, HR194, HB⟩ := hrel
                        cases gk with
                        | zero => exact absurd HA.out (by simp [seichelaw04_FrameBack.l0])
                        | succ k3 =>
                          have H := HA.out
                          clear HA
                          simp only [seichelaw04_FrameBack.l0] at H
                          by_cases c28 : x51_3 < (l0.length : Int)
                          · rw [if_pos c28] at H
                            have c28b0 : decide (x51_3 < (l0.length : Int)) = true := decide_eq_true c28
                            clear c28
                            by_cases c29 : 0 ≤ x51_3
                            · rw [if_pos c29] at H
                              have c29b0 : decide (0 ≤ x51_3) = true := decide_eq_true c29
                              clear c29
                              by_cases c30 : x51_3 < (l0.length : Int)
                              · rw [if_pos c30] at H
                                have c30b0 : decide (x51_3 < (l0.length : Int)) = true := decide_eq_true c30
                                clear c30
                                by_cases c31 : (wrap64 ((wrap64 (x10_3 + 8)) + ((rdOf ByteArray.empty l0 x51_3).size : Int))) > a1
                                · rw [if_pos c31] at H
                                  have c31b0 : decide (a1 < (wrap64 ((wrap64 (x10_3 + 8)) + ((rdOf ByteArray.empty l0 x51_3).size : Int)))) = true := decide_eq_true c31
                                  clear c31
                                  have c32b0 := eq_true (of_decide_eq_true (by first | (with_reducible assumption) | assumption) : 0 ≤ x51_3)
                                  by_cases c33 : x51_3 ≤ (l0.length : Int)
                                  · rw [if_pos c33] at H
                                    have c33b0 := eq_true c33
                                    have c33b1 : decide (x51_3 ≤ (l0.length : Int)) = true := decide_eq_true c33
                                    clear c33
                                    replace H := Option.bind_eq_some_iff.mp H
                                    obtain ⟨t201, A340, H⟩ := H
                                    replace H : (if t201 = true then (some (t196 == x10_3)) else (some false)) = some r := H
                                    have A34 := Aside0.mk A340
                                    clear A340
                                    by_cases c35 : t201 = true
                                    · subst c35
                                      have H1 : (some (t196 == x10_3)) = some r := by rw [if_pos rfl] at H; exact H
                                      clear H
                                      have H := H1
                                      clear H1
                                      obtain rfl := Option.some.inj H
                                      have p199 : 0 ≤ (x51_3 : Int) := of_decide_eq_true (by first | (with_reducible assumption) | assumption)
                                      have q199 : x51_3 < (l0.length : Int) := of_decide_eq_true (by first | (with_reducible assumption) | assumption)
                                      obtain ⟨ad199, e199, hx199_0⟩ := Kd.at_string HR0.out x51_3 p199 q199
                                      cases e199
                                      replace hx199_0 := (HB.out.cell (World.block_lt_of_cell? w _ hx199_0)).trans hx199_0
                                      replace p199 := eq_true p199
                                      replace q199 := eq_true q199
                                      obtain ⟨i036, hi036, _, hsz36, _⟩ := info_parts info9
                                      obtain ⟨hcut36, hA36, hC36⟩ := print_take_of (P := Try.prog) Value.string (⟨#[]⟩ : ByteArray) 23 9 .i64 Try.underlying23 hi036 hsz36 (some ad199) c0 l0 x51_3 (of_decide_eq_true (by first | (with_reducible assumption) | assumption)) (of_decide_eq_true (by first | (with_reducible assumption) | assumption)) HC0.out
                                      have HR200 := Aside0.mk (Kd.C_of_reads (h1 := fun _ => rfl) (hA36 _ (Kd.reads_of_C HR0.out)))
                                      have HC200 := Aside0.mk hC36
                                      clear hA36 hC36 hi036 hsz36
                                      obtain ⟨Ao37, co37, eo37⟩ := Kd.R_slice HO_8.out
                                      subst eo37
                                      go_wp2_with (first | ((with_reducible refine gate_callee (f := 18) rfl ?_); refine goesL_ (some 67) rfl rfl Try.func18 (by kernel_rfl) rfl #[.slice Ao37 t195.length co37, .slice (some ad199) (l0.take (x51_3 : Int).toNat).length c0] rfl (by (try simp only [List.map_toArray, List.map_cons, List.map_nil]); first | done | (rw [show (l0.take (x51_3 : Int).toNat).length = x51_3.toNat from (by rw [List.length_take]; have h_ : (x51_3 : Int) ≤ (l0.length : Int) := of_decide_eq_true (by first | (with_reducible assumption) | assumption); omega)] <;> rfl) | rfl | (simp only [List.length_drop, List.length_take]; rfl)) ?_; (with_reducible refine (seicheref01_Same.calls k3 _ _ t195 _ _ (l0.take (x51_3 : Int).toNat) true _ ?side1 ?side2 ?side3 ?side4 A34.out).mono ?_); (case side1 => repeat (first | exact (Kd.R_reads' HO_8.out).2.2 | (with_reducible refine Kd.C_alloc ?_ _) | (with_reducible refine Kd.C_drewN ?_ _) | (with_reducible refine Kd.C_drew ?_))); (case side2 => exact (Kd.R_reads' HO_8.out).2.1); (case side3 => repeat (first | exact (Kd.C_below HR200.out HB.out) | (with_reducible refine Kd.C_alloc ?_ _) | (with_reducible refine Kd.C_drewN ?_ _) | (with_reducible refine Kd.C_drew ?_))); (case side4 => exact HC200.out); rintro e w' ⟨rfl, ⟨nd, rfl⟩⟩; refine ⟨_, rfl, ?_⟩))
                                      go_ret
                                      exact ⟨by first | rfl | (simp [errW_none, errW_some] <;> rfl) | (simp [*, errW_none, errW_some] <;> rfl), by repeat (first | (with_reducible first | exact HB.out | apply below_alloc | apply pw_below_drewN | apply below_drew1) | exact HB.out)⟩
                                    · replace c35 := Bool.eq_false_iff.mpr c35
                                      subst c35
                                      have H1 : (some false) = some r := by rw [if_neg (show ¬ (false = true) by decide)] at H; exact H
                                      clear H
                                      have H := H1
                                      clear H1
                                      obtain rfl := Option.some.inj H
                                      have p199 : 0 ≤ (x51_3 : Int) := of_decide_eq_true (by first | (with_reducible assumption) | assumption)
                                      have q199 : x51_3 < (l0.length : Int) := of_decide_eq_true (by first | (with_reducible assumption) | assumption)
                                      obtain ⟨ad199, e199, hx199_0⟩ := Kd.at_string HR0.out x51_3 p199 q199
                                      cases e199
                                      replace hx199_0 := (HB.out.cell (World.block_lt_of_cell? w _ hx199_0)).trans hx199_0
                                      replace p199 := eq_true p199
                                      replace q199 := eq_true q199
                                      obtain ⟨i038, hi038, _, hsz38, _⟩ := info_parts info9
                                      obtain ⟨hcut38, hA38, hC38⟩ := print_take_of (P := Try.prog) Value.string (⟨#[]⟩ : ByteArray) 23 9 .i64 Try.underlying23 hi038 hsz38 (some ad199) c0 l0 x51_3 (of_decide_eq_true (by first | (with_reducible assumption) | assumption)) (of_decide_eq_true (by first | (with_reducible assumption) | assumption)) HC0.out
                                      have HR200 := Aside0.mk (Kd.C_of_reads (h1 := fun _ => rfl) (hA38 _ (Kd.reads_of_C HR0.out)))
                                      have HC200 := Aside0.mk hC38
                                      clear hA38 hC38 hi038 hsz38
                                      obtain ⟨Ao39, co39, eo39⟩ := Kd.R_slice HO_8.out
                                      subst eo39
                                      go_wp2_with (first | ((with_reducible refine gate_callee (f := 18) rfl ?_); refine goesL_ (some 67) rfl rfl Try.func18 (by kernel_rfl) rfl #[.slice Ao39 t195.length co39, .slice (some ad199) (l0.take (x51_3 : Int).toNat).length c0] rfl (by (try simp only [List.map_toArray, List.map_cons, List.map_nil]); first | done | (rw [show (l0.take (x51_3 : Int).toNat).length = x51_3.toNat from (by rw [List.length_take]; have h_ : (x51_3 : Int) ≤ (l0.length : Int) := of_decide_eq_true (by first | (with_reducible assumption) | assumption); omega)] <;> rfl) | rfl | (simp only [List.length_drop, List.length_take]; rfl)) ?_; (with_reducible refine (seicheref01_Same.calls k3 _ _ t195 _ _ (l0.take (x51_3 : Int).toNat) false _ ?side1 ?side2 ?side3 ?side4 A34.out).mono ?_); (case side1 => repeat (first | exact (Kd.R_reads' HO_8.out).2.2 | (with_reducible refine Kd.C_alloc ?_ _) | (with_reducible refine Kd.C_drewN ?_ _) | (with_reducible refine Kd.C_drew ?_))); (case side2 => exact (Kd.R_reads' HO_8.out).2.1); (case side3 => repeat (first | exact (Kd.C_below HR200.out HB.out) | (with_reducible refine Kd.C_alloc ?_ _) | (with_reducible refine Kd.C_drewN ?_ _) | (with_reducible refine Kd.C_drew ?_))); (case side4 => exact HC200.out); rintro e w' ⟨rfl, ⟨nd, rfl⟩⟩; refine ⟨_, rfl, ?_⟩))
                                      go_ret
                                      exact ⟨by first | rfl | (simp [errW_none, errW_some] <;> rfl) | (simp [*, errW_none, errW_some] <;> rfl), by repeat (first | (with_reducible first | exact HB.out | apply below_alloc | apply pw_below_drewN | apply below_drew1) | exact HB.out)⟩
                                  · rw [if_neg c33] at H
                                    exact absurd H (by simp)
                                · rw [if_neg c31] at H
                                  have c31b0 : decide (a1 < (wrap64 ((wrap64 (x10_3 + 8)) + ((rdOf ByteArray.empty l0 x51_3).size : Int)))) = false := decide_eq_false c31
                                  clear c31
                                  have H' := Aside0.mk H
                                  clear H
                                  have p199 : 0 ≤ (x51_3 : Int) := of_decide_eq_true (by first | (with_reducible assumption) | assumption)
                                  have q199 : x51_3 < (l0.length : Int) := of_decide_eq_true (by first | (with_reducible assumption) | assumption)
                                  obtain ⟨ad199, e199, hx199_0⟩ := Kd.at_string HR0.out x51_3 p199 q199
                                  cases e199
                                  replace hx199_0 := (HB.out.cell (World.block_lt_of_cell? w _ hx199_0)).trans hx199_0
                                  replace p199 := eq_true p199
                                  replace q199 := eq_true q199
                                  go_wp2
                                  go_roundg k3
                                  case measure => have := HJ9.out; have := HJ19.out; have := HK3.out; omega
                                  case rel => exact ⟨(wrap64 (x10_3 + (wrap64 (8 + ((rdOf ByteArray.empty l0 x51_3).size : Int))))), (wrap64 (x51_3 + 1)), (by first | rfl | (simp; done) | (simp [*]; done)), (by first | rfl | (simp; done) | (simp [*]; done)), H', ⟨by have := HJ9.out; have := HJ19.out; have := HK3.out; omega⟩, ⟨by (with_reducible repeat (first | apply Kd.R_alloc | apply Kd.R_drewN | apply Kd.R_drew)); exact HO_8.out⟩, ⟨by repeat (first | (with_reducible exact HR194.out) | (with_reducible refine Kd.C_alloc ?_ _) | (with_reducible refine Kd.C_drewN ?_ _) | (with_reducible refine Kd.C_drew ?_) | exact HR194.out)⟩, ⟨by repeat (first | (with_reducible first | exact HB.out | apply below_alloc | apply pw_below_drewN | apply below_drew1) | exact HB.out)⟩⟩
                              · rw [if_neg c30] at H
                                exact absurd H (by simp)
                            · rw [if_neg c29] at H
                              exact absurd H (by simp)
                          · rw [if_neg c28] at H
                            have c28b0 : decide (x51_3 < (l0.length : Int)) = false := decide_eq_false c28
                            clear c28
                            replace H := Option.bind_eq_some_iff.mp H
                            obtain ⟨t202, A400, H⟩ := H
                            replace H : (if t202 = true then (some (t196 == x10_3)) else (some false)) = some r := H
                            have A40 := Aside0.mk A400
                            clear A400
                            by_cases c41 : t202 = true
                            · subst c41
                              have H1 : (some (t196 == x10_3)) = some r := by rw [if_pos rfl] at H; exact H
                              clear H
                              have H := H1
                              clear H1
                              obtain rfl := Option.some.inj H
                              obtain ⟨Ao42, co42, eo42⟩ := Kd.R_slice HO_8.out
                              subst eo42
                              go_wp2_with (first | ((with_reducible refine gate_callee (f := 18) rfl ?_); refine goesL_ (some 81) rfl rfl Try.func18 (by kernel_rfl) rfl #[.slice Ao42 t195.length co42, .slice A0 l0.length c0] rfl (by (try simp only [List.map_toArray, List.map_cons, List.map_nil]); first | done | rfl | (simp only [List.length_drop, List.length_take]; rfl)) ?_; (with_reducible refine (seicheref01_Same.calls k3 _ _ t195 _ _ l0 true _ ?side1 ?side2 ?side3 ?side4 A40.out).mono ?_); (case side1 => repeat (first | exact (Kd.R_reads' HO_8.out).2.2 | (with_reducible refine Kd.C_alloc ?_ _) | (with_reducible refine Kd.C_drewN ?_ _) | (with_reducible refine Kd.C_drew ?_))); (case side2 => exact (Kd.R_reads' HO_8.out).2.1); (case side3 => repeat (first | exact (Kd.C_below HR0.out HB.out) | (with_reducible refine Kd.C_alloc ?_ _) | (with_reducible refine Kd.C_drewN ?_ _) | (with_reducible refine Kd.C_drew ?_))); (case side4 => exact HC0.out); rintro e w' ⟨rfl, ⟨nd, rfl⟩⟩; refine ⟨_, rfl, ?_⟩))
                              go_ret
                              exact ⟨by first | rfl | (simp [errW_none, errW_some] <;> rfl) | (simp [*, errW_none, errW_some] <;> rfl), by repeat (first | (with_reducible first | exact HB.out | apply below_alloc | apply pw_below_drewN | apply below_drew1) | exact HB.out)⟩
                            · replace c41 := Bool.eq_false_iff.mpr c41
                              subst c41
                              have H1 : (some false) = some r := by rw [if_neg (show ¬ (false = true) by decide)] at H; exact H
                              clear H
                              have H := H1
                              clear H1
                              obtain rfl := Option.some.inj H
                              obtain ⟨Ao43, co43, eo43⟩ := Kd.R_slice HO_8.out
                              subst eo43
                              go_wp2_with (first | ((with_reducible refine gate_callee (f := 18) rfl ?_); refine goesL_ (some 81) rfl rfl Try.func18 (by kernel_rfl) rfl #[.slice Ao43 t195.length co43, .slice A0 l0.length c0] rfl (by (try simp only [List.map_toArray, List.map_cons, List.map_nil]); first | done | rfl | (simp only [List.length_drop, List.length_take]; rfl)) ?_; (with_reducible refine (seicheref01_Same.calls k3 _ _ t195 _ _ l0 false _ ?side1 ?side2 ?side3 ?side4 A40.out).mono ?_); (case side1 => repeat (first | exact (Kd.R_reads' HO_8.out).2.2 | (with_reducible refine Kd.C_alloc ?_ _) | (with_reducible refine Kd.C_drewN ?_ _) | (with_reducible refine Kd.C_drew ?_))); (case side2 => exact (Kd.R_reads' HO_8.out).2.1); (case side3 => repeat (first | exact (Kd.C_below HR0.out HB.out) | (with_reducible refine Kd.C_alloc ?_ _) | (with_reducible refine Kd.C_drewN ?_ _) | (with_reducible refine Kd.C_drew ?_))); (case side4 => exact HC0.out); rintro e w' ⟨rfl, ⟨nd, rfl⟩⟩; refine ⟨_, rfl, ?_⟩))
                              go_ret
                              exact ⟨by first | rfl | (simp [errW_none, errW_some] <;> rfl) | (simp [*, errW_none, errW_some] <;> rfl), by repeat (first | (with_reducible first | exact HB.out | apply below_alloc | apply pw_below_drewN | apply below_drew1) | exact HB.out)⟩
                    · rw [if_neg c24] at H
                      exact absurd H (by simp)
                  · rw [if_neg c23] at H
                    exact absurd H (by simp)
  · replace c4 := Bool.eq_false_iff.mpr c4
    subst c4
    have H1 : (some false) = some r := by rw [if_neg (show ¬ (false = true) by decide)] at H; exact H
    clear H
    have H := H1
    clear H1
    obtain rfl := Option.some.inj H
    go_enter Try.func5, Try.ntmps5
    go_wp2_with (first | ((with_reducible refine gate_callee (f := 10) rfl ?_); refine goesL_ (some 13) rfl rfl Try.func10 (by kernel_rfl) rfl #[] rfl (by (try simp only [List.map_toArray, List.map_cons, List.map_nil]); first | done | rfl | (simp only [List.length_drop, List.length_take]; rfl)) ?_; (with_reducible refine (seichelaw04_alive.calls k  false _ A3.out).mono ?_); rintro e w44 ⟨rfl, hb⟩; refine ⟨_, rfl, ?_⟩; have n0_ := Aside0.mk (below_step (by repeat (first | (with_reducible first | exact HB.out | apply below_alloc | apply pw_below_drewN | apply below_drew1) | exact HB.out)) hb); clear HB; have HB := n0_; clear n0_; (try clear hb); (try clear hb2); (try clear hk); (try clear hi)))
    go_ret
    exact ⟨by first | rfl | (simp [errW_none, errW_some] <;> rfl) | (simp [*, errW_none, errW_some] <;> rfl), by repeat (first | (with_reducible first | exact HB.out | apply below_alloc | apply pw_below_drewN | apply below_drew1) | exact HB.out)⟩

/-- THE ONE PURE STATEMENT of seichelaw04_FrameBack: yours. -/
def seichelaw04_FrameBack.Pure : Prop := ∀ (l0 : List ByteArray) (a1 : Int), l0.length ≤ maxLen → l0.length * 16 ≤ 140737488351232 → (∀ x ∈ l0, x.size ≤ 140737488351232) → (Lit.int .i64 a1).wf = true → ∃ k, seichelaw04_FrameBack.f k l0 a1 = some true
theorem seichelaw04_FrameBack.walk (P : seichelaw04_FrameBack.Pure) (a0 : Option Addr) (cap0 : Nat) (l0 : List ByteArray) (a1 : Int) (w : World) (r0 : Kd.string.C w a0 l0.length l0) (c0 : l0.length ≤ cap0) (m0 : l0.length ≤ maxLen) (y0 : l0.length * 16 ≤ 140737488351232) (w0 : ∀ x ∈ l0, x.size ≤ 140737488351232) (w1 : (Lit.int .i64 a1).wf = true) :
    Calls Try.prog 5 #[.slice a0 l0.length cap0, .int .i64 a1] w fun e w' => e = .returned (.bool true) ∧ Below w.heap.size w w' := by
  obtain ⟨k, h⟩ := P l0 a1 m0 y0 w0 w1
  refine (seichelaw04_FrameBack.calls k _ _ l0 a1 true w r0 c0 h).mono ?_
  rintro e w' ⟨rfl, hd⟩
  exact ⟨rfl, hd⟩

end Go.Proofs.Ytmeaphgjkodioaa.PAll
