-- Written by a program of this session (a changed scratch copy of a tool of the kit); not a print of the kit's own.
import Derived.Test.YtfolmcfcmonkhaaDoorPAllx0
import Derived.Test.YtfolmcfcmonkhaaDoorPAllx2
import Derived.Test.YtfolmcfcmonkhaaDoorPAllxL
import Derived.Test.YtfolmcfcmonkhaaDoorPAllx3
namespace Go.Proofs.YtfolmcfcmonkhaaDoor.PAll
open Go.RowKit Go.Proofs.YtfolmcfcmonkhaaDoorW.PrintWords Go.Proofs.YtfolmcfcmonkhaaDoorW.PrintLast Go.Proofs.YtfolmcfcmonkhaaDoorW.PrintMore Go.Proofs.YtfolmcfcmonkhaaDoorMy Go.Proofs.YtfolmcfcmonkhaaDoor
attribute [local go_sem] max2_int min2_int max_two min_two max_three min_three max_four min_four   -- for this text's walks alone
set_option linter.unusedVariables false
set_option linter.unusedSimpArgs false

/-! ### seichelaw11_GolexBegins: function 4 -/
mutual
def seichelaw11_GolexBegins.j0 : Nat → ByteArray → ByteArray → Int → Bool → Option (Bool)
  | 0, _, _, _, _ => none
  | k + 1, x0, x1, x2, x19 => if x19 = true then (some true) else ((golex_Lex.f x0).bind fun t145 => (if x2 < 0 then (seichelaw11_GolexBegins.j1 k x0 x1 x2 t145 true) else (if x2 ≥ (wrap64 ((t145.length : Int) - 1)) then (seichelaw11_GolexBegins.j1 k x0 x1 x2 t145 true) else (if 0 ≤ x2 then (if x2 < (t145.length : Int) then (if ((rd_T27 t145 x2).f1).toList = ([] : List UInt8) then (seichelaw11_GolexBegins.j1 k x0 x1 x2 t145 true) else (if ((rd_T27 t145 x2).f1).toList = ([46] : List UInt8) then (seichelaw11_GolexBegins.j1 k x0 x1 x2 t145 true) else (if 0 ≤ (wrap64 (x2 + 1)) then (if (wrap64 (x2 + 1)) < (t145.length : Int) then (seichelaw11_GolexBegins.j1 k x0 x1 x2 t145 (((rd_T27 t145 (wrap64 (x2 + 1))).f1).toList == ([] : List UInt8))) else (none)) else (none)))) else (none)) else (none)))))
def seichelaw11_GolexBegins.j1 : Nat → ByteArray → ByteArray → Int → List (S27) → Bool → Option (Bool)
  | 0, _, _, _, _, _ => none
  | k + 1, x0, x1, x2, x7, x55 => if x55 = true then (some true) else (if 0 ≤ (wrap64 (x2 + 1)) then (if (wrap64 (x2 + 1)) < (x7.length : Int) then (if 0 ≤ (wrap64 (((rd_T27 x7 (wrap64 (x2 + 1))).f2) + (((rd_T27 x7 (wrap64 (x2 + 1))).f1).size : Int))) then (if (wrap64 (((rd_T27 x7 (wrap64 (x2 + 1))).f2) + (((rd_T27 x7 (wrap64 (x2 + 1))).f1).size : Int))) ≤ (x0.size : Int) then (if (x0.extract 0 ((wrap64 (((rd_T27 x7 (wrap64 (x2 + 1))).f2) + (((rd_T27 x7 (wrap64 (x2 + 1))).f1).size : Int))) : Int).toNat).size + x1.size ≤ 9223372036854775807 then ((golex_Lex.f ((x0.extract 0 ((wrap64 (((rd_T27 x7 (wrap64 (x2 + 1))).f2) + (((rd_T27 x7 (wrap64 (x2 + 1))).f1).size : Int))) : Int).toNat) ++ x1)).bind fun t153 => (if (t153.length : Int) > x2 then (if (wrap64 (x2 + 1)) ≤ (t153.length : Int) then (if (wrap64 (x2 + 1)) ≤ (x7.length : Int) then ((seicheref11_Same.f k (t153.take ((wrap64 (x2 + 1)) : Int).toNat) (x7.take ((wrap64 (x2 + 1)) : Int).toNat)).bind fun t164 => (some t164)) else (none)) else (none)) else (some false))) else (none)) else (none)) else (none)) else (none)) else (none))
end
def seichelaw11_GolexBegins.f (k : Nat) (a0 : ByteArray) (a1 : ByteArray) (a2 : Int) : Option (Bool) := (seichelaw11_alive.f).bind fun t144 => (if t144 = true then (if (a0.size : Int) > 1024 then (seichelaw11_GolexBegins.j0 k a0 a1 a2 true) else (seichelaw11_GolexBegins.j0 k a0 a1 a2 (decide ((a1.size : Int) > 1024)))) else (some false))
theorem seichelaw11_GolexBegins.mono_l : ∀ k, (∀ y0 y1 y2 y3, LeO (seichelaw11_GolexBegins.j0 k y0 y1 y2 y3) (seichelaw11_GolexBegins.j0 (k + 1) y0 y1 y2 y3)) ∧ (∀ y0 y1 y2 y3 y4, LeO (seichelaw11_GolexBegins.j1 k y0 y1 y2 y3 y4) (seichelaw11_GolexBegins.j1 (k + 1) y0 y1 y2 y3 y4))
  | 0 => ⟨fun _ _ _ _ r h => by simp [seichelaw11_GolexBegins.j0] at h, fun _ _ _ _ _ r h => by simp [seichelaw11_GolexBegins.j1] at h⟩
  | k + 1 => by
    obtain ⟨ih0, ih1⟩ := seichelaw11_GolexBegins.mono_l k
    refine ⟨?_, ?_⟩
    · intro y0 y1 y2 y3
      unfold seichelaw11_GolexBegins.j0
      repeat' first
      | (with_reducible exact ih0 _ _ _ _)
      | (with_reducible exact ih1 _ _ _ _ _)
      | (with_reducible exact seicheref11_Same.mono _ _ _)
      | (with_reducible exact LeO.refl _)
      | (with_reducible exact LeO.none _)
      | (with_reducible refine LeO.ite ?_ ?_)
      | (with_reducible refine LeO.bind ?_ (fun _ => ?_))
      | exact ih0 _ _ _ _
      | exact ih1 _ _ _ _ _
      | exact seicheref11_Same.mono _ _ _
      | exact LeO.none _
      | refine LeO.ite ?_ ?_
      | refine LeO.bind ?_ (fun _ => ?_)
    · intro y0 y1 y2 y3 y4
      unfold seichelaw11_GolexBegins.j1
      repeat' first
      | (with_reducible exact ih0 _ _ _ _)
      | (with_reducible exact ih1 _ _ _ _ _)
      | (with_reducible exact seicheref11_Same.mono _ _ _)
      | (with_reducible exact LeO.refl _)
      | (with_reducible exact LeO.none _)
      | (with_reducible refine LeO.ite ?_ ?_)
      | (with_reducible refine LeO.bind ?_ (fun _ => ?_))
      | exact ih0 _ _ _ _
      | exact ih1 _ _ _ _ _
      | exact seicheref11_Same.mono _ _ _
      | exact LeO.none _
      | refine LeO.ite ?_ ?_
      | refine LeO.bind ?_ (fun _ => ?_)
theorem seichelaw11_GolexBegins.mono : ∀ a0 a1 a2 k, LeO (seichelaw11_GolexBegins.f k a0 a1 a2) (seichelaw11_GolexBegins.f (k + 1) a0 a1 a2) := by
  intro a0 a1 a2 k
  obtain ⟨ih0, ih1⟩ := seichelaw11_GolexBegins.mono_l k
  unfold seichelaw11_GolexBegins.f
  repeat' first
      | (with_reducible exact ih0 _ _ _ _)
      | (with_reducible exact ih1 _ _ _ _ _)
      | (with_reducible exact seicheref11_Same.mono _ _ _)
      | (with_reducible exact LeO.refl _)
      | (with_reducible exact LeO.none _)
      | (with_reducible refine LeO.ite ?_ ?_)
      | (with_reducible refine LeO.bind ?_ (fun _ => ?_))
      | exact ih0 _ _ _ _
      | exact ih1 _ _ _ _ _
      | exact seicheref11_Same.mono _ _ _
      | exact LeO.none _
      | refine LeO.ite ?_ ?_
      | refine LeO.bind ?_ (fun _ => ?_)
set_option maxHeartbeats 8000000 in
set_option maxRecDepth 100000 in
theorem seichelaw11_GolexBegins.calls (k : Nat) (a0 : ByteArray) (a1 : ByteArray) (a2 : Int) (r : Bool) (w : World) (hT : Tabs w) (h : seichelaw11_GolexBegins.f k a0 a1 a2 = some r) :
    Calls Tryd.prog 4 #[.string a0, .string a1, .int .i64 a2] w fun e w' => e = .returned (.bool r) ∧ Below w.heap.size w w' := by
  have HT := Aside0.mk hT; clear hT
  have HB := Aside0.mk (Below.refl w.heap.size w)
  have H : ((seichelaw11_alive.f).bind fun t144 => (if t144 = true then (if (a0.size : Int) > 1024 then (seichelaw11_GolexBegins.j0 k a0 a1 a2 true) else (seichelaw11_GolexBegins.j0 k a0 a1 a2 (decide ((a1.size : Int) > 1024)))) else (some false))) = some r := h
  clear h
  replace H := Option.bind_eq_some_iff.mp H
  obtain ⟨t144, A40, H⟩ := H
  replace H : (if t144 = true then (if (a0.size : Int) > 1024 then (seichelaw11_GolexBegins.j0 k a0 a1 a2 true) else (seichelaw11_GolexBegins.j0 k a0 a1 a2 (decide ((a1.size : Int) > 1024)))) else (some false)) = some r := H
  have A4 := Aside0.mk A40; clear A40
  by_cases c5 : t144 = true
  · subst c5
    have H1 : (if (a0.size : Int) > 1024 then (seichelaw11_GolexBegins.j0 k a0 a1 a2 true) else (seichelaw11_GolexBegins.j0 k a0 a1 a2 (decide ((a1.size : Int) > 1024)))) = some r := by rw [if_pos rfl] at H; exact H
    clear H
    have H := H1
    clear H1; have HC6 := Aside0.mk H; clear H
    go_enter Tryd.func4, Tryd.ntmps4
    go_upto_region 3 with (first | (go_at_call 9; (with_reducible refine (seichelaw11_alive.calls  true _ ?side1 A4.out).mono ?_); (case side1 => exact Tabs.below HT.out (by repeat (first | (with_reducible first | exact HB.out | apply below_alloc | apply pw_below_drewN | apply below_drew1) | exact HB.out))); rintro e w7 ⟨rfl, hb⟩; have n0_ := Aside0.mk (below_step (by repeat (first | (with_reducible first | exact HB.out | apply below_alloc | apply pw_below_drewN | apply below_drew1) | exact HB.out)) hb); clear HB; have HB := n0_; clear n0_; (try clear hb); (try clear hb2); (try clear hk); (try clear hi)))
    repeat (go_quiet (first | (go_at_call 9; (with_reducible refine (seichelaw11_alive.calls  true _ ?side1 A4.out).mono ?_); (case side1 => exact Tabs.below HT.out (by repeat (first | (with_reducible first | exact HB.out | apply below_alloc | apply pw_below_drewN | apply below_drew1) | exact HB.out))); rintro e w7 ⟨rfl, hb⟩; have n0_ := Aside0.mk (below_step (by repeat (first | (with_reducible first | exact HB.out | apply below_alloc | apply pw_below_drewN | apply below_drew1) | exact HB.out)) hb); clear HB; have HB := n0_; clear n0_; (try clear hb); (try clear hb2); (try clear hk); (try clear hi))); go_upto_region 3 with (first | (go_at_call 9; (with_reducible refine (seichelaw11_alive.calls  true _ ?side1 A4.out).mono ?_); (case side1 => exact Tabs.below HT.out (by repeat (first | (with_reducible first | exact HB.out | apply below_alloc | apply pw_below_drewN | apply below_drew1) | exact HB.out))); rintro e w7 ⟨rfl, hb⟩; have n0_ := Aside0.mk (below_step (by repeat (first | (with_reducible first | exact HB.out | apply below_alloc | apply pw_below_drewN | apply below_drew1) | exact HB.out)) hb); clear HB; have HB := n0_; clear n0_; (try clear hb); (try clear hb2); (try clear hk); (try clear hi))))
    (try simp only [Act.put, List.setIfInBounds_toArray, List.set_cons_zero, List.set_cons_succ])
    go_cut [19] (fun v19 wc => ∃ (kq : Nat) (x19_5 : Bool), v19 = .bool x19_5 ∧ Aside0 (seichelaw11_GolexBegins.j0 kq a0 a1 a2 x19_5 = some r) ∧ Aside0 (kq ≤ k) ∧ Aside0 (Below w.heap.size w wc))
    case first =>
      have H := HC6.out
      clear HC6
      by_cases c8 : (a0.size : Int) > 1024
      · rw [if_pos c8] at H
        have c8b0 : decide (1024 < (a0.size : Int)) = true := decide_eq_true c8
        have c8b1 : decide (1024 < a0.size) = true := decide_eq_true (by omega)
        clear c8
        (first | rw [c8b0] | (simp only [i64_w, i32_w]; rw [c8b0]) | skip)
        have H' := Aside0.mk H
        clear H
        go_wp2
        repeat (go_quiet (fail); try go_wp2)
        go_meet
        case rel => exact ⟨_, (true), (by first | rfl | (simp; done) | (simp [*]; done)), H', ⟨by first | omega | exact Nat.le_refl _⟩, ⟨by repeat (first | (with_reducible first | exact HB.out | apply below_alloc | apply pw_below_drewN | apply below_drew1) | exact HB.out)⟩⟩
      · rw [if_neg c8] at H
        have c8b0 : decide (1024 < (a0.size : Int)) = false := decide_eq_false c8
        have c8b1 : decide (1024 < a0.size) = false := decide_eq_false (by omega)
        clear c8
        (first | rw [c8b0] | (simp only [i64_w, i32_w]; rw [c8b0]) | skip)
        have H' := Aside0.mk H
        clear H
        go_wp2
        repeat (go_quiet (fail); try go_wp2)
        go_meet
        case rel => exact ⟨_, (decide ((a1.size : Int) > 1024)), (by first | rfl | (simp; done) | (simp [*]; done)), H', ⟨by first | omega | exact Nat.le_refl _⟩, ⟨by repeat (first | (with_reducible first | exact HB.out | apply below_alloc | apply pw_below_drewN | apply below_drew1) | exact HB.out)⟩⟩
    case rest =>
      clear HC6; (try clear p2); (try clear c4); (try clear c5); (try clear c8); (try clear c8b0); (try clear c8b1); obtain ⟨kq, x19_5, rfl, HA, HJ5, HB⟩ := hcut
      cases kq with
      | zero => exact absurd HA.out (by simp [seichelaw11_GolexBegins.j0])
      | succ kj5 =>
        have H := HA.out
        clear HA
        simp only [seichelaw11_GolexBegins.j0] at H
        by_cases c9 : x19_5 = true
        · subst c9
          have H1 : (some true) = some r := by rw [if_pos rfl] at H; exact H
          clear H
          have H := H1
          clear H1
          obtain rfl := Option.some.inj H
          go_wp2
          repeat (go_quiet (fail); try go_wp2)
          go_ret
          exact ⟨by first | rfl | (simp [errW_none, errW_some] <;> rfl) | (simp [*, errW_none, errW_some] <;> rfl), by repeat (first | (with_reducible first | exact HB.out | apply below_alloc | apply pw_below_drewN | apply below_drew1) | exact HB.out)⟩
        · replace c9 := Bool.eq_false_iff.mpr c9
          subst c9
          have H1 : ((golex_Lex.f a0).bind fun t145 => (if a2 < 0 then (seichelaw11_GolexBegins.j1 kj5 a0 a1 a2 t145 true) else (if a2 ≥ (wrap64 ((t145.length : Int) - 1)) then (seichelaw11_GolexBegins.j1 kj5 a0 a1 a2 t145 true) else (if 0 ≤ a2 then (if a2 < (t145.length : Int) then (if ((rd_T27 t145 a2).f1).toList = ([] : List UInt8) then (seichelaw11_GolexBegins.j1 kj5 a0 a1 a2 t145 true) else (if ((rd_T27 t145 a2).f1).toList = ([46] : List UInt8) then (seichelaw11_GolexBegins.j1 kj5 a0 a1 a2 t145 true) else (if 0 ≤ (wrap64 (a2 + 1)) then (if (wrap64 (a2 + 1)) < (t145.length : Int) then (seichelaw11_GolexBegins.j1 kj5 a0 a1 a2 t145 (((rd_T27 t145 (wrap64 (a2 + 1))).f1).toList == ([] : List UInt8))) else (none)) else (none)))) else (none)) else (none))))) = some r := by rw [if_neg (show ¬ (false = true) by decide)] at H; exact H
          clear H
          have H := H1
          clear H1
          replace H := Option.bind_eq_some_iff.mp H
          obtain ⟨t145, A100, H⟩ := H
          replace H : (if a2 < 0 then (seichelaw11_GolexBegins.j1 kj5 a0 a1 a2 t145 true) else (if a2 ≥ (wrap64 ((t145.length : Int) - 1)) then (seichelaw11_GolexBegins.j1 kj5 a0 a1 a2 t145 true) else (if 0 ≤ a2 then (if a2 < (t145.length : Int) then (if ((rd_T27 t145 a2).f1).toList = ([] : List UInt8) then (seichelaw11_GolexBegins.j1 kj5 a0 a1 a2 t145 true) else (if ((rd_T27 t145 a2).f1).toList = ([46] : List UInt8) then (seichelaw11_GolexBegins.j1 kj5 a0 a1 a2 t145 true) else (if 0 ≤ (wrap64 (a2 + 1)) then (if (wrap64 (a2 + 1)) < (t145.length : Int) then (seichelaw11_GolexBegins.j1 kj5 a0 a1 a2 t145 (((rd_T27 t145 (wrap64 (a2 + 1))).f1).toList == ([] : List UInt8))) else (none)) else (none)))) else (none)) else (none)))) = some r := H
          have A10 := Aside0.mk A100; clear A100; have HC11 := Aside0.mk H; clear H
          go_upto_region 6 with (first | (go_at_call 11; (with_reducible refine (golex_Lex.calls a0 t145 _ ?side1 A10.out).mono ?_); (case side1 => exact Tabs.below HT.out (by repeat (first | (with_reducible first | exact HB.out | apply below_alloc | apply pw_below_drewN | apply below_drew1) | exact HB.out))); rintro e w12 ⟨v146, rfl, ho0, hb⟩; have n0_ := Aside0.mk (Kd.R_lower ho0 (below_size (by repeat (first | (with_reducible first | exact HB.out | apply below_alloc | apply pw_below_drewN | apply below_drew1) | exact HB.out)))); have n1_ := Aside0.mk (below_step (by repeat (first | (with_reducible first | exact HB.out | apply below_alloc | apply pw_below_drewN | apply below_drew1) | exact HB.out)) hb); clear HB; have HO147 := n0_; have HB := n1_; clear n0_ n1_; (try clear hb); (try clear hb2); (try clear hk); (try clear hi); (try clear ho0)))
          repeat (go_quiet (first | (go_at_call 11; (with_reducible refine (golex_Lex.calls a0 t145 _ ?side1 A10.out).mono ?_); (case side1 => exact Tabs.below HT.out (by repeat (first | (with_reducible first | exact HB.out | apply below_alloc | apply pw_below_drewN | apply below_drew1) | exact HB.out))); rintro e w12 ⟨v146, rfl, ho0, hb⟩; have n0_ := Aside0.mk (Kd.R_lower ho0 (below_size (by repeat (first | (with_reducible first | exact HB.out | apply below_alloc | apply pw_below_drewN | apply below_drew1) | exact HB.out)))); have n1_ := Aside0.mk (below_step (by repeat (first | (with_reducible first | exact HB.out | apply below_alloc | apply pw_below_drewN | apply below_drew1) | exact HB.out)) hb); clear HB; have HO147 := n0_; have HB := n1_; clear n0_ n1_; (try clear hb); (try clear hb2); (try clear hk); (try clear hi); (try clear ho0))); go_upto_region 6 with (first | (go_at_call 11; (with_reducible refine (golex_Lex.calls a0 t145 _ ?side1 A10.out).mono ?_); (case side1 => exact Tabs.below HT.out (by repeat (first | (with_reducible first | exact HB.out | apply below_alloc | apply pw_below_drewN | apply below_drew1) | exact HB.out))); rintro e w12 ⟨v146, rfl, ho0, hb⟩; have n0_ := Aside0.mk (Kd.R_lower ho0 (below_size (by repeat (first | (with_reducible first | exact HB.out | apply below_alloc | apply pw_below_drewN | apply below_drew1) | exact HB.out)))); have n1_ := Aside0.mk (below_step (by repeat (first | (with_reducible first | exact HB.out | apply below_alloc | apply pw_below_drewN | apply below_drew1) | exact HB.out)) hb); clear HB; have HO147 := n0_; have HB := n1_; clear n0_ n1_; (try clear hb); (try clear hb2); (try clear hk); (try clear hi); (try clear ho0))))
          (try simp only [Act.put, List.setIfInBounds_toArray, List.set_cons_zero, List.set_cons_succ])
          go_cut [55] (fun v55 wc => ∃ (kq : Nat) (x55_10 : Bool), v55 = .bool x55_10 ∧ Aside0 (seichelaw11_GolexBegins.j1 kq a0 a1 a2 t145 x55_10 = some r) ∧ Aside0 (kq ≤ kj5) ∧ Aside0 (Kd.R k27 27 wc w.heap.size (fun _ => True) v146 t145) ∧ Aside0 (Below w.heap.size w wc))
          case first =>
            have H := HC11.out
            clear HC11
            by_cases c13 : a2 < 0
            · rw [if_pos c13] at H
              have c13b0 : decide (a2 < 0) = true := decide_eq_true c13
              clear c13
              (first | rw [c13b0] | (simp only [i64_w, i32_w]; rw [c13b0]) | skip)
              have H' := Aside0.mk H
              clear H
              go_wp2
              repeat (go_quiet (fail); try go_wp2)
              go_meet
              case rel => exact ⟨_, (true), (by first | rfl | (simp; done) | (simp [*]; done)), H', ⟨by have := HJ5.out; first | omega | exact Nat.le_refl _⟩, ⟨by (with_reducible repeat (first | apply Kd.R_alloc | apply Kd.R_drewN | apply Kd.R_drew)); exact HO147.out⟩, ⟨by repeat (first | (with_reducible first | exact HB.out | apply below_alloc | apply pw_below_drewN | apply below_drew1) | exact HB.out)⟩⟩
            · rw [if_neg c13] at H
              have c13b0 : decide (a2 < 0) = false := decide_eq_false c13
              clear c13
              (first | rw [c13b0] | (simp only [i64_w, i32_w]; rw [c13b0]) | skip)
              by_cases c14 : a2 ≥ (wrap64 ((t145.length : Int) - 1))
              · rw [if_pos c14] at H
                have c14b0 : decide ((wrap64 ((t145.length : Int) - 1)) ≤ a2) = true := decide_eq_true c14
                clear c14
                have H' := Aside0.mk H
                clear H
                obtain ⟨Ao15, co15, eo15⟩ := Kd.R_slice HO147.out
                subst eo15
                go_wp2
                repeat (go_quiet (fail); try go_wp2)
                go_meet
                case rel => exact ⟨_, (true), (by first | rfl | (simp; done) | (simp [*]; done)), H', ⟨by have := HJ5.out; first | omega | exact Nat.le_refl _⟩, ⟨by (with_reducible repeat (first | apply Kd.R_alloc | apply Kd.R_drewN | apply Kd.R_drew)); exact HO147.out⟩, ⟨by repeat (first | (with_reducible first | exact HB.out | apply below_alloc | apply pw_below_drewN | apply below_drew1) | exact HB.out)⟩⟩
              · rw [if_neg c14] at H
                have c14b0 : decide ((wrap64 ((t145.length : Int) - 1)) ≤ a2) = false := decide_eq_false c14
                clear c14
                by_cases c16 : 0 ≤ a2
                · rw [if_pos c16] at H
                  have c16b0 : decide (0 ≤ a2) = true := decide_eq_true c16
                  clear c16
                  by_cases c17 : a2 < (t145.length : Int)
                  · rw [if_pos c17] at H
                    have c17b0 : decide (a2 < (t145.length : Int)) = true := decide_eq_true c17
                    clear c17
                    by_cases c18 : ((rd_T27 t145 a2).f1).toList = ([] : List UInt8)
                    · rw [if_pos c18] at H
                      have c18b0 : (((rd_T27 t145 a2).f1).toList == ([] : List UInt8)) = true := beq_iff_eq.mpr c18
                      have c18b1 : (((rd_T27 t145 a2).f1).toList != ([] : List UInt8)) = false := bne_eq_false_iff_eq.mpr c18
                      clear c18
                      have H' := Aside0.mk H
                      clear H
                      obtain ⟨Ao19, co19, eo19⟩ := Kd.R_slice HO147.out
                      subst eo19
                      have p148 : 0 ≤ (a2 : Int) := of_decide_eq_true (by first | (with_reducible assumption) | assumption)
                      have q148 : a2 < (t145.length : Int) := of_decide_eq_true (by first | (with_reducible assumption) | assumption)
                      obtain ⟨ad148, e148, hx148_0, hx148_1, hx148_2⟩ := at_T27 (Kd.R_reads' HO147.out).2.2 a2 p148 q148
                      cases e148
                      replace p148 := eq_true p148; replace q148 := eq_true q148
                      go_wp2
                      repeat (go_quiet (fail); try go_wp2)
                      go_meet
                      case rel => exact ⟨_, (true), (by first | rfl | (simp; done) | (simp [*]; done)), H', ⟨by have := HJ5.out; first | omega | exact Nat.le_refl _⟩, ⟨by (with_reducible repeat (first | apply Kd.R_alloc | apply Kd.R_drewN | apply Kd.R_drew)); exact HO147.out⟩, ⟨by repeat (first | (with_reducible first | exact HB.out | apply below_alloc | apply pw_below_drewN | apply below_drew1) | exact HB.out)⟩⟩
                    · rw [if_neg c18] at H
                      have c18b0 : (((rd_T27 t145 a2).f1).toList == ([] : List UInt8)) = false := beq_eq_false_iff_ne.mpr c18
                      have c18b1 : (((rd_T27 t145 a2).f1).toList != ([] : List UInt8)) = true := bne_iff_ne.mpr c18
                      by_cases c20 : ((rd_T27 t145 a2).f1).toList = ([46] : List UInt8)
                      · rw [if_pos c20] at H
                        have c20b0 : (((rd_T27 t145 a2).f1).toList == ([46] : List UInt8)) = true := beq_iff_eq.mpr c20
                        have c20b1 : (((rd_T27 t145 a2).f1).toList != ([46] : List UInt8)) = false := bne_eq_false_iff_eq.mpr c20
                        clear c20
                        have H' := Aside0.mk H
                        clear H
                        obtain ⟨Ao21, co21, eo21⟩ := Kd.R_slice HO147.out
                        subst eo21
                        have p148 : 0 ≤ (a2 : Int) := of_decide_eq_true (by first | (with_reducible assumption) | assumption)
                        have q148 : a2 < (t145.length : Int) := of_decide_eq_true (by first | (with_reducible assumption) | assumption)
                        obtain ⟨ad148, e148, hx148_0, hx148_1, hx148_2⟩ := at_T27 (Kd.R_reads' HO147.out).2.2 a2 p148 q148
                        cases e148
                        replace p148 := eq_true p148; replace q148 := eq_true q148
                        have p149 : 0 ≤ (a2 : Int) := of_decide_eq_true (by first | (with_reducible assumption) | assumption)
                        have q149 : a2 < (t145.length : Int) := of_decide_eq_true (by first | (with_reducible assumption) | assumption)
                        obtain ⟨ad149, e149, hx149_0, hx149_1, hx149_2⟩ := at_T27 (Kd.R_reads' HO147.out).2.2 a2 p149 q149
                        obtain rfl : ad148 = ad149 := (by injection e149)
                        replace p149 := eq_true p149; replace q149 := eq_true q149
                        go_wp2
                        repeat (go_quiet (fail); try go_wp2)
                        go_meet
                        case rel => exact ⟨_, (true), (by first | rfl | (simp; done) | (simp [*]; done)), H', ⟨by have := HJ5.out; first | omega | exact Nat.le_refl _⟩, ⟨by (with_reducible repeat (first | apply Kd.R_alloc | apply Kd.R_drewN | apply Kd.R_drew)); exact HO147.out⟩, ⟨by repeat (first | (with_reducible first | exact HB.out | apply below_alloc | apply pw_below_drewN | apply below_drew1) | exact HB.out)⟩⟩
                      · rw [if_neg c20] at H
                        have c20b0 : (((rd_T27 t145 a2).f1).toList == ([46] : List UInt8)) = false := beq_eq_false_iff_ne.mpr c20
                        have c20b1 : (((rd_T27 t145 a2).f1).toList != ([46] : List UInt8)) = true := bne_iff_ne.mpr c20
                        obtain ⟨ji22, hji22⟩ : ∃ j_ : Int, (wrap64 (a2 + 1)) = j_ := ⟨_, rfl⟩
                        replace H : (if 0 ≤ (ji22) then (if (ji22) < (t145.length : Int) then (seichelaw11_GolexBegins.j1 kj5 a0 a1 a2 t145 (((rd_T27 t145 (ji22)).f1).toList == ([] : List UInt8))) else (none)) else (none)) = some r := by first | (rw [hji22] at H; exact H) | (simp only [hji22] at H ⊢; exact H)
                        have hji22w : (IntKind.i64.wrap (a2 + 1)) = ji22 := (i64_w _).trans hji22
                        by_cases c23 : 0 ≤ (ji22)
                        · rw [if_pos c23] at H
                          have c23b0 : decide (0 ≤ (ji22)) = true := decide_eq_true c23
                          clear c23
                          by_cases c24 : (ji22) < (t145.length : Int)
                          · rw [if_pos c24] at H
                            have c24b0 : decide ((ji22) < (t145.length : Int)) = true := decide_eq_true c24
                            clear c24
                            have H' := Aside0.mk H
                            clear H
                            obtain ⟨Ao25, co25, eo25⟩ := Kd.R_slice HO147.out
                            subst eo25
                            have p148 : 0 ≤ (a2 : Int) := of_decide_eq_true (by first | (with_reducible assumption) | assumption)
                            have q148 : a2 < (t145.length : Int) := of_decide_eq_true (by first | (with_reducible assumption) | assumption)
                            obtain ⟨ad148, e148, hx148_0, hx148_1, hx148_2⟩ := at_T27 (Kd.R_reads' HO147.out).2.2 a2 p148 q148
                            cases e148
                            replace p148 := eq_true p148; replace q148 := eq_true q148
                            have p149 : 0 ≤ (a2 : Int) := of_decide_eq_true (by first | (with_reducible assumption) | assumption)
                            have q149 : a2 < (t145.length : Int) := of_decide_eq_true (by first | (with_reducible assumption) | assumption)
                            obtain ⟨ad149, e149, hx149_0, hx149_1, hx149_2⟩ := at_T27 (Kd.R_reads' HO147.out).2.2 a2 p149 q149
                            obtain rfl : ad148 = ad149 := (by injection e149)
                            replace p149 := eq_true p149; replace q149 := eq_true q149
                            have p150 : 0 ≤ ((ji22) : Int) := of_decide_eq_true (by first | (with_reducible assumption) | assumption)
                            have q150 : (ji22) < (t145.length : Int) := of_decide_eq_true (by first | (with_reducible assumption) | assumption)
                            obtain ⟨ad150, e150, hx150_0, hx150_1, hx150_2⟩ := at_T27 (Kd.R_reads' HO147.out).2.2 (ji22) p150 q150
                            obtain rfl : ad148 = ad150 := (by injection e150)
                            replace p150 := eq_true p150; replace q150 := eq_true q150
                            go_wp2
                            repeat (go_quiet (fail); try go_wp2)
                            go_meet
                            case rel => exact ⟨_, ((((rd_T27 t145 (ji22)).f1).toList == ([] : List UInt8))), (by first | rfl | (simp; done) | (simp only [← hji22] <;> (first | rfl | simp)) | (simp [*]; done)), H', ⟨by have := HJ5.out; first | omega | exact Nat.le_refl _⟩, ⟨by (with_reducible repeat (first | apply Kd.R_alloc | apply Kd.R_drewN | apply Kd.R_drew)); exact HO147.out⟩, ⟨by repeat (first | (with_reducible first | exact HB.out | apply below_alloc | apply pw_below_drewN | apply below_drew1) | exact HB.out)⟩⟩
                          · rw [if_neg c24] at H
                            exact absurd H (by simp)
                        · rw [if_neg c23] at H
                          exact absurd H (by simp)
                  · rw [if_neg c17] at H
                    exact absurd H (by simp)
                · rw [if_neg c16] at H
                  exact absurd H (by simp)
          case rest =>
            clear HC11; (try clear c1); (try clear p1); (try clear q1); (try clear hx1); (try clear c2); (try clear p2); (try clear c4); (try clear c5); (try clear p6); (try clear c8); (try clear c8b0); (try clear c8b1); (try clear c9); (try clear c13); (try clear c13b0); (try clear c14); (try clear c14b0); (try clear p14); (try clear q14); (try clear hx14); (try clear p15); (try clear q15); (try clear hx15); (try clear c16); (try clear c16b0); (try clear c17); (try clear c17b0); (try clear c18); (try clear c18b0); (try clear c18b1); (try clear c20); (try clear c20b0); (try clear c20b1); (try clear c23); (try clear c23b0); (try clear c24); (try clear c24b0); (try clear hx148_0)
            (try clear hx148_1); (try clear hx148_2); (try clear hx149_0); (try clear hx149_1); (try clear hx149_2); (try clear hx150_0); (try clear hx150_1); (try clear hx150_2); (try clear p148); (try clear p149); (try clear p150); (try clear p2); (try clear q148); (try clear q149); (try clear q150); obtain ⟨kq, x55_10, rfl, HA, HJ10, HO_7, HB⟩ := hcut
            cases kq with
            | zero => exact absurd HA.out (by simp [seichelaw11_GolexBegins.j1])
            | succ kj10 =>
              have H := HA.out
              clear HA
              simp only [seichelaw11_GolexBegins.j1] at H
              by_cases c26 : x55_10 = true
              · subst c26
                have H1 : (some true) = some r := by rw [if_pos rfl] at H; exact H
                clear H
                have H := H1
                clear H1
                obtain rfl := Option.some.inj H
                go_wp2
                repeat (go_quiet (fail); try go_wp2)
                go_ret
                exact ⟨by first | rfl | (simp [errW_none, errW_some] <;> rfl) | (simp [*, errW_none, errW_some] <;> rfl), by repeat (first | (with_reducible first | exact HB.out | apply below_alloc | apply pw_below_drewN | apply below_drew1) | exact HB.out)⟩
              · replace c26 := Bool.eq_false_iff.mpr c26
                subst c26
                have H1 : (if 0 ≤ (wrap64 (a2 + 1)) then (if (wrap64 (a2 + 1)) < (t145.length : Int) then (if 0 ≤ (wrap64 (((rd_T27 t145 (wrap64 (a2 + 1))).f2) + (((rd_T27 t145 (wrap64 (a2 + 1))).f1).size : Int))) then (if (wrap64 (((rd_T27 t145 (wrap64 (a2 + 1))).f2) + (((rd_T27 t145 (wrap64 (a2 + 1))).f1).size : Int))) ≤ (a0.size : Int) then (if (a0.extract 0 ((wrap64 (((rd_T27 t145 (wrap64 (a2 + 1))).f2) + (((rd_T27 t145 (wrap64 (a2 + 1))).f1).size : Int))) : Int).toNat).size + a1.size ≤ 9223372036854775807 then ((golex_Lex.f ((a0.extract 0 ((wrap64 (((rd_T27 t145 (wrap64 (a2 + 1))).f2) + (((rd_T27 t145 (wrap64 (a2 + 1))).f1).size : Int))) : Int).toNat) ++ a1)).bind fun t153 => (if (t153.length : Int) > a2 then (if (wrap64 (a2 + 1)) ≤ (t153.length : Int) then (if (wrap64 (a2 + 1)) ≤ (t145.length : Int) then ((seicheref11_Same.f kj10 (t153.take ((wrap64 (a2 + 1)) : Int).toNat) (t145.take ((wrap64 (a2 + 1)) : Int).toNat)).bind fun t164 => (some t164)) else (none)) else (none)) else (some false))) else (none)) else (none)) else (none)) else (none)) else (none)) = some r := by rw [if_neg (show ¬ (false = true) by decide)] at H; exact H
                clear H
                have H := H1
                clear H1
                obtain ⟨ji27, hji27⟩ : ∃ j_ : Int, (wrap64 (a2 + 1)) = j_ := ⟨_, rfl⟩
                replace H : (if 0 ≤ (ji27) then (if (ji27) < (t145.length : Int) then (if 0 ≤ (wrap64 (((rd_T27 t145 (ji27)).f2) + (((rd_T27 t145 (ji27)).f1).size : Int))) then (if (wrap64 (((rd_T27 t145 (ji27)).f2) + (((rd_T27 t145 (ji27)).f1).size : Int))) ≤ (a0.size : Int) then (if (a0.extract 0 ((wrap64 (((rd_T27 t145 (ji27)).f2) + (((rd_T27 t145 (ji27)).f1).size : Int))) : Int).toNat).size + a1.size ≤ 9223372036854775807 then ((golex_Lex.f ((a0.extract 0 ((wrap64 (((rd_T27 t145 (ji27)).f2) + (((rd_T27 t145 (ji27)).f1).size : Int))) : Int).toNat) ++ a1)).bind fun t153 => (if (t153.length : Int) > a2 then (if (ji27) ≤ (t153.length : Int) then (if (ji27) ≤ (t145.length : Int) then ((seicheref11_Same.f kj10 (t153.take ((ji27) : Int).toNat) (t145.take ((ji27) : Int).toNat)).bind fun t164 => (some t164)) else (none)) else (none)) else (some false))) else (none)) else (none)) else (none)) else (none)) else (none)) = some r := by first | (rw [hji27] at H; exact H) | (simp only [hji27] at H ⊢; exact H)
                have hji27w : (IntKind.i64.wrap (a2 + 1)) = ji27 := (i64_w _).trans hji27
                by_cases c28 : 0 ≤ (ji27)
                · rw [if_pos c28] at H
                  have c28b0 : decide (0 ≤ (ji27)) = true := decide_eq_true c28
                  clear c28
                  by_cases c29 : (ji27) < (t145.length : Int)
                  · rw [if_pos c29] at H
                    have c29b0 : decide ((ji27) < (t145.length : Int)) = true := decide_eq_true c29
                    clear c29
                    obtain ⟨ji30, hji30⟩ : ∃ j_ : Int, (wrap64 (((rd_T27 t145 (ji27)).f2) + (((rd_T27 t145 (ji27)).f1).size : Int))) = j_ := ⟨_, rfl⟩
                    replace H : (if 0 ≤ (ji30) then (if (ji30) ≤ (a0.size : Int) then (if (a0.extract 0 ((ji30) : Int).toNat).size + a1.size ≤ 9223372036854775807 then ((golex_Lex.f ((a0.extract 0 ((ji30) : Int).toNat) ++ a1)).bind fun t153 => (if (t153.length : Int) > a2 then (if (ji27) ≤ (t153.length : Int) then (if (ji27) ≤ (t145.length : Int) then ((seicheref11_Same.f kj10 (t153.take ((ji27) : Int).toNat) (t145.take ((ji27) : Int).toNat)).bind fun t164 => (some t164)) else (none)) else (none)) else (some false))) else (none)) else (none)) else (none)) = some r := by first | (rw [hji30] at H; exact H) | (simp only [hji30] at H ⊢; exact H)
                    have hji30w : (IntKind.i64.wrap (((rd_T27 t145 (ji27)).f2) + (((rd_T27 t145 (ji27)).f1).size : Int))) = ji30 := (i64_w _).trans hji30
                    by_cases c31 : 0 ≤ (ji30)
                    · rw [if_pos c31] at H
                      have c31b0 := eq_true c31
                      have c31b1 : decide (0 ≤ (ji30)) = true := decide_eq_true c31
                      clear c31
                      by_cases c32 : (ji30) ≤ (a0.size : Int)
                      · rw [if_pos c32] at H
                        have c32b0 := eq_true c32
                        have c32b1 : decide ((ji30) ≤ (a0.size : Int)) = true := decide_eq_true c32
                        clear c32
                        by_cases c33 : (a0.extract 0 ((ji30) : Int).toNat).size + a1.size ≤ 9223372036854775807
                        · rw [if_pos c33] at H
                          have c33b0 := eq_true c33
                          have c33b1 : decide ((a0.extract 0 ((ji30) : Int).toNat).size + a1.size ≤ 9223372036854775807) = true := decide_eq_true c33
                          try have c33b2 : (9223372036854775807 < (a0.extract 0 ((ji30) : Int).toNat).size + a1.size) = False := eq_false (Nat.not_lt.2 c33)
                          replace H := Option.bind_eq_some_iff.mp H
                          obtain ⟨t153, A340, H⟩ := H
                          replace H : (if (t153.length : Int) > a2 then (if (ji27) ≤ (t153.length : Int) then (if (ji27) ≤ (t145.length : Int) then ((seicheref11_Same.f kj10 (t153.take ((ji27) : Int).toNat) (t145.take ((ji27) : Int).toNat)).bind fun t164 => (some t164)) else (none)) else (none)) else (some false)) = some r := H
                          have A34 := Aside0.mk A340; clear A340
                          by_cases c35 : (t153.length : Int) > a2
                          · rw [if_pos c35] at H
                            have c35b0 : decide (a2 < (t153.length : Int)) = true := decide_eq_true c35
                            clear c35
                            have c36b0 := eq_true (of_decide_eq_true (by first | (with_reducible assumption) | assumption) : 0 ≤ (ji27))
                            by_cases c37 : (ji27) ≤ (t153.length : Int)
                            · rw [if_pos c37] at H
                              have c37b0 := eq_true c37
                              have c37b1 : decide ((ji27) ≤ (t153.length : Int)) = true := decide_eq_true c37
                              clear c37
                              obtain ⟨y156, hy156⟩ : ∃ y_ : List (S27), y_ = (t153.take ((ji27) : Int).toNat) := ⟨_, rfl⟩
                              replace H : (if (ji27) ≤ (t145.length : Int) then ((seicheref11_Same.f kj10 y156 (t145.take ((ji27) : Int).toNat)).bind fun t164 => (some t164)) else (none)) = some r := by first | (rw [hy156]; with_reducible exact H) | (have H2_ := (Option.bind_some _ _).symm.trans H; rw [hy156]; with_reducible exact H2_) | (have H2_ := (Option.bind_some _ _).symm.trans H; with_reducible exact H2_) | with_reducible exact H | (rw [hy156]; exact H) | exact H
                              have Ny156 := Aside0.mk hy156; clear hy156
                              have c38b0 := eq_true (of_decide_eq_true (by first | (with_reducible assumption) | assumption) : 0 ≤ (ji27))
                              by_cases c39 : (ji27) ≤ (t145.length : Int)
                              · rw [if_pos c39] at H
                                have c39b0 := eq_true c39
                                have c39b1 : decide ((ji27) ≤ (t145.length : Int)) = true := decide_eq_true c39
                                clear c39
                                obtain ⟨y160, hy160⟩ : ∃ y_ : List (S27), y_ = (t145.take ((ji27) : Int).toNat) := ⟨_, rfl⟩
                                replace H : ((seicheref11_Same.f kj10 y156 y160).bind fun t164 => (some t164)) = some r := by first | (rw [hy160]; with_reducible exact H) | (have H2_ := (Option.bind_some _ _).symm.trans H; rw [hy160]; with_reducible exact H2_) | (have H2_ := (Option.bind_some _ _).symm.trans H; with_reducible exact H2_) | with_reducible exact H | (rw [hy160]; exact H) | exact H
                                have Ny160 := Aside0.mk hy160; clear hy160
                                replace H := Option.bind_eq_some_iff.mp H
                                obtain ⟨t164, A400, H⟩ := H
                                replace H : (some t164) = some r := H
                                have A40 := Aside0.mk A400; clear A400
                                obtain rfl := Option.some.inj H
                                obtain ⟨Ao41, co41, eo41⟩ := Kd.R_slice HO_7.out
                                subst eo41
                                have p151 : 0 ≤ ((ji27) : Int) := of_decide_eq_true (by first | (with_reducible assumption) | assumption)
                                have q151 : (ji27) < (t145.length : Int) := of_decide_eq_true (by first | (with_reducible assumption) | assumption)
                                obtain ⟨ad151, e151, hx151_0, hx151_1, hx151_2⟩ := at_T27 (Kd.R_reads' HO_7.out).2.2 (ji27) p151 q151
                                cases e151
                                replace p151 := eq_true p151; replace q151 := eq_true q151
                                have p152 : 0 ≤ ((ji27) : Int) := of_decide_eq_true (by first | (with_reducible assumption) | assumption)
                                have q152 : (ji27) < (t145.length : Int) := of_decide_eq_true (by first | (with_reducible assumption) | assumption)
                                obtain ⟨ad152, e152, hx152_0, hx152_1, hx152_2⟩ := at_T27 (Kd.R_reads' HO_7.out).2.2 (ji27) p152 q152
                                obtain rfl : ad151 = ad152 := (by injection e152)
                                replace p152 := eq_true p152; replace q152 := eq_true q152
                                go_wp2_with (first | (go_at_call 11; (with_reducible refine (golex_Lex.calls ((a0.extract 0 ((ji30) : Int).toNat) ++ a1) t153 _ ?side1 A34.out).mono ?_); (case side1 => exact Tabs.below HT.out (by repeat (first | (with_reducible first | exact HB.out | apply below_alloc | apply pw_below_drewN | apply below_drew1) | exact HB.out))); rintro e w42 ⟨v154, rfl, ho0, hb⟩; have n0_ := Aside0.mk (Kd.R_elder' (by (with_reducible repeat (first | apply Kd.R_alloc | apply Kd.R_drewN | apply Kd.R_drew)); exact HO_7.out) (Kd.R_base ho0) hb); have n1_ := Aside0.mk (Kd.R_lower (Kd.R_new' ho0 (Kd.R_lt (by (with_reducible repeat (first | apply Kd.R_alloc | apply Kd.R_drewN | apply Kd.R_drew)); exact HO_7.out))) (below_size (by repeat (first | (with_reducible first | exact HB.out | apply below_alloc | apply pw_below_drewN | apply below_drew1) | exact HB.out)))); have n2_ := Aside0.mk (below_step (by repeat (first | (with_reducible first | exact HB.out | apply below_alloc | apply pw_below_drewN | apply below_drew1) | exact HB.out)) hb); clear HO_7; clear HB; have HO_7 := n0_; have HO155 := n1_; have HB := n2_; clear n0_ n1_ n2_; (try clear hb); (try clear hb2); (try clear hk); (try clear hi); (try clear ho0); obtain ⟨Ao43, co43, eo43⟩ := Kd.R_slice HO155.out; subst eo43; have q44 : ((ji27) : Int) ≤ ((t153.length : Int) : Int) := of_decide_eq_true (by first | (with_reducible assumption) | assumption); obtain ⟨i044, hi044, _, hsz44, _⟩ := info_parts info27; have hroom44 : t153.length ≤ co43 := (Kd.R_reads' HO155.out).2.1; have hC44 : Kd.C k27 _ Ao43 t153.length t153 := (Kd.R_reads' HO155.out).2.2; have hcut44 := cut_to (P := Tryd.prog) 24 27 .i64 Tryd.underlying24 hi044 Ao43 t153.length co43 (ji27) (of_decide_eq_true (by first | (with_reducible assumption) | assumption)) q44 hroom44; have hr44 := Kd.C_take (m := ((ji27) : Int).toNat) hC44 (by omega); have hy44 : y156.length = ((ji27) : Int).toNat := (by rw [Ny156.out, List.length_take]; omega); rw [← Ny156.out] at hr44; rw [← hy44] at hcut44; have HR159 := Aside0.mk hr44; have HC159 := Aside0.mk (show y156.length ≤ co43 from by omega); clear hr44 hC44 hroom44 hi044 hsz44; have KY44 := Aside0.mk hy44; clear hy44; have KL44 := Aside0.mk (show ((ji27) : Int).toNat ≤ t153.length from by omega); replace q44 := eq_true q44; have q45 : ((ji27) : Int) ≤ ((t145.length : Int) : Int) := of_decide_eq_true (by first | (with_reducible assumption) | assumption); obtain ⟨i045, hi045, _, hsz45, _⟩ := info_parts info27; have hroom45 : t145.length ≤ co41 := (Kd.R_reads' HO_7.out).2.1; have hC45 : Kd.C k27 _ (some ad151) t145.length t145 := (Kd.R_reads' HO_7.out).2.2; have hcut45 := cut_to (P := Tryd.prog) 24 27 .i64 Tryd.underlying24 hi045 (some ad151) t145.length co41 (ji27) (of_decide_eq_true (by first | (with_reducible assumption) | assumption)) q45 hroom45; have hr45 := Kd.C_take (m := ((ji27) : Int).toNat) hC45 (by omega); have hy45 : y160.length = ((ji27) : Int).toNat := (by rw [Ny160.out, List.length_take]; omega); rw [← Ny160.out] at hr45; rw [← hy45] at hcut45; have HR163 := Aside0.mk hr45; have HC163 := Aside0.mk (show y160.length ≤ co41 from by omega); clear hr45 hC45 hroom45 hi045 hsz45; have KY45 := Aside0.mk hy45; clear hy45; have KL45 := Aside0.mk (show ((ji27) : Int).toNat ≤ t145.length from by omega); replace q45 := eq_true q45) | (go_at_call 12; (with_reducible refine (seicheref11_Same.calls kj10 _ _ y156 _ _ y160 t164 _ ?side1 ?side2 ?side3 ?side4 A40.out).mono ?_); (case side1 => repeat (first | exact (by repeat (first | (with_reducible exact HR159.out) | (with_reducible refine Kd.C_alloc ?_ _) | (with_reducible refine Kd.C_drewN ?_ _) | (with_reducible refine Kd.C_drew ?_) | exact HR159.out)) | (with_reducible refine Kd.C_alloc ?_ _) | (with_reducible refine Kd.C_drewN ?_ _) | (with_reducible refine Kd.C_drew ?_))); (case side2 => exact HC159.out); (case side3 => repeat (first | exact (by repeat (first | (with_reducible exact HR163.out) | (with_reducible refine Kd.C_alloc ?_ _) | (with_reducible refine Kd.C_drewN ?_ _) | (with_reducible refine Kd.C_drew ?_) | exact HR163.out)) | (with_reducible refine Kd.C_alloc ?_ _) | (with_reducible refine Kd.C_drewN ?_ _) | (with_reducible refine Kd.C_drew ?_))); (case side4 => exact HC163.out); rintro e w' ⟨rfl, ⟨nd, rfl⟩⟩; (try first | exact ⟨rfl, _, World.drewN_drewN _ _ _⟩ | exact ⟨rfl, _, Eq.trans (World.drewN_drewN _ _ _) (congrArg (World.drewN _) (Nat.add_assoc _ _ _))⟩)))
                                repeat (go_quiet (first | (go_at_call 11; (with_reducible refine (golex_Lex.calls ((a0.extract 0 ((ji30) : Int).toNat) ++ a1) t153 _ ?side1 A34.out).mono ?_); (case side1 => exact Tabs.below HT.out (by repeat (first | (with_reducible first | exact HB.out | apply below_alloc | apply pw_below_drewN | apply below_drew1) | exact HB.out))); rintro e w42 ⟨v154, rfl, ho0, hb⟩; have n0_ := Aside0.mk (Kd.R_elder' (by (with_reducible repeat (first | apply Kd.R_alloc | apply Kd.R_drewN | apply Kd.R_drew)); exact HO_7.out) (Kd.R_base ho0) hb); have n1_ := Aside0.mk (Kd.R_lower (Kd.R_new' ho0 (Kd.R_lt (by (with_reducible repeat (first | apply Kd.R_alloc | apply Kd.R_drewN | apply Kd.R_drew)); exact HO_7.out))) (below_size (by repeat (first | (with_reducible first | exact HB.out | apply below_alloc | apply pw_below_drewN | apply below_drew1) | exact HB.out)))); have n2_ := Aside0.mk (below_step (by repeat (first | (with_reducible first | exact HB.out | apply below_alloc | apply pw_below_drewN | apply below_drew1) | exact HB.out)) hb); clear HO_7; clear HB; have HO_7 := n0_; have HO155 := n1_; have HB := n2_; clear n0_ n1_ n2_; (try clear hb); (try clear hb2); (try clear hk); (try clear hi); (try clear ho0); obtain ⟨Ao43, co43, eo43⟩ := Kd.R_slice HO155.out; subst eo43; have q44 : ((ji27) : Int) ≤ ((t153.length : Int) : Int) := of_decide_eq_true (by first | (with_reducible assumption) | assumption); obtain ⟨i044, hi044, _, hsz44, _⟩ := info_parts info27; have hroom44 : t153.length ≤ co43 := (Kd.R_reads' HO155.out).2.1; have hC44 : Kd.C k27 _ Ao43 t153.length t153 := (Kd.R_reads' HO155.out).2.2; have hcut44 := cut_to (P := Tryd.prog) 24 27 .i64 Tryd.underlying24 hi044 Ao43 t153.length co43 (ji27) (of_decide_eq_true (by first | (with_reducible assumption) | assumption)) q44 hroom44; have hr44 := Kd.C_take (m := ((ji27) : Int).toNat) hC44 (by omega); have hy44 : y156.length = ((ji27) : Int).toNat := (by rw [Ny156.out, List.length_take]; omega); rw [← Ny156.out] at hr44; rw [← hy44] at hcut44; have HR159 := Aside0.mk hr44; have HC159 := Aside0.mk (show y156.length ≤ co43 from by omega); clear hr44 hC44 hroom44 hi044 hsz44; have KY44 := Aside0.mk hy44; clear hy44; have KL44 := Aside0.mk (show ((ji27) : Int).toNat ≤ t153.length from by omega); replace q44 := eq_true q44; have q45 : ((ji27) : Int) ≤ ((t145.length : Int) : Int) := of_decide_eq_true (by first | (with_reducible assumption) | assumption); obtain ⟨i045, hi045, _, hsz45, _⟩ := info_parts info27; have hroom45 : t145.length ≤ co41 := (Kd.R_reads' HO_7.out).2.1; have hC45 : Kd.C k27 _ (some ad151) t145.length t145 := (Kd.R_reads' HO_7.out).2.2; have hcut45 := cut_to (P := Tryd.prog) 24 27 .i64 Tryd.underlying24 hi045 (some ad151) t145.length co41 (ji27) (of_decide_eq_true (by first | (with_reducible assumption) | assumption)) q45 hroom45; have hr45 := Kd.C_take (m := ((ji27) : Int).toNat) hC45 (by omega); have hy45 : y160.length = ((ji27) : Int).toNat := (by rw [Ny160.out, List.length_take]; omega); rw [← Ny160.out] at hr45; rw [← hy45] at hcut45; have HR163 := Aside0.mk hr45; have HC163 := Aside0.mk (show y160.length ≤ co41 from by omega); clear hr45 hC45 hroom45 hi045 hsz45; have KY45 := Aside0.mk hy45; clear hy45; have KL45 := Aside0.mk (show ((ji27) : Int).toNat ≤ t145.length from by omega); replace q45 := eq_true q45) | (go_at_call 12; (with_reducible refine (seicheref11_Same.calls kj10 _ _ y156 _ _ y160 t164 _ ?side1 ?side2 ?side3 ?side4 A40.out).mono ?_); (case side1 => repeat (first | exact (by repeat (first | (with_reducible exact HR159.out) | (with_reducible refine Kd.C_alloc ?_ _) | (with_reducible refine Kd.C_drewN ?_ _) | (with_reducible refine Kd.C_drew ?_) | exact HR159.out)) | (with_reducible refine Kd.C_alloc ?_ _) | (with_reducible refine Kd.C_drewN ?_ _) | (with_reducible refine Kd.C_drew ?_))); (case side2 => exact HC159.out); (case side3 => repeat (first | exact (by repeat (first | (with_reducible exact HR163.out) | (with_reducible refine Kd.C_alloc ?_ _) | (with_reducible refine Kd.C_drewN ?_ _) | (with_reducible refine Kd.C_drew ?_) | exact HR163.out)) | (with_reducible refine Kd.C_alloc ?_ _) | (with_reducible refine Kd.C_drewN ?_ _) | (with_reducible refine Kd.C_drew ?_))); (case side4 => exact HC163.out); rintro e w' ⟨rfl, ⟨nd, rfl⟩⟩; (try first | exact ⟨rfl, _, World.drewN_drewN _ _ _⟩ | exact ⟨rfl, _, Eq.trans (World.drewN_drewN _ _ _) (congrArg (World.drewN _) (Nat.add_assoc _ _ _))⟩))); try go_wp2_with (first | (go_at_call 11; (with_reducible refine (golex_Lex.calls ((a0.extract 0 ((ji30) : Int).toNat) ++ a1) t153 _ ?side1 A34.out).mono ?_); (case side1 => exact Tabs.below HT.out (by repeat (first | (with_reducible first | exact HB.out | apply below_alloc | apply pw_below_drewN | apply below_drew1) | exact HB.out))); rintro e w42 ⟨v154, rfl, ho0, hb⟩; have n0_ := Aside0.mk (Kd.R_elder' (by (with_reducible repeat (first | apply Kd.R_alloc | apply Kd.R_drewN | apply Kd.R_drew)); exact HO_7.out) (Kd.R_base ho0) hb); have n1_ := Aside0.mk (Kd.R_lower (Kd.R_new' ho0 (Kd.R_lt (by (with_reducible repeat (first | apply Kd.R_alloc | apply Kd.R_drewN | apply Kd.R_drew)); exact HO_7.out))) (below_size (by repeat (first | (with_reducible first | exact HB.out | apply below_alloc | apply pw_below_drewN | apply below_drew1) | exact HB.out)))); have n2_ := Aside0.mk (below_step (by repeat (first | (with_reducible first | exact HB.out | apply below_alloc | apply pw_below_drewN | apply below_drew1) | exact HB.out)) hb); clear HO_7; clear HB; have HO_7 := n0_; have HO155 := n1_; have HB := n2_; clear n0_ n1_ n2_; (try clear hb); (try clear hb2); (try clear hk); (try clear hi); (try clear ho0); obtain ⟨Ao43, co43, eo43⟩ := Kd.R_slice HO155.out; subst eo43; have q44 : ((ji27) : Int) ≤ ((t153.length : Int) : Int) := of_decide_eq_true (by first | (with_reducible assumption) | assumption); obtain ⟨i044, hi044, _, hsz44, _⟩ := info_parts info27; have hroom44 : t153.length ≤ co43 := (Kd.R_reads' HO155.out).2.1; have hC44 : Kd.C k27 _ Ao43 t153.length t153 := (Kd.R_reads' HO155.out).2.2; have hcut44 := cut_to (P := Tryd.prog) 24 27 .i64 Tryd.underlying24 hi044 Ao43 t153.length co43 (ji27) (of_decide_eq_true (by first | (with_reducible assumption) | assumption)) q44 hroom44; have hr44 := Kd.C_take (m := ((ji27) : Int).toNat) hC44 (by omega); have hy44 : y156.length = ((ji27) : Int).toNat := (by rw [Ny156.out, List.length_take]; omega); rw [← Ny156.out] at hr44; rw [← hy44] at hcut44; have HR159 := Aside0.mk hr44; have HC159 := Aside0.mk (show y156.length ≤ co43 from by omega); clear hr44 hC44 hroom44 hi044 hsz44; have KY44 := Aside0.mk hy44; clear hy44; have KL44 := Aside0.mk (show ((ji27) : Int).toNat ≤ t153.length from by omega); replace q44 := eq_true q44; have q45 : ((ji27) : Int) ≤ ((t145.length : Int) : Int) := of_decide_eq_true (by first | (with_reducible assumption) | assumption); obtain ⟨i045, hi045, _, hsz45, _⟩ := info_parts info27; have hroom45 : t145.length ≤ co41 := (Kd.R_reads' HO_7.out).2.1; have hC45 : Kd.C k27 _ (some ad151) t145.length t145 := (Kd.R_reads' HO_7.out).2.2; have hcut45 := cut_to (P := Tryd.prog) 24 27 .i64 Tryd.underlying24 hi045 (some ad151) t145.length co41 (ji27) (of_decide_eq_true (by first | (with_reducible assumption) | assumption)) q45 hroom45; have hr45 := Kd.C_take (m := ((ji27) : Int).toNat) hC45 (by omega); have hy45 : y160.length = ((ji27) : Int).toNat := (by rw [Ny160.out, List.length_take]; omega); rw [← Ny160.out] at hr45; rw [← hy45] at hcut45; have HR163 := Aside0.mk hr45; have HC163 := Aside0.mk (show y160.length ≤ co41 from by omega); clear hr45 hC45 hroom45 hi045 hsz45; have KY45 := Aside0.mk hy45; clear hy45; have KL45 := Aside0.mk (show ((ji27) : Int).toNat ≤ t145.length from by omega); replace q45 := eq_true q45) | (go_at_call 12; (with_reducible refine (seicheref11_Same.calls kj10 _ _ y156 _ _ y160 t164 _ ?side1 ?side2 ?side3 ?side4 A40.out).mono ?_); (case side1 => repeat (first | exact (by repeat (first | (with_reducible exact HR159.out) | (with_reducible refine Kd.C_alloc ?_ _) | (with_reducible refine Kd.C_drewN ?_ _) | (with_reducible refine Kd.C_drew ?_) | exact HR159.out)) | (with_reducible refine Kd.C_alloc ?_ _) | (with_reducible refine Kd.C_drewN ?_ _) | (with_reducible refine Kd.C_drew ?_))); (case side2 => exact HC159.out); (case side3 => repeat (first | exact (by repeat (first | (with_reducible exact HR163.out) | (with_reducible refine Kd.C_alloc ?_ _) | (with_reducible refine Kd.C_drewN ?_ _) | (with_reducible refine Kd.C_drew ?_) | exact HR163.out)) | (with_reducible refine Kd.C_alloc ?_ _) | (with_reducible refine Kd.C_drewN ?_ _) | (with_reducible refine Kd.C_drew ?_))); (case side4 => exact HC163.out); rintro e w' ⟨rfl, ⟨nd, rfl⟩⟩; (try first | exact ⟨rfl, _, World.drewN_drewN _ _ _⟩ | exact ⟨rfl, _, Eq.trans (World.drewN_drewN _ _ _) (congrArg (World.drewN _) (Nat.add_assoc _ _ _))⟩))))
                                go_ret
                                exact ⟨by first | rfl | (simp [errW_none, errW_some] <;> rfl) | (simp only [← hji27, ← hji30]; first | rfl | (simp [errW_none, errW_some] <;> rfl)) | (simp [*, errW_none, errW_some] <;> rfl), by repeat (first | (with_reducible first | exact HB.out | apply below_alloc | apply pw_below_drewN | apply below_drew1) | exact HB.out)⟩
                              · rw [if_neg c39] at H
                                exact absurd H (by simp)
                            · rw [if_neg c37] at H
                              exact absurd H (by simp)
                          · rw [if_neg c35] at H
                            have c35b0 : decide (a2 < (t153.length : Int)) = false := decide_eq_false c35
                            clear c35
                            obtain rfl := Option.some.inj H
                            obtain ⟨Ao46, co46, eo46⟩ := Kd.R_slice HO_7.out
                            subst eo46
                            have p151 : 0 ≤ ((ji27) : Int) := of_decide_eq_true (by first | (with_reducible assumption) | assumption)
                            have q151 : (ji27) < (t145.length : Int) := of_decide_eq_true (by first | (with_reducible assumption) | assumption)
                            obtain ⟨ad151, e151, hx151_0, hx151_1, hx151_2⟩ := at_T27 (Kd.R_reads' HO_7.out).2.2 (ji27) p151 q151
                            cases e151
                            replace p151 := eq_true p151; replace q151 := eq_true q151
                            have p152 : 0 ≤ ((ji27) : Int) := of_decide_eq_true (by first | (with_reducible assumption) | assumption)
                            have q152 : (ji27) < (t145.length : Int) := of_decide_eq_true (by first | (with_reducible assumption) | assumption)
                            obtain ⟨ad152, e152, hx152_0, hx152_1, hx152_2⟩ := at_T27 (Kd.R_reads' HO_7.out).2.2 (ji27) p152 q152
                            obtain rfl : ad151 = ad152 := (by injection e152)
                            replace p152 := eq_true p152; replace q152 := eq_true q152
                            go_wp2_with (first | (go_at_call 11; (with_reducible refine (golex_Lex.calls ((a0.extract 0 ((ji30) : Int).toNat) ++ a1) t153 _ ?side1 A34.out).mono ?_); (case side1 => exact Tabs.below HT.out (by repeat (first | (with_reducible first | exact HB.out | apply below_alloc | apply pw_below_drewN | apply below_drew1) | exact HB.out))); rintro e w47 ⟨v154, rfl, ho0, hb⟩; have n0_ := Aside0.mk (Kd.R_elder' (by (with_reducible repeat (first | apply Kd.R_alloc | apply Kd.R_drewN | apply Kd.R_drew)); exact HO_7.out) (Kd.R_base ho0) hb); have n1_ := Aside0.mk (Kd.R_lower (Kd.R_new' ho0 (Kd.R_lt (by (with_reducible repeat (first | apply Kd.R_alloc | apply Kd.R_drewN | apply Kd.R_drew)); exact HO_7.out))) (below_size (by repeat (first | (with_reducible first | exact HB.out | apply below_alloc | apply pw_below_drewN | apply below_drew1) | exact HB.out)))); have n2_ := Aside0.mk (below_step (by repeat (first | (with_reducible first | exact HB.out | apply below_alloc | apply pw_below_drewN | apply below_drew1) | exact HB.out)) hb); clear HO_7; clear HB; have HO_7 := n0_; have HO155 := n1_; have HB := n2_; clear n0_ n1_ n2_; (try clear hb); (try clear hb2); (try clear hk); (try clear hi); (try clear ho0); obtain ⟨Ao48, co48, eo48⟩ := Kd.R_slice HO155.out; subst eo48))
                            repeat (go_quiet (first | (go_at_call 11; (with_reducible refine (golex_Lex.calls ((a0.extract 0 ((ji30) : Int).toNat) ++ a1) t153 _ ?side1 A34.out).mono ?_); (case side1 => exact Tabs.below HT.out (by repeat (first | (with_reducible first | exact HB.out | apply below_alloc | apply pw_below_drewN | apply below_drew1) | exact HB.out))); rintro e w47 ⟨v154, rfl, ho0, hb⟩; have n0_ := Aside0.mk (Kd.R_elder' (by (with_reducible repeat (first | apply Kd.R_alloc | apply Kd.R_drewN | apply Kd.R_drew)); exact HO_7.out) (Kd.R_base ho0) hb); have n1_ := Aside0.mk (Kd.R_lower (Kd.R_new' ho0 (Kd.R_lt (by (with_reducible repeat (first | apply Kd.R_alloc | apply Kd.R_drewN | apply Kd.R_drew)); exact HO_7.out))) (below_size (by repeat (first | (with_reducible first | exact HB.out | apply below_alloc | apply pw_below_drewN | apply below_drew1) | exact HB.out)))); have n2_ := Aside0.mk (below_step (by repeat (first | (with_reducible first | exact HB.out | apply below_alloc | apply pw_below_drewN | apply below_drew1) | exact HB.out)) hb); clear HO_7; clear HB; have HO_7 := n0_; have HO155 := n1_; have HB := n2_; clear n0_ n1_ n2_; (try clear hb); (try clear hb2); (try clear hk); (try clear hi); (try clear ho0); obtain ⟨Ao48, co48, eo48⟩ := Kd.R_slice HO155.out; subst eo48)); try go_wp2_with (first | (go_at_call 11; (with_reducible refine (golex_Lex.calls ((a0.extract 0 ((ji30) : Int).toNat) ++ a1) t153 _ ?side1 A34.out).mono ?_); (case side1 => exact Tabs.below HT.out (by repeat (first | (with_reducible first | exact HB.out | apply below_alloc | apply pw_below_drewN | apply below_drew1) | exact HB.out))); rintro e w47 ⟨v154, rfl, ho0, hb⟩; have n0_ := Aside0.mk (Kd.R_elder' (by (with_reducible repeat (first | apply Kd.R_alloc | apply Kd.R_drewN | apply Kd.R_drew)); exact HO_7.out) (Kd.R_base ho0) hb); have n1_ := Aside0.mk (Kd.R_lower (Kd.R_new' ho0 (Kd.R_lt (by (with_reducible repeat (first | apply Kd.R_alloc | apply Kd.R_drewN | apply Kd.R_drew)); exact HO_7.out))) (below_size (by repeat (first | (with_reducible first | exact HB.out | apply below_alloc | apply pw_below_drewN | apply below_drew1) | exact HB.out)))); have n2_ := Aside0.mk (below_step (by repeat (first | (with_reducible first | exact HB.out | apply below_alloc | apply pw_below_drewN | apply below_drew1) | exact HB.out)) hb); clear HO_7; clear HB; have HO_7 := n0_; have HO155 := n1_; have HB := n2_; clear n0_ n1_ n2_; (try clear hb); (try clear hb2); (try clear hk); (try clear hi); (try clear ho0); obtain ⟨Ao48, co48, eo48⟩ := Kd.R_slice HO155.out; subst eo48)))
                            go_ret
                            exact ⟨by first | rfl | (simp [errW_none, errW_some] <;> rfl) | (simp only [← hji27, ← hji30]; first | rfl | (simp [errW_none, errW_some] <;> rfl)) | (simp [*, errW_none, errW_some] <;> rfl), by repeat (first | (with_reducible first | exact HB.out | apply below_alloc | apply pw_below_drewN | apply below_drew1) | exact HB.out)⟩
                        · rw [if_neg c33] at H
                          exact absurd H (by simp)
                      · rw [if_neg c32] at H
                        exact absurd H (by simp)
                    · rw [if_neg c31] at H
                      exact absurd H (by simp)
                  · rw [if_neg c29] at H
                    exact absurd H (by simp)
                · rw [if_neg c28] at H
                  exact absurd H (by simp)
  · replace c5 := Bool.eq_false_iff.mpr c5
    subst c5
    have H1 : (some false) = some r := by rw [if_neg (show ¬ (false = true) by decide)] at H; exact H
    clear H
    have H := H1
    clear H1
    obtain rfl := Option.some.inj H
    go_enter Tryd.func4, Tryd.ntmps4
    go_wp2_with (first | (go_at_call 9; (with_reducible refine (seichelaw11_alive.calls  false _ ?side1 A4.out).mono ?_); (case side1 => exact Tabs.below HT.out (by repeat (first | (with_reducible first | exact HB.out | apply below_alloc | apply pw_below_drewN | apply below_drew1) | exact HB.out))); rintro e w49 ⟨rfl, hb⟩; have n0_ := Aside0.mk (below_step (by repeat (first | (with_reducible first | exact HB.out | apply below_alloc | apply pw_below_drewN | apply below_drew1) | exact HB.out)) hb); clear HB; have HB := n0_; clear n0_; (try clear hb); (try clear hb2); (try clear hk); (try clear hi)))
    repeat (go_quiet (first | (go_at_call 9; (with_reducible refine (seichelaw11_alive.calls  false _ ?side1 A4.out).mono ?_); (case side1 => exact Tabs.below HT.out (by repeat (first | (with_reducible first | exact HB.out | apply below_alloc | apply pw_below_drewN | apply below_drew1) | exact HB.out))); rintro e w49 ⟨rfl, hb⟩; have n0_ := Aside0.mk (below_step (by repeat (first | (with_reducible first | exact HB.out | apply below_alloc | apply pw_below_drewN | apply below_drew1) | exact HB.out)) hb); clear HB; have HB := n0_; clear n0_; (try clear hb); (try clear hb2); (try clear hk); (try clear hi))); try go_wp2_with (first | (go_at_call 9; (with_reducible refine (seichelaw11_alive.calls  false _ ?side1 A4.out).mono ?_); (case side1 => exact Tabs.below HT.out (by repeat (first | (with_reducible first | exact HB.out | apply below_alloc | apply pw_below_drewN | apply below_drew1) | exact HB.out))); rintro e w49 ⟨rfl, hb⟩; have n0_ := Aside0.mk (below_step (by repeat (first | (with_reducible first | exact HB.out | apply below_alloc | apply pw_below_drewN | apply below_drew1) | exact HB.out)) hb); clear HB; have HB := n0_; clear n0_; (try clear hb); (try clear hb2); (try clear hk); (try clear hi))))
    go_ret
    exact ⟨by first | rfl | (simp [errW_none, errW_some] <;> rfl) | (simp [*, errW_none, errW_some] <;> rfl), by repeat (first | (with_reducible first | exact HB.out | apply below_alloc | apply pw_below_drewN | apply below_drew1) | exact HB.out)⟩

/-- THE ONE PURE STATEMENT of seichelaw11_GolexBegins: yours. -/
def seichelaw11_GolexBegins.Pure : Prop := ∀ (a0 : ByteArray) (a1 : ByteArray) (a2 : Int), a0.size ≤ 140737488351232 → a1.size ≤ 140737488351232 → (Lit.int .i64 a2).wf = true → ∃ k, seichelaw11_GolexBegins.f k a0 a1 a2 = some true
theorem seichelaw11_GolexBegins.walk (P : seichelaw11_GolexBegins.Pure) (a0 : ByteArray) (a1 : ByteArray) (a2 : Int) (w : World) (hT : Tabs w) (w0 : a0.size ≤ 140737488351232) (w1 : a1.size ≤ 140737488351232) (w2 : (Lit.int .i64 a2).wf = true) :
    Calls Tryd.prog 4 #[.string a0, .string a1, .int .i64 a2] w fun e w' => e = .returned (.bool true) ∧ Below w.heap.size w w' := by
  obtain ⟨k, h⟩ := P a0 a1 a2 w0 w1 w2
  refine (seichelaw11_GolexBegins.calls k a0 a1 a2 true w hT h).mono ?_
  rintro e w' ⟨rfl, hd⟩
  exact ⟨rfl, hd⟩

end Go.Proofs.YtfolmcfcmonkhaaDoor.PAll
