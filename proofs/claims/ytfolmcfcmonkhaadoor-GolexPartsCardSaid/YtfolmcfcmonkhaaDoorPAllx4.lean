-- Written by a program of this session (a changed scratch copy of a tool of the kit); not a print of the kit's own.
import Derived.Test.YtfolmcfcmonkhaaDoorPAllx0
import Derived.Test.YtfolmcfcmonkhaaDoorPAllx1
import Derived.Test.YtfolmcfcmonkhaaDoorPAllx2
import Derived.Test.YtfolmcfcmonkhaaDoorPAllxL
import Derived.Test.YtfolmcfcmonkhaaDoorPAllx3
namespace Go.Proofs.YtfolmcfcmonkhaaDoor.PAll
open Go.RowKit Go.Proofs.YtfolmcfcmonkhaaDoorW.PrintWords Go.Proofs.YtfolmcfcmonkhaaDoorW.PrintLast Go.Proofs.YtfolmcfcmonkhaaDoorW.PrintMore Go.Proofs.YtfolmcfcmonkhaaDoorMy Go.Proofs.YtfolmcfcmonkhaaDoor
attribute [local go_sem] max2_int min2_int max_two min_two max_three min_three max_four min_four   -- for this text's walks alone
set_option linter.unusedVariables false
set_option linter.unusedSimpArgs false

attribute [local go_sem high] eqA27
/-! ### seichelaw11_GolexParts: function 3 -/
mutual
def seichelaw11_GolexParts.j0 : Nat → ByteArray → ByteArray → Bool → Option (Bool)
  | 0, _, _, _ => none
  | k + 1, x0, x1, x25 => if x25 = true then (some true) else (if x0.size + 1 ≤ 9223372036854775807 then ((golex_Lex.f (x0 ++ (⟨#[10]⟩ : ByteArray))).bind fun t122 => ((golex_Lex.f x1).bind fun t125 => (if (t122.length : Int) = 0 then (seichelaw11_GolexParts.j1 k x0 x1 t122 t125 true) else (if 0 ≤ (wrap64 ((t122.length : Int) - 1)) then (if (wrap64 ((t122.length : Int) - 1)) < (t122.length : Int) then (seichelaw11_GolexParts.j1 k x0 x1 t122 t125 (((rd_T27 t122 (wrap64 ((t122.length : Int) - 1))).f0) != 0)) else (none)) else (none))))) else (none))
def seichelaw11_GolexParts.j1 : Nat → ByteArray → ByteArray → List (S27) → List (S27) → Bool → Option (Bool)
  | 0, _, _, _, _, _ => none
  | k + 1, x0, x1, x5, x6, x43 => if x43 = true then (some true) else (if x0.size + 1 ≤ 9223372036854775807 then (if (x0 ++ (⟨#[10]⟩ : ByteArray)).size + x1.size ≤ 9223372036854775807 then ((golex_Lex.f ((x0 ++ (⟨#[10]⟩ : ByteArray)) ++ x1)).bind fun t129 => (if (t129.length : Int) = (wrap64 ((wrap64 ((x5.length : Int) - 1)) + (x6.length : Int))) then (if 0 ≤ (wrap64 ((x5.length : Int) - 1)) then (if (wrap64 ((x5.length : Int) - 1)) ≤ (t129.length : Int) then (if (wrap64 ((x5.length : Int) - 1)) ≤ (x5.length : Int) then ((seicheref11_Same.f k (t129.take ((wrap64 ((x5.length : Int) - 1)) : Int).toNat) (x5.take ((wrap64 ((x5.length : Int) - 1)) : Int).toNat)).bind fun t140 => (seichelaw11_GolexParts.j2 k x0 x6 t129 (wrap64 ((x5.length : Int) - 1)) (!t140))) else (none)) else (none)) else (none)) else (seichelaw11_GolexParts.j2 k x0 x6 t129 (wrap64 ((x5.length : Int) - 1)) true))) else (none)) else (none))
def seichelaw11_GolexParts.j2 : Nat → ByteArray → List (S27) → List (S27) → Int → Bool → Option (Bool)
  | 0, _, _, _, _, _ => none
  | k + 1, x0, x6, x7, x8, x68 => if x68 = true then (some false) else (seichelaw11_GolexParts.l0 k x0 x7 x8 x6 (x6.length : Int) 0)
def seichelaw11_GolexParts.l0 : Nat → ByteArray → List (S27) → Int → List (S27) → Int → Int → Option (Bool)
  | 0, _, _, _, _, _, _ => none
  | k + 1, x0, x7, x8, x69, x70, x71 => if x71 < x70 then (if 0 ≤ x71 then (if x71 < (x69.length : Int) then (if 0 ≤ (wrap64 (x8 + x71)) then (if (wrap64 (x8 + x71)) < (x7.length : Int) then (if (!(((rd_T27 x7 (wrap64 (x8 + x71))).f0) == ((rd_T27 x69 x71).f0)) || (!((((rd_T27 x7 (wrap64 (x8 + x71))).f1).toList) == (((rd_T27 x69 x71).f1).toList)) || (!(((rd_T27 x7 (wrap64 (x8 + x71))).f2) == (wrap64 (((rd_T27 x69 x71).f2) + (wrap64 ((x0.size : Int) + 1)))))))) = true then (some false) else (seichelaw11_GolexParts.l0 k x0 x7 x8 x69 x70 (wrap64 (x71 + 1)))) else (none)) else (none)) else (none)) else (none)) else (some true)
end
def seichelaw11_GolexParts.f (k : Nat) (a0 : ByteArray) (a1 : ByteArray) : Option (Bool) := (seichelaw11_alive.f).bind fun t120 => (if t120 = true then (if (a0.size : Int) > 1024 then (seichelaw11_GolexParts.j0 k a0 a1 true) else (if (a1.size : Int) > 1024 then (seichelaw11_GolexParts.j0 k a0 a1 true) else ((seicheref10_Skip.f a1).bind fun t121 => (seichelaw11_GolexParts.j0 k a0 a1 (decide (t121 > 0)))))) else (some false))
theorem seichelaw11_GolexParts.mono_l : ∀ k, (∀ y0 y1 y2, LeO (seichelaw11_GolexParts.j0 k y0 y1 y2) (seichelaw11_GolexParts.j0 (k + 1) y0 y1 y2)) ∧ (∀ y0 y1 y2 y3 y4, LeO (seichelaw11_GolexParts.j1 k y0 y1 y2 y3 y4) (seichelaw11_GolexParts.j1 (k + 1) y0 y1 y2 y3 y4)) ∧ (∀ y0 y1 y2 y3 y4, LeO (seichelaw11_GolexParts.j2 k y0 y1 y2 y3 y4) (seichelaw11_GolexParts.j2 (k + 1) y0 y1 y2 y3 y4)) ∧ (∀ y0 y1 y2 y3 y4 y5, LeO (seichelaw11_GolexParts.l0 k y0 y1 y2 y3 y4 y5) (seichelaw11_GolexParts.l0 (k + 1) y0 y1 y2 y3 y4 y5))
  | 0 => ⟨fun _ _ _ r h => by simp [seichelaw11_GolexParts.j0] at h, fun _ _ _ _ _ r h => by simp [seichelaw11_GolexParts.j1] at h, fun _ _ _ _ _ r h => by simp [seichelaw11_GolexParts.j2] at h, fun _ _ _ _ _ _ r h => by simp [seichelaw11_GolexParts.l0] at h⟩
  | k + 1 => by
    obtain ⟨ih0, ih1, ih2, ih3⟩ := seichelaw11_GolexParts.mono_l k
    refine ⟨?_, ?_, ?_, ?_⟩
    · intro y0 y1 y2
      unfold seichelaw11_GolexParts.j0
      repeat' first
      | (with_reducible exact ih0 _ _ _)
      | (with_reducible exact ih1 _ _ _ _ _)
      | (with_reducible exact ih2 _ _ _ _ _)
      | (with_reducible exact ih3 _ _ _ _ _ _)
      | (with_reducible exact seicheref11_Same.mono _ _ _)
      | (with_reducible exact LeO.refl _)
      | (with_reducible exact LeO.none _)
      | (with_reducible refine LeO.ite ?_ ?_)
      | (with_reducible refine LeO.bind ?_ (fun _ => ?_))
      | exact ih0 _ _ _
      | exact ih1 _ _ _ _ _
      | exact ih2 _ _ _ _ _
      | exact ih3 _ _ _ _ _ _
      | exact seicheref11_Same.mono _ _ _
      | exact LeO.none _
      | refine LeO.ite ?_ ?_
      | refine LeO.bind ?_ (fun _ => ?_)
    · intro y0 y1 y2 y3 y4
      unfold seichelaw11_GolexParts.j1
      repeat' first
      | (with_reducible exact ih0 _ _ _)
      | (with_reducible exact ih1 _ _ _ _ _)
      | (with_reducible exact ih2 _ _ _ _ _)
      | (with_reducible exact ih3 _ _ _ _ _ _)
      | (with_reducible exact seicheref11_Same.mono _ _ _)
      | (with_reducible exact LeO.refl _)
      | (with_reducible exact LeO.none _)
      | (with_reducible refine LeO.ite ?_ ?_)
      | (with_reducible refine LeO.bind ?_ (fun _ => ?_))
      | exact ih0 _ _ _
      | exact ih1 _ _ _ _ _
      | exact ih2 _ _ _ _ _
      | exact ih3 _ _ _ _ _ _
      | exact seicheref11_Same.mono _ _ _
      | exact LeO.none _
      | refine LeO.ite ?_ ?_
      | refine LeO.bind ?_ (fun _ => ?_)
    · intro y0 y1 y2 y3 y4
      unfold seichelaw11_GolexParts.j2
      repeat' first
      | (with_reducible exact ih0 _ _ _)
      | (with_reducible exact ih1 _ _ _ _ _)
      | (with_reducible exact ih2 _ _ _ _ _)
      | (with_reducible exact ih3 _ _ _ _ _ _)
      | (with_reducible exact seicheref11_Same.mono _ _ _)
      | (with_reducible exact LeO.refl _)
      | (with_reducible exact LeO.none _)
      | (with_reducible refine LeO.ite ?_ ?_)
      | (with_reducible refine LeO.bind ?_ (fun _ => ?_))
      | exact ih0 _ _ _
      | exact ih1 _ _ _ _ _
      | exact ih2 _ _ _ _ _
      | exact ih3 _ _ _ _ _ _
      | exact seicheref11_Same.mono _ _ _
      | exact LeO.none _
      | refine LeO.ite ?_ ?_
      | refine LeO.bind ?_ (fun _ => ?_)
    · intro y0 y1 y2 y3 y4 y5
      unfold seichelaw11_GolexParts.l0
      repeat' first
      | (with_reducible exact ih0 _ _ _)
      | (with_reducible exact ih1 _ _ _ _ _)
      | (with_reducible exact ih2 _ _ _ _ _)
      | (with_reducible exact ih3 _ _ _ _ _ _)
      | (with_reducible exact seicheref11_Same.mono _ _ _)
      | (with_reducible exact LeO.refl _)
      | (with_reducible exact LeO.none _)
      | (with_reducible refine LeO.ite ?_ ?_)
      | (with_reducible refine LeO.bind ?_ (fun _ => ?_))
      | exact ih0 _ _ _
      | exact ih1 _ _ _ _ _
      | exact ih2 _ _ _ _ _
      | exact ih3 _ _ _ _ _ _
      | exact seicheref11_Same.mono _ _ _
      | exact LeO.none _
      | refine LeO.ite ?_ ?_
      | refine LeO.bind ?_ (fun _ => ?_)
theorem seichelaw11_GolexParts.mono : ∀ a0 a1 k, LeO (seichelaw11_GolexParts.f k a0 a1) (seichelaw11_GolexParts.f (k + 1) a0 a1) := by
  intro a0 a1 k
  obtain ⟨ih0, ih1, ih2, ih3⟩ := seichelaw11_GolexParts.mono_l k
  unfold seichelaw11_GolexParts.f
  repeat' first
      | (with_reducible exact ih0 _ _ _)
      | (with_reducible exact ih1 _ _ _ _ _)
      | (with_reducible exact ih2 _ _ _ _ _)
      | (with_reducible exact ih3 _ _ _ _ _ _)
      | (with_reducible exact seicheref11_Same.mono _ _ _)
      | (with_reducible exact LeO.refl _)
      | (with_reducible exact LeO.none _)
      | (with_reducible refine LeO.ite ?_ ?_)
      | (with_reducible refine LeO.bind ?_ (fun _ => ?_))
      | exact ih0 _ _ _
      | exact ih1 _ _ _ _ _
      | exact ih2 _ _ _ _ _
      | exact ih3 _ _ _ _ _ _
      | exact seicheref11_Same.mono _ _ _
      | exact LeO.none _
      | refine LeO.ite ?_ ?_
      | refine LeO.bind ?_ (fun _ => ?_)
set_option maxHeartbeats 8000000 in
set_option maxRecDepth 100000 in
theorem seichelaw11_GolexParts.calls (k : Nat) (a0 : ByteArray) (a1 : ByteArray) (r : Bool) (w : World) (hT : Tabs w) (h : seichelaw11_GolexParts.f k a0 a1 = some r) :
    Calls Tryd.prog 3 #[.string a0, .string a1] w fun e w' => e = .returned (.bool r) ∧ Below w.heap.size w w' := by
  have hu27 := Tryd.underlying27
  have HT := Aside0.mk hT; clear hT
  have HB := Aside0.mk (Below.refl w.heap.size w)
  have H : ((seichelaw11_alive.f).bind fun t120 => (if t120 = true then (if (a0.size : Int) > 1024 then (seichelaw11_GolexParts.j0 k a0 a1 true) else (if (a1.size : Int) > 1024 then (seichelaw11_GolexParts.j0 k a0 a1 true) else ((seicheref10_Skip.f a1).bind fun t121 => (seichelaw11_GolexParts.j0 k a0 a1 (decide (t121 > 0)))))) else (some false))) = some r := h
  clear h
  replace H := Option.bind_eq_some_iff.mp H
  obtain ⟨t120, A30, H⟩ := H
  replace H : (if t120 = true then (if (a0.size : Int) > 1024 then (seichelaw11_GolexParts.j0 k a0 a1 true) else (if (a1.size : Int) > 1024 then (seichelaw11_GolexParts.j0 k a0 a1 true) else ((seicheref10_Skip.f a1).bind fun t121 => (seichelaw11_GolexParts.j0 k a0 a1 (decide (t121 > 0)))))) else (some false)) = some r := H
  have A3 := Aside0.mk A30; clear A30
  by_cases c4 : t120 = true
  · subst c4
    have H1 : (if (a0.size : Int) > 1024 then (seichelaw11_GolexParts.j0 k a0 a1 true) else (if (a1.size : Int) > 1024 then (seichelaw11_GolexParts.j0 k a0 a1 true) else ((seicheref10_Skip.f a1).bind fun t121 => (seichelaw11_GolexParts.j0 k a0 a1 (decide (t121 > 0)))))) = some r := by rw [if_pos rfl] at H; exact H
    clear H
    have H := H1
    clear H1; have HC5 := Aside0.mk H; clear H
    go_enter Tryd.func3, Tryd.ntmps3
    go_upto_region 3 with (first | (go_at_call 9; (with_reducible refine (seichelaw11_alive.calls  true _ ?side1 A3.out).mono ?_); (case side1 => exact Tabs.below HT.out (by repeat (first | (with_reducible first | exact HB.out | apply below_alloc | apply pw_below_drewN | apply below_drew1) | exact HB.out))); rintro e w6 ⟨rfl, hb⟩; have n0_ := Aside0.mk (below_step (by repeat (first | (with_reducible first | exact HB.out | apply below_alloc | apply pw_below_drewN | apply below_drew1) | exact HB.out)) hb); clear HB; have HB := n0_; clear n0_; (try clear hb); (try clear hb2); (try clear hk); (try clear hi)))
    repeat (go_quiet (first | (go_at_call 9; (with_reducible refine (seichelaw11_alive.calls  true _ ?side1 A3.out).mono ?_); (case side1 => exact Tabs.below HT.out (by repeat (first | (with_reducible first | exact HB.out | apply below_alloc | apply pw_below_drewN | apply below_drew1) | exact HB.out))); rintro e w6 ⟨rfl, hb⟩; have n0_ := Aside0.mk (below_step (by repeat (first | (with_reducible first | exact HB.out | apply below_alloc | apply pw_below_drewN | apply below_drew1) | exact HB.out)) hb); clear HB; have HB := n0_; clear n0_; (try clear hb); (try clear hb2); (try clear hk); (try clear hi))); go_upto_region 3 with (first | (go_at_call 9; (with_reducible refine (seichelaw11_alive.calls  true _ ?side1 A3.out).mono ?_); (case side1 => exact Tabs.below HT.out (by repeat (first | (with_reducible first | exact HB.out | apply below_alloc | apply pw_below_drewN | apply below_drew1) | exact HB.out))); rintro e w6 ⟨rfl, hb⟩; have n0_ := Aside0.mk (below_step (by repeat (first | (with_reducible first | exact HB.out | apply below_alloc | apply pw_below_drewN | apply below_drew1) | exact HB.out)) hb); clear HB; have HB := n0_; clear n0_; (try clear hb); (try clear hb2); (try clear hk); (try clear hi))))
    (try simp only [Act.put, List.setIfInBounds_toArray, List.set_cons_zero, List.set_cons_succ])
    go_cut [25] (fun v25 wc => ∃ (kq : Nat) (x25_4 : Bool), v25 = .bool x25_4 ∧ Aside0 (seichelaw11_GolexParts.j0 kq a0 a1 x25_4 = some r) ∧ Aside0 (kq ≤ k) ∧ Aside0 (Below w.heap.size w wc))
    case first =>
      have H := HC5.out
      clear HC5
      by_cases c7 : (a0.size : Int) > 1024
      · rw [if_pos c7] at H
        have c7b0 : decide (1024 < (a0.size : Int)) = true := decide_eq_true c7
        have c7b1 : decide (1024 < a0.size) = true := decide_eq_true (by omega)
        clear c7
        (first | rw [c7b0] | (simp only [i64_w, i32_w]; rw [c7b0]) | skip)
        have H' := Aside0.mk H
        clear H
        go_wp2
        repeat (go_quiet (fail); try go_wp2)
        go_meet
        case rel => exact ⟨_, (true), (by first | rfl | (simp; done) | (simp [*]; done)), H', ⟨by first | omega | exact Nat.le_refl _⟩, ⟨by repeat (first | (with_reducible first | exact HB.out | apply below_alloc | apply pw_below_drewN | apply below_drew1) | exact HB.out)⟩⟩
      · rw [if_neg c7] at H
        have c7b0 : decide (1024 < (a0.size : Int)) = false := decide_eq_false c7
        have c7b1 : decide (1024 < a0.size) = false := decide_eq_false (by omega)
        clear c7
        (first | rw [c7b0] | (simp only [i64_w, i32_w]; rw [c7b0]) | skip)
        by_cases c8 : (a1.size : Int) > 1024
        · rw [if_pos c8] at H
          have c8b0 : decide (1024 < (a1.size : Int)) = true := decide_eq_true c8
          have c8b1 : decide (1024 < a1.size) = true := decide_eq_true (by omega)
          clear c8
          have H' := Aside0.mk H
          clear H
          go_wp2
          repeat (go_quiet (fail); try go_wp2)
          go_meet
          case rel => exact ⟨_, (true), (by first | rfl | (simp; done) | (simp [*]; done)), H', ⟨by first | omega | exact Nat.le_refl _⟩, ⟨by repeat (first | (with_reducible first | exact HB.out | apply below_alloc | apply pw_below_drewN | apply below_drew1) | exact HB.out)⟩⟩
        · rw [if_neg c8] at H
          have c8b0 : decide (1024 < (a1.size : Int)) = false := decide_eq_false c8
          have c8b1 : decide (1024 < a1.size) = false := decide_eq_false (by omega)
          clear c8
          replace H := Option.bind_eq_some_iff.mp H
          obtain ⟨t121, A90, H⟩ := H
          replace H : (seichelaw11_GolexParts.j0 k a0 a1 (decide (t121 > 0))) = some r := H
          have A9 := Aside0.mk A90; clear A90
          have H' := Aside0.mk H
          clear H
          go_wp2_with (first | (go_at_call 10; (with_reducible refine (seicheref10_Skip.calls a1 t121 _ A9.out).mono ?_); rintro e w' ⟨rfl, ⟨nd, rfl⟩⟩; (try first | exact ⟨rfl, _, World.drewN_drewN _ _ _⟩ | exact ⟨rfl, _, Eq.trans (World.drewN_drewN _ _ _) (congrArg (World.drewN _) (Nat.add_assoc _ _ _))⟩)))
          repeat (go_quiet (first | (go_at_call 10; (with_reducible refine (seicheref10_Skip.calls a1 t121 _ A9.out).mono ?_); rintro e w' ⟨rfl, ⟨nd, rfl⟩⟩; (try first | exact ⟨rfl, _, World.drewN_drewN _ _ _⟩ | exact ⟨rfl, _, Eq.trans (World.drewN_drewN _ _ _) (congrArg (World.drewN _) (Nat.add_assoc _ _ _))⟩))); try go_wp2_with (first | (go_at_call 10; (with_reducible refine (seicheref10_Skip.calls a1 t121 _ A9.out).mono ?_); rintro e w' ⟨rfl, ⟨nd, rfl⟩⟩; (try first | exact ⟨rfl, _, World.drewN_drewN _ _ _⟩ | exact ⟨rfl, _, Eq.trans (World.drewN_drewN _ _ _) (congrArg (World.drewN _) (Nat.add_assoc _ _ _))⟩))))
          go_meet
          case rel => exact ⟨_, (decide (t121 > 0)), (by first | rfl | (simp; done) | (simp [*]; done)), H', ⟨by first | omega | exact Nat.le_refl _⟩, ⟨by repeat (first | (with_reducible first | exact HB.out | apply below_alloc | apply pw_below_drewN | apply below_drew1) | exact HB.out)⟩⟩
    case rest =>
      clear HC5; (try clear p2); (try clear c3); (try clear c4); (try clear c7); (try clear c7b0); (try clear c7b1); (try clear c8); (try clear c8b0); (try clear c8b1); obtain ⟨kq, x25_4, rfl, HA, HJ4, HB⟩ := hcut
      cases kq with
      | zero => exact absurd HA.out (by simp [seichelaw11_GolexParts.j0])
      | succ kj4 =>
        have H := HA.out
        clear HA
        simp only [seichelaw11_GolexParts.j0] at H
        by_cases c10 : x25_4 = true
        · subst c10
          have H1 : (some true) = some r := by rw [if_pos rfl] at H; exact H
          clear H
          have H := H1
          clear H1
          obtain rfl := Option.some.inj H
          go_wp2
          repeat (go_quiet (fail); try go_wp2)
          go_ret
          exact ⟨by first | rfl | (simp [errW_none, errW_some] <;> rfl) | (simp [*, errW_none, errW_some] <;> rfl), by repeat (first | (with_reducible first | exact HB.out | apply below_alloc | apply pw_below_drewN | apply below_drew1) | exact HB.out)⟩
        · replace c10 := Bool.eq_false_iff.mpr c10
          subst c10
          have H1 : (if a0.size + 1 ≤ 9223372036854775807 then ((golex_Lex.f (a0 ++ (⟨#[10]⟩ : ByteArray))).bind fun t122 => ((golex_Lex.f a1).bind fun t125 => (if (t122.length : Int) = 0 then (seichelaw11_GolexParts.j1 kj4 a0 a1 t122 t125 true) else (if 0 ≤ (wrap64 ((t122.length : Int) - 1)) then (if (wrap64 ((t122.length : Int) - 1)) < (t122.length : Int) then (seichelaw11_GolexParts.j1 kj4 a0 a1 t122 t125 (((rd_T27 t122 (wrap64 ((t122.length : Int) - 1))).f0) != 0)) else (none)) else (none))))) else (none)) = some r := by rw [if_neg (show ¬ (false = true) by decide)] at H; exact H
          clear H
          have H := H1
          clear H1
          by_cases c11 : a0.size + 1 ≤ 9223372036854775807
          · rw [if_pos c11] at H
            have c11b0 := eq_true c11
            have c11b1 : decide (a0.size + 1 ≤ 9223372036854775807) = true := decide_eq_true c11
            try have c11b2 : (9223372036854775807 < a0.size + 1) = False := eq_false (Nat.not_lt.2 c11)
            replace H := Option.bind_eq_some_iff.mp H
            obtain ⟨t122, A120, H⟩ := H
            replace H : ((golex_Lex.f a1).bind fun t125 => (if (t122.length : Int) = 0 then (seichelaw11_GolexParts.j1 kj4 a0 a1 t122 t125 true) else (if 0 ≤ (wrap64 ((t122.length : Int) - 1)) then (if (wrap64 ((t122.length : Int) - 1)) < (t122.length : Int) then (seichelaw11_GolexParts.j1 kj4 a0 a1 t122 t125 (((rd_T27 t122 (wrap64 ((t122.length : Int) - 1))).f0) != 0)) else (none)) else (none)))) = some r := H
            have A12 := Aside0.mk A120; clear A120
            replace H := Option.bind_eq_some_iff.mp H
            obtain ⟨t125, A130, H⟩ := H
            replace H : (if (t122.length : Int) = 0 then (seichelaw11_GolexParts.j1 kj4 a0 a1 t122 t125 true) else (if 0 ≤ (wrap64 ((t122.length : Int) - 1)) then (if (wrap64 ((t122.length : Int) - 1)) < (t122.length : Int) then (seichelaw11_GolexParts.j1 kj4 a0 a1 t122 t125 (((rd_T27 t122 (wrap64 ((t122.length : Int) - 1))).f0) != 0)) else (none)) else (none))) = some r := H
            have A13 := Aside0.mk A130; clear A130; have HC14 := Aside0.mk H; clear H
            go_upto_region 6 with (first | (go_at_call 11; (with_reducible refine (golex_Lex.calls (a0 ++ (⟨#[10]⟩ : ByteArray)) t122 _ ?side1 A12.out).mono ?_); (case side1 => exact Tabs.below HT.out (by repeat (first | (with_reducible first | exact HB.out | apply below_alloc | apply pw_below_drewN | apply below_drew1) | exact HB.out))); rintro e w15 ⟨v123, rfl, ho0, hb⟩; have n0_ := Aside0.mk (Kd.R_lower ho0 (below_size (by repeat (first | (with_reducible first | exact HB.out | apply below_alloc | apply pw_below_drewN | apply below_drew1) | exact HB.out)))); have n1_ := Aside0.mk (below_step (by repeat (first | (with_reducible first | exact HB.out | apply below_alloc | apply pw_below_drewN | apply below_drew1) | exact HB.out)) hb); clear HB; have HO124 := n0_; have HB := n1_; clear n0_ n1_; (try clear hb); (try clear hb2); (try clear hk); (try clear hi); (try clear ho0)) | (go_at_call 11; (with_reducible refine (golex_Lex.calls a1 t125 _ ?side1 A13.out).mono ?_); (case side1 => exact Tabs.below HT.out (by repeat (first | (with_reducible first | exact HB.out | apply below_alloc | apply pw_below_drewN | apply below_drew1) | exact HB.out))); rintro e w16 ⟨v126, rfl, ho0, hb⟩; have n0_ := Aside0.mk (Kd.R_elder' (by (with_reducible repeat (first | apply Kd.R_alloc | apply Kd.R_drewN | apply Kd.R_drew)); exact HO124.out) (Kd.R_base ho0) hb); have n1_ := Aside0.mk (Kd.R_lower (Kd.R_new' ho0 (Kd.R_lt (by (with_reducible repeat (first | apply Kd.R_alloc | apply Kd.R_drewN | apply Kd.R_drew)); exact HO124.out))) (below_size (by repeat (first | (with_reducible first | exact HB.out | apply below_alloc | apply pw_below_drewN | apply below_drew1) | exact HB.out)))); have n2_ := Aside0.mk (below_step (by repeat (first | (with_reducible first | exact HB.out | apply below_alloc | apply pw_below_drewN | apply below_drew1) | exact HB.out)) hb); clear HO124; clear HB; have HO124 := n0_; have HO127 := n1_; have HB := n2_; clear n0_ n1_ n2_; (try clear hb); (try clear hb2); (try clear hk); (try clear hi); (try clear ho0)))
            repeat (go_quiet (first | (go_at_call 11; (with_reducible refine (golex_Lex.calls (a0 ++ (⟨#[10]⟩ : ByteArray)) t122 _ ?side1 A12.out).mono ?_); (case side1 => exact Tabs.below HT.out (by repeat (first | (with_reducible first | exact HB.out | apply below_alloc | apply pw_below_drewN | apply below_drew1) | exact HB.out))); rintro e w15 ⟨v123, rfl, ho0, hb⟩; have n0_ := Aside0.mk (Kd.R_lower ho0 (below_size (by repeat (first | (with_reducible first | exact HB.out | apply below_alloc | apply pw_below_drewN | apply below_drew1) | exact HB.out)))); have n1_ := Aside0.mk (below_step (by repeat (first | (with_reducible first | exact HB.out | apply below_alloc | apply pw_below_drewN | apply below_drew1) | exact HB.out)) hb); clear HB; have HO124 := n0_; have HB := n1_; clear n0_ n1_; (try clear hb); (try clear hb2); (try clear hk); (try clear hi); (try clear ho0)) | (go_at_call 11; (with_reducible refine (golex_Lex.calls a1 t125 _ ?side1 A13.out).mono ?_); (case side1 => exact Tabs.below HT.out (by repeat (first | (with_reducible first | exact HB.out | apply below_alloc | apply pw_below_drewN | apply below_drew1) | exact HB.out))); rintro e w16 ⟨v126, rfl, ho0, hb⟩; have n0_ := Aside0.mk (Kd.R_elder' (by (with_reducible repeat (first | apply Kd.R_alloc | apply Kd.R_drewN | apply Kd.R_drew)); exact HO124.out) (Kd.R_base ho0) hb); have n1_ := Aside0.mk (Kd.R_lower (Kd.R_new' ho0 (Kd.R_lt (by (with_reducible repeat (first | apply Kd.R_alloc | apply Kd.R_drewN | apply Kd.R_drew)); exact HO124.out))) (below_size (by repeat (first | (with_reducible first | exact HB.out | apply below_alloc | apply pw_below_drewN | apply below_drew1) | exact HB.out)))); have n2_ := Aside0.mk (below_step (by repeat (first | (with_reducible first | exact HB.out | apply below_alloc | apply pw_below_drewN | apply below_drew1) | exact HB.out)) hb); clear HO124; clear HB; have HO124 := n0_; have HO127 := n1_; have HB := n2_; clear n0_ n1_ n2_; (try clear hb); (try clear hb2); (try clear hk); (try clear hi); (try clear ho0))); go_upto_region 6 with (first | (go_at_call 11; (with_reducible refine (golex_Lex.calls (a0 ++ (⟨#[10]⟩ : ByteArray)) t122 _ ?side1 A12.out).mono ?_); (case side1 => exact Tabs.below HT.out (by repeat (first | (with_reducible first | exact HB.out | apply below_alloc | apply pw_below_drewN | apply below_drew1) | exact HB.out))); rintro e w15 ⟨v123, rfl, ho0, hb⟩; have n0_ := Aside0.mk (Kd.R_lower ho0 (below_size (by repeat (first | (with_reducible first | exact HB.out | apply below_alloc | apply pw_below_drewN | apply below_drew1) | exact HB.out)))); have n1_ := Aside0.mk (below_step (by repeat (first | (with_reducible first | exact HB.out | apply below_alloc | apply pw_below_drewN | apply below_drew1) | exact HB.out)) hb); clear HB; have HO124 := n0_; have HB := n1_; clear n0_ n1_; (try clear hb); (try clear hb2); (try clear hk); (try clear hi); (try clear ho0)) | (go_at_call 11; (with_reducible refine (golex_Lex.calls a1 t125 _ ?side1 A13.out).mono ?_); (case side1 => exact Tabs.below HT.out (by repeat (first | (with_reducible first | exact HB.out | apply below_alloc | apply pw_below_drewN | apply below_drew1) | exact HB.out))); rintro e w16 ⟨v126, rfl, ho0, hb⟩; have n0_ := Aside0.mk (Kd.R_elder' (by (with_reducible repeat (first | apply Kd.R_alloc | apply Kd.R_drewN | apply Kd.R_drew)); exact HO124.out) (Kd.R_base ho0) hb); have n1_ := Aside0.mk (Kd.R_lower (Kd.R_new' ho0 (Kd.R_lt (by (with_reducible repeat (first | apply Kd.R_alloc | apply Kd.R_drewN | apply Kd.R_drew)); exact HO124.out))) (below_size (by repeat (first | (with_reducible first | exact HB.out | apply below_alloc | apply pw_below_drewN | apply below_drew1) | exact HB.out)))); have n2_ := Aside0.mk (below_step (by repeat (first | (with_reducible first | exact HB.out | apply below_alloc | apply pw_below_drewN | apply below_drew1) | exact HB.out)) hb); clear HO124; clear HB; have HO124 := n0_; have HO127 := n1_; have HB := n2_; clear n0_ n1_ n2_; (try clear hb); (try clear hb2); (try clear hk); (try clear hi); (try clear ho0))))
            (try simp only [Act.put, List.setIfInBounds_toArray, List.set_cons_zero, List.set_cons_succ])
            go_cut [43] (fun v43 wc => ∃ (kq : Nat) (x43_13 : Bool), v43 = .bool x43_13 ∧ Aside0 (seichelaw11_GolexParts.j1 kq a0 a1 t122 t125 x43_13 = some r) ∧ Aside0 (kq ≤ kj4) ∧ Aside0 (Kd.R k27 27 wc w.heap.size (fun k_ => some k_ ≠ (v126 : Value).ownBlock) v123 t122) ∧ Aside0 (Kd.R k27 27 wc w.heap.size (fun k_ => some k_ ≠ (v123 : Value).ownBlock) v126 t125) ∧ Aside0 (Below w.heap.size w wc))
            case first =>
              have H := HC14.out
              clear HC14
              by_cases c17 : (t122.length : Int) = 0
              · rw [if_pos c17] at H
                have c17b0 : ((t122.length : Int) == 0) = true := beq_iff_eq.mpr c17
                have c17b1 : ((t122.length : Int) != 0) = false := bne_eq_false_iff_eq.mpr c17
                clear c17
                (first | rw [c17b0] | (simp only [i64_w, i32_w]; rw [c17b0]) | skip)
                have H' := Aside0.mk H
                clear H
                obtain ⟨Ao18, co18, eo18⟩ := Kd.R_slice HO124.out
                subst eo18
                go_wp2
                repeat (go_quiet (fail); try go_wp2)
                go_meet
                case rel => exact ⟨_, (true), (by first | rfl | (simp; done) | (simp [*]; done)), H', ⟨by have := HJ4.out; first | omega | exact Nat.le_refl _⟩, ⟨by (with_reducible repeat (first | apply Kd.R_alloc | apply Kd.R_drewN | apply Kd.R_drew)); exact Kd.R_mono HO124.out (fun _ hk => hk.2)⟩, ⟨by (with_reducible repeat (first | apply Kd.R_alloc | apply Kd.R_drewN | apply Kd.R_drew)); exact Kd.R_mono HO127.out (fun _ hk => hk.2)⟩, ⟨by repeat (first | (with_reducible first | exact HB.out | apply below_alloc | apply pw_below_drewN | apply below_drew1) | exact HB.out)⟩⟩
              · rw [if_neg c17] at H
                have c17b0 : ((t122.length : Int) == 0) = false := beq_eq_false_iff_ne.mpr c17
                have c17b1 : ((t122.length : Int) != 0) = true := bne_iff_ne.mpr c17
                have c17b2 : ¬ (t122 = []) := fun h_ => c17 (by rw [h_]; rfl)
                (first | rw [c17b0] | (simp only [i64_w, i32_w]; rw [c17b0]) | skip)
                obtain ⟨ji19, hji19⟩ : ∃ j_ : Int, (wrap64 ((t122.length : Int) - 1)) = j_ := ⟨_, rfl⟩
                replace H : (if 0 ≤ (ji19) then (if (ji19) < (t122.length : Int) then (seichelaw11_GolexParts.j1 kj4 a0 a1 t122 t125 (((rd_T27 t122 (ji19)).f0) != 0)) else (none)) else (none)) = some r := by first | (rw [hji19] at H; exact H) | (simp only [hji19] at H ⊢; exact H)
                have hji19w : (IntKind.i64.wrap ((t122.length : Int) - 1)) = ji19 := (i64_w _).trans hji19
                by_cases c20 : 0 ≤ (ji19)
                · rw [if_pos c20] at H
                  have c20b0 : decide (0 ≤ (ji19)) = true := decide_eq_true c20
                  clear c20
                  by_cases c21 : (ji19) < (t122.length : Int)
                  · rw [if_pos c21] at H
                    have c21b0 : decide ((ji19) < (t122.length : Int)) = true := decide_eq_true c21
                    clear c21
                    have H' := Aside0.mk H
                    clear H
                    obtain ⟨Ao22, co22, eo22⟩ := Kd.R_slice HO124.out
                    subst eo22
                    have p128 : 0 ≤ ((ji19) : Int) := of_decide_eq_true (by first | (with_reducible assumption) | assumption)
                    have q128 : (ji19) < (t122.length : Int) := of_decide_eq_true (by first | (with_reducible assumption) | assumption)
                    obtain ⟨ad128, e128, hx128_0, hx128_1, hx128_2⟩ := at_T27 (Kd.R_reads' HO124.out).2.2 (ji19) p128 q128
                    cases e128
                    replace p128 := eq_true p128; replace q128 := eq_true q128
                    go_wp2
                    repeat (go_quiet (fail); try go_wp2)
                    go_meet
                    case rel => exact ⟨_, ((((rd_T27 t122 (ji19)).f0) != 0)), (by first | rfl | (simp; done) | (simp only [← hji19] <;> (first | rfl | simp)) | (simp [*]; done)), H', ⟨by have := HJ4.out; first | omega | exact Nat.le_refl _⟩, ⟨by (with_reducible repeat (first | apply Kd.R_alloc | apply Kd.R_drewN | apply Kd.R_drew)); exact Kd.R_mono HO124.out (fun _ hk => hk.2)⟩, ⟨by (with_reducible repeat (first | apply Kd.R_alloc | apply Kd.R_drewN | apply Kd.R_drew)); exact Kd.R_mono HO127.out (fun _ hk => hk.2)⟩, ⟨by repeat (first | (with_reducible first | exact HB.out | apply below_alloc | apply pw_below_drewN | apply below_drew1) | exact HB.out)⟩⟩
                  · rw [if_neg c21] at H
                    exact absurd H (by simp)
                · rw [if_neg c20] at H
                  exact absurd H (by simp)
            case rest =>
              clear HC14; (try clear c1); (try clear p1); (try clear q1); (try clear hx1); (try clear c2); (try clear p2); (try clear c3); (try clear c4); (try clear p6); (try clear c7); (try clear c7b0); (try clear c7b1); (try clear c8); (try clear c8b0); (try clear c8b1); (try clear c10); (try clear c11); (try clear c11b0); (try clear c11b1); (try clear c11b2); (try clear p12); (try clear q12); (try clear hx12); (try clear c17); (try clear c17b0); (try clear c17b1); (try clear c17b2); (try clear c20); (try clear c20b0); (try clear c21); (try clear c21b0); (try clear hx128_0); (try clear hx128_1); (try clear hx128_2); (try clear p128); (try clear p2); (try clear q128)
              obtain ⟨kq, x43_13, rfl, HA, HJ13, HO_5, HO_6, HB⟩ := hcut
              cases kq with
              | zero => exact absurd HA.out (by simp [seichelaw11_GolexParts.j1])
              | succ kj13 =>
                have H := HA.out
                clear HA
                simp only [seichelaw11_GolexParts.j1] at H
                by_cases c23 : x43_13 = true
                · subst c23
                  have H1 : (some true) = some r := by rw [if_pos rfl] at H; exact H
                  clear H
                  have H := H1
                  clear H1
                  obtain rfl := Option.some.inj H
                  go_wp2
                  repeat (go_quiet (fail); try go_wp2)
                  go_ret
                  exact ⟨by first | rfl | (simp [errW_none, errW_some] <;> rfl) | (simp [*, errW_none, errW_some] <;> rfl), by repeat (first | (with_reducible first | exact HB.out | apply below_alloc | apply pw_below_drewN | apply below_drew1) | exact HB.out)⟩
                · replace c23 := Bool.eq_false_iff.mpr c23
                  subst c23
                  have H1 : (if a0.size + 1 ≤ 9223372036854775807 then (if (a0 ++ (⟨#[10]⟩ : ByteArray)).size + a1.size ≤ 9223372036854775807 then ((golex_Lex.f ((a0 ++ (⟨#[10]⟩ : ByteArray)) ++ a1)).bind fun t129 => (if (t129.length : Int) = (wrap64 ((wrap64 ((t122.length : Int) - 1)) + (t125.length : Int))) then (if 0 ≤ (wrap64 ((t122.length : Int) - 1)) then (if (wrap64 ((t122.length : Int) - 1)) ≤ (t129.length : Int) then (if (wrap64 ((t122.length : Int) - 1)) ≤ (t122.length : Int) then ((seicheref11_Same.f kj13 (t129.take ((wrap64 ((t122.length : Int) - 1)) : Int).toNat) (t122.take ((wrap64 ((t122.length : Int) - 1)) : Int).toNat)).bind fun t140 => (seichelaw11_GolexParts.j2 kj13 a0 t125 t129 (wrap64 ((t122.length : Int) - 1)) (!t140))) else (none)) else (none)) else (none)) else (seichelaw11_GolexParts.j2 kj13 a0 t125 t129 (wrap64 ((t122.length : Int) - 1)) true))) else (none)) else (none)) = some r := by rw [if_neg (show ¬ (false = true) by decide)] at H; exact H
                  clear H
                  have H := H1
                  clear H1
                  by_cases c24 : a0.size + 1 ≤ 9223372036854775807
                  · rw [if_pos c24] at H
                    have c24b0 := eq_true c24
                    have c24b1 : decide (a0.size + 1 ≤ 9223372036854775807) = true := decide_eq_true c24
                    try have c24b2 : (9223372036854775807 < a0.size + 1) = False := eq_false (Nat.not_lt.2 c24)
                    by_cases c25 : (a0 ++ (⟨#[10]⟩ : ByteArray)).size + a1.size ≤ 9223372036854775807
                    · rw [if_pos c25] at H
                      have c25b0 := eq_true c25
                      have c25b1 : decide ((a0 ++ (⟨#[10]⟩ : ByteArray)).size + a1.size ≤ 9223372036854775807) = true := decide_eq_true c25
                      try have c25b2 : (9223372036854775807 < (a0 ++ (⟨#[10]⟩ : ByteArray)).size + a1.size) = False := eq_false (Nat.not_lt.2 c25)
                      try have c25b3 : (9223372036854775807 < a0.size + 1 + a1.size) = False := eq_false (Nat.not_lt.2 (by have h_ := c25; simp only [ByteArray.size_append] at h_; exact h_))
                      replace H := Option.bind_eq_some_iff.mp H
                      obtain ⟨t129, A260, H⟩ := H
                      replace H : (if (t129.length : Int) = (wrap64 ((wrap64 ((t122.length : Int) - 1)) + (t125.length : Int))) then (if 0 ≤ (wrap64 ((t122.length : Int) - 1)) then (if (wrap64 ((t122.length : Int) - 1)) ≤ (t129.length : Int) then (if (wrap64 ((t122.length : Int) - 1)) ≤ (t122.length : Int) then ((seicheref11_Same.f kj13 (t129.take ((wrap64 ((t122.length : Int) - 1)) : Int).toNat) (t122.take ((wrap64 ((t122.length : Int) - 1)) : Int).toNat)).bind fun t140 => (seichelaw11_GolexParts.j2 kj13 a0 t125 t129 (wrap64 ((t122.length : Int) - 1)) (!t140))) else (none)) else (none)) else (none)) else (seichelaw11_GolexParts.j2 kj13 a0 t125 t129 (wrap64 ((t122.length : Int) - 1)) true)) = some r := H
                      have A26 := Aside0.mk A260; clear A260; have HC27 := Aside0.mk H; clear H
                      go_upto_region 10 with (first | (go_at_call 11; (with_reducible refine (golex_Lex.calls ((a0 ++ (⟨#[10]⟩ : ByteArray)) ++ a1) t129 _ ?side1 A26.out).mono ?_); (case side1 => exact Tabs.below HT.out (by repeat (first | (with_reducible first | exact HB.out | apply below_alloc | apply pw_below_drewN | apply below_drew1) | exact HB.out))); rintro e w28 ⟨v130, rfl, ho0, hb⟩; have n0_ := Aside0.mk (Kd.R_elder' (by (with_reducible repeat (first | apply Kd.R_alloc | apply Kd.R_drewN | apply Kd.R_drew)); exact HO_5.out) (Kd.R_base ho0) hb); have n1_ := Aside0.mk (Kd.R_elder' (by (with_reducible repeat (first | apply Kd.R_alloc | apply Kd.R_drewN | apply Kd.R_drew)); exact HO_6.out) (Kd.R_base ho0) hb); have n2_ := Aside0.mk (Kd.R_lower (Kd.R_new' (Kd.R_new' ho0 (Kd.R_lt (by (with_reducible repeat (first | apply Kd.R_alloc | apply Kd.R_drewN | apply Kd.R_drew)); exact HO_5.out))) (Kd.R_lt (by (with_reducible repeat (first | apply Kd.R_alloc | apply Kd.R_drewN | apply Kd.R_drew)); exact HO_6.out))) (below_size (by repeat (first | (with_reducible first | exact HB.out | apply below_alloc | apply pw_below_drewN | apply below_drew1) | exact HB.out)))); have n3_ := Aside0.mk (below_step (by repeat (first | (with_reducible first | exact HB.out | apply below_alloc | apply pw_below_drewN | apply below_drew1) | exact HB.out)) hb); clear HO_5; clear HO_6; clear HB; have HO_5 := n0_; have HO_6 := n1_; have HO131 := n2_; have HB := n3_; clear n0_ n1_ n2_ n3_; (try clear hb); (try clear hb2); (try clear hk); (try clear hi); (try clear ho0); obtain ⟨Ao29, co29, eo29⟩ := Kd.R_slice HO_5.out; subst eo29))
                      repeat (go_quiet (first | (go_at_call 11; (with_reducible refine (golex_Lex.calls ((a0 ++ (⟨#[10]⟩ : ByteArray)) ++ a1) t129 _ ?side1 A26.out).mono ?_); (case side1 => exact Tabs.below HT.out (by repeat (first | (with_reducible first | exact HB.out | apply below_alloc | apply pw_below_drewN | apply below_drew1) | exact HB.out))); rintro e w28 ⟨v130, rfl, ho0, hb⟩; have n0_ := Aside0.mk (Kd.R_elder' (by (with_reducible repeat (first | apply Kd.R_alloc | apply Kd.R_drewN | apply Kd.R_drew)); exact HO_5.out) (Kd.R_base ho0) hb); have n1_ := Aside0.mk (Kd.R_elder' (by (with_reducible repeat (first | apply Kd.R_alloc | apply Kd.R_drewN | apply Kd.R_drew)); exact HO_6.out) (Kd.R_base ho0) hb); have n2_ := Aside0.mk (Kd.R_lower (Kd.R_new' (Kd.R_new' ho0 (Kd.R_lt (by (with_reducible repeat (first | apply Kd.R_alloc | apply Kd.R_drewN | apply Kd.R_drew)); exact HO_5.out))) (Kd.R_lt (by (with_reducible repeat (first | apply Kd.R_alloc | apply Kd.R_drewN | apply Kd.R_drew)); exact HO_6.out))) (below_size (by repeat (first | (with_reducible first | exact HB.out | apply below_alloc | apply pw_below_drewN | apply below_drew1) | exact HB.out)))); have n3_ := Aside0.mk (below_step (by repeat (first | (with_reducible first | exact HB.out | apply below_alloc | apply pw_below_drewN | apply below_drew1) | exact HB.out)) hb); clear HO_5; clear HO_6; clear HB; have HO_5 := n0_; have HO_6 := n1_; have HO131 := n2_; have HB := n3_; clear n0_ n1_ n2_ n3_; (try clear hb); (try clear hb2); (try clear hk); (try clear hi); (try clear ho0); obtain ⟨Ao29, co29, eo29⟩ := Kd.R_slice HO_5.out; subst eo29)); go_upto_region 10 with (first | (go_at_call 11; (with_reducible refine (golex_Lex.calls ((a0 ++ (⟨#[10]⟩ : ByteArray)) ++ a1) t129 _ ?side1 A26.out).mono ?_); (case side1 => exact Tabs.below HT.out (by repeat (first | (with_reducible first | exact HB.out | apply below_alloc | apply pw_below_drewN | apply below_drew1) | exact HB.out))); rintro e w28 ⟨v130, rfl, ho0, hb⟩; have n0_ := Aside0.mk (Kd.R_elder' (by (with_reducible repeat (first | apply Kd.R_alloc | apply Kd.R_drewN | apply Kd.R_drew)); exact HO_5.out) (Kd.R_base ho0) hb); have n1_ := Aside0.mk (Kd.R_elder' (by (with_reducible repeat (first | apply Kd.R_alloc | apply Kd.R_drewN | apply Kd.R_drew)); exact HO_6.out) (Kd.R_base ho0) hb); have n2_ := Aside0.mk (Kd.R_lower (Kd.R_new' (Kd.R_new' ho0 (Kd.R_lt (by (with_reducible repeat (first | apply Kd.R_alloc | apply Kd.R_drewN | apply Kd.R_drew)); exact HO_5.out))) (Kd.R_lt (by (with_reducible repeat (first | apply Kd.R_alloc | apply Kd.R_drewN | apply Kd.R_drew)); exact HO_6.out))) (below_size (by repeat (first | (with_reducible first | exact HB.out | apply below_alloc | apply pw_below_drewN | apply below_drew1) | exact HB.out)))); have n3_ := Aside0.mk (below_step (by repeat (first | (with_reducible first | exact HB.out | apply below_alloc | apply pw_below_drewN | apply below_drew1) | exact HB.out)) hb); clear HO_5; clear HO_6; clear HB; have HO_5 := n0_; have HO_6 := n1_; have HO131 := n2_; have HB := n3_; clear n0_ n1_ n2_ n3_; (try clear hb); (try clear hb2); (try clear hk); (try clear hi); (try clear ho0); obtain ⟨Ao29, co29, eo29⟩ := Kd.R_slice HO_5.out; subst eo29)))
                      (try simp only [Act.put, List.setIfInBounds_toArray, List.set_cons_zero, List.set_cons_succ])
                      go_cut [68] (fun v68 wc => ∃ (kq : Nat) (x68_26 : Bool), v68 = .bool x68_26 ∧ Aside0 (seichelaw11_GolexParts.j2 kq a0 t125 t129 (wrap64 ((t122.length : Int) - 1)) x68_26 = some r) ∧ Aside0 (kq ≤ kj13) ∧ Aside0 (Kd.R k27 27 wc w.heap.size (fun k_ => some k_ ≠ (v130 : Value).ownBlock) v126 t125) ∧ Aside0 (Kd.R k27 27 wc w.heap.size (fun k_ => some k_ ≠ (v126 : Value).ownBlock) v130 t129) ∧ Aside0 (Below w.heap.size w wc))
                      case first =>
                        have H := HC27.out
                        clear HC27
                        by_cases c30 : (t129.length : Int) = (wrap64 ((wrap64 ((t122.length : Int) - 1)) + (t125.length : Int)))
                        · rw [if_pos c30] at H
                          have c30b0 : ((t129.length : Int) == (wrap64 ((wrap64 ((t122.length : Int) - 1)) + (t125.length : Int)))) = true := beq_iff_eq.mpr c30
                          have c30b1 : ((t129.length : Int) != (wrap64 ((wrap64 ((t122.length : Int) - 1)) + (t125.length : Int)))) = false := bne_eq_false_iff_eq.mpr c30
                          clear c30
                          (first | rw [c30b0] | (simp only [i64_w, i32_w]; rw [c30b0]) | skip)
                          obtain ⟨ji31, hji31⟩ : ∃ j_ : Int, (wrap64 ((t122.length : Int) - 1)) = j_ := ⟨_, rfl⟩
                          replace H : (if 0 ≤ (ji31) then (if (ji31) ≤ (t129.length : Int) then (if (ji31) ≤ (t122.length : Int) then ((seicheref11_Same.f kj13 (t129.take ((ji31) : Int).toNat) (t122.take ((ji31) : Int).toNat)).bind fun t140 => (seichelaw11_GolexParts.j2 kj13 a0 t125 t129 ji31 (!t140))) else (none)) else (none)) else (none)) = some r := by first | (rw [hji31] at H; exact H) | (simp only [hji31] at H ⊢; exact H)
                          (try rw [hji31] at c30b0)
                          (try rw [hji31] at c30b1)
                          have hji31w : (IntKind.i64.wrap ((t122.length : Int) - 1)) = ji31 := (i64_w _).trans hji31
                          by_cases c32 : 0 ≤ (ji31)
                          · rw [if_pos c32] at H
                            have c32b0 := eq_true c32
                            have c32b1 : decide (0 ≤ (ji31)) = true := decide_eq_true c32
                            clear c32
                            by_cases c33 : (ji31) ≤ (t129.length : Int)
                            · rw [if_pos c33] at H
                              have c33b0 := eq_true c33
                              have c33b1 : decide ((ji31) ≤ (t129.length : Int)) = true := decide_eq_true c33
                              clear c33
                              obtain ⟨y132, hy132⟩ : ∃ y_ : List (S27), y_ = (t129.take ((ji31) : Int).toNat) := ⟨_, rfl⟩
                              replace H : (if (ji31) ≤ (t122.length : Int) then ((seicheref11_Same.f kj13 y132 (t122.take ((ji31) : Int).toNat)).bind fun t140 => (seichelaw11_GolexParts.j2 kj13 a0 t125 t129 ji31 (!t140))) else (none)) = some r := by first | (rw [hy132]; with_reducible exact H) | (have H2_ := (Option.bind_some _ _).symm.trans H; rw [hy132]; with_reducible exact H2_) | (have H2_ := (Option.bind_some _ _).symm.trans H; with_reducible exact H2_) | with_reducible exact H | (rw [hy132]; exact H) | exact H
                              have Ny132 := Aside0.mk hy132; clear hy132
                              have c34b0 := eq_true (of_decide_eq_true (by first | (with_reducible assumption) | assumption) : 0 ≤ (ji31))
                              by_cases c35 : (ji31) ≤ (t122.length : Int)
                              · rw [if_pos c35] at H
                                have c35b0 := eq_true c35
                                have c35b1 : decide ((ji31) ≤ (t122.length : Int)) = true := decide_eq_true c35
                                clear c35
                                obtain ⟨y136, hy136⟩ : ∃ y_ : List (S27), y_ = (t122.take ((ji31) : Int).toNat) := ⟨_, rfl⟩
                                replace H : ((seicheref11_Same.f kj13 y132 y136).bind fun t140 => (seichelaw11_GolexParts.j2 kj13 a0 t125 t129 ji31 (!t140))) = some r := by first | (rw [hy136]; with_reducible exact H) | (have H2_ := (Option.bind_some _ _).symm.trans H; rw [hy136]; with_reducible exact H2_) | (have H2_ := (Option.bind_some _ _).symm.trans H; with_reducible exact H2_) | with_reducible exact H | (rw [hy136]; exact H) | exact H
                                have Ny136 := Aside0.mk hy136; clear hy136
                                replace H := Option.bind_eq_some_iff.mp H
                                obtain ⟨t140, A360, H⟩ := H
                                replace H : (seichelaw11_GolexParts.j2 kj13 a0 t125 t129 ji31 (!t140)) = some r := H
                                have A36 := Aside0.mk A360; clear A360
                                have H' := Aside0.mk H
                                clear H
                                obtain ⟨Ao37, co37, eo37⟩ := Kd.R_slice HO131.out
                                subst eo37
                                obtain ⟨Ao38, co38, eo38⟩ := Kd.R_slice HO_6.out
                                subst eo38
                                have q39 : ((ji31) : Int) ≤ ((t129.length : Int) : Int) := of_decide_eq_true (by first | (with_reducible assumption) | assumption)
                                obtain ⟨i039, hi039, _, hsz39, _⟩ := info_parts info27
                                have hroom39 : t129.length ≤ co37 := (Kd.R_reads' HO131.out).2.1
                                have hC39 : Kd.C k27 _ Ao37 t129.length t129 := (Kd.R_reads' HO131.out).2.2
                                have hcut39 := cut_to (P := Tryd.prog) 24 27 .i64 Tryd.underlying24 hi039 Ao37 t129.length co37 (ji31) (of_decide_eq_true (by first | (with_reducible assumption) | assumption)) q39 hroom39
                                have hr39 := Kd.C_take (m := ((ji31) : Int).toNat) hC39 (by omega)
                                have hy39 : y132.length = ((ji31) : Int).toNat := (by rw [Ny132.out, List.length_take]; omega)
                                rw [← Ny132.out] at hr39
                                rw [← hy39] at hcut39
                                have HR135 := Aside0.mk hr39
                                have HC135 := Aside0.mk (show y132.length ≤ co37 from by omega)
                                clear hr39 hC39 hroom39 hi039 hsz39; have KY39 := Aside0.mk hy39; clear hy39
                                have KL39 := Aside0.mk (show ((ji31) : Int).toNat ≤ t129.length from by omega)
                                replace q39 := eq_true q39
                                have q40 : ((ji31) : Int) ≤ ((t122.length : Int) : Int) := of_decide_eq_true (by first | (with_reducible assumption) | assumption)
                                obtain ⟨i040, hi040, _, hsz40, _⟩ := info_parts info27
                                have hroom40 : t122.length ≤ co29 := (Kd.R_reads' HO_5.out).2.1
                                have hC40 : Kd.C k27 _ Ao29 t122.length t122 := (Kd.R_reads' HO_5.out).2.2
                                have hcut40 := cut_to (P := Tryd.prog) 24 27 .i64 Tryd.underlying24 hi040 Ao29 t122.length co29 (ji31) (of_decide_eq_true (by first | (with_reducible assumption) | assumption)) q40 hroom40
                                have hr40 := Kd.C_take (m := ((ji31) : Int).toNat) hC40 (by omega)
                                have hy40 : y136.length = ((ji31) : Int).toNat := (by rw [Ny136.out, List.length_take]; omega)
                                rw [← Ny136.out] at hr40
                                rw [← hy40] at hcut40
                                have HR139 := Aside0.mk hr40
                                have HC139 := Aside0.mk (show y136.length ≤ co29 from by omega)
                                clear hr40 hC40 hroom40 hi040 hsz40; have KY40 := Aside0.mk hy40; clear hy40
                                have KL40 := Aside0.mk (show ((ji31) : Int).toNat ≤ t122.length from by omega)
                                replace q40 := eq_true q40
                                go_wp2_with (first | (go_at_call 12; (with_reducible refine (seicheref11_Same.calls kj13 _ _ y132 _ _ y136 t140 _ ?side1 ?side2 ?side3 ?side4 A36.out).mono ?_); (case side1 => repeat (first | exact (by repeat (first | (with_reducible exact HR135.out) | (with_reducible refine Kd.C_alloc ?_ _) | (with_reducible refine Kd.C_drewN ?_ _) | (with_reducible refine Kd.C_drew ?_) | exact HR135.out)) | (with_reducible refine Kd.C_alloc ?_ _) | (with_reducible refine Kd.C_drewN ?_ _) | (with_reducible refine Kd.C_drew ?_))); (case side2 => exact HC135.out); (case side3 => repeat (first | exact (by repeat (first | (with_reducible exact HR139.out) | (with_reducible refine Kd.C_alloc ?_ _) | (with_reducible refine Kd.C_drewN ?_ _) | (with_reducible refine Kd.C_drew ?_) | exact HR139.out)) | (with_reducible refine Kd.C_alloc ?_ _) | (with_reducible refine Kd.C_drewN ?_ _) | (with_reducible refine Kd.C_drew ?_))); (case side4 => exact HC139.out); rintro e w' ⟨rfl, ⟨nd, rfl⟩⟩; (try first | exact ⟨rfl, _, World.drewN_drewN _ _ _⟩ | exact ⟨rfl, _, Eq.trans (World.drewN_drewN _ _ _) (congrArg (World.drewN _) (Nat.add_assoc _ _ _))⟩)))
                                repeat (go_quiet (first | (go_at_call 12; (with_reducible refine (seicheref11_Same.calls kj13 _ _ y132 _ _ y136 t140 _ ?side1 ?side2 ?side3 ?side4 A36.out).mono ?_); (case side1 => repeat (first | exact (by repeat (first | (with_reducible exact HR135.out) | (with_reducible refine Kd.C_alloc ?_ _) | (with_reducible refine Kd.C_drewN ?_ _) | (with_reducible refine Kd.C_drew ?_) | exact HR135.out)) | (with_reducible refine Kd.C_alloc ?_ _) | (with_reducible refine Kd.C_drewN ?_ _) | (with_reducible refine Kd.C_drew ?_))); (case side2 => exact HC135.out); (case side3 => repeat (first | exact (by repeat (first | (with_reducible exact HR139.out) | (with_reducible refine Kd.C_alloc ?_ _) | (with_reducible refine Kd.C_drewN ?_ _) | (with_reducible refine Kd.C_drew ?_) | exact HR139.out)) | (with_reducible refine Kd.C_alloc ?_ _) | (with_reducible refine Kd.C_drewN ?_ _) | (with_reducible refine Kd.C_drew ?_))); (case side4 => exact HC139.out); rintro e w' ⟨rfl, ⟨nd, rfl⟩⟩; (try first | exact ⟨rfl, _, World.drewN_drewN _ _ _⟩ | exact ⟨rfl, _, Eq.trans (World.drewN_drewN _ _ _) (congrArg (World.drewN _) (Nat.add_assoc _ _ _))⟩))); try go_wp2_with (first | (go_at_call 12; (with_reducible refine (seicheref11_Same.calls kj13 _ _ y132 _ _ y136 t140 _ ?side1 ?side2 ?side3 ?side4 A36.out).mono ?_); (case side1 => repeat (first | exact (by repeat (first | (with_reducible exact HR135.out) | (with_reducible refine Kd.C_alloc ?_ _) | (with_reducible refine Kd.C_drewN ?_ _) | (with_reducible refine Kd.C_drew ?_) | exact HR135.out)) | (with_reducible refine Kd.C_alloc ?_ _) | (with_reducible refine Kd.C_drewN ?_ _) | (with_reducible refine Kd.C_drew ?_))); (case side2 => exact HC135.out); (case side3 => repeat (first | exact (by repeat (first | (with_reducible exact HR139.out) | (with_reducible refine Kd.C_alloc ?_ _) | (with_reducible refine Kd.C_drewN ?_ _) | (with_reducible refine Kd.C_drew ?_) | exact HR139.out)) | (with_reducible refine Kd.C_alloc ?_ _) | (with_reducible refine Kd.C_drewN ?_ _) | (with_reducible refine Kd.C_drew ?_))); (case side4 => exact HC139.out); rintro e w' ⟨rfl, ⟨nd, rfl⟩⟩; (try first | exact ⟨rfl, _, World.drewN_drewN _ _ _⟩ | exact ⟨rfl, _, Eq.trans (World.drewN_drewN _ _ _) (congrArg (World.drewN _) (Nat.add_assoc _ _ _))⟩))))
                                go_meet
                                case rel => exact ⟨_, (!t140), (by first | rfl | (simp; done) | (simp [*]; done)), ⟨by rw [hji31]; exact H'.out⟩, ⟨by have := HJ4.out; have := HJ13.out; first | omega | exact Nat.le_refl _⟩, ⟨by (with_reducible repeat (first | apply Kd.R_alloc | apply Kd.R_drewN | apply Kd.R_drew)); exact Kd.R_mono HO_6.out (fun _ hk => hk.2)⟩, ⟨by (with_reducible repeat (first | apply Kd.R_alloc | apply Kd.R_drewN | apply Kd.R_drew)); exact Kd.R_mono HO131.out (fun _ hk => hk.2)⟩, ⟨by repeat (first | (with_reducible first | exact HB.out | apply below_alloc | apply pw_below_drewN | apply below_drew1) | exact HB.out)⟩⟩
                              · rw [if_neg c35] at H
                                exact absurd H (by simp)
                            · rw [if_neg c33] at H
                              exact absurd H (by simp)
                          · rw [if_neg c32] at H
                            exact absurd H (by simp)
                        · rw [if_neg c30] at H
                          have c30b0 : ((t129.length : Int) == (wrap64 ((wrap64 ((t122.length : Int) - 1)) + (t125.length : Int)))) = false := beq_eq_false_iff_ne.mpr c30
                          have c30b1 : ((t129.length : Int) != (wrap64 ((wrap64 ((t122.length : Int) - 1)) + (t125.length : Int)))) = true := bne_iff_ne.mpr c30
                          (first | rw [c30b0] | (simp only [i64_w, i32_w]; rw [c30b0]) | skip)
                          have H' := Aside0.mk H
                          clear H
                          obtain ⟨Ao41, co41, eo41⟩ := Kd.R_slice HO131.out
                          subst eo41
                          obtain ⟨Ao42, co42, eo42⟩ := Kd.R_slice HO_6.out
                          subst eo42
                          go_wp2
                          repeat (go_quiet (fail); try go_wp2)
                          go_meet
                          case rel => exact ⟨_, (true), (by first | rfl | (simp; done) | (simp [*]; done)), H', ⟨by have := HJ4.out; have := HJ13.out; first | omega | exact Nat.le_refl _⟩, ⟨by (with_reducible repeat (first | apply Kd.R_alloc | apply Kd.R_drewN | apply Kd.R_drew)); exact Kd.R_mono HO_6.out (fun _ hk => hk.2)⟩, ⟨by (with_reducible repeat (first | apply Kd.R_alloc | apply Kd.R_drewN | apply Kd.R_drew)); exact Kd.R_mono HO131.out (fun _ hk => hk.2)⟩, ⟨by repeat (first | (with_reducible first | exact HB.out | apply below_alloc | apply pw_below_drewN | apply below_drew1) | exact HB.out)⟩⟩
                      case rest =>
                        clear HC27; (try clear c1); (try clear p1); (try clear q1); (try clear hx1); (try clear c2); (try clear p2); (try clear c3); (try clear q3); (try clear c4); (try clear q4); (try clear p6); (try clear c7); (try clear c7b0); (try clear c7b1); (try clear c8); (try clear c8b0); (try clear c8b1); (try clear c10); (try clear c11); (try clear c11b0); (try clear c11b1); (try clear c11b2); (try clear p12); (try clear q12); (try clear hx12); (try clear c17); (try clear c17b0); (try clear c17b1); (try clear c17b2); (try clear c20); (try clear c20b0); (try clear c21); (try clear c21b0); (try clear c23); (try clear c24); (try clear c24b0); (try clear c24b1)
                        (try clear c24b2); (try clear c25); (try clear c25b0); (try clear c25b1); (try clear c25b2); (try clear c30); (try clear c30b0); (try clear c30b1); (try clear c32); (try clear c32b0); (try clear c32b1); (try clear c33); (try clear c33b0); (try clear c33b1); (try clear c34); (try clear c34b0); (try clear c35); (try clear c35b0); (try clear c35b1); (try clear q39); (try clear q40); (try clear hx128_0); (try clear hx128_1); (try clear hx128_2); (try clear p1); (try clear p12); (try clear p128); (try clear p2); (try clear p6); (try clear q1); (try clear q12); (try clear q128); (try clear q39); (try clear q40); obtain ⟨kq, x68_26, rfl, HA, HJ26, HO_6, HO_7, HB⟩ := hcut
                        cases kq with
                        | zero => exact absurd HA.out (by simp [seichelaw11_GolexParts.j2])
                        | succ kj26 =>
                          have H := HA.out
                          clear HA
                          simp only [seichelaw11_GolexParts.j2] at H
                          by_cases c43 : x68_26 = true
                          · subst c43
                            have H1 : (some false) = some r := by rw [if_pos rfl] at H; exact H
                            clear H
                            have H := H1
                            clear H1
                            obtain rfl := Option.some.inj H
                            go_wp2
                            repeat (go_quiet (fail); try go_wp2)
                            go_ret
                            exact ⟨by first | rfl | (simp [errW_none, errW_some] <;> rfl) | (simp [*, errW_none, errW_some] <;> rfl), by repeat (first | (with_reducible first | exact HB.out | apply below_alloc | apply pw_below_drewN | apply below_drew1) | exact HB.out)⟩
                          · replace c43 := Bool.eq_false_iff.mpr c43
                            subst c43
                            have H1 : (seichelaw11_GolexParts.l0 kj26 a0 t129 (wrap64 ((t122.length : Int) - 1)) t125 (t125.length : Int) 0) = some r := by rw [if_neg (show ¬ (false = true) by decide)] at H; exact H
                            clear H
                            have H := H1
                            clear H1
                            have H' := Aside0.mk H
                            clear H
                            obtain ⟨Ao44, co44, eo44⟩ := Kd.R_slice HO_6.out
                            subst eo44
                            go_wp2
                            repeat (go_quiet (fail); try go_wp2)
                            go_loopg [71] kj26 (fun kq v71 w' => ∃ (x71_4 : Int), v71 = .int .i64 x71_4 ∧ Aside0 (seichelaw11_GolexParts.l0 kq a0 t129 (wrap64 ((t122.length : Int) - 1)) t125 (t125.length : Int) x71_4 = some r) ∧ Aside0 (kq ≤ kj26) ∧ Aside0 (Kd.R k27 27 w' w.heap.size (fun k_ => some k_ ≠ ((.slice Ao44 t125.length co44) : Value).ownBlock) v130 t129) ∧ Aside0 (Kd.R k27 27 w' w.heap.size (fun k_ => some k_ ≠ (v130 : Value).ownBlock) (.slice Ao44 t125.length co44) t125) ∧ Aside0 (Below w.heap.size w w'))
                            case atStart => exact ⟨(0), (by first | rfl | (simp; done) | (simp [*]; done)), H', ⟨Nat.le_refl _⟩, ⟨by (with_reducible repeat (first | apply Kd.R_alloc | apply Kd.R_drewN | apply Kd.R_drew)); exact HO_7.out⟩, ⟨by (with_reducible repeat (first | apply Kd.R_alloc | apply Kd.R_drewN | apply Kd.R_drew)); exact HO_6.out⟩, ⟨by repeat (first | (with_reducible first | exact HB.out | apply below_alloc | apply pw_below_drewN | apply below_drew1) | exact HB.out)⟩⟩
                            case round =>
                              clear H'
                              (try clear c1); (try clear p1); (try clear q1); (try clear hx1); (try clear c2); (try clear p2); (try clear c3); (try clear q3); (try clear c4); (try clear q4); (try clear p6); (try clear c7); (try clear c7b0); (try clear c7b1); (try clear c8); (try clear c8b0); (try clear c8b1); (try clear c10); (try clear c11); (try clear c11b0); (try clear c11b1); (try clear c11b2); (try clear p12); (try clear q12); (try clear hx12); (try clear c17); (try clear c17b0); (try clear c17b1); (try clear c17b2); (try clear c20); (try clear c20b0); (try clear c21); (try clear c21b0); (try clear c23); (try clear c24); (try clear c24b0); (try clear c24b1); (try clear c24b2)
                              (try clear c25); (try clear c25b0); (try clear c25b1); (try clear c25b2); (try clear c30); (try clear c30b0); (try clear c30b1); (try clear c32); (try clear c32b0); (try clear c32b1); (try clear c33); (try clear c33b0); (try clear c33b1); (try clear c34); (try clear c34b0); (try clear c35); (try clear c35b0); (try clear c35b1); (try clear q39); (try clear q40); (try clear c43); (try clear hx128_0); (try clear hx128_1); (try clear hx128_2); (try clear p1); (try clear p12); (try clear p128); (try clear p2); (try clear p6); (try clear q1); (try clear q12); (try clear q128); (try clear q3); (try clear q39); (try clear q4); (try clear q40)
                              obtain ⟨x71_4, rfl, HA, HK4, HO_7, HO_69, HB⟩ := hrel
                              cases gk with
                              | zero => exact absurd HA.out (by simp [seichelaw11_GolexParts.l0])
                              | succ k4 =>
                                have H := HA.out
                                clear HA
                                simp only [seichelaw11_GolexParts.l0] at H
                                by_cases c45 : x71_4 < (t125.length : Int)
                                · rw [if_pos c45] at H
                                  have c45b0 : decide (x71_4 < (t125.length : Int)) = true := decide_eq_true c45
                                  clear c45
                                  by_cases c46 : 0 ≤ x71_4
                                  · rw [if_pos c46] at H
                                    have c46b0 : decide (0 ≤ x71_4) = true := decide_eq_true c46
                                    clear c46
                                    by_cases c47 : x71_4 < (t125.length : Int)
                                    · rw [if_pos c47] at H
                                      have c47b0 : decide (x71_4 < (t125.length : Int)) = true := decide_eq_true c47
                                      clear c47
                                      obtain ⟨ji48, hji48⟩ : ∃ j_ : Int, (wrap64 ((wrap64 ((t122.length : Int) - 1)) + x71_4)) = j_ := ⟨_, rfl⟩
                                      replace H : (if 0 ≤ (ji48) then (if (ji48) < (t129.length : Int) then (if (!(((rd_T27 t129 (ji48)).f0) == ((rd_T27 t125 x71_4).f0)) || (!((((rd_T27 t129 (ji48)).f1).toList) == (((rd_T27 t125 x71_4).f1).toList)) || (!(((rd_T27 t129 (ji48)).f2) == (wrap64 (((rd_T27 t125 x71_4).f2) + (wrap64 ((a0.size : Int) + 1)))))))) = true then (some false) else (seichelaw11_GolexParts.l0 k4 a0 t129 (wrap64 ((t122.length : Int) - 1)) t125 (t125.length : Int) (wrap64 (x71_4 + 1)))) else (none)) else (none)) = some r := by first | (rw [hji48] at H; exact H) | (simp only [hji48] at H ⊢; exact H)
                                      have hji48w : (IntKind.i64.wrap ((wrap64 ((t122.length : Int) - 1)) + x71_4)) = ji48 := (i64_w _).trans hji48
                                      by_cases c49 : 0 ≤ (ji48)
                                      · rw [if_pos c49] at H
                                        have c49b0 : decide (0 ≤ (ji48)) = true := decide_eq_true c49
                                        clear c49
                                        by_cases c50 : (ji48) < (t129.length : Int)
                                        · rw [if_pos c50] at H
                                          have c50b0 : decide ((ji48) < (t129.length : Int)) = true := decide_eq_true c50
                                          clear c50
                                          by_cases c51 : (!(((rd_T27 t129 (ji48)).f0) == ((rd_T27 t125 x71_4).f0)) || (!((((rd_T27 t129 (ji48)).f1).toList) == (((rd_T27 t125 x71_4).f1).toList)) || (!(((rd_T27 t129 (ji48)).f2) == (wrap64 (((rd_T27 t125 x71_4).f2) + (wrap64 ((a0.size : Int) + 1)))))))) = true
                                          · rw [if_pos c51] at H
                                            have c51b0 : (!(((rd_T27 t129 (ji48)).f0) == ((rd_T27 t125 x71_4).f0)) || (!((((rd_T27 t129 (ji48)).f1).toList) == (((rd_T27 t125 x71_4).f1).toList)) || (!(((rd_T27 t129 (ji48)).f2) == (wrap64 (((rd_T27 t125 x71_4).f2) + (wrap64 ((a0.size : Int) + 1)))))))) = true := c51
                                            clear c51
                                            obtain rfl := Option.some.inj H
                                            have p141 : 0 ≤ (x71_4 : Int) := of_decide_eq_true (by first | (with_reducible assumption) | assumption)
                                            have q141 : x71_4 < (t125.length : Int) := of_decide_eq_true (by first | (with_reducible assumption) | assumption)
                                            obtain ⟨ad141, e141, hx141_0, hx141_1, hx141_2⟩ := at_T27 (Kd.R_reads' HO_69.out).2.2 x71_4 p141 q141
                                            cases e141
                                            replace p141 := eq_true p141; replace q141 := eq_true q141
                                            go_upto_region 16 with (first | ((with_reducible refine gate_dst (N := 10) rfl ?_); (try (refine gate_guard (by rfl) ?_; dsimp only)); refine box_event ?hg (N := 10) ?hd (cs := #[.int .i64 0, .string (⟨#[]⟩ : ByteArray), .int .i64 0]) (t := 27) ?hr ?_; (case hd => rfl); (case hg => rfl); (case hr => first | (go_simp; done) | (go_simp; rfl)); intro gb142 hg w52 hbox hb; have n0_ := Aside0.mk (Kd.R_below (Kd.R_elderB (by (with_reducible repeat (first | apply Kd.R_alloc | apply Kd.R_drewN | apply Kd.R_drew)); exact HO_7.out) gb142 (Nat.le_of_eq hg.symm)) hb); have n1_ := Aside0.mk (Kd.R_below (Kd.R_elderB (by (with_reducible repeat (first | apply Kd.R_alloc | apply Kd.R_drewN | apply Kd.R_drew)); exact HO_69.out) gb142 (Nat.le_of_eq hg.symm)) hb); have n2_ := Aside0.mk (below_step (by repeat (first | (with_reducible first | exact HB.out | apply below_alloc | apply pw_below_drewN | apply below_drew1) | exact HB.out)) hb); have n3_ := Aside0.mk (hbox); have n4_ := Aside0.mk ((by rw [hg]; exact (below_size (by repeat (first | (with_reducible first | exact HB.out | apply below_alloc | apply pw_below_drewN | apply below_drew1) | exact HB.out))) : w.heap.size ≤ gb142)); have n5_ := Aside0.mk ((by rw [hg]; exact (below_size (by repeat (first | (with_reducible first | exact HB.out | apply below_alloc | apply pw_below_drewN | apply below_drew1) | exact HB.out))) : w.heap.size ≤ gb142)); clear HO_7; clear HO_69; clear HB; have HO_7 := n0_; have HO_69 := n1_; have HB := n2_; have BK142 := n3_; have GW142 := n4_; have GE142 := n5_; clear n0_ n1_ n2_ n3_ n4_ n5_; clear hb hbox hg; have hcz53_0 : w52.cell? ⟨gb142, 0, none⟩ = some (.int .i64 0) := (blk_cell BK142.out 0).trans rfl; have hcz53_1 : w52.cell? ⟨gb142, 1, none⟩ = some (.string (⟨#[]⟩ : ByteArray)) := (blk_cell BK142.out 1).trans rfl; have hcz53_2 : w52.cell? ⟨gb142, 2, none⟩ = some (.int .i64 0) := (blk_cell BK142.out 2).trans rfl; have hfz53_0 := blk_frozen BK142.out 0; have hfz53_1 := blk_frozen BK142.out 1; have hfz53_2 := blk_frozen BK142.out 2; obtain ⟨Ao54, co54, eo54⟩ := Kd.R_slice HO_7.out; subst eo54; have p143 : 0 ≤ ((ji48) : Int) := of_decide_eq_true (by first | (with_reducible assumption) | assumption); have q143 : (ji48) < (t129.length : Int) := of_decide_eq_true (by first | (with_reducible assumption) | assumption); obtain ⟨ad143, e143, hx143_0, hx143_1, hx143_2⟩ := at_T27 (Kd.R_reads' HO_7.out).2.2 (ji48) p143 q143; cases e143; have hn143_0 : ad143.block ≠ gb142 := Kd.own_blk (Kd.R_away HO_7.out (fun _ hk => hk.2)); have hn143_1 : ad143.block ≠ gb142 := Kd.own_blk (Kd.R_away HO_7.out (fun _ hk => hk.2)); have hn143_2 : ad143.block ≠ gb142 := Kd.own_blk (Kd.R_away HO_7.out (fun _ hk => hk.2)); have hn143_3 : ad143.block ≠ gb142 := Kd.own_blk (Kd.R_away HO_7.out (fun _ hk => hk.2)); replace hx143_0 := (cell_far (p := ⟨gb142, 0, none⟩) (by first | (rw [add_block]; exact hn143_0) | (show (Addr.add _ _).block ≠ _; rw [add_block]; exact hn143_0) | exact hn143_0) (.int .i64 ((rd_T27 t125 x71_4).f0))).trans hx143_0; replace hx143_1 := (cell_far (p := ⟨gb142, 0, none⟩) (by first | (rw [add_block]; exact hn143_0) | (show (Addr.add _ _).block ≠ _; rw [add_block]; exact hn143_0) | exact hn143_0) (.int .i64 ((rd_T27 t125 x71_4).f0))).trans hx143_1; replace hx143_2 := (cell_far (p := ⟨gb142, 0, none⟩) (by first | (rw [add_block]; exact hn143_0) | (show (Addr.add _ _).block ≠ _; rw [add_block]; exact hn143_0) | exact hn143_0) (.int .i64 ((rd_T27 t125 x71_4).f0))).trans hx143_2; replace hx143_0 := (cell_far (p := ⟨gb142, 1, none⟩) (by first | (rw [add_block]; exact hn143_1) | (show (Addr.add _ _).block ≠ _; rw [add_block]; exact hn143_1) | exact hn143_1) (.string ((rd_T27 t125 x71_4).f1))).trans hx143_0; replace hx143_1 := (cell_far (p := ⟨gb142, 1, none⟩) (by first | (rw [add_block]; exact hn143_1) | (show (Addr.add _ _).block ≠ _; rw [add_block]; exact hn143_1) | exact hn143_1) (.string ((rd_T27 t125 x71_4).f1))).trans hx143_1; replace hx143_2 := (cell_far (p := ⟨gb142, 1, none⟩) (by first | (rw [add_block]; exact hn143_1) | (show (Addr.add _ _).block ≠ _; rw [add_block]; exact hn143_1) | exact hn143_1) (.string ((rd_T27 t125 x71_4).f1))).trans hx143_2; replace hx143_0 := (cell_far (p := ⟨gb142, 2, none⟩) (by first | (rw [add_block]; exact hn143_2) | (show (Addr.add _ _).block ≠ _; rw [add_block]; exact hn143_2) | exact hn143_2) (.int .i64 ((rd_T27 t125 x71_4).f2))).trans hx143_0; replace hx143_1 := (cell_far (p := ⟨gb142, 2, none⟩) (by first | (rw [add_block]; exact hn143_2) | (show (Addr.add _ _).block ≠ _; rw [add_block]; exact hn143_2) | exact hn143_2) (.int .i64 ((rd_T27 t125 x71_4).f2))).trans hx143_1; replace hx143_2 := (cell_far (p := ⟨gb142, 2, none⟩) (by first | (rw [add_block]; exact hn143_2) | (show (Addr.add _ _).block ≠ _; rw [add_block]; exact hn143_2) | exact hn143_2) (.int .i64 ((rd_T27 t125 x71_4).f2))).trans hx143_2; replace hx143_0 := (cell_far (p := ⟨gb142, 2, none⟩) (by first | (rw [add_block]; exact hn143_3) | (show (Addr.add _ _).block ≠ _; rw [add_block]; exact hn143_3) | exact hn143_3) (.int .i64 (wrap64 (((rd_T27 t125 x71_4).f2) + (wrap64 ((a0.size : Int) + 1)))))).trans hx143_0; replace hx143_1 := (cell_far (p := ⟨gb142, 2, none⟩) (by first | (rw [add_block]; exact hn143_3) | (show (Addr.add _ _).block ≠ _; rw [add_block]; exact hn143_3) | exact hn143_3) (.int .i64 (wrap64 (((rd_T27 t125 x71_4).f2) + (wrap64 ((a0.size : Int) + 1)))))).trans hx143_1; replace hx143_2 := (cell_far (p := ⟨gb142, 2, none⟩) (by first | (rw [add_block]; exact hn143_3) | (show (Addr.add _ _).block ≠ _; rw [add_block]; exact hn143_3) | exact hn143_3) (.int .i64 (wrap64 (((rd_T27 t125 x71_4).f2) + (wrap64 ((a0.size : Int) + 1)))))).trans hx143_2; clear hn143_0; clear hn143_1; clear hn143_2; clear hn143_3; replace p143 := eq_true p143; replace q143 := eq_true q143))
                                            have hbs_ := blk_put (blk_put (blk_put (blk_put BK142.out 0 (.int .i64 ((rd_T27 t125 x71_4).f0)) rfl) 1 (.string ((rd_T27 t125 x71_4).f1)) rfl) 2 (.int .i64 ((rd_T27 t125 x71_4).f2)) rfl) 2 (.int .i64 (wrap64 (((rd_T27 t125 x71_4).f2) + (wrap64 ((a0.size : Int) + 1))))) rfl
                                            have hbs0_ : ((((w52.setCell ⟨gb142, 0, none⟩ (.int .i64 ((rd_T27 t125 x71_4).f0))).setCell ⟨gb142, 1, none⟩ (.string ((rd_T27 t125 x71_4).f1))).setCell ⟨gb142, 2, none⟩ (.int .i64 ((rd_T27 t125 x71_4).f2))).setCell ⟨gb142, 2, none⟩ (.int .i64 (wrap64 (((rd_T27 t125 x71_4).f2) + (wrap64 ((a0.size : Int) + 1)))))).cell? ⟨gb142, 0, none⟩ = some (.int .i64 ((rd_T27 t125 x71_4).f0)) := (blk_cell hbs_ 0).trans rfl
                                            have hbs1_ : ((((w52.setCell ⟨gb142, 0, none⟩ (.int .i64 ((rd_T27 t125 x71_4).f0))).setCell ⟨gb142, 1, none⟩ (.string ((rd_T27 t125 x71_4).f1))).setCell ⟨gb142, 2, none⟩ (.int .i64 ((rd_T27 t125 x71_4).f2))).setCell ⟨gb142, 2, none⟩ (.int .i64 (wrap64 (((rd_T27 t125 x71_4).f2) + (wrap64 ((a0.size : Int) + 1)))))).cell? ⟨gb142, 1, none⟩ = some (.string ((rd_T27 t125 x71_4).f1)) := (blk_cell hbs_ 1).trans rfl
                                            have hbs2_ : ((((w52.setCell ⟨gb142, 0, none⟩ (.int .i64 ((rd_T27 t125 x71_4).f0))).setCell ⟨gb142, 1, none⟩ (.string ((rd_T27 t125 x71_4).f1))).setCell ⟨gb142, 2, none⟩ (.int .i64 ((rd_T27 t125 x71_4).f2))).setCell ⟨gb142, 2, none⟩ (.int .i64 (wrap64 (((rd_T27 t125 x71_4).f2) + (wrap64 ((a0.size : Int) + 1)))))).cell? ⟨gb142, 2, none⟩ = some (.int .i64 (wrap64 (((rd_T27 t125 x71_4).f2) + (wrap64 ((a0.size : Int) + 1))))) := (blk_cell hbs_ 2).trans rfl
                                            have HB9 : Below w.heap.size w ((((w52.setCell ⟨gb142, 0, none⟩ (.int .i64 ((rd_T27 t125 x71_4).f0))).setCell ⟨gb142, 1, none⟩ (.string ((rd_T27 t125 x71_4).f1))).setCell ⟨gb142, 2, none⟩ (.int .i64 ((rd_T27 t125 x71_4).f2))).setCell ⟨gb142, 2, none⟩ (.int .i64 (wrap64 (((rd_T27 t125 x71_4).f2) + (wrap64 ((a0.size : Int) + 1)))))) := by repeat (first | (with_reducible first | exact HB.out | apply below_alloc | apply pw_below_drewN | apply below_drew1 | refine below_set ?_ GE142.out) | exact HB.out)
                                            have HO7_9 := Kd.R_mono (Kd.R_far (p := ⟨gb142, 2, none⟩) (Kd.R_far (p := ⟨gb142, 2, none⟩) (Kd.R_far (p := ⟨gb142, 1, none⟩) (Kd.R_far (p := ⟨gb142, 0, none⟩) (Kd.R_mono HO_7.out (fun k_ hk => (⟨hk, hk.2⟩ : _ ∧ k_ ≠ gb142))) (fun _ hk => hk.2) (.int .i64 ((rd_T27 t125 x71_4).f0))) (fun _ hk => hk.2) (.string ((rd_T27 t125 x71_4).f1))) (fun _ hk => hk.2) (.int .i64 ((rd_T27 t125 x71_4).f2))) (fun _ hk => hk.2) (.int .i64 (wrap64 (((rd_T27 t125 x71_4).f2) + (wrap64 ((a0.size : Int) + 1)))))) (fun _ hk => hk.1.1)
                                            have HO69_9 := Kd.R_mono (Kd.R_far (p := ⟨gb142, 2, none⟩) (Kd.R_far (p := ⟨gb142, 2, none⟩) (Kd.R_far (p := ⟨gb142, 1, none⟩) (Kd.R_far (p := ⟨gb142, 0, none⟩) (Kd.R_mono HO_69.out (fun k_ hk => (⟨hk, hk.2⟩ : _ ∧ k_ ≠ gb142))) (fun _ hk => hk.2) (.int .i64 ((rd_T27 t125 x71_4).f0))) (fun _ hk => hk.2) (.string ((rd_T27 t125 x71_4).f1))) (fun _ hk => hk.2) (.int .i64 ((rd_T27 t125 x71_4).f2))) (fun _ hk => hk.2) (.int .i64 (wrap64 (((rd_T27 t125 x71_4).f2) + (wrap64 ((a0.size : Int) + 1)))))) (fun _ hk => hk.1.1)
                                            clear hbs_ HB HO_7 HO_69
                                            generalize ((((w52.setCell ⟨gb142, 0, none⟩ (.int .i64 ((rd_T27 t125 x71_4).f0))).setCell ⟨gb142, 1, none⟩ (.string ((rd_T27 t125 x71_4).f1))).setCell ⟨gb142, 2, none⟩ (.int .i64 ((rd_T27 t125 x71_4).f2))).setCell ⟨gb142, 2, none⟩ (.int .i64 (wrap64 (((rd_T27 t125 x71_4).f2) + (wrap64 ((a0.size : Int) + 1)))))) = W9 at hbs0_ hbs1_ hbs2_ HB9 HO7_9 HO69_9 hx143_0 hx143_1 hx143_2 ⊢
                                            have HB := Aside0.mk HB9
                                            have HO_7 := Aside0.mk HO7_9
                                            have HO_69 := Aside0.mk HO69_9
                                            clear HB9 HO7_9 HO69_9
                                            go_wp2
                                            repeat (go_quiet (fail); try go_wp2)
                                            go_ret
                                            exact ⟨by first | rfl | (simp [errW_none, errW_some] <;> rfl) | (simp only [← hji48]; first | rfl | (simp [errW_none, errW_some] <;> rfl)) | (simp [*, errW_none, errW_some] <;> rfl), by repeat (first | (with_reducible first | exact HB.out | apply below_alloc | apply pw_below_drewN | apply below_drew1 | refine below_set ?_ GE142.out) | exact HB.out)⟩
                                          · rw [if_neg c51] at H
                                            have c51b0 : (!(((rd_T27 t129 (ji48)).f0) == ((rd_T27 t125 x71_4).f0)) || (!((((rd_T27 t129 (ji48)).f1).toList) == (((rd_T27 t125 x71_4).f1).toList)) || (!(((rd_T27 t129 (ji48)).f2) == (wrap64 (((rd_T27 t125 x71_4).f2) + (wrap64 ((a0.size : Int) + 1)))))))) = false := by simpa using c51
                                            clear c51
                                            have H' := Aside0.mk H
                                            clear H
                                            have p141 : 0 ≤ (x71_4 : Int) := of_decide_eq_true (by first | (with_reducible assumption) | assumption)
                                            have q141 : x71_4 < (t125.length : Int) := of_decide_eq_true (by first | (with_reducible assumption) | assumption)
                                            obtain ⟨ad141, e141, hx141_0, hx141_1, hx141_2⟩ := at_T27 (Kd.R_reads' HO_69.out).2.2 x71_4 p141 q141
                                            cases e141
                                            replace p141 := eq_true p141; replace q141 := eq_true q141
                                            go_upto_region 16 with (first | ((with_reducible refine gate_dst (N := 10) rfl ?_); (try (refine gate_guard (by rfl) ?_; dsimp only)); refine box_event ?hg (N := 10) ?hd (cs := #[.int .i64 0, .string (⟨#[]⟩ : ByteArray), .int .i64 0]) (t := 27) ?hr ?_; (case hd => rfl); (case hg => rfl); (case hr => first | (go_simp; done) | (go_simp; rfl)); intro gb142 hg w55 hbox hb; have n0_ := Aside0.mk (Kd.R_below (Kd.R_elderB (by (with_reducible repeat (first | apply Kd.R_alloc | apply Kd.R_drewN | apply Kd.R_drew)); exact HO_7.out) gb142 (Nat.le_of_eq hg.symm)) hb); have n1_ := Aside0.mk (Kd.R_below (Kd.R_elderB (by (with_reducible repeat (first | apply Kd.R_alloc | apply Kd.R_drewN | apply Kd.R_drew)); exact HO_69.out) gb142 (Nat.le_of_eq hg.symm)) hb); have n2_ := Aside0.mk (below_step (by repeat (first | (with_reducible first | exact HB.out | apply below_alloc | apply pw_below_drewN | apply below_drew1) | exact HB.out)) hb); have n3_ := Aside0.mk (hbox); have n4_ := Aside0.mk ((by rw [hg]; exact (below_size (by repeat (first | (with_reducible first | exact HB.out | apply below_alloc | apply pw_below_drewN | apply below_drew1) | exact HB.out))) : w.heap.size ≤ gb142)); have n5_ := Aside0.mk ((by rw [hg]; exact (below_size (by repeat (first | (with_reducible first | exact HB.out | apply below_alloc | apply pw_below_drewN | apply below_drew1) | exact HB.out))) : w.heap.size ≤ gb142)); clear HO_7; clear HO_69; clear HB; have HO_7 := n0_; have HO_69 := n1_; have HB := n2_; have BK142 := n3_; have GW142 := n4_; have GE142 := n5_; clear n0_ n1_ n2_ n3_ n4_ n5_; clear hb hbox hg; have hcz56_0 : w55.cell? ⟨gb142, 0, none⟩ = some (.int .i64 0) := (blk_cell BK142.out 0).trans rfl; have hcz56_1 : w55.cell? ⟨gb142, 1, none⟩ = some (.string (⟨#[]⟩ : ByteArray)) := (blk_cell BK142.out 1).trans rfl; have hcz56_2 : w55.cell? ⟨gb142, 2, none⟩ = some (.int .i64 0) := (blk_cell BK142.out 2).trans rfl; have hfz56_0 := blk_frozen BK142.out 0; have hfz56_1 := blk_frozen BK142.out 1; have hfz56_2 := blk_frozen BK142.out 2; obtain ⟨Ao57, co57, eo57⟩ := Kd.R_slice HO_7.out; subst eo57; have p143 : 0 ≤ ((ji48) : Int) := of_decide_eq_true (by first | (with_reducible assumption) | assumption); have q143 : (ji48) < (t129.length : Int) := of_decide_eq_true (by first | (with_reducible assumption) | assumption); obtain ⟨ad143, e143, hx143_0, hx143_1, hx143_2⟩ := at_T27 (Kd.R_reads' HO_7.out).2.2 (ji48) p143 q143; cases e143; have hn143_0 : ad143.block ≠ gb142 := Kd.own_blk (Kd.R_away HO_7.out (fun _ hk => hk.2)); have hn143_1 : ad143.block ≠ gb142 := Kd.own_blk (Kd.R_away HO_7.out (fun _ hk => hk.2)); have hn143_2 : ad143.block ≠ gb142 := Kd.own_blk (Kd.R_away HO_7.out (fun _ hk => hk.2)); have hn143_3 : ad143.block ≠ gb142 := Kd.own_blk (Kd.R_away HO_7.out (fun _ hk => hk.2)); replace hx143_0 := (cell_far (p := ⟨gb142, 0, none⟩) (by first | (rw [add_block]; exact hn143_0) | (show (Addr.add _ _).block ≠ _; rw [add_block]; exact hn143_0) | exact hn143_0) (.int .i64 ((rd_T27 t125 x71_4).f0))).trans hx143_0; replace hx143_1 := (cell_far (p := ⟨gb142, 0, none⟩) (by first | (rw [add_block]; exact hn143_0) | (show (Addr.add _ _).block ≠ _; rw [add_block]; exact hn143_0) | exact hn143_0) (.int .i64 ((rd_T27 t125 x71_4).f0))).trans hx143_1; replace hx143_2 := (cell_far (p := ⟨gb142, 0, none⟩) (by first | (rw [add_block]; exact hn143_0) | (show (Addr.add _ _).block ≠ _; rw [add_block]; exact hn143_0) | exact hn143_0) (.int .i64 ((rd_T27 t125 x71_4).f0))).trans hx143_2; replace hx143_0 := (cell_far (p := ⟨gb142, 1, none⟩) (by first | (rw [add_block]; exact hn143_1) | (show (Addr.add _ _).block ≠ _; rw [add_block]; exact hn143_1) | exact hn143_1) (.string ((rd_T27 t125 x71_4).f1))).trans hx143_0; replace hx143_1 := (cell_far (p := ⟨gb142, 1, none⟩) (by first | (rw [add_block]; exact hn143_1) | (show (Addr.add _ _).block ≠ _; rw [add_block]; exact hn143_1) | exact hn143_1) (.string ((rd_T27 t125 x71_4).f1))).trans hx143_1; replace hx143_2 := (cell_far (p := ⟨gb142, 1, none⟩) (by first | (rw [add_block]; exact hn143_1) | (show (Addr.add _ _).block ≠ _; rw [add_block]; exact hn143_1) | exact hn143_1) (.string ((rd_T27 t125 x71_4).f1))).trans hx143_2; replace hx143_0 := (cell_far (p := ⟨gb142, 2, none⟩) (by first | (rw [add_block]; exact hn143_2) | (show (Addr.add _ _).block ≠ _; rw [add_block]; exact hn143_2) | exact hn143_2) (.int .i64 ((rd_T27 t125 x71_4).f2))).trans hx143_0; replace hx143_1 := (cell_far (p := ⟨gb142, 2, none⟩) (by first | (rw [add_block]; exact hn143_2) | (show (Addr.add _ _).block ≠ _; rw [add_block]; exact hn143_2) | exact hn143_2) (.int .i64 ((rd_T27 t125 x71_4).f2))).trans hx143_1; replace hx143_2 := (cell_far (p := ⟨gb142, 2, none⟩) (by first | (rw [add_block]; exact hn143_2) | (show (Addr.add _ _).block ≠ _; rw [add_block]; exact hn143_2) | exact hn143_2) (.int .i64 ((rd_T27 t125 x71_4).f2))).trans hx143_2; replace hx143_0 := (cell_far (p := ⟨gb142, 2, none⟩) (by first | (rw [add_block]; exact hn143_3) | (show (Addr.add _ _).block ≠ _; rw [add_block]; exact hn143_3) | exact hn143_3) (.int .i64 (wrap64 (((rd_T27 t125 x71_4).f2) + (wrap64 ((a0.size : Int) + 1)))))).trans hx143_0; replace hx143_1 := (cell_far (p := ⟨gb142, 2, none⟩) (by first | (rw [add_block]; exact hn143_3) | (show (Addr.add _ _).block ≠ _; rw [add_block]; exact hn143_3) | exact hn143_3) (.int .i64 (wrap64 (((rd_T27 t125 x71_4).f2) + (wrap64 ((a0.size : Int) + 1)))))).trans hx143_1; replace hx143_2 := (cell_far (p := ⟨gb142, 2, none⟩) (by first | (rw [add_block]; exact hn143_3) | (show (Addr.add _ _).block ≠ _; rw [add_block]; exact hn143_3) | exact hn143_3) (.int .i64 (wrap64 (((rd_T27 t125 x71_4).f2) + (wrap64 ((a0.size : Int) + 1)))))).trans hx143_2; clear hn143_0; clear hn143_1; clear hn143_2; clear hn143_3; replace p143 := eq_true p143; replace q143 := eq_true q143))
                                            have hbs_ := blk_put (blk_put (blk_put (blk_put BK142.out 0 (.int .i64 ((rd_T27 t125 x71_4).f0)) rfl) 1 (.string ((rd_T27 t125 x71_4).f1)) rfl) 2 (.int .i64 ((rd_T27 t125 x71_4).f2)) rfl) 2 (.int .i64 (wrap64 (((rd_T27 t125 x71_4).f2) + (wrap64 ((a0.size : Int) + 1))))) rfl
                                            have hbs0_ : ((((w55.setCell ⟨gb142, 0, none⟩ (.int .i64 ((rd_T27 t125 x71_4).f0))).setCell ⟨gb142, 1, none⟩ (.string ((rd_T27 t125 x71_4).f1))).setCell ⟨gb142, 2, none⟩ (.int .i64 ((rd_T27 t125 x71_4).f2))).setCell ⟨gb142, 2, none⟩ (.int .i64 (wrap64 (((rd_T27 t125 x71_4).f2) + (wrap64 ((a0.size : Int) + 1)))))).cell? ⟨gb142, 0, none⟩ = some (.int .i64 ((rd_T27 t125 x71_4).f0)) := (blk_cell hbs_ 0).trans rfl
                                            have hbs1_ : ((((w55.setCell ⟨gb142, 0, none⟩ (.int .i64 ((rd_T27 t125 x71_4).f0))).setCell ⟨gb142, 1, none⟩ (.string ((rd_T27 t125 x71_4).f1))).setCell ⟨gb142, 2, none⟩ (.int .i64 ((rd_T27 t125 x71_4).f2))).setCell ⟨gb142, 2, none⟩ (.int .i64 (wrap64 (((rd_T27 t125 x71_4).f2) + (wrap64 ((a0.size : Int) + 1)))))).cell? ⟨gb142, 1, none⟩ = some (.string ((rd_T27 t125 x71_4).f1)) := (blk_cell hbs_ 1).trans rfl
                                            have hbs2_ : ((((w55.setCell ⟨gb142, 0, none⟩ (.int .i64 ((rd_T27 t125 x71_4).f0))).setCell ⟨gb142, 1, none⟩ (.string ((rd_T27 t125 x71_4).f1))).setCell ⟨gb142, 2, none⟩ (.int .i64 ((rd_T27 t125 x71_4).f2))).setCell ⟨gb142, 2, none⟩ (.int .i64 (wrap64 (((rd_T27 t125 x71_4).f2) + (wrap64 ((a0.size : Int) + 1)))))).cell? ⟨gb142, 2, none⟩ = some (.int .i64 (wrap64 (((rd_T27 t125 x71_4).f2) + (wrap64 ((a0.size : Int) + 1))))) := (blk_cell hbs_ 2).trans rfl
                                            have HB9 : Below w.heap.size w ((((w55.setCell ⟨gb142, 0, none⟩ (.int .i64 ((rd_T27 t125 x71_4).f0))).setCell ⟨gb142, 1, none⟩ (.string ((rd_T27 t125 x71_4).f1))).setCell ⟨gb142, 2, none⟩ (.int .i64 ((rd_T27 t125 x71_4).f2))).setCell ⟨gb142, 2, none⟩ (.int .i64 (wrap64 (((rd_T27 t125 x71_4).f2) + (wrap64 ((a0.size : Int) + 1)))))) := by repeat (first | (with_reducible first | exact HB.out | apply below_alloc | apply pw_below_drewN | apply below_drew1 | refine below_set ?_ GE142.out) | exact HB.out)
                                            have HO7_9 := Kd.R_mono (Kd.R_far (p := ⟨gb142, 2, none⟩) (Kd.R_far (p := ⟨gb142, 2, none⟩) (Kd.R_far (p := ⟨gb142, 1, none⟩) (Kd.R_far (p := ⟨gb142, 0, none⟩) (Kd.R_mono HO_7.out (fun k_ hk => (⟨hk, hk.2⟩ : _ ∧ k_ ≠ gb142))) (fun _ hk => hk.2) (.int .i64 ((rd_T27 t125 x71_4).f0))) (fun _ hk => hk.2) (.string ((rd_T27 t125 x71_4).f1))) (fun _ hk => hk.2) (.int .i64 ((rd_T27 t125 x71_4).f2))) (fun _ hk => hk.2) (.int .i64 (wrap64 (((rd_T27 t125 x71_4).f2) + (wrap64 ((a0.size : Int) + 1)))))) (fun _ hk => hk.1.1)
                                            have HO69_9 := Kd.R_mono (Kd.R_far (p := ⟨gb142, 2, none⟩) (Kd.R_far (p := ⟨gb142, 2, none⟩) (Kd.R_far (p := ⟨gb142, 1, none⟩) (Kd.R_far (p := ⟨gb142, 0, none⟩) (Kd.R_mono HO_69.out (fun k_ hk => (⟨hk, hk.2⟩ : _ ∧ k_ ≠ gb142))) (fun _ hk => hk.2) (.int .i64 ((rd_T27 t125 x71_4).f0))) (fun _ hk => hk.2) (.string ((rd_T27 t125 x71_4).f1))) (fun _ hk => hk.2) (.int .i64 ((rd_T27 t125 x71_4).f2))) (fun _ hk => hk.2) (.int .i64 (wrap64 (((rd_T27 t125 x71_4).f2) + (wrap64 ((a0.size : Int) + 1)))))) (fun _ hk => hk.1.1)
                                            clear hbs_ HB HO_7 HO_69
                                            generalize ((((w55.setCell ⟨gb142, 0, none⟩ (.int .i64 ((rd_T27 t125 x71_4).f0))).setCell ⟨gb142, 1, none⟩ (.string ((rd_T27 t125 x71_4).f1))).setCell ⟨gb142, 2, none⟩ (.int .i64 ((rd_T27 t125 x71_4).f2))).setCell ⟨gb142, 2, none⟩ (.int .i64 (wrap64 (((rd_T27 t125 x71_4).f2) + (wrap64 ((a0.size : Int) + 1)))))) = W9 at hbs0_ hbs1_ hbs2_ HB9 HO7_9 HO69_9 hx143_0 hx143_1 hx143_2 ⊢
                                            have HB := Aside0.mk HB9
                                            have HO_7 := Aside0.mk HO7_9
                                            have HO_69 := Aside0.mk HO69_9
                                            clear HB9 HO7_9 HO69_9
                                            go_wp2
                                            repeat (go_quiet (fail); try go_wp2)
                                            go_roundg k4
                                            case measure => have := HJ4.out; have := HJ13.out; have := HJ26.out; have := HK4.out; omega
                                            case rel => exact ⟨(wrap64 (x71_4 + 1)), (by first | rfl | (simp; done) | (simp [*]; done)), H', ⟨by have := HJ4.out; have := HJ13.out; have := HJ26.out; have := HK4.out; omega⟩, ⟨by (with_reducible repeat (first | apply Kd.R_alloc | apply Kd.R_drewN | apply Kd.R_drew)); exact Kd.R_mono HO_7.out (fun _ hk => hk)⟩, ⟨by (with_reducible repeat (first | apply Kd.R_alloc | apply Kd.R_drewN | apply Kd.R_drew)); exact Kd.R_mono HO_69.out (fun _ hk => hk)⟩, ⟨by repeat (first | (with_reducible first | exact HB.out | apply below_alloc | apply pw_below_drewN | apply below_drew1 | refine below_set ?_ GE142.out) | exact HB.out)⟩⟩
                                        · rw [if_neg c50] at H
                                          exact absurd H (by simp)
                                      · rw [if_neg c49] at H
                                        exact absurd H (by simp)
                                    · rw [if_neg c47] at H
                                      exact absurd H (by simp)
                                  · rw [if_neg c46] at H
                                    exact absurd H (by simp)
                                · rw [if_neg c45] at H
                                  have c45b0 : decide (x71_4 < (t125.length : Int)) = false := decide_eq_false c45
                                  clear c45
                                  obtain rfl := Option.some.inj H
                                  go_wp2
                                  repeat (go_quiet (fail); try go_wp2)
                                  go_ret
                                  exact ⟨by first | rfl | (simp [errW_none, errW_some] <;> rfl) | (simp [*, errW_none, errW_some] <;> rfl), by repeat (first | (with_reducible first | exact HB.out | apply below_alloc | apply pw_below_drewN | apply below_drew1) | exact HB.out)⟩
                    · rw [if_neg c25] at H
                      exact absurd H (by simp)
                  · rw [if_neg c24] at H
                    exact absurd H (by simp)
          · rw [if_neg c11] at H
            exact absurd H (by simp)
  · replace c4 := Bool.eq_false_iff.mpr c4
    subst c4
    have H1 : (some false) = some r := by rw [if_neg (show ¬ (false = true) by decide)] at H; exact H
    clear H
    have H := H1
    clear H1
    obtain rfl := Option.some.inj H
    go_enter Tryd.func3, Tryd.ntmps3
    go_wp2_with (first | (go_at_call 9; (with_reducible refine (seichelaw11_alive.calls  false _ ?side1 A3.out).mono ?_); (case side1 => exact Tabs.below HT.out (by repeat (first | (with_reducible first | exact HB.out | apply below_alloc | apply pw_below_drewN | apply below_drew1) | exact HB.out))); rintro e w58 ⟨rfl, hb⟩; have n0_ := Aside0.mk (below_step (by repeat (first | (with_reducible first | exact HB.out | apply below_alloc | apply pw_below_drewN | apply below_drew1) | exact HB.out)) hb); clear HB; have HB := n0_; clear n0_; (try clear hb); (try clear hb2); (try clear hk); (try clear hi)))
    repeat (go_quiet (first | (go_at_call 9; (with_reducible refine (seichelaw11_alive.calls  false _ ?side1 A3.out).mono ?_); (case side1 => exact Tabs.below HT.out (by repeat (first | (with_reducible first | exact HB.out | apply below_alloc | apply pw_below_drewN | apply below_drew1) | exact HB.out))); rintro e w58 ⟨rfl, hb⟩; have n0_ := Aside0.mk (below_step (by repeat (first | (with_reducible first | exact HB.out | apply below_alloc | apply pw_below_drewN | apply below_drew1) | exact HB.out)) hb); clear HB; have HB := n0_; clear n0_; (try clear hb); (try clear hb2); (try clear hk); (try clear hi))); try go_wp2_with (first | (go_at_call 9; (with_reducible refine (seichelaw11_alive.calls  false _ ?side1 A3.out).mono ?_); (case side1 => exact Tabs.below HT.out (by repeat (first | (with_reducible first | exact HB.out | apply below_alloc | apply pw_below_drewN | apply below_drew1) | exact HB.out))); rintro e w58 ⟨rfl, hb⟩; have n0_ := Aside0.mk (below_step (by repeat (first | (with_reducible first | exact HB.out | apply below_alloc | apply pw_below_drewN | apply below_drew1) | exact HB.out)) hb); clear HB; have HB := n0_; clear n0_; (try clear hb); (try clear hb2); (try clear hk); (try clear hi))))
    go_ret
    exact ⟨by first | rfl | (simp [errW_none, errW_some] <;> rfl) | (simp [*, errW_none, errW_some] <;> rfl), by repeat (first | (with_reducible first | exact HB.out | apply below_alloc | apply pw_below_drewN | apply below_drew1) | exact HB.out)⟩

/-- THE ONE PURE STATEMENT of seichelaw11_GolexParts: yours. -/
def seichelaw11_GolexParts.Pure : Prop := ∀ (a0 : ByteArray) (a1 : ByteArray), a0.size ≤ 140737488351232 → a1.size ≤ 140737488351232 → ∃ k, seichelaw11_GolexParts.f k a0 a1 = some true
theorem seichelaw11_GolexParts.walk (P : seichelaw11_GolexParts.Pure) (a0 : ByteArray) (a1 : ByteArray) (w : World) (hT : Tabs w) (w0 : a0.size ≤ 140737488351232) (w1 : a1.size ≤ 140737488351232) :
    Calls Tryd.prog 3 #[.string a0, .string a1] w fun e w' => e = .returned (.bool true) ∧ Below w.heap.size w w' := by
  obtain ⟨k, h⟩ := P a0 a1 w0 w1
  refine (seichelaw11_GolexParts.calls k a0 a1 true w hT h).mono ?_
  rintro e w' ⟨rfl, hd⟩
  exact ⟨rfl, hd⟩

end Go.Proofs.YtfolmcfcmonkhaaDoor.PAll
