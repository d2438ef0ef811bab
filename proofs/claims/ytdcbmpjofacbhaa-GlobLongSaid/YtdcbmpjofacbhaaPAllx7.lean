-- Written by a program of this session (a changed scratch copy of a tool of the kit); not a print of the kit's own.
import Derived.Test.YtdcbmpjofacbhaaPAllx0
import Derived.Test.YtdcbmpjofacbhaaPAllx6
namespace Go.Proofs.Ytdcbmpjofacbhaa.PAll
open Go.RowKit Go.Proofs.YtdcbmpjofacbhaaW.PrintWords Go.Proofs.YtdcbmpjofacbhaaW.PrintLast Go.Proofs.YtdcbmpjofacbhaaW.PrintMore Go.Proofs.YtdcbmpjofacbhaaMy
attribute [local go_sem] max2_int min2_int max_two min_two max_three min_three max_four min_four   -- for this text's walks alone
set_option linter.unusedVariables false
set_option linter.unusedSimpArgs false

/-! ### seichelaw19_GlobJoins: function 4 -/
mutual
def seichelaw19_GlobJoins.j0 : Nat → ByteArray → ByteArray → ByteArray → ByteArray → Bool → Option (Bool)
  | 0, _, _, _, _, _ => none
  | k + 1, x0, x1, x2, x3, x38 => if x38 = true then (some true) else ((glob_Match.f k x0 x2).bind fun bt178 => ((glob_Match.f k x1 x3).bind fun bt180 => (if x0.size + x1.size ≤ 9223372036854775807 then (if x2.size + x3.size ≤ 9223372036854775807 then ((glob_Match.f k (x0 ++ x1) (x2 ++ x3)).bind fun bt182 => (if bt178.2 = 0 then (if bt180.2 = 0 then (if bt178.1 = true then (if bt180.1 = true then (if bt182.2 = 0 then (seichelaw19_GlobJoins.j1 k x2 (!bt182.1)) else (seichelaw19_GlobJoins.j1 k x2 true)) else (seichelaw19_GlobJoins.j1 k x2 false)) else (seichelaw19_GlobJoins.j1 k x2 false)) else (seichelaw19_GlobJoins.j1 k x2 false)) else (seichelaw19_GlobJoins.j1 k x2 false))) else (none)) else (none))))
def seichelaw19_GlobJoins.j1 : Nat → ByteArray → Bool → Option (Bool)
  | 0, _, _ => none
  | k + 1, x2, x80 => if x80 = true then (some false) else (seichelaw19_GlobJoins.l0 k x2 false 0)
def seichelaw19_GlobJoins.l0 : Nat → ByteArray → Bool → Int → Option (Bool)
  | 0, _, _, _ => none
  | k + 1, x2, x15, x16 => if x16 < (x2.size : Int) then (if x15 = true then (seichelaw19_GlobJoins.l0 k x2 true (wrap64 (x16 + 1))) else (if 0 ≤ x16 then (seichelaw19_GlobJoins.l0 k x2 ((bt x2 x16) == 47) (wrap64 (x16 + 1))) else (none))) else ((glob_Match.f k (⟨#[42]⟩ : ByteArray) x2).bind fun bt184 => (if bt184.2 = 0 then (some (bt184.1 != x15)) else (some false)))
end
def seichelaw19_GlobJoins.f (k : Nat) (a0 : ByteArray) (a1 : ByteArray) (a2 : ByteArray) (a3 : ByteArray) : Option (Bool) := (seichelaw19_alive.f k).bind fun t177 => (if t177 = true then (if (a0.size : Int) > 100 then (seichelaw19_GlobJoins.j0 k a0 a1 a2 a3 true) else (if (a1.size : Int) > 100 then (seichelaw19_GlobJoins.j0 k a0 a1 a2 a3 true) else (if (a2.size : Int) > 100 then (seichelaw19_GlobJoins.j0 k a0 a1 a2 a3 true) else (seichelaw19_GlobJoins.j0 k a0 a1 a2 a3 (decide ((a3.size : Int) > 100)))))) else (some false))
theorem seichelaw19_GlobJoins.mono_l : ∀ k, (∀ y0 y1 y2 y3 y4, LeO (seichelaw19_GlobJoins.j0 k y0 y1 y2 y3 y4) (seichelaw19_GlobJoins.j0 (k + 1) y0 y1 y2 y3 y4)) ∧ (∀ y0 y1, LeO (seichelaw19_GlobJoins.j1 k y0 y1) (seichelaw19_GlobJoins.j1 (k + 1) y0 y1)) ∧ (∀ y0 y1 y2, LeO (seichelaw19_GlobJoins.l0 k y0 y1 y2) (seichelaw19_GlobJoins.l0 (k + 1) y0 y1 y2))
  | 0 => ⟨fun _ _ _ _ _ r h => by simp [seichelaw19_GlobJoins.j0] at h, fun _ _ r h => by simp [seichelaw19_GlobJoins.j1] at h, fun _ _ _ r h => by simp [seichelaw19_GlobJoins.l0] at h⟩
  | k + 1 => by
    obtain ⟨ih0, ih1, ih2⟩ := seichelaw19_GlobJoins.mono_l k
    refine ⟨?_, ?_, ?_⟩
    · intro y0 y1 y2 y3 y4
      unfold seichelaw19_GlobJoins.j0
      repeat' first
      | (with_reducible exact ih0 _ _ _ _ _)
      | (with_reducible exact ih1 _ _)
      | (with_reducible exact ih2 _ _ _)
      | (with_reducible exact glob_Match.mono _ _ _)
      | (with_reducible exact seichelaw19_alive.mono _)
      | (with_reducible exact LeO.refl _)
      | (with_reducible exact LeO.none _)
      | (with_reducible refine LeO.ite ?_ ?_)
      | (with_reducible refine LeO.bind ?_ (fun _ => ?_))
      | exact ih0 _ _ _ _ _
      | exact ih1 _ _
      | exact ih2 _ _ _
      | exact glob_Match.mono _ _ _
      | exact seichelaw19_alive.mono _
      | exact LeO.none _
      | refine LeO.ite ?_ ?_
      | refine LeO.bind ?_ (fun _ => ?_)
    · intro y0 y1
      unfold seichelaw19_GlobJoins.j1
      repeat' first
      | (with_reducible exact ih0 _ _ _ _ _)
      | (with_reducible exact ih1 _ _)
      | (with_reducible exact ih2 _ _ _)
      | (with_reducible exact glob_Match.mono _ _ _)
      | (with_reducible exact seichelaw19_alive.mono _)
      | (with_reducible exact LeO.refl _)
      | (with_reducible exact LeO.none _)
      | (with_reducible refine LeO.ite ?_ ?_)
      | (with_reducible refine LeO.bind ?_ (fun _ => ?_))
      | exact ih0 _ _ _ _ _
      | exact ih1 _ _
      | exact ih2 _ _ _
      | exact glob_Match.mono _ _ _
      | exact seichelaw19_alive.mono _
      | exact LeO.none _
      | refine LeO.ite ?_ ?_
      | refine LeO.bind ?_ (fun _ => ?_)
    · intro y0 y1 y2
      unfold seichelaw19_GlobJoins.l0
      repeat' first
      | (with_reducible exact ih0 _ _ _ _ _)
      | (with_reducible exact ih1 _ _)
      | (with_reducible exact ih2 _ _ _)
      | (with_reducible exact glob_Match.mono _ _ _)
      | (with_reducible exact seichelaw19_alive.mono _)
      | (with_reducible exact LeO.refl _)
      | (with_reducible exact LeO.none _)
      | (with_reducible refine LeO.ite ?_ ?_)
      | (with_reducible refine LeO.bind ?_ (fun _ => ?_))
      | exact ih0 _ _ _ _ _
      | exact ih1 _ _
      | exact ih2 _ _ _
      | exact glob_Match.mono _ _ _
      | exact seichelaw19_alive.mono _
      | exact LeO.none _
      | refine LeO.ite ?_ ?_
      | refine LeO.bind ?_ (fun _ => ?_)
theorem seichelaw19_GlobJoins.mono : ∀ a0 a1 a2 a3 k, LeO (seichelaw19_GlobJoins.f k a0 a1 a2 a3) (seichelaw19_GlobJoins.f (k + 1) a0 a1 a2 a3) := by
  intro a0 a1 a2 a3 k
  obtain ⟨ih0, ih1, ih2⟩ := seichelaw19_GlobJoins.mono_l k
  unfold seichelaw19_GlobJoins.f
  repeat' first
      | (with_reducible exact ih0 _ _ _ _ _)
      | (with_reducible exact ih1 _ _)
      | (with_reducible exact ih2 _ _ _)
      | (with_reducible exact glob_Match.mono _ _ _)
      | (with_reducible exact seichelaw19_alive.mono _)
      | (with_reducible exact LeO.refl _)
      | (with_reducible exact LeO.none _)
      | (with_reducible refine LeO.ite ?_ ?_)
      | (with_reducible refine LeO.bind ?_ (fun _ => ?_))
      | exact ih0 _ _ _ _ _
      | exact ih1 _ _
      | exact ih2 _ _ _
      | exact glob_Match.mono _ _ _
      | exact seichelaw19_alive.mono _
      | exact LeO.none _
      | refine LeO.ite ?_ ?_
      | refine LeO.bind ?_ (fun _ => ?_)
set_option maxHeartbeats 8000000 in
set_option maxRecDepth 100000 in
theorem seichelaw19_GlobJoins.calls (k : Nat) (a0 : ByteArray) (a1 : ByteArray) (a2 : ByteArray) (a3 : ByteArray) (r : Bool) (w : World) (h : seichelaw19_GlobJoins.f k a0 a1 a2 a3 = some r) :
    Calls Try.prog 4 #[.string a0, .string a1, .string a2, .string a3] w fun e w' => e = .returned (.bool r) ∧ Below w.heap.size w w' := by
  have HB := Aside0.mk (Below.refl w.heap.size w)
  have H : ((seichelaw19_alive.f k).bind fun t177 => (if t177 = true then (if (a0.size : Int) > 100 then (seichelaw19_GlobJoins.j0 k a0 a1 a2 a3 true) else (if (a1.size : Int) > 100 then (seichelaw19_GlobJoins.j0 k a0 a1 a2 a3 true) else (if (a2.size : Int) > 100 then (seichelaw19_GlobJoins.j0 k a0 a1 a2 a3 true) else (seichelaw19_GlobJoins.j0 k a0 a1 a2 a3 (decide ((a3.size : Int) > 100)))))) else (some false))) = some r := h
  clear h
  replace H := Option.bind_eq_some_iff.mp H
  obtain ⟨t177, A50, H⟩ := H
  replace H : (if t177 = true then (if (a0.size : Int) > 100 then (seichelaw19_GlobJoins.j0 k a0 a1 a2 a3 true) else (if (a1.size : Int) > 100 then (seichelaw19_GlobJoins.j0 k a0 a1 a2 a3 true) else (if (a2.size : Int) > 100 then (seichelaw19_GlobJoins.j0 k a0 a1 a2 a3 true) else (seichelaw19_GlobJoins.j0 k a0 a1 a2 a3 (decide ((a3.size : Int) > 100)))))) else (some false)) = some r := H
  have A5 := Aside0.mk A50
  clear A50
  by_cases c6 : t177 = true
  · subst c6
    have H1 : (if (a0.size : Int) > 100 then (seichelaw19_GlobJoins.j0 k a0 a1 a2 a3 true) else (if (a1.size : Int) > 100 then (seichelaw19_GlobJoins.j0 k a0 a1 a2 a3 true) else (if (a2.size : Int) > 100 then (seichelaw19_GlobJoins.j0 k a0 a1 a2 a3 true) else (seichelaw19_GlobJoins.j0 k a0 a1 a2 a3 (decide ((a3.size : Int) > 100)))))) = some r := by rw [if_pos rfl] at H; exact H
    clear H
    have H := H1
    clear H1
    have HC7 := Aside0.mk H
    clear H
    go_enter Try.func4, Try.ntmps4
    go_upto_region 3 with (first | ((with_reducible refine gate_callee (f := 8) rfl ?_); refine goesL_ (some 19) rfl rfl Try.func8 (by kernel_rfl) rfl #[] rfl (by (try simp only [List.map_toArray, List.map_cons, List.map_nil]); first | done | rfl | (simp only [List.length_drop, List.length_take]; rfl)) ?_; (with_reducible refine (seichelaw19_alive.calls k  true _ A5.out).mono ?_); rintro e w8 ⟨rfl, hb⟩; refine ⟨_, rfl, ?_⟩; have n0_ := Aside0.mk (below_step (by repeat (first | (with_reducible first | exact HB.out | apply below_alloc | apply pw_below_drewN | apply below_drew1) | exact HB.out)) hb); clear HB; have HB := n0_; clear n0_; (try clear hb); (try clear hb2); (try clear hk); (try clear hi)))
    (try simp only [Act.put, List.setIfInBounds_toArray, List.set_cons_zero, List.set_cons_succ])
    go_cut [38] (fun v38 wc => ∃ (kq : Nat) (x38_6 : Bool), v38 = .bool x38_6 ∧ Aside0 (seichelaw19_GlobJoins.j0 kq a0 a1 a2 a3 x38_6 = some r) ∧ Aside0 (kq ≤ k) ∧ Aside0 (Below w.heap.size w wc))
    case first =>
      have H := HC7.out
      clear HC7
      by_cases c9 : (a0.size : Int) > 100
      · rw [if_pos c9] at H
        have c9b0 : decide (100 < (a0.size : Int)) = true := decide_eq_true c9
        have c9b1 : decide (100 < a0.size) = true := decide_eq_true (by omega)
        clear c9
        (first | rw [c9b0] | (simp only [i64_w, i32_w]; rw [c9b0]) | skip)
        have H' := Aside0.mk H
        clear H
        go_wp2
        go_meet
        case rel => exact ⟨_, (true), (by first | rfl | (simp; done) | (simp [*]; done)), H', ⟨by first | omega | exact Nat.le_refl _⟩, ⟨by repeat (first | (with_reducible first | exact HB.out | apply below_alloc | apply pw_below_drewN | apply below_drew1) | exact HB.out)⟩⟩
      · rw [if_neg c9] at H
        have c9b0 : decide (100 < (a0.size : Int)) = false := decide_eq_false c9
        have c9b1 : decide (100 < a0.size) = false := decide_eq_false (by omega)
        clear c9
        (first | rw [c9b0] | (simp only [i64_w, i32_w]; rw [c9b0]) | skip)
        by_cases c10 : (a1.size : Int) > 100
        · rw [if_pos c10] at H
          have c10b0 : decide (100 < (a1.size : Int)) = true := decide_eq_true c10
          have c10b1 : decide (100 < a1.size) = true := decide_eq_true (by omega)
          clear c10
          have H' := Aside0.mk H
          clear H
          go_wp2
          go_meet
          case rel => exact ⟨_, (true), (by first | rfl | (simp; done) | (simp [*]; done)), H', ⟨by first | omega | exact Nat.le_refl _⟩, ⟨by repeat (first | (with_reducible first | exact HB.out | apply below_alloc | apply pw_below_drewN | apply below_drew1) | exact HB.out)⟩⟩
        · rw [if_neg c10] at H
          have c10b0 : decide (100 < (a1.size : Int)) = false := decide_eq_false c10
          have c10b1 : decide (100 < a1.size) = false := decide_eq_false (by omega)
          clear c10
          by_cases c11 : (a2.size : Int) > 100
          · rw [if_pos c11] at H
            have c11b0 : decide (100 < (a2.size : Int)) = true := decide_eq_true c11
            have c11b1 : decide (100 < a2.size) = true := decide_eq_true (by omega)
            clear c11
            have H' := Aside0.mk H
            clear H
            go_wp2
            go_meet
            case rel => exact ⟨_, (true), (by first | rfl | (simp; done) | (simp [*]; done)), H', ⟨by first | omega | exact Nat.le_refl _⟩, ⟨by repeat (first | (with_reducible first | exact HB.out | apply below_alloc | apply pw_below_drewN | apply below_drew1) | exact HB.out)⟩⟩
          · rw [if_neg c11] at H
            have c11b0 : decide (100 < (a2.size : Int)) = false := decide_eq_false c11
            have c11b1 : decide (100 < a2.size) = false := decide_eq_false (by omega)
            clear c11
            have H' := Aside0.mk H
            clear H
            go_wp2
            go_meet
            case rel => exact ⟨_, (decide ((a3.size : Int) > 100)), (by first | rfl | (simp; done) | (simp [*]; done)), H', ⟨by first | omega | exact Nat.le_refl _⟩, ⟨by repeat (first | (with_reducible first | exact HB.out | apply below_alloc | apply pw_below_drewN | apply below_drew1) | exact HB.out)⟩⟩
    case rest =>
      clear HC7
      try clear c1
      try clear p2
      try clear c4
      try clear c6
      try clear c8
      try clear c9
      try clear c9b0
      try clear c9b1
      try clear c10
      try clear c10b0
      try clear c10b1
      try clear c11
      try clear c11b0
      try clear c11b1
      obtain ⟨kq, x38_6, rfl, HA, HJ6, HB⟩ := hcut
      cases kq with
      | zero => exact absurd HA.out (by simp [seichelaw19_GlobJoins.j0])
      | succ kj6 =>
        have H := HA.out
        clear HA
        simp only [seichelaw19_GlobJoins.j0] at H
        by_cases c12 : x38_6 = true
        · subst c12
          have H1 : (some true) = some r := by rw [if_pos rfl] at H; exact H
          clear H
          have H := H1
          clear H1
          obtain rfl := Option.some.inj H
          go_wp2
          go_ret
          exact ⟨by first | rfl | (simp [errW_none, errW_some] <;> rfl) | (simp [*, errW_none, errW_some] <;> rfl), by repeat (first | (with_reducible first | exact HB.out | apply below_alloc | apply pw_below_drewN | apply below_drew1) | exact HB.out)⟩
        · replace c12 := Bool.eq_false_iff.mpr c12
          subst c12
          have H1 : ((glob_Match.f kj6 a0 a2).bind fun bt178 => ((glob_Match.f kj6 a1 a3).bind fun bt180 => (if a0.size + a1.size ≤ 9223372036854775807 then (if a2.size + a3.size ≤ 9223372036854775807 then ((glob_Match.f kj6 (a0 ++ a1) (a2 ++ a3)).bind fun bt182 => (if bt178.2 = 0 then (if bt180.2 = 0 then (if bt178.1 = true then (if bt180.1 = true then (if bt182.2 = 0 then (seichelaw19_GlobJoins.j1 kj6 a2 (!bt182.1)) else (seichelaw19_GlobJoins.j1 kj6 a2 true)) else (seichelaw19_GlobJoins.j1 kj6 a2 false)) else (seichelaw19_GlobJoins.j1 kj6 a2 false)) else (seichelaw19_GlobJoins.j1 kj6 a2 false)) else (seichelaw19_GlobJoins.j1 kj6 a2 false))) else (none)) else (none)))) = some r := by rw [if_neg (show ¬ (false = true) by decide)] at H; exact H
          clear H
          have H := H1
          clear H1
          replace H := Option.bind_eq_some_iff.mp H
          obtain ⟨⟨t178, t179⟩, A130, H⟩ := H
          replace H : ((glob_Match.f kj6 a1 a3).bind fun bt180 => (if a0.size + a1.size ≤ 9223372036854775807 then (if a2.size + a3.size ≤ 9223372036854775807 then ((glob_Match.f kj6 (a0 ++ a1) (a2 ++ a3)).bind fun bt182 => (if t179 = 0 then (if bt180.2 = 0 then (if t178 = true then (if bt180.1 = true then (if bt182.2 = 0 then (seichelaw19_GlobJoins.j1 kj6 a2 (!bt182.1)) else (seichelaw19_GlobJoins.j1 kj6 a2 true)) else (seichelaw19_GlobJoins.j1 kj6 a2 false)) else (seichelaw19_GlobJoins.j1 kj6 a2 false)) else (seichelaw19_GlobJoins.j1 kj6 a2 false)) else (seichelaw19_GlobJoins.j1 kj6 a2 false))) else (none)) else (none))) = some r := H
          have A13 := Aside0.mk A130
          clear A130
          replace H := Option.bind_eq_some_iff.mp H
          obtain ⟨⟨t180, t181⟩, A140, H⟩ := H
          replace H : (if a0.size + a1.size ≤ 9223372036854775807 then (if a2.size + a3.size ≤ 9223372036854775807 then ((glob_Match.f kj6 (a0 ++ a1) (a2 ++ a3)).bind fun bt182 => (if t179 = 0 then (if t181 = 0 then (if t178 = true then (if t180 = true then (if bt182.2 = 0 then (seichelaw19_GlobJoins.j1 kj6 a2 (!bt182.1)) else (seichelaw19_GlobJoins.j1 kj6 a2 true)) else (seichelaw19_GlobJoins.j1 kj6 a2 false)) else (seichelaw19_GlobJoins.j1 kj6 a2 false)) else (seichelaw19_GlobJoins.j1 kj6 a2 false)) else (seichelaw19_GlobJoins.j1 kj6 a2 false))) else (none)) else (none)) = some r := H
          have A14 := Aside0.mk A140
          clear A140
          by_cases c15 : a0.size + a1.size ≤ 9223372036854775807
          · rw [if_pos c15] at H
            have c15b0 := eq_true c15
            have c15b1 : decide (a0.size + a1.size ≤ 9223372036854775807) = true := decide_eq_true c15
            try have c15b2 : (9223372036854775807 < a0.size + a1.size) = False := eq_false (Nat.not_lt.2 c15)
            by_cases c16 : a2.size + a3.size ≤ 9223372036854775807
            · rw [if_pos c16] at H
              have c16b0 := eq_true c16
              have c16b1 : decide (a2.size + a3.size ≤ 9223372036854775807) = true := decide_eq_true c16
              try have c16b2 : (9223372036854775807 < a2.size + a3.size) = False := eq_false (Nat.not_lt.2 c16)
              replace H := Option.bind_eq_some_iff.mp H
              obtain ⟨⟨t182, t183⟩, A170, H⟩ := H
              replace H : (if t179 = 0 then (if t181 = 0 then (if t178 = true then (if t180 = true then (if t183 = 0 then (seichelaw19_GlobJoins.j1 kj6 a2 (!t182)) else (seichelaw19_GlobJoins.j1 kj6 a2 true)) else (seichelaw19_GlobJoins.j1 kj6 a2 false)) else (seichelaw19_GlobJoins.j1 kj6 a2 false)) else (seichelaw19_GlobJoins.j1 kj6 a2 false)) else (seichelaw19_GlobJoins.j1 kj6 a2 false)) = some r := H
              have A17 := Aside0.mk A170
              clear A170
              have HC18 := Aside0.mk H
              clear H
              go_upto_region 8 with (first | ((with_reducible refine gate_callee (f := 9) rfl ?_); refine goesL_ (some 42) rfl rfl Try.func9 (by kernel_rfl) rfl #[.string a0, .string a2] rfl (by (try simp only [List.map_toArray, List.map_cons, List.map_nil]); first | done | rfl | (simp only [List.length_drop, List.length_take]; rfl)) ?_; (with_reducible refine (glob_Match.calls kj6 a0 a2 t178 t179 _ A13.out).mono ?_); rintro e w19 ⟨rfl, hb⟩; refine ⟨_, rfl, ?_⟩; have n0_ := Aside0.mk (below_step (by repeat (first | (with_reducible first | exact HB.out | apply below_alloc | apply pw_below_drewN | apply below_drew1) | exact HB.out)) hb); clear HB; have HB := n0_; clear n0_; (try clear hb); (try clear hb2); (try clear hk); (try clear hi)) | ((with_reducible refine gate_callee (f := 9) rfl ?_); refine goesL_ (some 48) rfl rfl Try.func9 (by kernel_rfl) rfl #[.string a1, .string a3] rfl (by (try simp only [List.map_toArray, List.map_cons, List.map_nil]); first | done | rfl | (simp only [List.length_drop, List.length_take]; rfl)) ?_; (with_reducible refine (glob_Match.calls kj6 a1 a3 t180 t181 _ A14.out).mono ?_); rintro e w20 ⟨rfl, hb⟩; refine ⟨_, rfl, ?_⟩; have n0_ := Aside0.mk (below_step (by repeat (first | (with_reducible first | exact HB.out | apply below_alloc | apply pw_below_drewN | apply below_drew1) | exact HB.out)) hb); clear HB; have HB := n0_; clear n0_; (try clear hb); (try clear hb2); (try clear hk); (try clear hi)) | ((with_reducible refine gate_callee (f := 9) rfl ?_); refine goesL_ (some 58) rfl rfl Try.func9 (by kernel_rfl) rfl #[.string (a0 ++ a1), .string (a2 ++ a3)] rfl (by (try simp only [List.map_toArray, List.map_cons, List.map_nil]); first | done | rfl | (simp only [List.length_drop, List.length_take]; rfl)) ?_; (with_reducible refine (glob_Match.calls kj6 (a0 ++ a1) (a2 ++ a3) t182 t183 _ A17.out).mono ?_); rintro e w21 ⟨rfl, hb⟩; refine ⟨_, rfl, ?_⟩; have n0_ := Aside0.mk (below_step (by repeat (first | (with_reducible first | exact HB.out | apply below_alloc | apply pw_below_drewN | apply below_drew1) | exact HB.out)) hb); clear HB; have HB := n0_; clear n0_; (try clear hb); (try clear hb2); (try clear hk); (try clear hi)))
              (try simp only [Act.put, List.setIfInBounds_toArray, List.set_cons_zero, List.set_cons_succ])
              go_cut [80] (fun v80 wc => ∃ (kq : Nat) (x80_17 : Bool), v80 = .bool x80_17 ∧ Aside0 (seichelaw19_GlobJoins.j1 kq a2 x80_17 = some r) ∧ Aside0 (kq ≤ kj6) ∧ Aside0 (Below w.heap.size w wc))
              case first =>
                have H := HC18.out
                clear HC18
                by_cases c22 : t179 = 0
                · rw [if_pos c22] at H
                  have c22b0 : (t179 == 0) = true := beq_iff_eq.mpr c22
                  have c22b1 : (t179 != 0) = false := bne_eq_false_iff_eq.mpr c22
                  clear c22
                  (first | rw [c22b0] | (simp only [i64_w, i32_w]; rw [c22b0]) | skip)
                  by_cases c23 : t181 = 0
                  · rw [if_pos c23] at H
                    have c23b0 : (t181 == 0) = true := beq_iff_eq.mpr c23
                    have c23b1 : (t181 != 0) = false := bne_eq_false_iff_eq.mpr c23
                    clear c23
                    by_cases c24 : t178 = true
                    · subst c24
                      have H1 : (if t180 = true then (if t183 = 0 then (seichelaw19_GlobJoins.j1 kj6 a2 (!t182)) else (seichelaw19_GlobJoins.j1 kj6 a2 true)) else (seichelaw19_GlobJoins.j1 kj6 a2 false)) = some r := by rw [if_pos rfl] at H; exact H
                      clear H
                      have H := H1
                      clear H1
                      by_cases c25 : t180 = true
                      · subst c25
                        have H1 : (if t183 = 0 then (seichelaw19_GlobJoins.j1 kj6 a2 (!t182)) else (seichelaw19_GlobJoins.j1 kj6 a2 true)) = some r := by rw [if_pos rfl] at H; exact H
                        clear H
                        have H := H1
                        clear H1
                        by_cases c26 : t183 = 0
                        · rw [if_pos c26] at H
                          have c26b0 : (t183 == 0) = true := beq_iff_eq.mpr c26
                          have c26b1 : (t183 != 0) = false := bne_eq_false_iff_eq.mpr c26
                          clear c26
                          have H' := Aside0.mk H
                          clear H
                          go_wp2
                          go_meet
                          case rel => exact ⟨_, (!t182), (by first | rfl | (simp; done) | (simp [*]; done)), H', ⟨by have := HJ6.out; first | omega | exact Nat.le_refl _⟩, ⟨by repeat (first | (with_reducible first | exact HB.out | apply below_alloc | apply pw_below_drewN | apply below_drew1) | exact HB.out)⟩⟩
                        · rw [if_neg c26] at H
                          have c26b0 : (t183 == 0) = false := beq_eq_false_iff_ne.mpr c26
                          have c26b1 : (t183 != 0) = true := bne_iff_ne.mpr c26
                          have H' := Aside0.mk H
                          clear H
                          go_wp2
                          go_meet
                          case rel => exact ⟨_, (true), (by first | rfl | (simp; done) | (simp [*]; done)), H', ⟨by have := HJ6.out; first | omega | exact Nat.le_refl _⟩, ⟨by repeat (first | (with_reducible first | exact HB.out | apply below_alloc | apply pw_below_drewN | apply below_drew1) | exact HB.out)⟩⟩
                      · replace c25 := Bool.eq_false_iff.mpr c25
                        subst c25
                        have H1 : (seichelaw19_GlobJoins.j1 kj6 a2 false) = some r := by rw [if_neg (show ¬ (false = true) by decide)] at H; exact H
                        clear H
                        have H := H1
                        clear H1
                        have H' := Aside0.mk H
                        clear H
                        go_wp2
                        go_meet
                        case rel => exact ⟨_, (false), (by first | rfl | (simp; done) | (simp [*]; done)), H', ⟨by have := HJ6.out; first | omega | exact Nat.le_refl _⟩, ⟨by repeat (first | (with_reducible first | exact HB.out | apply below_alloc | apply pw_below_drewN | apply below_drew1) | exact HB.out)⟩⟩
                    · replace c24 := Bool.eq_false_iff.mpr c24
                      subst c24
                      have H1 : (seichelaw19_GlobJoins.j1 kj6 a2 false) = some r := by rw [if_neg (show ¬ (false = true) by decide)] at H; exact H
                      clear H
                      have H := H1
                      clear H1
                      have H' := Aside0.mk H
                      clear H
                      go_wp2
                      go_meet
                      case rel => exact ⟨_, (false), (by first | rfl | (simp; done) | (simp [*]; done)), H', ⟨by have := HJ6.out; first | omega | exact Nat.le_refl _⟩, ⟨by repeat (first | (with_reducible first | exact HB.out | apply below_alloc | apply pw_below_drewN | apply below_drew1) | exact HB.out)⟩⟩
                  · rw [if_neg c23] at H
                    have c23b0 : (t181 == 0) = false := beq_eq_false_iff_ne.mpr c23
                    have c23b1 : (t181 != 0) = true := bne_iff_ne.mpr c23
                    have H' := Aside0.mk H
                    clear H
                    go_wp2
                    go_meet
                    case rel => exact ⟨_, (false), (by first | rfl | (simp; done) | (simp [*]; done)), H', ⟨by have := HJ6.out; first | omega | exact Nat.le_refl _⟩, ⟨by repeat (first | (with_reducible first | exact HB.out | apply below_alloc | apply pw_below_drewN | apply below_drew1) | exact HB.out)⟩⟩
                · rw [if_neg c22] at H
                  have c22b0 : (t179 == 0) = false := beq_eq_false_iff_ne.mpr c22
                  have c22b1 : (t179 != 0) = true := bne_iff_ne.mpr c22
                  (first | rw [c22b0] | (simp only [i64_w, i32_w]; rw [c22b0]) | skip)
                  have H' := Aside0.mk H
                  clear H
                  go_wp2
                  go_meet
                  case rel => exact ⟨_, (false), (by first | rfl | (simp; done) | (simp [*]; done)), H', ⟨by have := HJ6.out; first | omega | exact Nat.le_refl _⟩, ⟨by repeat (first | (with_reducible first | exact HB.out | apply below_alloc | apply pw_below_drewN | apply below_drew1) | exact HB.out)⟩⟩
              case rest =>
                clear HC18
                try clear c1
                try clear c2
                try clear p2
                try clear c4
                try clear c6
                try clear c8
                try clear c9
                try clear c9b0
                try clear c9b1
                try clear c10
                try clear c10b0
                try clear c10b1
                try clear c11
                try clear c11b0
                try clear c11b1
                try clear c12
                try clear c15
                try clear c15b0
                try clear c15b1
                try clear c15b2
                try clear c16
                try clear c16b0
                try clear c16b1
                try clear c16b2
                try clear c22
                try clear c22b0
                try clear c22b1
                try clear c23
                try clear c23b0
                try clear c23b1
                try clear c24
                try clear c25
                try clear c26
                try clear c26b0
                try clear c26b1
                try clear p2
                obtain ⟨kq, x80_17, rfl, HA, HJ17, HB⟩ := hcut
                cases kq with
                | zero => exact absurd HA.out (by simp [seichelaw19_GlobJoins.j1])
                | succ kj17 =>
                  have H := HA.out
                  clear HA
                  simp only [seichelaw19_GlobJoins.j1] at H
                  by_cases c27 : x80_17 = true
                  · subst c27
                    have H1 : (some false) = some r := by rw [if_pos rfl] at H; exact H
                    clear H
                    have H := H1
                    clear H1
                    obtain rfl := Option.some.inj H
                    go_wp2
                    go_ret
                    exact ⟨by first | rfl | (simp [errW_none, errW_some] <;> rfl) | (simp [*, errW_none, errW_some] <;> rfl), by repeat (first | (with_reducible first | exact HB.out | apply below_alloc | apply pw_below_drewN | apply below_drew1) | exact HB.out)⟩
                  · replace c27 := Bool.eq_false_iff.mpr c27
                    subst c27
                    have H1 : (seichelaw19_GlobJoins.l0 kj17 a2 false 0) = some r := by rw [if_neg (show ¬ (false = true) by decide)] at H; exact H
                    clear H
                    have H := H1
                    clear H1
                    have H' := Aside0.mk H
                    clear H
                    go_wp2
                    go_loopg [15, 16] kj17 (fun kq v15 v16 w' => ∃ (x15_3 : Bool) (x16_3 : Int), v15 = .bool x15_3 ∧ v16 = .int .i64 x16_3 ∧ Aside0 (seichelaw19_GlobJoins.l0 kq a2 x15_3 x16_3 = some r) ∧ Aside0 (kq ≤ kj17) ∧ Aside0 (Below w.heap.size w w'))
                    case atStart => exact ⟨(false), (0), (by first | rfl | (simp; done) | (simp [*]; done)), (by first | rfl | (simp; done) | (simp [*]; done)), H', ⟨Nat.le_refl _⟩, ⟨by repeat (first | (with_reducible first | exact HB.out | apply below_alloc | apply pw_below_drewN | apply below_drew1) | exact HB.out)⟩⟩
                    case round =>
                      clear H'
                      try clear c1
                      try clear c2
                      try clear p2
                      try clear c4
                      try clear c6
                      try clear c8
                      try clear c9
                      try clear c9b0
                      try clear c9b1
                      try clear c10
                      try clear c10b0
                      try clear c10b1
                      try clear c11
                      try clear c11b0
                      try clear c11b1
                      try clear c12
                      try clear c15
                      try clear c15b0
                      try clear c15b1
                      try clear c15b2
                      try clear c16
                      try clear c16b0
                      try clear c16b1
                      try clear c16b2
                      try clear c22
                      try clear c22b0
                      try clear c22b1
                      try clear c23
                      try clear c23b0
                      try clear c23b1
                      try clear c24
                      try clear c25
                      try clear c26
                      try clear c26b0
                      try clear c26b1
                      try clear c27
                      try clear p2
                      obtain ⟨x15_3, x16_3, rfl, rfl, HA, HK3, HB⟩ := hrel
                      cases gk with
                      | zero => exact absurd HA.out (by simp [seichelaw19_GlobJoins.l0])
                      | succ k3 =>
                        have H := HA.out
                        clear HA
                        simp only [seichelaw19_GlobJoins.l0] at H
                        by_cases c28 : x16_3 < (a2.size : Int)
                        · rw [if_pos c28] at H
                          have c28b0 : decide (x16_3 < (a2.size : Int)) = true := decide_eq_true c28
                          clear c28
                          by_cases c29 : x15_3 = true
                          · subst c29
                            have H1 : (seichelaw19_GlobJoins.l0 k3 a2 true (wrap64 (x16_3 + 1))) = some r := by rw [if_pos rfl] at H; exact H
                            clear H
                            have H := H1
                            clear H1
                            have H' := Aside0.mk H
                            clear H
                            go_wp2
                            go_roundg k3
                            case measure => have := HJ6.out; have := HJ17.out; have := HK3.out; omega
                            case rel => exact ⟨(true), (wrap64 (x16_3 + 1)), (by first | rfl | (simp; done) | (simp [*]; done)), (by first | rfl | (simp; done) | (simp [*]; done)), H', ⟨by have := HJ6.out; have := HJ17.out; have := HK3.out; omega⟩, ⟨by repeat (first | (with_reducible first | exact HB.out | apply below_alloc | apply pw_below_drewN | apply below_drew1) | exact HB.out)⟩⟩
                          · replace c29 := Bool.eq_false_iff.mpr c29
                            subst c29
                            have H1 : (if 0 ≤ x16_3 then (seichelaw19_GlobJoins.l0 k3 a2 ((bt a2 x16_3) == 47) (wrap64 (x16_3 + 1))) else (none)) = some r := by rw [if_neg (show ¬ (false = true) by decide)] at H; exact H
                            clear H
                            have H := H1
                            clear H1
                            by_cases c30 : 0 ≤ x16_3
                            · rw [if_pos c30] at H
                              have c30b0 : decide (0 ≤ x16_3) = true := decide_eq_true c30
                              clear c30
                              have H' := Aside0.mk H
                              clear H
                              have p31 : 0 ≤ (x16_3 : Int) := of_decide_eq_true (by first | (with_reducible assumption) | assumption)
                              have q31 : x16_3 < (a2.size : Int) := of_decide_eq_true (by first | (with_reducible assumption) | assumption)
                              have hx31 := bt_at a2 x16_3
                              replace p31 := eq_true p31
                              replace q31 := eq_true q31
                              go_wp2
                              go_roundg k3
                              case measure => have := HJ6.out; have := HJ17.out; have := HK3.out; omega
                              case rel => exact ⟨(((bt a2 x16_3) == 47)), (wrap64 (x16_3 + 1)), (by first | rfl | (simp; done) | (simp [*]; done)), (by first | rfl | (simp; done) | (simp [*]; done)), H', ⟨by have := HJ6.out; have := HJ17.out; have := HK3.out; omega⟩, ⟨by repeat (first | (with_reducible first | exact HB.out | apply below_alloc | apply pw_below_drewN | apply below_drew1) | exact HB.out)⟩⟩
                            · rw [if_neg c30] at H
                              exact absurd H (by simp)
                        · rw [if_neg c28] at H
                          have c28b0 : decide (x16_3 < (a2.size : Int)) = false := decide_eq_false c28
                          clear c28
                          replace H := Option.bind_eq_some_iff.mp H
                          obtain ⟨⟨t184, t185⟩, A320, H⟩ := H
                          replace H : (if t185 = 0 then (some (t184 != x15_3)) else (some false)) = some r := H
                          have A32 := Aside0.mk A320
                          clear A320
                          by_cases c33 : t185 = 0
                          · rw [if_pos c33] at H
                            have c33b0 : (t185 == 0) = true := beq_iff_eq.mpr c33
                            have c33b1 : (t185 != 0) = false := bne_eq_false_iff_eq.mpr c33
                            clear c33
                            obtain rfl := Option.some.inj H
                            go_wp2_with (first | ((with_reducible refine gate_callee (f := 9) rfl ?_); refine goesL_ (some 96) rfl rfl Try.func9 (by kernel_rfl) rfl #[.string (⟨#[42]⟩ : ByteArray), .string a2] rfl (by (try simp only [List.map_toArray, List.map_cons, List.map_nil]); first | done | rfl | (simp only [List.length_drop, List.length_take]; rfl)) ?_; (with_reducible refine (glob_Match.calls k3 (⟨#[42]⟩ : ByteArray) a2 t184 t185 _ A32.out).mono ?_); rintro e w34 ⟨rfl, hb⟩; refine ⟨_, rfl, ?_⟩; have n0_ := Aside0.mk (below_step (by repeat (first | (with_reducible first | exact HB.out | apply below_alloc | apply pw_below_drewN | apply below_drew1) | exact HB.out)) hb); clear HB; have HB := n0_; clear n0_; (try clear hb); (try clear hb2); (try clear hk); (try clear hi)))
                            go_ret
                            exact ⟨by first | rfl | (simp [errW_none, errW_some] <;> rfl) | (simp [*, errW_none, errW_some] <;> rfl), by repeat (first | (with_reducible first | exact HB.out | apply below_alloc | apply pw_below_drewN | apply below_drew1) | exact HB.out)⟩
                          · rw [if_neg c33] at H
                            have c33b0 : (t185 == 0) = false := beq_eq_false_iff_ne.mpr c33
                            have c33b1 : (t185 != 0) = true := bne_iff_ne.mpr c33
                            obtain rfl := Option.some.inj H
                            go_wp2_with (first | ((with_reducible refine gate_callee (f := 9) rfl ?_); refine goesL_ (some 96) rfl rfl Try.func9 (by kernel_rfl) rfl #[.string (⟨#[42]⟩ : ByteArray), .string a2] rfl (by (try simp only [List.map_toArray, List.map_cons, List.map_nil]); first | done | rfl | (simp only [List.length_drop, List.length_take]; rfl)) ?_; (with_reducible refine (glob_Match.calls k3 (⟨#[42]⟩ : ByteArray) a2 t184 t185 _ A32.out).mono ?_); rintro e w35 ⟨rfl, hb⟩; refine ⟨_, rfl, ?_⟩; have n0_ := Aside0.mk (below_step (by repeat (first | (with_reducible first | exact HB.out | apply below_alloc | apply pw_below_drewN | apply below_drew1) | exact HB.out)) hb); clear HB; have HB := n0_; clear n0_; (try clear hb); (try clear hb2); (try clear hk); (try clear hi)))
                            go_ret
                            exact ⟨by first | rfl | (simp [errW_none, errW_some] <;> rfl) | (simp [*, errW_none, errW_some] <;> rfl), by repeat (first | (with_reducible first | exact HB.out | apply below_alloc | apply pw_below_drewN | apply below_drew1) | exact HB.out)⟩
            · rw [if_neg c16] at H
              exact absurd H (by simp)
          · rw [if_neg c15] at H
            exact absurd H (by simp)
  · replace c6 := Bool.eq_false_iff.mpr c6
    subst c6
    have H1 : (some false) = some r := by rw [if_neg (show ¬ (false = true) by decide)] at H; exact H
    clear H
    have H := H1
    clear H1
    obtain rfl := Option.some.inj H
    go_enter Try.func4, Try.ntmps4
    go_wp2_with (first | ((with_reducible refine gate_callee (f := 8) rfl ?_); refine goesL_ (some 19) rfl rfl Try.func8 (by kernel_rfl) rfl #[] rfl (by (try simp only [List.map_toArray, List.map_cons, List.map_nil]); first | done | rfl | (simp only [List.length_drop, List.length_take]; rfl)) ?_; (with_reducible refine (seichelaw19_alive.calls k  false _ A5.out).mono ?_); rintro e w36 ⟨rfl, hb⟩; refine ⟨_, rfl, ?_⟩; have n0_ := Aside0.mk (below_step (by repeat (first | (with_reducible first | exact HB.out | apply below_alloc | apply pw_below_drewN | apply below_drew1) | exact HB.out)) hb); clear HB; have HB := n0_; clear n0_; (try clear hb); (try clear hb2); (try clear hk); (try clear hi)))
    go_ret
    exact ⟨by first | rfl | (simp [errW_none, errW_some] <;> rfl) | (simp [*, errW_none, errW_some] <;> rfl), by repeat (first | (with_reducible first | exact HB.out | apply below_alloc | apply pw_below_drewN | apply below_drew1) | exact HB.out)⟩

/-- THE ONE PURE STATEMENT of seichelaw19_GlobJoins: yours. -/
def seichelaw19_GlobJoins.Pure : Prop := ∀ (a0 : ByteArray) (a1 : ByteArray) (a2 : ByteArray) (a3 : ByteArray), a0.size ≤ 140737488351232 → a1.size ≤ 140737488351232 → a2.size ≤ 140737488351232 → a3.size ≤ 140737488351232 → ∃ k, seichelaw19_GlobJoins.f k a0 a1 a2 a3 = some true
theorem seichelaw19_GlobJoins.walk (P : seichelaw19_GlobJoins.Pure) (a0 : ByteArray) (a1 : ByteArray) (a2 : ByteArray) (a3 : ByteArray) (w : World) (w0 : a0.size ≤ 140737488351232) (w1 : a1.size ≤ 140737488351232) (w2 : a2.size ≤ 140737488351232) (w3 : a3.size ≤ 140737488351232) :
    Calls Try.prog 4 #[.string a0, .string a1, .string a2, .string a3] w fun e w' => e = .returned (.bool true) ∧ Below w.heap.size w w' := by
  obtain ⟨k, h⟩ := P a0 a1 a2 a3 w0 w1 w2 w3
  refine (seichelaw19_GlobJoins.calls k a0 a1 a2 a3 true w h).mono ?_
  rintro e w' ⟨rfl, hd⟩
  exact ⟨rfl, hd⟩

end Go.Proofs.Ytdcbmpjofacbhaa.PAll
