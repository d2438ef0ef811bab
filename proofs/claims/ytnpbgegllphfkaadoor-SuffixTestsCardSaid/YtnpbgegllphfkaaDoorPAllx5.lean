-- Written by a program of this session (a changed scratch copy of a tool of the kit); not a print of the kit's own.
import Derived.Test.YtnpbgegllphfkaaDoorPAllx0
import Derived.Test.YtnpbgegllphfkaaDoorPAllx4
namespace Go.Proofs.YtnpbgegllphfkaaDoor.PAll
open Go.RowKit Go.Proofs.YtnpbgegllphfkaaDoorW.PrintWords Go.Proofs.YtnpbgegllphfkaaDoorW.PrintLast Go.Proofs.YtnpbgegllphfkaaDoorW.PrintMore Go.Proofs.YtnpbgegllphfkaaDoorMy Go.Proofs.YtnpbgegllphfkaaDoor
attribute [local go_sem] max2_int min2_int max_two min_two max_three min_three max_four min_four   -- for this text's walks alone
set_option linter.unusedVariables false
set_option linter.unusedSimpArgs false

/-! ### seicheref15_Of: function 8 -/
mutual
def seicheref15_Of.j0 : Nat → ByteArray → Bool → Option (Bool × Bool × ByteArray × ByteArray)
  | 0, _, _ => none
  | k + 1, x0, x21 => if x21 = true then (some (false, false, (⟨#[]⟩ : ByteArray), (⟨#[]⟩ : ByteArray))) else (if 0 ≤ (wrap64 ((x0.size : Int) - 3)) then (if (wrap64 ((x0.size : Int) - 3)) ≤ (x0.size : Int) then ((seicheref15_Ends.f (x0.extract 0 ((wrap64 ((x0.size : Int) - 3)) : Int).toNat) (⟨#[95, 116, 101, 115, 116]⟩ : ByteArray)).bind fun t171 => (if t171 = true then (if 0 ≤ (wrap64 (((x0.extract 0 ((wrap64 ((x0.size : Int) - 3)) : Int).toNat).size : Int) - 5)) then (if (wrap64 (((x0.extract 0 ((wrap64 ((x0.size : Int) - 3)) : Int).toNat).size : Int) - 5)) ≤ ((x0.extract 0 ((wrap64 ((x0.size : Int) - 3)) : Int).toNat).size : Int) then (seicheref15_Of.j1 k ((x0.extract 0 ((wrap64 ((x0.size : Int) - 3)) : Int).toNat).extract 0 ((wrap64 (((x0.extract 0 ((wrap64 ((x0.size : Int) - 3)) : Int).toNat).size : Int) - 5)) : Int).toNat) t171) else (none)) else (none)) else (seicheref15_Of.j1 k (x0.extract 0 ((wrap64 ((x0.size : Int) - 3)) : Int).toNat) t171))) else (none)) else (none))
def seicheref15_Of.j1 : Nat → ByteArray → Bool → Option (Bool × Bool × ByteArray × ByteArray)
  | 0, _, _ => none
  | k + 1, x0, x6 => (seicheref14_Cut.f k x0 95).bind fun t172 => (if (t172.length : Int) ≥ 3 then (if 0 ≤ (wrap64 ((t172.length : Int) - 2)) then (if (wrap64 ((t172.length : Int) - 2)) < (t172.length : Int) then ((seicheref15_System.f k (rdOf ByteArray.empty t172 (wrap64 ((t172.length : Int) - 2)))).bind fun t176 => (if t176 = true then (if 0 ≤ (wrap64 ((t172.length : Int) - 1)) then (if (wrap64 ((t172.length : Int) - 1)) < (t172.length : Int) then ((seicheref15_Processor.f k (rdOf ByteArray.empty t172 (wrap64 ((t172.length : Int) - 1)))).bind fun t178 => (seicheref15_Of.j2 k x6 t172 (t172.length : Int) t178)) else (none)) else (none)) else (seicheref15_Of.j2 k x6 t172 (t172.length : Int) false))) else (none)) else (none)) else (seicheref15_Of.j2 k x6 t172 (t172.length : Int) false))
def seicheref15_Of.j2 : Nat → Bool → List ByteArray → Int → Bool → Option (Bool × Bool × ByteArray × ByteArray)
  | 0, _, _, _, _ => none
  | k + 1, x6, x7, x8, x56 => if x56 = true then (if 0 ≤ (wrap64 (x8 - 2)) then (if (wrap64 (x8 - 2)) < (x7.length : Int) then (if 0 ≤ (wrap64 (x8 - 1)) then (if (wrap64 (x8 - 1)) < (x7.length : Int) then (some (true, x6, rdOf ByteArray.empty x7 (wrap64 (x8 - 2)), rdOf ByteArray.empty x7 (wrap64 (x8 - 1)))) else (none)) else (none)) else (none)) else (none)) else (if x8 ≥ 2 then (if 0 ≤ (wrap64 (x8 - 1)) then (if (wrap64 (x8 - 1)) < (x7.length : Int) then ((seicheref15_System.f k (rdOf ByteArray.empty x7 (wrap64 (x8 - 1)))).bind fun t182 => (seicheref15_Of.j3 k x6 x7 x8 t182)) else (none)) else (none)) else (seicheref15_Of.j3 k x6 x7 x8 false))
def seicheref15_Of.j3 : Nat → Bool → List ByteArray → Int → Bool → Option (Bool × Bool × ByteArray × ByteArray)
  | 0, _, _, _, _ => none
  | k + 1, x6, x7, x8, x77 => if x77 = true then (if 0 ≤ (wrap64 (x8 - 1)) then (if (wrap64 (x8 - 1)) < (x7.length : Int) then (some (true, x6, rdOf ByteArray.empty x7 (wrap64 (x8 - 1)), (⟨#[]⟩ : ByteArray))) else (none)) else (none)) else (if x8 ≥ 2 then (if 0 ≤ (wrap64 (x8 - 1)) then (if (wrap64 (x8 - 1)) < (x7.length : Int) then ((seicheref15_Processor.f k (rdOf ByteArray.empty x7 (wrap64 (x8 - 1)))).bind fun t185 => (if t185 = true then (some (true, x6, (⟨#[]⟩ : ByteArray), rdOf ByteArray.empty x7 (wrap64 (x8 - 1)))) else (some (true, x6, (⟨#[]⟩ : ByteArray), (⟨#[]⟩ : ByteArray))))) else (none)) else (none)) else (some (true, x6, (⟨#[]⟩ : ByteArray), (⟨#[]⟩ : ByteArray))))
end
def seicheref15_Of.f (k : Nat) (a0 : ByteArray) : Option (Bool × Bool × ByteArray × ByteArray) := (seicheref15_Ends.f a0 (⟨#[46, 103, 111]⟩ : ByteArray)).bind fun t170 => (if t170 = true then (if 0 < (a0.size : Int) then (if (bt a0 0) = 95 then (seicheref15_Of.j0 k a0 true) else (seicheref15_Of.j0 k a0 ((bt a0 0) == 46))) else (none)) else (seicheref15_Of.j0 k a0 true))
theorem seicheref15_Of.mono_l : ∀ k, (∀ y0 y1, LeO (seicheref15_Of.j0 k y0 y1) (seicheref15_Of.j0 (k + 1) y0 y1)) ∧ (∀ y0 y1, LeO (seicheref15_Of.j1 k y0 y1) (seicheref15_Of.j1 (k + 1) y0 y1)) ∧ (∀ y0 y1 y2 y3, LeO (seicheref15_Of.j2 k y0 y1 y2 y3) (seicheref15_Of.j2 (k + 1) y0 y1 y2 y3)) ∧ (∀ y0 y1 y2 y3, LeO (seicheref15_Of.j3 k y0 y1 y2 y3) (seicheref15_Of.j3 (k + 1) y0 y1 y2 y3))
  | 0 => ⟨fun _ _ r h => by simp [seicheref15_Of.j0] at h, fun _ _ r h => by simp [seicheref15_Of.j1] at h, fun _ _ _ _ r h => by simp [seicheref15_Of.j2] at h, fun _ _ _ _ r h => by simp [seicheref15_Of.j3] at h⟩
  | k + 1 => by
    obtain ⟨ih0, ih1, ih2, ih3⟩ := seicheref15_Of.mono_l k
    refine ⟨?_, ?_, ?_, ?_⟩
    · intro y0 y1
      unfold seicheref15_Of.j0
      repeat' first
      | (with_reducible exact ih0 _ _)
      | (with_reducible exact ih1 _ _)
      | (with_reducible exact ih2 _ _ _ _)
      | (with_reducible exact ih3 _ _ _ _)
      | (with_reducible exact seicheref14_Cut.mono _ _ _)
      | (with_reducible exact seicheref15_Processor.mono _ _)
      | (with_reducible exact seicheref15_System.mono _ _)
      | (with_reducible exact LeO.refl _)
      | (with_reducible exact LeO.none _)
      | (with_reducible refine LeO.ite ?_ ?_)
      | (with_reducible refine LeO.bind ?_ (fun _ => ?_))
      | exact ih0 _ _
      | exact ih1 _ _
      | exact ih2 _ _ _ _
      | exact ih3 _ _ _ _
      | exact seicheref14_Cut.mono _ _ _
      | exact seicheref15_Processor.mono _ _
      | exact seicheref15_System.mono _ _
      | exact LeO.none _
      | refine LeO.ite ?_ ?_
      | refine LeO.bind ?_ (fun _ => ?_)
    · intro y0 y1
      unfold seicheref15_Of.j1
      repeat' first
      | (with_reducible exact ih0 _ _)
      | (with_reducible exact ih1 _ _)
      | (with_reducible exact ih2 _ _ _ _)
      | (with_reducible exact ih3 _ _ _ _)
      | (with_reducible exact seicheref14_Cut.mono _ _ _)
      | (with_reducible exact seicheref15_Processor.mono _ _)
      | (with_reducible exact seicheref15_System.mono _ _)
      | (with_reducible exact LeO.refl _)
      | (with_reducible exact LeO.none _)
      | (with_reducible refine LeO.ite ?_ ?_)
      | (with_reducible refine LeO.bind ?_ (fun _ => ?_))
      | exact ih0 _ _
      | exact ih1 _ _
      | exact ih2 _ _ _ _
      | exact ih3 _ _ _ _
      | exact seicheref14_Cut.mono _ _ _
      | exact seicheref15_Processor.mono _ _
      | exact seicheref15_System.mono _ _
      | exact LeO.none _
      | refine LeO.ite ?_ ?_
      | refine LeO.bind ?_ (fun _ => ?_)
    · intro y0 y1 y2 y3
      unfold seicheref15_Of.j2
      repeat' first
      | (with_reducible exact ih0 _ _)
      | (with_reducible exact ih1 _ _)
      | (with_reducible exact ih2 _ _ _ _)
      | (with_reducible exact ih3 _ _ _ _)
      | (with_reducible exact seicheref14_Cut.mono _ _ _)
      | (with_reducible exact seicheref15_Processor.mono _ _)
      | (with_reducible exact seicheref15_System.mono _ _)
      | (with_reducible exact LeO.refl _)
      | (with_reducible exact LeO.none _)
      | (with_reducible refine LeO.ite ?_ ?_)
      | (with_reducible refine LeO.bind ?_ (fun _ => ?_))
      | exact ih0 _ _
      | exact ih1 _ _
      | exact ih2 _ _ _ _
      | exact ih3 _ _ _ _
      | exact seicheref14_Cut.mono _ _ _
      | exact seicheref15_Processor.mono _ _
      | exact seicheref15_System.mono _ _
      | exact LeO.none _
      | refine LeO.ite ?_ ?_
      | refine LeO.bind ?_ (fun _ => ?_)
    · intro y0 y1 y2 y3
      unfold seicheref15_Of.j3
      repeat' first
      | (with_reducible exact ih0 _ _)
      | (with_reducible exact ih1 _ _)
      | (with_reducible exact ih2 _ _ _ _)
      | (with_reducible exact ih3 _ _ _ _)
      | (with_reducible exact seicheref14_Cut.mono _ _ _)
      | (with_reducible exact seicheref15_Processor.mono _ _)
      | (with_reducible exact seicheref15_System.mono _ _)
      | (with_reducible exact LeO.refl _)
      | (with_reducible exact LeO.none _)
      | (with_reducible refine LeO.ite ?_ ?_)
      | (with_reducible refine LeO.bind ?_ (fun _ => ?_))
      | exact ih0 _ _
      | exact ih1 _ _
      | exact ih2 _ _ _ _
      | exact ih3 _ _ _ _
      | exact seicheref14_Cut.mono _ _ _
      | exact seicheref15_Processor.mono _ _
      | exact seicheref15_System.mono _ _
      | exact LeO.none _
      | refine LeO.ite ?_ ?_
      | refine LeO.bind ?_ (fun _ => ?_)
theorem seicheref15_Of.mono : ∀ a0 k, LeO (seicheref15_Of.f k a0) (seicheref15_Of.f (k + 1) a0) := by
  intro a0 k
  obtain ⟨ih0, ih1, ih2, ih3⟩ := seicheref15_Of.mono_l k
  unfold seicheref15_Of.f
  repeat' first
      | (with_reducible exact ih0 _ _)
      | (with_reducible exact ih1 _ _)
      | (with_reducible exact ih2 _ _ _ _)
      | (with_reducible exact ih3 _ _ _ _)
      | (with_reducible exact seicheref14_Cut.mono _ _ _)
      | (with_reducible exact seicheref15_Processor.mono _ _)
      | (with_reducible exact seicheref15_System.mono _ _)
      | (with_reducible exact LeO.refl _)
      | (with_reducible exact LeO.none _)
      | (with_reducible refine LeO.ite ?_ ?_)
      | (with_reducible refine LeO.bind ?_ (fun _ => ?_))
      | exact ih0 _ _
      | exact ih1 _ _
      | exact ih2 _ _ _ _
      | exact ih3 _ _ _ _
      | exact seicheref14_Cut.mono _ _ _
      | exact seicheref15_Processor.mono _ _
      | exact seicheref15_System.mono _ _
      | exact LeO.none _
      | refine LeO.ite ?_ ?_
      | refine LeO.bind ?_ (fun _ => ?_)
set_option maxHeartbeats 8000000 in
set_option maxRecDepth 100000 in
theorem seicheref15_Of.calls (k : Nat) (a0 : ByteArray) (r1 : Bool) (r2 : Bool) (r3 : ByteArray) (r4 : ByteArray) (w : World) (h : seicheref15_Of.f k a0 = some (r1, r2, r3, r4)) :
    Calls Tryd.prog 8 #[.string a0] w fun e w' => e = .returned (.tuple #[.bool r1, .bool r2, .string r3, .string r4]) ∧ Below w.heap.size w w' := by
  have HB := Aside0.mk (Below.refl w.heap.size w)
  have H : ((seicheref15_Ends.f a0 (⟨#[46, 103, 111]⟩ : ByteArray)).bind fun t170 => (if t170 = true then (if 0 < (a0.size : Int) then (if (bt a0 0) = 95 then (seicheref15_Of.j0 k a0 true) else (seicheref15_Of.j0 k a0 ((bt a0 0) == 46))) else (none)) else (seicheref15_Of.j0 k a0 true))) = some (r1, r2, r3, r4) := h
  clear h
  have HC2 := Aside0.mk H
  clear H
  go_enter Tryd.func8, Tryd.ntmps8
  go_upto_region 1 with (fail)
  repeat (go_quiet (fail); go_upto_region 1 with (fail))
  go_cut [21] (fun v21 wc => ∃ (kq : Nat) (x21_1 : Bool), v21 = .bool x21_1 ∧ Aside0 (seicheref15_Of.j0 kq a0 x21_1 = some (r1, r2, r3, r4)) ∧ Aside0 (kq ≤ k) ∧ Aside0 (Below w.heap.size w wc))
  case first =>
    have H := HC2.out
    clear HC2
    replace H := Option.bind_eq_some_iff.mp H
    obtain ⟨t170, A30, H⟩ := H
    replace H : (if t170 = true then (if 0 < (a0.size : Int) then (if (bt a0 0) = 95 then (seicheref15_Of.j0 k a0 true) else (seicheref15_Of.j0 k a0 ((bt a0 0) == 46))) else (none)) else (seicheref15_Of.j0 k a0 true)) = some (r1, r2, r3, r4) := H
    have A3 := Aside0.mk A30
    clear A30
    by_cases c4 : t170 = true
    · subst c4
      have H1 : (if 0 < (a0.size : Int) then (if (bt a0 0) = 95 then (seicheref15_Of.j0 k a0 true) else (seicheref15_Of.j0 k a0 ((bt a0 0) == 46))) else (none)) = some (r1, r2, r3, r4) := by rw [if_pos rfl] at H; exact H
      clear H
      have H := H1
      clear H1
      by_cases c5 : 0 < (a0.size : Int)
      · rw [if_pos c5] at H
        have c5b0 : decide (0 < (a0.size : Int)) = true := decide_eq_true c5
        have c5b1 : decide (0 < a0.size) = true := decide_eq_true (by omega)
        clear c5
        (first | rw [c5b0] | (simp only [i64_w, i32_w]; rw [c5b0]) | skip)
        by_cases c7 : (bt a0 0) = 95
        · rw [if_pos c7] at H
          have c7b0 : ((bt a0 0) == 95) = true := beq_iff_eq.mpr c7
          have c7b1 : ((bt a0 0) != 95) = false := bne_eq_false_iff_eq.mpr c7
          clear c7
          have H' := Aside0.mk H
          clear H
          go_wp2_with (first | (go_at_call 14; (with_reducible refine (seicheref15_Ends.calls a0 (⟨#[46, 103, 111]⟩ : ByteArray) true _ A3.out).mono ?_); rintro e w' ⟨rfl, ⟨nd, rfl⟩⟩; (try first | exact ⟨rfl, _, World.drewN_drewN _ _ _⟩ | exact ⟨rfl, _, Eq.trans (World.drewN_drewN _ _ _) (congrArg (World.drewN _) (Nat.add_assoc _ _ _))⟩); have p6 : 0 ≤ (0 : Int) := (by omega); have q6 : 0 < a0.size := (by have : (0 : Int) < (a0.size : Int) := of_decide_eq_true (by first | (with_reducible assumption) | assumption); omega); have hx6 : ∀ h : 0 < a0.size, ((a0[0]'h).toNat : Int) = bt a0 0 := bt_at a0 0; clear p6; have qi6 : (0 < (a0.size : Int)) = True := eq_true (of_decide_eq_true (by first | (with_reducible assumption) | assumption)); replace q6 := eq_true q6))
          repeat (go_quiet (first | (go_at_call 14; (with_reducible refine (seicheref15_Ends.calls a0 (⟨#[46, 103, 111]⟩ : ByteArray) true _ A3.out).mono ?_); rintro e w' ⟨rfl, ⟨nd, rfl⟩⟩; (try first | exact ⟨rfl, _, World.drewN_drewN _ _ _⟩ | exact ⟨rfl, _, Eq.trans (World.drewN_drewN _ _ _) (congrArg (World.drewN _) (Nat.add_assoc _ _ _))⟩); have p6 : 0 ≤ (0 : Int) := (by omega); have q6 : 0 < a0.size := (by have : (0 : Int) < (a0.size : Int) := of_decide_eq_true (by first | (with_reducible assumption) | assumption); omega); have hx6 : ∀ h : 0 < a0.size, ((a0[0]'h).toNat : Int) = bt a0 0 := bt_at a0 0; clear p6; have qi6 : (0 < (a0.size : Int)) = True := eq_true (of_decide_eq_true (by first | (with_reducible assumption) | assumption)); replace q6 := eq_true q6)); try go_wp2_with (first | (go_at_call 14; (with_reducible refine (seicheref15_Ends.calls a0 (⟨#[46, 103, 111]⟩ : ByteArray) true _ A3.out).mono ?_); rintro e w' ⟨rfl, ⟨nd, rfl⟩⟩; (try first | exact ⟨rfl, _, World.drewN_drewN _ _ _⟩ | exact ⟨rfl, _, Eq.trans (World.drewN_drewN _ _ _) (congrArg (World.drewN _) (Nat.add_assoc _ _ _))⟩); have p6 : 0 ≤ (0 : Int) := (by omega); have q6 : 0 < a0.size := (by have : (0 : Int) < (a0.size : Int) := of_decide_eq_true (by first | (with_reducible assumption) | assumption); omega); have hx6 : ∀ h : 0 < a0.size, ((a0[0]'h).toNat : Int) = bt a0 0 := bt_at a0 0; clear p6; have qi6 : (0 < (a0.size : Int)) = True := eq_true (of_decide_eq_true (by first | (with_reducible assumption) | assumption)); replace q6 := eq_true q6)))
          go_meet
          case rel => exact ⟨_, (true), (by first | rfl | (simp; done) | (simp [*]; done)), H', ⟨by first | omega | exact Nat.le_refl _⟩, ⟨by repeat (first | (with_reducible first | exact HB.out | apply below_alloc | apply pw_below_drewN | apply below_drew1) | exact HB.out)⟩⟩
        · rw [if_neg c7] at H
          have c7b0 : ((bt a0 0) == 95) = false := beq_eq_false_iff_ne.mpr c7
          have c7b1 : ((bt a0 0) != 95) = true := bne_iff_ne.mpr c7
          have H' := Aside0.mk H
          clear H
          go_wp2_with (first | (go_at_call 14; (with_reducible refine (seicheref15_Ends.calls a0 (⟨#[46, 103, 111]⟩ : ByteArray) true _ A3.out).mono ?_); rintro e w' ⟨rfl, ⟨nd, rfl⟩⟩; (try first | exact ⟨rfl, _, World.drewN_drewN _ _ _⟩ | exact ⟨rfl, _, Eq.trans (World.drewN_drewN _ _ _) (congrArg (World.drewN _) (Nat.add_assoc _ _ _))⟩); have p6 : 0 ≤ (0 : Int) := (by omega); have q6 : 0 < a0.size := (by have : (0 : Int) < (a0.size : Int) := of_decide_eq_true (by first | (with_reducible assumption) | assumption); omega); have hx6 : ∀ h : 0 < a0.size, ((a0[0]'h).toNat : Int) = bt a0 0 := bt_at a0 0; clear p6; have qi6 : (0 < (a0.size : Int)) = True := eq_true (of_decide_eq_true (by first | (with_reducible assumption) | assumption)); replace q6 := eq_true q6; have p8 : 0 ≤ (0 : Int) := (by omega); have q8 : 0 < a0.size := (by have : (0 : Int) < (a0.size : Int) := of_decide_eq_true (by first | (with_reducible assumption) | assumption); omega); have hx8 : ∀ h : 0 < a0.size, ((a0[0]'h).toNat : Int) = bt a0 0 := bt_at a0 0; clear p8; have qi8 : (0 < (a0.size : Int)) = True := eq_true (of_decide_eq_true (by first | (with_reducible assumption) | assumption)); replace q8 := eq_true q8))
          repeat (go_quiet (first | (go_at_call 14; (with_reducible refine (seicheref15_Ends.calls a0 (⟨#[46, 103, 111]⟩ : ByteArray) true _ A3.out).mono ?_); rintro e w' ⟨rfl, ⟨nd, rfl⟩⟩; (try first | exact ⟨rfl, _, World.drewN_drewN _ _ _⟩ | exact ⟨rfl, _, Eq.trans (World.drewN_drewN _ _ _) (congrArg (World.drewN _) (Nat.add_assoc _ _ _))⟩); have p6 : 0 ≤ (0 : Int) := (by omega); have q6 : 0 < a0.size := (by have : (0 : Int) < (a0.size : Int) := of_decide_eq_true (by first | (with_reducible assumption) | assumption); omega); have hx6 : ∀ h : 0 < a0.size, ((a0[0]'h).toNat : Int) = bt a0 0 := bt_at a0 0; clear p6; have qi6 : (0 < (a0.size : Int)) = True := eq_true (of_decide_eq_true (by first | (with_reducible assumption) | assumption)); replace q6 := eq_true q6; have p8 : 0 ≤ (0 : Int) := (by omega); have q8 : 0 < a0.size := (by have : (0 : Int) < (a0.size : Int) := of_decide_eq_true (by first | (with_reducible assumption) | assumption); omega); have hx8 : ∀ h : 0 < a0.size, ((a0[0]'h).toNat : Int) = bt a0 0 := bt_at a0 0; clear p8; have qi8 : (0 < (a0.size : Int)) = True := eq_true (of_decide_eq_true (by first | (with_reducible assumption) | assumption)); replace q8 := eq_true q8)); try go_wp2_with (first | (go_at_call 14; (with_reducible refine (seicheref15_Ends.calls a0 (⟨#[46, 103, 111]⟩ : ByteArray) true _ A3.out).mono ?_); rintro e w' ⟨rfl, ⟨nd, rfl⟩⟩; (try first | exact ⟨rfl, _, World.drewN_drewN _ _ _⟩ | exact ⟨rfl, _, Eq.trans (World.drewN_drewN _ _ _) (congrArg (World.drewN _) (Nat.add_assoc _ _ _))⟩); have p6 : 0 ≤ (0 : Int) := (by omega); have q6 : 0 < a0.size := (by have : (0 : Int) < (a0.size : Int) := of_decide_eq_true (by first | (with_reducible assumption) | assumption); omega); have hx6 : ∀ h : 0 < a0.size, ((a0[0]'h).toNat : Int) = bt a0 0 := bt_at a0 0; clear p6; have qi6 : (0 < (a0.size : Int)) = True := eq_true (of_decide_eq_true (by first | (with_reducible assumption) | assumption)); replace q6 := eq_true q6; have p8 : 0 ≤ (0 : Int) := (by omega); have q8 : 0 < a0.size := (by have : (0 : Int) < (a0.size : Int) := of_decide_eq_true (by first | (with_reducible assumption) | assumption); omega); have hx8 : ∀ h : 0 < a0.size, ((a0[0]'h).toNat : Int) = bt a0 0 := bt_at a0 0; clear p8; have qi8 : (0 < (a0.size : Int)) = True := eq_true (of_decide_eq_true (by first | (with_reducible assumption) | assumption)); replace q8 := eq_true q8)))
          go_meet
          case rel => exact ⟨_, (((bt a0 0) == 46)), (by first | rfl | (simp; done) | (simp [*]; done)), H', ⟨by first | omega | exact Nat.le_refl _⟩, ⟨by repeat (first | (with_reducible first | exact HB.out | apply below_alloc | apply pw_below_drewN | apply below_drew1) | exact HB.out)⟩⟩
      · rw [if_neg c5] at H
        exact absurd H (by simp)
    · replace c4 := Bool.eq_false_iff.mpr c4
      subst c4
      have H1 : (seicheref15_Of.j0 k a0 true) = some (r1, r2, r3, r4) := by rw [if_neg (show ¬ (false = true) by decide)] at H; exact H
      clear H
      have H := H1
      clear H1
      have H' := Aside0.mk H
      clear H
      go_wp2_with (first | (go_at_call 14; (with_reducible refine (seicheref15_Ends.calls a0 (⟨#[46, 103, 111]⟩ : ByteArray) false _ A3.out).mono ?_); rintro e w' ⟨rfl, ⟨nd, rfl⟩⟩; (try first | exact ⟨rfl, _, World.drewN_drewN _ _ _⟩ | exact ⟨rfl, _, Eq.trans (World.drewN_drewN _ _ _) (congrArg (World.drewN _) (Nat.add_assoc _ _ _))⟩)))
      repeat (go_quiet (first | (go_at_call 14; (with_reducible refine (seicheref15_Ends.calls a0 (⟨#[46, 103, 111]⟩ : ByteArray) false _ A3.out).mono ?_); rintro e w' ⟨rfl, ⟨nd, rfl⟩⟩; (try first | exact ⟨rfl, _, World.drewN_drewN _ _ _⟩ | exact ⟨rfl, _, Eq.trans (World.drewN_drewN _ _ _) (congrArg (World.drewN _) (Nat.add_assoc _ _ _))⟩))); try go_wp2_with (first | (go_at_call 14; (with_reducible refine (seicheref15_Ends.calls a0 (⟨#[46, 103, 111]⟩ : ByteArray) false _ A3.out).mono ?_); rintro e w' ⟨rfl, ⟨nd, rfl⟩⟩; (try first | exact ⟨rfl, _, World.drewN_drewN _ _ _⟩ | exact ⟨rfl, _, Eq.trans (World.drewN_drewN _ _ _) (congrArg (World.drewN _) (Nat.add_assoc _ _ _))⟩))))
      go_meet
      case rel => exact ⟨_, (true), (by first | rfl | (simp; done) | (simp [*]; done)), H', ⟨by first | omega | exact Nat.le_refl _⟩, ⟨by repeat (first | (with_reducible first | exact HB.out | apply below_alloc | apply pw_below_drewN | apply below_drew1) | exact HB.out)⟩⟩
  case rest =>
    clear HC2
    try clear p2
    try clear c4
    try clear c5
    try clear c5b0
    try clear c5b1
    try clear p6
    try clear q6
    try clear hx6
    try clear qi6
    try clear c7
    try clear c7b0
    try clear c7b1
    try clear c8
    try clear p8
    try clear q8
    try clear hx8
    try clear qi8
    try clear p6
    try clear p8
    try clear q6
    try clear q8
    obtain ⟨kq, x21_1, rfl, HA, HJ1, HB⟩ := hcut
    cases kq with
    | zero => exact absurd HA.out (by simp [seicheref15_Of.j0])
    | succ kj1 =>
      have H := HA.out
      clear HA
      simp only [seicheref15_Of.j0] at H
      by_cases c9 : x21_1 = true
      · subst c9
        have H1 : (some (false, false, (⟨#[]⟩ : ByteArray), (⟨#[]⟩ : ByteArray))) = some (r1, r2, r3, r4) := by rw [if_pos rfl] at H; exact H
        clear H
        have H := H1
        clear H1
        simp only [Option.some.injEq, Prod.mk.injEq] at H
        obtain ⟨rfl, rfl, rfl, rfl⟩ := H
        go_wp2
        repeat (go_quiet (fail); try go_wp2)
        refine bodyPost_ret (results_list (rs := [.tmp 2, .tmp 3, .tmp 4, .tmp 5]) rfl (by simp) (.tmp (.tmp (.tmp (.tmp .nil))))) rfl ?_
        exact ⟨by first | rfl | (simp [errW_none, errW_some] <;> rfl) | (simp [*, errW_none, errW_some] <;> rfl), by repeat (first | (with_reducible first | exact HB.out | apply below_alloc | apply pw_below_drewN | apply below_drew1) | exact HB.out)⟩
      · replace c9 := Bool.eq_false_iff.mpr c9
        subst c9
        have H1 : (if 0 ≤ (wrap64 ((a0.size : Int) - 3)) then (if (wrap64 ((a0.size : Int) - 3)) ≤ (a0.size : Int) then ((seicheref15_Ends.f (a0.extract 0 ((wrap64 ((a0.size : Int) - 3)) : Int).toNat) (⟨#[95, 116, 101, 115, 116]⟩ : ByteArray)).bind fun t171 => (if t171 = true then (if 0 ≤ (wrap64 (((a0.extract 0 ((wrap64 ((a0.size : Int) - 3)) : Int).toNat).size : Int) - 5)) then (if (wrap64 (((a0.extract 0 ((wrap64 ((a0.size : Int) - 3)) : Int).toNat).size : Int) - 5)) ≤ ((a0.extract 0 ((wrap64 ((a0.size : Int) - 3)) : Int).toNat).size : Int) then (seicheref15_Of.j1 kj1 ((a0.extract 0 ((wrap64 ((a0.size : Int) - 3)) : Int).toNat).extract 0 ((wrap64 (((a0.extract 0 ((wrap64 ((a0.size : Int) - 3)) : Int).toNat).size : Int) - 5)) : Int).toNat) t171) else (none)) else (none)) else (seicheref15_Of.j1 kj1 (a0.extract 0 ((wrap64 ((a0.size : Int) - 3)) : Int).toNat) t171))) else (none)) else (none)) = some (r1, r2, r3, r4) := by rw [if_neg (show ¬ (false = true) by decide)] at H; exact H
        clear H
        have H := H1
        clear H1
        obtain ⟨ji10, hji10⟩ : ∃ j_ : Int, (wrap64 ((a0.size : Int) - 3)) = j_ := ⟨_, rfl⟩
        replace H : (if 0 ≤ (ji10) then (if (ji10) ≤ (a0.size : Int) then ((seicheref15_Ends.f (a0.extract 0 ((ji10) : Int).toNat) (⟨#[95, 116, 101, 115, 116]⟩ : ByteArray)).bind fun t171 => (if t171 = true then (if 0 ≤ (wrap64 (((a0.extract 0 ((ji10) : Int).toNat).size : Int) - 5)) then (if (wrap64 (((a0.extract 0 ((ji10) : Int).toNat).size : Int) - 5)) ≤ ((a0.extract 0 ((ji10) : Int).toNat).size : Int) then (seicheref15_Of.j1 kj1 ((a0.extract 0 ((ji10) : Int).toNat).extract 0 ((wrap64 (((a0.extract 0 ((ji10) : Int).toNat).size : Int) - 5)) : Int).toNat) t171) else (none)) else (none)) else (seicheref15_Of.j1 kj1 (a0.extract 0 ((ji10) : Int).toNat) t171))) else (none)) else (none)) = some (r1, r2, r3, r4) := by first | (rw [hji10] at H; exact H) | (simp only [hji10] at H ⊢; exact H)
        have hji10w : (IntKind.i64.wrap ((a0.size : Int) - 3)) = ji10 := (i64_w _).trans hji10
        by_cases c11 : 0 ≤ (ji10)
        · rw [if_pos c11] at H
          have c11b0 := eq_true c11
          have c11b1 : decide (0 ≤ (ji10)) = true := decide_eq_true c11
          clear c11
          by_cases c12 : (ji10) ≤ (a0.size : Int)
          · rw [if_pos c12] at H
            have c12b0 := eq_true c12
            have c12b1 : decide ((ji10) ≤ (a0.size : Int)) = true := decide_eq_true c12
            clear c12
            replace H := Option.bind_eq_some_iff.mp H
            obtain ⟨t171, A130, H⟩ := H
            replace H : (if t171 = true then (if 0 ≤ (wrap64 (((a0.extract 0 ((ji10) : Int).toNat).size : Int) - 5)) then (if (wrap64 (((a0.extract 0 ((ji10) : Int).toNat).size : Int) - 5)) ≤ ((a0.extract 0 ((ji10) : Int).toNat).size : Int) then (seicheref15_Of.j1 kj1 ((a0.extract 0 ((ji10) : Int).toNat).extract 0 ((wrap64 (((a0.extract 0 ((ji10) : Int).toNat).size : Int) - 5)) : Int).toNat) t171) else (none)) else (none)) else (seicheref15_Of.j1 kj1 (a0.extract 0 ((ji10) : Int).toNat) t171)) = some (r1, r2, r3, r4) := H
            have A13 := Aside0.mk A130
            clear A130
            have HC14 := Aside0.mk H
            clear H
            go_upto_if 29 with (first | (go_at_call 14; (with_reducible refine (seicheref15_Ends.calls (a0.extract 0 ((ji10) : Int).toNat) (⟨#[95, 116, 101, 115, 116]⟩ : ByteArray) t171 _ A13.out).mono ?_); rintro e w' ⟨rfl, ⟨nd, rfl⟩⟩; (try first | exact ⟨rfl, _, World.drewN_drewN _ _ _⟩ | exact ⟨rfl, _, Eq.trans (World.drewN_drewN _ _ _) (congrArg (World.drewN _) (Nat.add_assoc _ _ _))⟩)))
            repeat (go_quiet (first | (go_at_call 14; (with_reducible refine (seicheref15_Ends.calls (a0.extract 0 ((ji10) : Int).toNat) (⟨#[95, 116, 101, 115, 116]⟩ : ByteArray) t171 _ A13.out).mono ?_); rintro e w' ⟨rfl, ⟨nd, rfl⟩⟩; (try first | exact ⟨rfl, _, World.drewN_drewN _ _ _⟩ | exact ⟨rfl, _, Eq.trans (World.drewN_drewN _ _ _) (congrArg (World.drewN _) (Nat.add_assoc _ _ _))⟩))); go_upto_if 29 with (first | (go_at_call 14; (with_reducible refine (seicheref15_Ends.calls (a0.extract 0 ((ji10) : Int).toNat) (⟨#[95, 116, 101, 115, 116]⟩ : ByteArray) t171 _ A13.out).mono ?_); rintro e w' ⟨rfl, ⟨nd, rfl⟩⟩; (try first | exact ⟨rfl, _, World.drewN_drewN _ _ _⟩ | exact ⟨rfl, _, Eq.trans (World.drewN_drewN _ _ _) (congrArg (World.drewN _) (Nat.add_assoc _ _ _))⟩))))
            (try simp only [Act.put, List.setIfInBounds_toArray, List.set_cons_zero, List.set_cons_succ])
            go_cut [0] (fun v0 wc => ∃ (kq : Nat) (x0_13 : ByteArray), v0 = .string x0_13 ∧ Aside0 (seicheref15_Of.j1 kq x0_13 t171 = some (r1, r2, r3, r4)) ∧ Aside0 (kq ≤ kj1) ∧ Aside0 (Below w.heap.size w wc))
            case first =>
              have H := HC14.out
              clear HC14
              by_cases c15 : t171 = true
              · subst c15
                have H1 : (if 0 ≤ (wrap64 (((a0.extract 0 ((ji10) : Int).toNat).size : Int) - 5)) then (if (wrap64 (((a0.extract 0 ((ji10) : Int).toNat).size : Int) - 5)) ≤ ((a0.extract 0 ((ji10) : Int).toNat).size : Int) then (seicheref15_Of.j1 kj1 ((a0.extract 0 ((ji10) : Int).toNat).extract 0 ((wrap64 (((a0.extract 0 ((ji10) : Int).toNat).size : Int) - 5)) : Int).toNat) true) else (none)) else (none)) = some (r1, r2, r3, r4) := by rw [if_pos rfl] at H; exact H
                clear H
                have H := H1
                clear H1
                obtain ⟨ji16, hji16⟩ : ∃ j_ : Int, (wrap64 (((a0.extract 0 ((ji10) : Int).toNat).size : Int) - 5)) = j_ := ⟨_, rfl⟩
                replace H : (if 0 ≤ (ji16) then (if (ji16) ≤ ((a0.extract 0 ((ji10) : Int).toNat).size : Int) then (seicheref15_Of.j1 kj1 ((a0.extract 0 ((ji10) : Int).toNat).extract 0 ((ji16) : Int).toNat) true) else (none)) else (none)) = some (r1, r2, r3, r4) := by first | (rw [hji16] at H; exact H) | (simp only [hji16] at H ⊢; exact H)
                have hji16w : (IntKind.i64.wrap (((a0.extract 0 ((ji10) : Int).toNat).size : Int) - 5)) = ji16 := (i64_w _).trans hji16
                by_cases c17 : 0 ≤ (ji16)
                · rw [if_pos c17] at H
                  have c17b0 := eq_true c17
                  have c17b1 : decide (0 ≤ (ji16)) = true := decide_eq_true c17
                  clear c17
                  by_cases c18 : (ji16) ≤ ((a0.extract 0 ((ji10) : Int).toNat).size : Int)
                  · rw [if_pos c18] at H
                    have c18b0 := eq_true c18
                    have c18b1 : decide ((ji16) ≤ ((a0.extract 0 ((ji10) : Int).toNat).size : Int)) = true := decide_eq_true c18
                    clear c18
                    have hsz_ : ((a0.extract 0 ((ji10) : Int).toNat).size : Int) = max ji10 0 := by
                      have h0_ := of_eq_true c11b0
                      have h1_ := of_eq_true c12b0
                      rw [ByteArray.size_extract]
                      omega
                    rw [hsz_] at hji16w c18b0 c18b1
                    have H' := Aside0.mk H
                    clear H
                    go_wp2
                    repeat (go_quiet (fail); try go_wp2)
                    go_meet
                    case rel => exact ⟨_, ((a0.extract 0 ((ji10) : Int).toNat).extract 0 ((ji16) : Int).toNat), (by first | rfl | (simp; done) | (simp only [← hji10, ← hji16] <;> (first | rfl | simp)) | (simp [*]; done)), H', ⟨by have := HJ1.out; first | omega | exact Nat.le_refl _⟩, ⟨by repeat (first | (with_reducible first | exact HB.out | apply below_alloc | apply pw_below_drewN | apply below_drew1) | exact HB.out)⟩⟩
                  · rw [if_neg c18] at H
                    exact absurd H (by simp)
                · rw [if_neg c17] at H
                  exact absurd H (by simp)
              · replace c15 := Bool.eq_false_iff.mpr c15
                subst c15
                have H1 : (seicheref15_Of.j1 kj1 (a0.extract 0 ((ji10) : Int).toNat) false) = some (r1, r2, r3, r4) := by rw [if_neg (show ¬ (false = true) by decide)] at H; exact H
                clear H
                have H := H1
                clear H1
                have H' := Aside0.mk H
                clear H
                go_wp2
                repeat (go_quiet (fail); try go_wp2)
                go_meet
                case rel => exact ⟨_, (a0.extract 0 ((ji10) : Int).toNat), (by first | rfl | (simp; done) | (simp only [← hji10] <;> (first | rfl | simp)) | (simp [*]; done)), H', ⟨by have := HJ1.out; first | omega | exact Nat.le_refl _⟩, ⟨by repeat (first | (with_reducible first | exact HB.out | apply below_alloc | apply pw_below_drewN | apply below_drew1) | exact HB.out)⟩⟩
            case rest =>
              clear HC14
              try clear c1
              try clear p2
              try clear c4
              try clear c5
              try clear c5b0
              try clear c5b1
              try clear p6
              try clear q6
              try clear hx6
              try clear qi6
              try clear c7
              try clear c7b0
              try clear c7b1
              try clear c8
              try clear p8
              try clear q8
              try clear hx8
              try clear qi8
              try clear c9
              try clear c11
              try clear c11b0
              try clear c11b1
              try clear c12
              try clear c12b0
              try clear c12b1
              try clear c15
              try clear c17
              try clear c17b0
              try clear c17b1
              try clear c18
              try clear c18b0
              try clear c18b1
              try clear p2
              try clear p6
              try clear p8
              try clear q6
              try clear q8
              obtain ⟨kq, x0_13, rfl, HA, HJ13, HB⟩ := hcut
              cases kq with
              | zero => exact absurd HA.out (by simp [seicheref15_Of.j1])
              | succ kj13 =>
                have H := HA.out
                clear HA
                simp only [seicheref15_Of.j1] at H
                replace H := Option.bind_eq_some_iff.mp H
                obtain ⟨t172, A190, H⟩ := H
                replace H : (if (t172.length : Int) ≥ 3 then (if 0 ≤ (wrap64 ((t172.length : Int) - 2)) then (if (wrap64 ((t172.length : Int) - 2)) < (t172.length : Int) then ((seicheref15_System.f kj13 (rdOf ByteArray.empty t172 (wrap64 ((t172.length : Int) - 2)))).bind fun t176 => (if t176 = true then (if 0 ≤ (wrap64 ((t172.length : Int) - 1)) then (if (wrap64 ((t172.length : Int) - 1)) < (t172.length : Int) then ((seicheref15_Processor.f kj13 (rdOf ByteArray.empty t172 (wrap64 ((t172.length : Int) - 1)))).bind fun t178 => (seicheref15_Of.j2 kj13 t171 t172 (t172.length : Int) t178)) else (none)) else (none)) else (seicheref15_Of.j2 kj13 t171 t172 (t172.length : Int) false))) else (none)) else (none)) else (seicheref15_Of.j2 kj13 t171 t172 (t172.length : Int) false)) = some (r1, r2, r3, r4) := H
                have A19 := Aside0.mk A190
                clear A190
                have HC20 := Aside0.mk H
                clear H
                go_upto_region 9 with (first | (go_at_call 12; (with_reducible refine (seicheref14_Cut.calls kj13 x0_13 95 t172 _ A19.out).mono ?_); rintro e w21 ⟨v173, rfl, ho0, hb⟩; have n0_ := Aside0.mk (Kd.R_lower ho0 (below_size (by repeat (first | (with_reducible first | exact HB.out | apply below_alloc | apply pw_below_drewN | apply below_drew1) | exact HB.out)))); have n1_ := Aside0.mk (below_step (by repeat (first | (with_reducible first | exact HB.out | apply below_alloc | apply pw_below_drewN | apply below_drew1) | exact HB.out)) hb); clear HB; have HO174 := n0_; have HB := n1_; clear n0_ n1_; (try clear hb); (try clear hb2); (try clear hk); (try clear hi); (try clear ho0); obtain ⟨Ao22, co22, eo22⟩ := Kd.R_slice HO174.out; subst eo22))
                repeat (go_quiet (first | (go_at_call 12; (with_reducible refine (seicheref14_Cut.calls kj13 x0_13 95 t172 _ A19.out).mono ?_); rintro e w21 ⟨v173, rfl, ho0, hb⟩; have n0_ := Aside0.mk (Kd.R_lower ho0 (below_size (by repeat (first | (with_reducible first | exact HB.out | apply below_alloc | apply pw_below_drewN | apply below_drew1) | exact HB.out)))); have n1_ := Aside0.mk (below_step (by repeat (first | (with_reducible first | exact HB.out | apply below_alloc | apply pw_below_drewN | apply below_drew1) | exact HB.out)) hb); clear HB; have HO174 := n0_; have HB := n1_; clear n0_ n1_; (try clear hb); (try clear hb2); (try clear hk); (try clear hi); (try clear ho0); obtain ⟨Ao22, co22, eo22⟩ := Kd.R_slice HO174.out; subst eo22)); go_upto_region 9 with (first | (go_at_call 12; (with_reducible refine (seicheref14_Cut.calls kj13 x0_13 95 t172 _ A19.out).mono ?_); rintro e w21 ⟨v173, rfl, ho0, hb⟩; have n0_ := Aside0.mk (Kd.R_lower ho0 (below_size (by repeat (first | (with_reducible first | exact HB.out | apply below_alloc | apply pw_below_drewN | apply below_drew1) | exact HB.out)))); have n1_ := Aside0.mk (below_step (by repeat (first | (with_reducible first | exact HB.out | apply below_alloc | apply pw_below_drewN | apply below_drew1) | exact HB.out)) hb); clear HB; have HO174 := n0_; have HB := n1_; clear n0_ n1_; (try clear hb); (try clear hb2); (try clear hk); (try clear hi); (try clear ho0); obtain ⟨Ao22, co22, eo22⟩ := Kd.R_slice HO174.out; subst eo22)))
                (try simp only [Act.put, List.setIfInBounds_toArray, List.set_cons_zero, List.set_cons_succ])
                go_cut [56] (fun v56 wc => ∃ (kq : Nat) (x56_19 : Bool), v56 = .bool x56_19 ∧ Aside0 (seicheref15_Of.j2 kq t171 t172 (t172.length : Int) x56_19 = some (r1, r2, r3, r4)) ∧ Aside0 (kq ≤ kj13) ∧ Aside0 (Kd.R Kd.string 9 wc w.heap.size (fun _ => True) (.slice Ao22 t172.length co22) t172) ∧ Aside0 (Below w.heap.size w wc))
                case first =>
                  have H := HC20.out
                  clear HC20
                  by_cases c23 : (t172.length : Int) ≥ 3
                  · rw [if_pos c23] at H
                    have c23b0 : decide (3 ≤ (t172.length : Int)) = true := decide_eq_true c23
                    have c23b1 : decide (3 ≤ t172.length) = true := decide_eq_true (by omega)
                    clear c23
                    (first | rw [c23b0] | (simp only [i64_w, i32_w]; rw [c23b0]) | skip)
                    obtain ⟨ji24, hji24⟩ : ∃ j_ : Int, (wrap64 ((t172.length : Int) - 2)) = j_ := ⟨_, rfl⟩
                    replace H : (if 0 ≤ (ji24) then (if (ji24) < (t172.length : Int) then ((seicheref15_System.f kj13 (rdOf ByteArray.empty t172 (ji24))).bind fun t176 => (if t176 = true then (if 0 ≤ (wrap64 ((t172.length : Int) - 1)) then (if (wrap64 ((t172.length : Int) - 1)) < (t172.length : Int) then ((seicheref15_Processor.f kj13 (rdOf ByteArray.empty t172 (wrap64 ((t172.length : Int) - 1)))).bind fun t178 => (seicheref15_Of.j2 kj13 t171 t172 (t172.length : Int) t178)) else (none)) else (none)) else (seicheref15_Of.j2 kj13 t171 t172 (t172.length : Int) false))) else (none)) else (none)) = some (r1, r2, r3, r4) := by first | (rw [hji24] at H; exact H) | (simp only [hji24] at H ⊢; exact H)
                    have hji24w : (IntKind.i64.wrap ((t172.length : Int) - 2)) = ji24 := (i64_w _).trans hji24
                    by_cases c25 : 0 ≤ (ji24)
                    · rw [if_pos c25] at H
                      have c25b0 : decide (0 ≤ (ji24)) = true := decide_eq_true c25
                      clear c25
                      by_cases c26 : (ji24) < (t172.length : Int)
                      · rw [if_pos c26] at H
                        have c26b0 : decide ((ji24) < (t172.length : Int)) = true := decide_eq_true c26
                        clear c26
                        replace H := Option.bind_eq_some_iff.mp H
                        obtain ⟨t176, A270, H⟩ := H
                        replace H : (if t176 = true then (if 0 ≤ (wrap64 ((t172.length : Int) - 1)) then (if (wrap64 ((t172.length : Int) - 1)) < (t172.length : Int) then ((seicheref15_Processor.f kj13 (rdOf ByteArray.empty t172 (wrap64 ((t172.length : Int) - 1)))).bind fun t178 => (seicheref15_Of.j2 kj13 t171 t172 (t172.length : Int) t178)) else (none)) else (none)) else (seicheref15_Of.j2 kj13 t171 t172 (t172.length : Int) false)) = some (r1, r2, r3, r4) := H
                        have A27 := Aside0.mk A270
                        clear A270
                        by_cases c28 : t176 = true
                        · subst c28
                          have H1 : (if 0 ≤ (wrap64 ((t172.length : Int) - 1)) then (if (wrap64 ((t172.length : Int) - 1)) < (t172.length : Int) then ((seicheref15_Processor.f kj13 (rdOf ByteArray.empty t172 (wrap64 ((t172.length : Int) - 1)))).bind fun t178 => (seicheref15_Of.j2 kj13 t171 t172 (t172.length : Int) t178)) else (none)) else (none)) = some (r1, r2, r3, r4) := by rw [if_pos rfl] at H; exact H
                          clear H
                          have H := H1
                          clear H1
                          obtain ⟨ji29, hji29⟩ : ∃ j_ : Int, (wrap64 ((t172.length : Int) - 1)) = j_ := ⟨_, rfl⟩
                          replace H : (if 0 ≤ (ji29) then (if (ji29) < (t172.length : Int) then ((seicheref15_Processor.f kj13 (rdOf ByteArray.empty t172 (ji29))).bind fun t178 => (seicheref15_Of.j2 kj13 t171 t172 (t172.length : Int) t178)) else (none)) else (none)) = some (r1, r2, r3, r4) := by first | (rw [hji29] at H; exact H) | (simp only [hji29] at H ⊢; exact H)
                          (try rw [hji29] at A27)
                          have hji29w : (IntKind.i64.wrap ((t172.length : Int) - 1)) = ji29 := (i64_w _).trans hji29
                          by_cases c30 : 0 ≤ (ji29)
                          · rw [if_pos c30] at H
                            have c30b0 : decide (0 ≤ (ji29)) = true := decide_eq_true c30
                            clear c30
                            by_cases c31 : (ji29) < (t172.length : Int)
                            · rw [if_pos c31] at H
                              have c31b0 : decide ((ji29) < (t172.length : Int)) = true := decide_eq_true c31
                              clear c31
                              replace H := Option.bind_eq_some_iff.mp H
                              obtain ⟨t178, A320, H⟩ := H
                              replace H : (seicheref15_Of.j2 kj13 t171 t172 (t172.length : Int) t178) = some (r1, r2, r3, r4) := H
                              have A32 := Aside0.mk A320
                              clear A320
                              have H' := Aside0.mk H
                              clear H
                              have p175 : 0 ≤ ((ji24) : Int) := of_decide_eq_true (by first | (with_reducible assumption) | assumption)
                              have q175 : (ji24) < (t172.length : Int) := of_decide_eq_true (by first | (with_reducible assumption) | assumption)
                              obtain ⟨ad175, e175, hx175_0⟩ := Kd.at_string (Kd.R_reads' HO174.out).2.2 (ji24) p175 q175
                              cases e175
                              replace p175 := eq_true p175
                              replace q175 := eq_true q175
                              go_wp2_with (first | (go_at_call 13; (with_reducible refine (seicheref15_System.calls kj13 (rdOf ByteArray.empty t172 (ji24)) true _ A27.out).mono ?_); rintro e w33 ⟨rfl, hb⟩; have n0_ := Aside0.mk (Kd.R_below (by (with_reducible repeat (first | apply Kd.R_alloc | apply Kd.R_drewN | apply Kd.R_drew)); exact HO174.out) hb); have n1_ := Aside0.mk (below_step (by repeat (first | (with_reducible first | exact HB.out | apply below_alloc | apply pw_below_drewN | apply below_drew1) | exact HB.out)) hb); clear HO174; clear HB; have HO174 := n0_; have HB := n1_; clear n0_ n1_; (try clear hb); (try clear hb2); (try clear hk); (try clear hi); have p177 : 0 ≤ ((ji29) : Int) := of_decide_eq_true (by first | (with_reducible assumption) | assumption); have q177 : (ji29) < (t172.length : Int) := of_decide_eq_true (by first | (with_reducible assumption) | assumption); obtain ⟨ad177, e177, hx177_0⟩ := Kd.at_string (Kd.R_reads' HO174.out).2.2 (ji29) p177 q177; obtain rfl : ad175 = ad177 := (by injection e177); replace p177 := eq_true p177; replace q177 := eq_true q177) | (go_at_call 17; (with_reducible refine (seicheref15_Processor.calls kj13 (rdOf ByteArray.empty t172 (ji29)) t178 _ A32.out).mono ?_); rintro e w34 ⟨rfl, hb⟩; have n0_ := Aside0.mk (Kd.R_below (by (with_reducible repeat (first | apply Kd.R_alloc | apply Kd.R_drewN | apply Kd.R_drew)); exact HO174.out) hb); have n1_ := Aside0.mk (below_step (by repeat (first | (with_reducible first | exact HB.out | apply below_alloc | apply pw_below_drewN | apply below_drew1) | exact HB.out)) hb); clear HO174; clear HB; have HO174 := n0_; have HB := n1_; clear n0_ n1_; (try clear hb); (try clear hb2); (try clear hk); (try clear hi)))
                              repeat (go_quiet (first | (go_at_call 13; (with_reducible refine (seicheref15_System.calls kj13 (rdOf ByteArray.empty t172 (ji24)) true _ A27.out).mono ?_); rintro e w33 ⟨rfl, hb⟩; have n0_ := Aside0.mk (Kd.R_below (by (with_reducible repeat (first | apply Kd.R_alloc | apply Kd.R_drewN | apply Kd.R_drew)); exact HO174.out) hb); have n1_ := Aside0.mk (below_step (by repeat (first | (with_reducible first | exact HB.out | apply below_alloc | apply pw_below_drewN | apply below_drew1) | exact HB.out)) hb); clear HO174; clear HB; have HO174 := n0_; have HB := n1_; clear n0_ n1_; (try clear hb); (try clear hb2); (try clear hk); (try clear hi); have p177 : 0 ≤ ((ji29) : Int) := of_decide_eq_true (by first | (with_reducible assumption) | assumption); have q177 : (ji29) < (t172.length : Int) := of_decide_eq_true (by first | (with_reducible assumption) | assumption); obtain ⟨ad177, e177, hx177_0⟩ := Kd.at_string (Kd.R_reads' HO174.out).2.2 (ji29) p177 q177; obtain rfl : ad175 = ad177 := (by injection e177); replace p177 := eq_true p177; replace q177 := eq_true q177) | (go_at_call 17; (with_reducible refine (seicheref15_Processor.calls kj13 (rdOf ByteArray.empty t172 (ji29)) t178 _ A32.out).mono ?_); rintro e w34 ⟨rfl, hb⟩; have n0_ := Aside0.mk (Kd.R_below (by (with_reducible repeat (first | apply Kd.R_alloc | apply Kd.R_drewN | apply Kd.R_drew)); exact HO174.out) hb); have n1_ := Aside0.mk (below_step (by repeat (first | (with_reducible first | exact HB.out | apply below_alloc | apply pw_below_drewN | apply below_drew1) | exact HB.out)) hb); clear HO174; clear HB; have HO174 := n0_; have HB := n1_; clear n0_ n1_; (try clear hb); (try clear hb2); (try clear hk); (try clear hi))); try go_wp2_with (first | (go_at_call 13; (with_reducible refine (seicheref15_System.calls kj13 (rdOf ByteArray.empty t172 (ji24)) true _ A27.out).mono ?_); rintro e w33 ⟨rfl, hb⟩; have n0_ := Aside0.mk (Kd.R_below (by (with_reducible repeat (first | apply Kd.R_alloc | apply Kd.R_drewN | apply Kd.R_drew)); exact HO174.out) hb); have n1_ := Aside0.mk (below_step (by repeat (first | (with_reducible first | exact HB.out | apply below_alloc | apply pw_below_drewN | apply below_drew1) | exact HB.out)) hb); clear HO174; clear HB; have HO174 := n0_; have HB := n1_; clear n0_ n1_; (try clear hb); (try clear hb2); (try clear hk); (try clear hi); have p177 : 0 ≤ ((ji29) : Int) := of_decide_eq_true (by first | (with_reducible assumption) | assumption); have q177 : (ji29) < (t172.length : Int) := of_decide_eq_true (by first | (with_reducible assumption) | assumption); obtain ⟨ad177, e177, hx177_0⟩ := Kd.at_string (Kd.R_reads' HO174.out).2.2 (ji29) p177 q177; obtain rfl : ad175 = ad177 := (by injection e177); replace p177 := eq_true p177; replace q177 := eq_true q177) | (go_at_call 17; (with_reducible refine (seicheref15_Processor.calls kj13 (rdOf ByteArray.empty t172 (ji29)) t178 _ A32.out).mono ?_); rintro e w34 ⟨rfl, hb⟩; have n0_ := Aside0.mk (Kd.R_below (by (with_reducible repeat (first | apply Kd.R_alloc | apply Kd.R_drewN | apply Kd.R_drew)); exact HO174.out) hb); have n1_ := Aside0.mk (below_step (by repeat (first | (with_reducible first | exact HB.out | apply below_alloc | apply pw_below_drewN | apply below_drew1) | exact HB.out)) hb); clear HO174; clear HB; have HO174 := n0_; have HB := n1_; clear n0_ n1_; (try clear hb); (try clear hb2); (try clear hk); (try clear hi))))
                              go_meet
                              case rel => exact ⟨_, (t178), (by first | rfl | (simp; done) | (simp [*]; done)), H', ⟨by have := HJ1.out; have := HJ13.out; first | omega | exact Nat.le_refl _⟩, ⟨by (with_reducible repeat (first | apply Kd.R_alloc | apply Kd.R_drewN | apply Kd.R_drew)); exact HO174.out⟩, ⟨by repeat (first | (with_reducible first | exact HB.out | apply below_alloc | apply pw_below_drewN | apply below_drew1) | exact HB.out)⟩⟩
                            · rw [if_neg c31] at H
                              exact absurd H (by simp)
                          · rw [if_neg c30] at H
                            exact absurd H (by simp)
                        · replace c28 := Bool.eq_false_iff.mpr c28
                          subst c28
                          have H1 : (seicheref15_Of.j2 kj13 t171 t172 (t172.length : Int) false) = some (r1, r2, r3, r4) := by rw [if_neg (show ¬ (false = true) by decide)] at H; exact H
                          clear H
                          have H := H1
                          clear H1
                          have H' := Aside0.mk H
                          clear H
                          have p175 : 0 ≤ ((ji24) : Int) := of_decide_eq_true (by first | (with_reducible assumption) | assumption)
                          have q175 : (ji24) < (t172.length : Int) := of_decide_eq_true (by first | (with_reducible assumption) | assumption)
                          obtain ⟨ad175, e175, hx175_0⟩ := Kd.at_string (Kd.R_reads' HO174.out).2.2 (ji24) p175 q175
                          cases e175
                          replace p175 := eq_true p175
                          replace q175 := eq_true q175
                          go_wp2_with (first | (go_at_call 13; (with_reducible refine (seicheref15_System.calls kj13 (rdOf ByteArray.empty t172 (ji24)) false _ A27.out).mono ?_); rintro e w35 ⟨rfl, hb⟩; have n0_ := Aside0.mk (Kd.R_below (by (with_reducible repeat (first | apply Kd.R_alloc | apply Kd.R_drewN | apply Kd.R_drew)); exact HO174.out) hb); have n1_ := Aside0.mk (below_step (by repeat (first | (with_reducible first | exact HB.out | apply below_alloc | apply pw_below_drewN | apply below_drew1) | exact HB.out)) hb); clear HO174; clear HB; have HO174 := n0_; have HB := n1_; clear n0_ n1_; (try clear hb); (try clear hb2); (try clear hk); (try clear hi)))
                          repeat (go_quiet (first | (go_at_call 13; (with_reducible refine (seicheref15_System.calls kj13 (rdOf ByteArray.empty t172 (ji24)) false _ A27.out).mono ?_); rintro e w35 ⟨rfl, hb⟩; have n0_ := Aside0.mk (Kd.R_below (by (with_reducible repeat (first | apply Kd.R_alloc | apply Kd.R_drewN | apply Kd.R_drew)); exact HO174.out) hb); have n1_ := Aside0.mk (below_step (by repeat (first | (with_reducible first | exact HB.out | apply below_alloc | apply pw_below_drewN | apply below_drew1) | exact HB.out)) hb); clear HO174; clear HB; have HO174 := n0_; have HB := n1_; clear n0_ n1_; (try clear hb); (try clear hb2); (try clear hk); (try clear hi))); try go_wp2_with (first | (go_at_call 13; (with_reducible refine (seicheref15_System.calls kj13 (rdOf ByteArray.empty t172 (ji24)) false _ A27.out).mono ?_); rintro e w35 ⟨rfl, hb⟩; have n0_ := Aside0.mk (Kd.R_below (by (with_reducible repeat (first | apply Kd.R_alloc | apply Kd.R_drewN | apply Kd.R_drew)); exact HO174.out) hb); have n1_ := Aside0.mk (below_step (by repeat (first | (with_reducible first | exact HB.out | apply below_alloc | apply pw_below_drewN | apply below_drew1) | exact HB.out)) hb); clear HO174; clear HB; have HO174 := n0_; have HB := n1_; clear n0_ n1_; (try clear hb); (try clear hb2); (try clear hk); (try clear hi))))
                          go_meet
                          case rel => exact ⟨_, (false), (by first | rfl | (simp; done) | (simp [*]; done)), H', ⟨by have := HJ1.out; have := HJ13.out; first | omega | exact Nat.le_refl _⟩, ⟨by (with_reducible repeat (first | apply Kd.R_alloc | apply Kd.R_drewN | apply Kd.R_drew)); exact HO174.out⟩, ⟨by repeat (first | (with_reducible first | exact HB.out | apply below_alloc | apply pw_below_drewN | apply below_drew1) | exact HB.out)⟩⟩
                      · rw [if_neg c26] at H
                        exact absurd H (by simp)
                    · rw [if_neg c25] at H
                      exact absurd H (by simp)
                  · rw [if_neg c23] at H
                    have c23b0 : decide (3 ≤ (t172.length : Int)) = false := decide_eq_false c23
                    have c23b1 : decide (3 ≤ t172.length) = false := decide_eq_false (by omega)
                    clear c23
                    (first | rw [c23b0] | (simp only [i64_w, i32_w]; rw [c23b0]) | skip)
                    have H' := Aside0.mk H
                    clear H
                    go_wp2
                    repeat (go_quiet (fail); try go_wp2)
                    go_meet
                    case rel => exact ⟨_, (false), (by first | rfl | (simp; done) | (simp [*]; done)), H', ⟨by have := HJ1.out; have := HJ13.out; first | omega | exact Nat.le_refl _⟩, ⟨by (with_reducible repeat (first | apply Kd.R_alloc | apply Kd.R_drewN | apply Kd.R_drew)); exact HO174.out⟩, ⟨by repeat (first | (with_reducible first | exact HB.out | apply below_alloc | apply pw_below_drewN | apply below_drew1) | exact HB.out)⟩⟩
                case rest =>
                  clear HC20
                  try clear c1
                  try clear p1
                  try clear q1
                  try clear hx1
                  try clear c2
                  try clear p2
                  try clear c3
                  try clear c4
                  try clear c5
                  try clear c5b0
                  try clear c5b1
                  try clear p6
                  try clear q6
                  try clear hx6
                  try clear qi6
                  try clear c7
                  try clear c7b0
                  try clear c7b1
                  try clear c8
                  try clear p8
                  try clear q8
                  try clear hx8
                  try clear qi8
                  try clear c9
                  try clear c11
                  try clear c11b0
                  try clear c11b1
                  try clear c12
                  try clear c12b0
                  try clear c12b1
                  try clear c15
                  try clear c17
                  try clear c17b0
                  try clear c17b1
                  try clear p17
                  try clear q17
                  try clear hx17
                  try clear c18
                  try clear c18b0
                  try clear c18b1
                  try clear c23
                  try clear c23b0
                  try clear c23b1
                  try clear c25
                  try clear c25b0
                  try clear c26
                  try clear c26b0
                  try clear c28
                  try clear c30
                  try clear c30b0
                  try clear c31
                  try clear c31b0
                  try clear hx175_0
                  try clear hx177_0
                  try clear p175
                  try clear p177
                  try clear p2
                  try clear p6
                  try clear p8
                  try clear q175
                  try clear q177
                  try clear q6
                  try clear q8
                  obtain ⟨kq, x56_19, rfl, HA, HJ19, HO_7, HB⟩ := hcut
                  cases kq with
                  | zero => exact absurd HA.out (by simp [seicheref15_Of.j2])
                  | succ kj19 =>
                    have H := HA.out
                    clear HA
                    simp only [seicheref15_Of.j2] at H
                    by_cases c36 : x56_19 = true
                    · subst c36
                      have H1 : (if 0 ≤ (wrap64 ((t172.length : Int) - 2)) then (if (wrap64 ((t172.length : Int) - 2)) < (t172.length : Int) then (if 0 ≤ (wrap64 ((t172.length : Int) - 1)) then (if (wrap64 ((t172.length : Int) - 1)) < (t172.length : Int) then (some (true, t171, rdOf ByteArray.empty t172 (wrap64 ((t172.length : Int) - 2)), rdOf ByteArray.empty t172 (wrap64 ((t172.length : Int) - 1)))) else (none)) else (none)) else (none)) else (none)) = some (r1, r2, r3, r4) := by rw [if_pos rfl] at H; exact H
                      clear H
                      have H := H1
                      clear H1
                      obtain ⟨ji37, hji37⟩ : ∃ j_ : Int, (wrap64 ((t172.length : Int) - 2)) = j_ := ⟨_, rfl⟩
                      replace H : (if 0 ≤ (ji37) then (if (ji37) < (t172.length : Int) then (if 0 ≤ (wrap64 ((t172.length : Int) - 1)) then (if (wrap64 ((t172.length : Int) - 1)) < (t172.length : Int) then (some (true, t171, rdOf ByteArray.empty t172 (ji37), rdOf ByteArray.empty t172 (wrap64 ((t172.length : Int) - 1)))) else (none)) else (none)) else (none)) else (none)) = some (r1, r2, r3, r4) := by first | (rw [hji37] at H; exact H) | (simp only [hji37] at H ⊢; exact H)
                      have hji37w : (IntKind.i64.wrap ((t172.length : Int) - 2)) = ji37 := (i64_w _).trans hji37
                      by_cases c38 : 0 ≤ (ji37)
                      · rw [if_pos c38] at H
                        have c38b0 : decide (0 ≤ (ji37)) = true := decide_eq_true c38
                        clear c38
                        by_cases c39 : (ji37) < (t172.length : Int)
                        · rw [if_pos c39] at H
                          have c39b0 : decide ((ji37) < (t172.length : Int)) = true := decide_eq_true c39
                          clear c39
                          obtain ⟨ji40, hji40⟩ : ∃ j_ : Int, (wrap64 ((t172.length : Int) - 1)) = j_ := ⟨_, rfl⟩
                          replace H : (if 0 ≤ (ji40) then (if (ji40) < (t172.length : Int) then (some (true, t171, rdOf ByteArray.empty t172 (ji37), rdOf ByteArray.empty t172 (ji40))) else (none)) else (none)) = some (r1, r2, r3, r4) := by first | (rw [hji40] at H; exact H) | (simp only [hji40] at H ⊢; exact H)
                          have hji40w : (IntKind.i64.wrap ((t172.length : Int) - 1)) = ji40 := (i64_w _).trans hji40
                          by_cases c41 : 0 ≤ (ji40)
                          · rw [if_pos c41] at H
                            have c41b0 : decide (0 ≤ (ji40)) = true := decide_eq_true c41
                            clear c41
                            by_cases c42 : (ji40) < (t172.length : Int)
                            · rw [if_pos c42] at H
                              have c42b0 : decide ((ji40) < (t172.length : Int)) = true := decide_eq_true c42
                              clear c42
                              simp only [Option.some.injEq, Prod.mk.injEq] at H
                              obtain ⟨rfl, rfl, rfl, rfl⟩ := H
                              have p179 : 0 ≤ ((ji37) : Int) := of_decide_eq_true (by first | (with_reducible assumption) | assumption)
                              have q179 : (ji37) < (t172.length : Int) := of_decide_eq_true (by first | (with_reducible assumption) | assumption)
                              obtain ⟨ad179, e179, hx179_0⟩ := Kd.at_string (Kd.R_reads' HO_7.out).2.2 (ji37) p179 q179
                              cases e179
                              replace p179 := eq_true p179
                              replace q179 := eq_true q179
                              have p180 : 0 ≤ ((ji40) : Int) := of_decide_eq_true (by first | (with_reducible assumption) | assumption)
                              have q180 : (ji40) < (t172.length : Int) := of_decide_eq_true (by first | (with_reducible assumption) | assumption)
                              obtain ⟨ad180, e180, hx180_0⟩ := Kd.at_string (Kd.R_reads' HO_7.out).2.2 (ji40) p180 q180
                              obtain rfl : ad179 = ad180 := (by injection e180)
                              replace p180 := eq_true p180
                              replace q180 := eq_true q180
                              go_wp2
                              repeat (go_quiet (fail); try go_wp2)
                              refine bodyPost_ret (results_list (rs := [.tmp 2, .tmp 3, .tmp 4, .tmp 5]) rfl (by simp) (.tmp (.tmp (.tmp (.tmp .nil))))) rfl ?_
                              exact ⟨by first | rfl | (simp [errW_none, errW_some] <;> rfl) | (simp only [← hji10, ← hji37, ← hji40]; first | rfl | (simp [errW_none, errW_some] <;> rfl)) | (simp [*, errW_none, errW_some] <;> rfl), by repeat (first | (with_reducible first | exact HB.out | apply below_alloc | apply pw_below_drewN | apply below_drew1) | exact HB.out)⟩
                            · rw [if_neg c42] at H
                              exact absurd H (by simp)
                          · rw [if_neg c41] at H
                            exact absurd H (by simp)
                        · rw [if_neg c39] at H
                          exact absurd H (by simp)
                      · rw [if_neg c38] at H
                        exact absurd H (by simp)
                    · replace c36 := Bool.eq_false_iff.mpr c36
                      subst c36
                      have H1 : (if (t172.length : Int) ≥ 2 then (if 0 ≤ (wrap64 ((t172.length : Int) - 1)) then (if (wrap64 ((t172.length : Int) - 1)) < (t172.length : Int) then ((seicheref15_System.f kj19 (rdOf ByteArray.empty t172 (wrap64 ((t172.length : Int) - 1)))).bind fun t182 => (seicheref15_Of.j3 kj19 t171 t172 (t172.length : Int) t182)) else (none)) else (none)) else (seicheref15_Of.j3 kj19 t171 t172 (t172.length : Int) false)) = some (r1, r2, r3, r4) := by rw [if_neg (show ¬ (false = true) by decide)] at H; exact H
                      clear H
                      have H := H1
                      clear H1
                      have HC43 := Aside0.mk H
                      clear H
                      go_upto_region 11 with (fail)
                      repeat (go_quiet (fail); go_upto_region 11 with (fail))
                      go_cut [77] (fun v77 wc => ∃ (kq : Nat) (x77_42 : Bool), v77 = .bool x77_42 ∧ Aside0 (seicheref15_Of.j3 kq t171 t172 (t172.length : Int) x77_42 = some (r1, r2, r3, r4)) ∧ Aside0 (kq ≤ kj19) ∧ Aside0 (Kd.R Kd.string 9 wc w.heap.size (fun _ => True) (.slice Ao22 t172.length co22) t172) ∧ Aside0 (Below w.heap.size w wc))
                      case first =>
                        have H := HC43.out
                        clear HC43
                        by_cases c44 : (t172.length : Int) ≥ 2
                        · rw [if_pos c44] at H
                          have c44b0 : decide (2 ≤ (t172.length : Int)) = true := decide_eq_true c44
                          have c44b1 : decide (2 ≤ t172.length) = true := decide_eq_true (by omega)
                          clear c44
                          (first | rw [c44b0] | (simp only [i64_w, i32_w]; rw [c44b0]) | skip)
                          obtain ⟨ji45, hji45⟩ : ∃ j_ : Int, (wrap64 ((t172.length : Int) - 1)) = j_ := ⟨_, rfl⟩
                          replace H : (if 0 ≤ (ji45) then (if (ji45) < (t172.length : Int) then ((seicheref15_System.f kj19 (rdOf ByteArray.empty t172 (ji45))).bind fun t182 => (seicheref15_Of.j3 kj19 t171 t172 (t172.length : Int) t182)) else (none)) else (none)) = some (r1, r2, r3, r4) := by first | (rw [hji45] at H; exact H) | (simp only [hji45] at H ⊢; exact H)
                          have hji45w : (IntKind.i64.wrap ((t172.length : Int) - 1)) = ji45 := (i64_w _).trans hji45
                          by_cases c46 : 0 ≤ (ji45)
                          · rw [if_pos c46] at H
                            have c46b0 : decide (0 ≤ (ji45)) = true := decide_eq_true c46
                            clear c46
                            by_cases c47 : (ji45) < (t172.length : Int)
                            · rw [if_pos c47] at H
                              have c47b0 : decide ((ji45) < (t172.length : Int)) = true := decide_eq_true c47
                              clear c47
                              replace H := Option.bind_eq_some_iff.mp H
                              obtain ⟨t182, A480, H⟩ := H
                              replace H : (seicheref15_Of.j3 kj19 t171 t172 (t172.length : Int) t182) = some (r1, r2, r3, r4) := H
                              have A48 := Aside0.mk A480
                              clear A480
                              have H' := Aside0.mk H
                              clear H
                              have p181 : 0 ≤ ((ji45) : Int) := of_decide_eq_true (by first | (with_reducible assumption) | assumption)
                              have q181 : (ji45) < (t172.length : Int) := of_decide_eq_true (by first | (with_reducible assumption) | assumption)
                              obtain ⟨ad181, e181, hx181_0⟩ := Kd.at_string (Kd.R_reads' HO_7.out).2.2 (ji45) p181 q181
                              cases e181
                              replace p181 := eq_true p181
                              replace q181 := eq_true q181
                              go_wp2_with (first | (go_at_call 13; (with_reducible refine (seicheref15_System.calls kj19 (rdOf ByteArray.empty t172 (ji45)) t182 _ A48.out).mono ?_); rintro e w49 ⟨rfl, hb⟩; have n0_ := Aside0.mk (Kd.R_below (by (with_reducible repeat (first | apply Kd.R_alloc | apply Kd.R_drewN | apply Kd.R_drew)); exact HO_7.out) hb); have n1_ := Aside0.mk (below_step (by repeat (first | (with_reducible first | exact HB.out | apply below_alloc | apply pw_below_drewN | apply below_drew1) | exact HB.out)) hb); clear HO_7; clear HB; have HO_7 := n0_; have HB := n1_; clear n0_ n1_; (try clear hb); (try clear hb2); (try clear hk); (try clear hi)))
                              repeat (go_quiet (first | (go_at_call 13; (with_reducible refine (seicheref15_System.calls kj19 (rdOf ByteArray.empty t172 (ji45)) t182 _ A48.out).mono ?_); rintro e w49 ⟨rfl, hb⟩; have n0_ := Aside0.mk (Kd.R_below (by (with_reducible repeat (first | apply Kd.R_alloc | apply Kd.R_drewN | apply Kd.R_drew)); exact HO_7.out) hb); have n1_ := Aside0.mk (below_step (by repeat (first | (with_reducible first | exact HB.out | apply below_alloc | apply pw_below_drewN | apply below_drew1) | exact HB.out)) hb); clear HO_7; clear HB; have HO_7 := n0_; have HB := n1_; clear n0_ n1_; (try clear hb); (try clear hb2); (try clear hk); (try clear hi))); try go_wp2_with (first | (go_at_call 13; (with_reducible refine (seicheref15_System.calls kj19 (rdOf ByteArray.empty t172 (ji45)) t182 _ A48.out).mono ?_); rintro e w49 ⟨rfl, hb⟩; have n0_ := Aside0.mk (Kd.R_below (by (with_reducible repeat (first | apply Kd.R_alloc | apply Kd.R_drewN | apply Kd.R_drew)); exact HO_7.out) hb); have n1_ := Aside0.mk (below_step (by repeat (first | (with_reducible first | exact HB.out | apply below_alloc | apply pw_below_drewN | apply below_drew1) | exact HB.out)) hb); clear HO_7; clear HB; have HO_7 := n0_; have HB := n1_; clear n0_ n1_; (try clear hb); (try clear hb2); (try clear hk); (try clear hi))))
                              go_meet
                              case rel => exact ⟨_, (t182), (by first | rfl | (simp; done) | (simp [*]; done)), H', ⟨by have := HJ1.out; have := HJ13.out; have := HJ19.out; first | omega | exact Nat.le_refl _⟩, ⟨by (with_reducible repeat (first | apply Kd.R_alloc | apply Kd.R_drewN | apply Kd.R_drew)); exact HO_7.out⟩, ⟨by repeat (first | (with_reducible first | exact HB.out | apply below_alloc | apply pw_below_drewN | apply below_drew1) | exact HB.out)⟩⟩
                            · rw [if_neg c47] at H
                              exact absurd H (by simp)
                          · rw [if_neg c46] at H
                            exact absurd H (by simp)
                        · rw [if_neg c44] at H
                          have c44b0 : decide (2 ≤ (t172.length : Int)) = false := decide_eq_false c44
                          have c44b1 : decide (2 ≤ t172.length) = false := decide_eq_false (by omega)
                          clear c44
                          (first | rw [c44b0] | (simp only [i64_w, i32_w]; rw [c44b0]) | skip)
                          have H' := Aside0.mk H
                          clear H
                          go_wp2
                          repeat (go_quiet (fail); try go_wp2)
                          go_meet
                          case rel => exact ⟨_, (false), (by first | rfl | (simp; done) | (simp [*]; done)), H', ⟨by have := HJ1.out; have := HJ13.out; have := HJ19.out; first | omega | exact Nat.le_refl _⟩, ⟨by (with_reducible repeat (first | apply Kd.R_alloc | apply Kd.R_drewN | apply Kd.R_drew)); exact HO_7.out⟩, ⟨by repeat (first | (with_reducible first | exact HB.out | apply below_alloc | apply pw_below_drewN | apply below_drew1) | exact HB.out)⟩⟩
                      case rest =>
                        clear HC43
                        try clear c1
                        try clear p1
                        try clear q1
                        try clear hx1
                        try clear c2
                        try clear p2
                        try clear c3
                        try clear c4
                        try clear c5
                        try clear c5b0
                        try clear c5b1
                        try clear p6
                        try clear q6
                        try clear hx6
                        try clear qi6
                        try clear c7
                        try clear c7b0
                        try clear c7b1
                        try clear c8
                        try clear p8
                        try clear q8
                        try clear hx8
                        try clear qi8
                        try clear c9
                        try clear c11
                        try clear c11b0
                        try clear c11b1
                        try clear c12
                        try clear c12b0
                        try clear c12b1
                        try clear c15
                        try clear c17
                        try clear c17b0
                        try clear c17b1
                        try clear p17
                        try clear q17
                        try clear hx17
                        try clear c18
                        try clear c18b0
                        try clear c18b1
                        try clear p18
                        try clear q18
                        try clear hx18
                        try clear c23
                        try clear c23b0
                        try clear c23b1
                        try clear c25
                        try clear c25b0
                        try clear c26
                        try clear c26b0
                        try clear c28
                        try clear c30
                        try clear c30b0
                        try clear c31
                        try clear c31b0
                        try clear c36
                        try clear c38
                        try clear c38b0
                        try clear c39
                        try clear c39b0
                        try clear c41
                        try clear c41b0
                        try clear c42
                        try clear c42b0
                        try clear c44
                        try clear c44b0
                        try clear c44b1
                        try clear c46
                        try clear c46b0
                        try clear c47
                        try clear c47b0
                        try clear hx175_0
                        try clear hx177_0
                        try clear hx179_0
                        try clear hx180_0
                        try clear hx181_0
                        try clear p1
                        try clear p17
                        try clear p175
                        try clear p177
                        try clear p179
                        try clear p180
                        try clear p181
                        try clear p2
                        try clear p6
                        try clear p8
                        try clear q1
                        try clear q17
                        try clear q175
                        try clear q177
                        try clear q179
                        try clear q180
                        try clear q181
                        try clear q6
                        try clear q8
                        obtain ⟨kq, x77_42, rfl, HA, HJ42, HO_7, HB⟩ := hcut
                        cases kq with
                        | zero => exact absurd HA.out (by simp [seicheref15_Of.j3])
                        | succ kj42 =>
                          have H := HA.out
                          clear HA
                          simp only [seicheref15_Of.j3] at H
                          by_cases c50 : x77_42 = true
                          · subst c50
                            have H1 : (if 0 ≤ (wrap64 ((t172.length : Int) - 1)) then (if (wrap64 ((t172.length : Int) - 1)) < (t172.length : Int) then (some (true, t171, rdOf ByteArray.empty t172 (wrap64 ((t172.length : Int) - 1)), (⟨#[]⟩ : ByteArray))) else (none)) else (none)) = some (r1, r2, r3, r4) := by rw [if_pos rfl] at H; exact H
                            clear H
                            have H := H1
                            clear H1
                            obtain ⟨ji51, hji51⟩ : ∃ j_ : Int, (wrap64 ((t172.length : Int) - 1)) = j_ := ⟨_, rfl⟩
                            replace H : (if 0 ≤ (ji51) then (if (ji51) < (t172.length : Int) then (some (true, t171, rdOf ByteArray.empty t172 (ji51), (⟨#[]⟩ : ByteArray))) else (none)) else (none)) = some (r1, r2, r3, r4) := by first | (rw [hji51] at H; exact H) | (simp only [hji51] at H ⊢; exact H)
                            have hji51w : (IntKind.i64.wrap ((t172.length : Int) - 1)) = ji51 := (i64_w _).trans hji51
                            by_cases c52 : 0 ≤ (ji51)
                            · rw [if_pos c52] at H
                              have c52b0 : decide (0 ≤ (ji51)) = true := decide_eq_true c52
                              clear c52
                              by_cases c53 : (ji51) < (t172.length : Int)
                              · rw [if_pos c53] at H
                                have c53b0 : decide ((ji51) < (t172.length : Int)) = true := decide_eq_true c53
                                clear c53
                                simp only [Option.some.injEq, Prod.mk.injEq] at H
                                obtain ⟨rfl, rfl, rfl, rfl⟩ := H
                                have p183 : 0 ≤ ((ji51) : Int) := of_decide_eq_true (by first | (with_reducible assumption) | assumption)
                                have q183 : (ji51) < (t172.length : Int) := of_decide_eq_true (by first | (with_reducible assumption) | assumption)
                                obtain ⟨ad183, e183, hx183_0⟩ := Kd.at_string (Kd.R_reads' HO_7.out).2.2 (ji51) p183 q183
                                cases e183
                                replace p183 := eq_true p183
                                replace q183 := eq_true q183
                                go_wp2
                                repeat (go_quiet (fail); try go_wp2)
                                refine bodyPost_ret (results_list (rs := [.tmp 2, .tmp 3, .tmp 4, .tmp 5]) rfl (by simp) (.tmp (.tmp (.tmp (.tmp .nil))))) rfl ?_
                                exact ⟨by first | rfl | (simp [errW_none, errW_some] <;> rfl) | (simp only [← hji10, ← hji51]; first | rfl | (simp [errW_none, errW_some] <;> rfl)) | (simp [*, errW_none, errW_some] <;> rfl), by repeat (first | (with_reducible first | exact HB.out | apply below_alloc | apply pw_below_drewN | apply below_drew1) | exact HB.out)⟩
                              · rw [if_neg c53] at H
                                exact absurd H (by simp)
                            · rw [if_neg c52] at H
                              exact absurd H (by simp)
                          · replace c50 := Bool.eq_false_iff.mpr c50
                            subst c50
                            have H1 : (if (t172.length : Int) ≥ 2 then (if 0 ≤ (wrap64 ((t172.length : Int) - 1)) then (if (wrap64 ((t172.length : Int) - 1)) < (t172.length : Int) then ((seicheref15_Processor.f kj42 (rdOf ByteArray.empty t172 (wrap64 ((t172.length : Int) - 1)))).bind fun t185 => (if t185 = true then (some (true, t171, (⟨#[]⟩ : ByteArray), rdOf ByteArray.empty t172 (wrap64 ((t172.length : Int) - 1)))) else (some (true, t171, (⟨#[]⟩ : ByteArray), (⟨#[]⟩ : ByteArray))))) else (none)) else (none)) else (some (true, t171, (⟨#[]⟩ : ByteArray), (⟨#[]⟩ : ByteArray)))) = some (r1, r2, r3, r4) := by rw [if_neg (show ¬ (false = true) by decide)] at H; exact H
                            clear H
                            have H := H1
                            clear H1
                            by_cases c54 : (t172.length : Int) ≥ 2
                            · rw [if_pos c54] at H
                              have c54b0 : decide (2 ≤ (t172.length : Int)) = true := decide_eq_true c54
                              have c54b1 : decide (2 ≤ t172.length) = true := decide_eq_true (by omega)
                              clear c54
                              obtain ⟨ji55, hji55⟩ : ∃ j_ : Int, (wrap64 ((t172.length : Int) - 1)) = j_ := ⟨_, rfl⟩
                              replace H : (if 0 ≤ (ji55) then (if (ji55) < (t172.length : Int) then ((seicheref15_Processor.f kj42 (rdOf ByteArray.empty t172 (ji55))).bind fun t185 => (if t185 = true then (some (true, t171, (⟨#[]⟩ : ByteArray), rdOf ByteArray.empty t172 (ji55))) else (some (true, t171, (⟨#[]⟩ : ByteArray), (⟨#[]⟩ : ByteArray))))) else (none)) else (none)) = some (r1, r2, r3, r4) := by first | (rw [hji55] at H; exact H) | (simp only [hji55] at H ⊢; exact H)
                              have hji55w : (IntKind.i64.wrap ((t172.length : Int) - 1)) = ji55 := (i64_w _).trans hji55
                              by_cases c56 : 0 ≤ (ji55)
                              · rw [if_pos c56] at H
                                have c56b0 : decide (0 ≤ (ji55)) = true := decide_eq_true c56
                                clear c56
                                by_cases c57 : (ji55) < (t172.length : Int)
                                · rw [if_pos c57] at H
                                  have c57b0 : decide ((ji55) < (t172.length : Int)) = true := decide_eq_true c57
                                  clear c57
                                  replace H := Option.bind_eq_some_iff.mp H
                                  obtain ⟨t185, A580, H⟩ := H
                                  replace H : (if t185 = true then (some (true, t171, (⟨#[]⟩ : ByteArray), rdOf ByteArray.empty t172 (ji55))) else (some (true, t171, (⟨#[]⟩ : ByteArray), (⟨#[]⟩ : ByteArray)))) = some (r1, r2, r3, r4) := H
                                  have A58 := Aside0.mk A580
                                  clear A580
                                  by_cases c59 : t185 = true
                                  · subst c59
                                    have H1 : (some (true, t171, (⟨#[]⟩ : ByteArray), rdOf ByteArray.empty t172 (ji55))) = some (r1, r2, r3, r4) := by rw [if_pos rfl] at H; exact H
                                    clear H
                                    have H := H1
                                    clear H1
                                    simp only [Option.some.injEq, Prod.mk.injEq] at H
                                    obtain ⟨rfl, rfl, rfl, rfl⟩ := H
                                    have p184 : 0 ≤ ((ji55) : Int) := of_decide_eq_true (by first | (with_reducible assumption) | assumption)
                                    have q184 : (ji55) < (t172.length : Int) := of_decide_eq_true (by first | (with_reducible assumption) | assumption)
                                    obtain ⟨ad184, e184, hx184_0⟩ := Kd.at_string (Kd.R_reads' HO_7.out).2.2 (ji55) p184 q184
                                    cases e184
                                    replace p184 := eq_true p184
                                    replace q184 := eq_true q184
                                    go_wp2_with (first | (go_at_call 17; (with_reducible refine (seicheref15_Processor.calls kj42 (rdOf ByteArray.empty t172 (ji55)) true _ A58.out).mono ?_); rintro e w60 ⟨rfl, hb⟩; have n0_ := Aside0.mk (Kd.R_below (by (with_reducible repeat (first | apply Kd.R_alloc | apply Kd.R_drewN | apply Kd.R_drew)); exact HO_7.out) hb); have n1_ := Aside0.mk (below_step (by repeat (first | (with_reducible first | exact HB.out | apply below_alloc | apply pw_below_drewN | apply below_drew1) | exact HB.out)) hb); clear HO_7; clear HB; have HO_7 := n0_; have HB := n1_; clear n0_ n1_; (try clear hb); (try clear hb2); (try clear hk); (try clear hi); have p186 : 0 ≤ ((ji55) : Int) := of_decide_eq_true (by first | (with_reducible assumption) | assumption); have q186 : (ji55) < (t172.length : Int) := of_decide_eq_true (by first | (with_reducible assumption) | assumption); obtain ⟨ad186, e186, hx186_0⟩ := Kd.at_string (Kd.R_reads' HO_7.out).2.2 (ji55) p186 q186; obtain rfl : ad184 = ad186 := (by injection e186); replace p186 := eq_true p186; replace q186 := eq_true q186))
                                    repeat (go_quiet (first | (go_at_call 17; (with_reducible refine (seicheref15_Processor.calls kj42 (rdOf ByteArray.empty t172 (ji55)) true _ A58.out).mono ?_); rintro e w60 ⟨rfl, hb⟩; have n0_ := Aside0.mk (Kd.R_below (by (with_reducible repeat (first | apply Kd.R_alloc | apply Kd.R_drewN | apply Kd.R_drew)); exact HO_7.out) hb); have n1_ := Aside0.mk (below_step (by repeat (first | (with_reducible first | exact HB.out | apply below_alloc | apply pw_below_drewN | apply below_drew1) | exact HB.out)) hb); clear HO_7; clear HB; have HO_7 := n0_; have HB := n1_; clear n0_ n1_; (try clear hb); (try clear hb2); (try clear hk); (try clear hi); have p186 : 0 ≤ ((ji55) : Int) := of_decide_eq_true (by first | (with_reducible assumption) | assumption); have q186 : (ji55) < (t172.length : Int) := of_decide_eq_true (by first | (with_reducible assumption) | assumption); obtain ⟨ad186, e186, hx186_0⟩ := Kd.at_string (Kd.R_reads' HO_7.out).2.2 (ji55) p186 q186; obtain rfl : ad184 = ad186 := (by injection e186); replace p186 := eq_true p186; replace q186 := eq_true q186)); try go_wp2_with (first | (go_at_call 17; (with_reducible refine (seicheref15_Processor.calls kj42 (rdOf ByteArray.empty t172 (ji55)) true _ A58.out).mono ?_); rintro e w60 ⟨rfl, hb⟩; have n0_ := Aside0.mk (Kd.R_below (by (with_reducible repeat (first | apply Kd.R_alloc | apply Kd.R_drewN | apply Kd.R_drew)); exact HO_7.out) hb); have n1_ := Aside0.mk (below_step (by repeat (first | (with_reducible first | exact HB.out | apply below_alloc | apply pw_below_drewN | apply below_drew1) | exact HB.out)) hb); clear HO_7; clear HB; have HO_7 := n0_; have HB := n1_; clear n0_ n1_; (try clear hb); (try clear hb2); (try clear hk); (try clear hi); have p186 : 0 ≤ ((ji55) : Int) := of_decide_eq_true (by first | (with_reducible assumption) | assumption); have q186 : (ji55) < (t172.length : Int) := of_decide_eq_true (by first | (with_reducible assumption) | assumption); obtain ⟨ad186, e186, hx186_0⟩ := Kd.at_string (Kd.R_reads' HO_7.out).2.2 (ji55) p186 q186; obtain rfl : ad184 = ad186 := (by injection e186); replace p186 := eq_true p186; replace q186 := eq_true q186)))
                                    refine bodyPost_ret (results_list (rs := [.tmp 2, .tmp 3, .tmp 4, .tmp 5]) rfl (by simp) (.tmp (.tmp (.tmp (.tmp .nil))))) rfl ?_
                                    exact ⟨by first | rfl | (simp [errW_none, errW_some] <;> rfl) | (simp only [← hji10, ← hji55]; first | rfl | (simp [errW_none, errW_some] <;> rfl)) | (simp [*, errW_none, errW_some] <;> rfl), by repeat (first | (with_reducible first | exact HB.out | apply below_alloc | apply pw_below_drewN | apply below_drew1) | exact HB.out)⟩
                                  · replace c59 := Bool.eq_false_iff.mpr c59
                                    subst c59
                                    have H1 : (some (true, t171, (⟨#[]⟩ : ByteArray), (⟨#[]⟩ : ByteArray))) = some (r1, r2, r3, r4) := by rw [if_neg (show ¬ (false = true) by decide)] at H; exact H
                                    clear H
                                    have H := H1
                                    clear H1
                                    simp only [Option.some.injEq, Prod.mk.injEq] at H
                                    obtain ⟨rfl, rfl, rfl, rfl⟩ := H
                                    have p184 : 0 ≤ ((ji55) : Int) := of_decide_eq_true (by first | (with_reducible assumption) | assumption)
                                    have q184 : (ji55) < (t172.length : Int) := of_decide_eq_true (by first | (with_reducible assumption) | assumption)
                                    obtain ⟨ad184, e184, hx184_0⟩ := Kd.at_string (Kd.R_reads' HO_7.out).2.2 (ji55) p184 q184
                                    cases e184
                                    replace p184 := eq_true p184
                                    replace q184 := eq_true q184
                                    go_wp2_with (first | (go_at_call 17; (with_reducible refine (seicheref15_Processor.calls kj42 (rdOf ByteArray.empty t172 (ji55)) false _ A58.out).mono ?_); rintro e w61 ⟨rfl, hb⟩; have n0_ := Aside0.mk (Kd.R_below (by (with_reducible repeat (first | apply Kd.R_alloc | apply Kd.R_drewN | apply Kd.R_drew)); exact HO_7.out) hb); have n1_ := Aside0.mk (below_step (by repeat (first | (with_reducible first | exact HB.out | apply below_alloc | apply pw_below_drewN | apply below_drew1) | exact HB.out)) hb); clear HO_7; clear HB; have HO_7 := n0_; have HB := n1_; clear n0_ n1_; (try clear hb); (try clear hb2); (try clear hk); (try clear hi)))
                                    repeat (go_quiet (first | (go_at_call 17; (with_reducible refine (seicheref15_Processor.calls kj42 (rdOf ByteArray.empty t172 (ji55)) false _ A58.out).mono ?_); rintro e w61 ⟨rfl, hb⟩; have n0_ := Aside0.mk (Kd.R_below (by (with_reducible repeat (first | apply Kd.R_alloc | apply Kd.R_drewN | apply Kd.R_drew)); exact HO_7.out) hb); have n1_ := Aside0.mk (below_step (by repeat (first | (with_reducible first | exact HB.out | apply below_alloc | apply pw_below_drewN | apply below_drew1) | exact HB.out)) hb); clear HO_7; clear HB; have HO_7 := n0_; have HB := n1_; clear n0_ n1_; (try clear hb); (try clear hb2); (try clear hk); (try clear hi))); try go_wp2_with (first | (go_at_call 17; (with_reducible refine (seicheref15_Processor.calls kj42 (rdOf ByteArray.empty t172 (ji55)) false _ A58.out).mono ?_); rintro e w61 ⟨rfl, hb⟩; have n0_ := Aside0.mk (Kd.R_below (by (with_reducible repeat (first | apply Kd.R_alloc | apply Kd.R_drewN | apply Kd.R_drew)); exact HO_7.out) hb); have n1_ := Aside0.mk (below_step (by repeat (first | (with_reducible first | exact HB.out | apply below_alloc | apply pw_below_drewN | apply below_drew1) | exact HB.out)) hb); clear HO_7; clear HB; have HO_7 := n0_; have HB := n1_; clear n0_ n1_; (try clear hb); (try clear hb2); (try clear hk); (try clear hi))))
                                    refine bodyPost_ret (results_list (rs := [.tmp 2, .tmp 3, .tmp 4, .tmp 5]) rfl (by simp) (.tmp (.tmp (.tmp (.tmp .nil))))) rfl ?_
                                    exact ⟨by first | rfl | (simp [errW_none, errW_some] <;> rfl) | (simp only [← hji10, ← hji55]; first | rfl | (simp [errW_none, errW_some] <;> rfl)) | (simp [*, errW_none, errW_some] <;> rfl), by repeat (first | (with_reducible first | exact HB.out | apply below_alloc | apply pw_below_drewN | apply below_drew1) | exact HB.out)⟩
                                · rw [if_neg c57] at H
                                  exact absurd H (by simp)
                              · rw [if_neg c56] at H
                                exact absurd H (by simp)
                            · rw [if_neg c54] at H
                              have c54b0 : decide (2 ≤ (t172.length : Int)) = false := decide_eq_false c54
                              have c54b1 : decide (2 ≤ t172.length) = false := decide_eq_false (by omega)
                              clear c54
                              simp only [Option.some.injEq, Prod.mk.injEq] at H
                              obtain ⟨rfl, rfl, rfl, rfl⟩ := H
                              go_wp2
                              repeat (go_quiet (fail); try go_wp2)
                              refine bodyPost_ret (results_list (rs := [.tmp 2, .tmp 3, .tmp 4, .tmp 5]) rfl (by simp) (.tmp (.tmp (.tmp (.tmp .nil))))) rfl ?_
                              exact ⟨by first | rfl | (simp [errW_none, errW_some] <;> rfl) | (simp only [← hji10]; first | rfl | (simp [errW_none, errW_some] <;> rfl)) | (simp [*, errW_none, errW_some] <;> rfl), by repeat (first | (with_reducible first | exact HB.out | apply below_alloc | apply pw_below_drewN | apply below_drew1) | exact HB.out)⟩
          · rw [if_neg c12] at H
            exact absurd H (by simp)
        · rw [if_neg c11] at H
          exact absurd H (by simp)

end Go.Proofs.YtnpbgegllphfkaaDoor.PAll
