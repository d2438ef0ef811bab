-- Written by a program of this session (a changed scratch copy of a tool of the kit); not a print of the kit's own.
import Derived.Test.YtnpbgegllphfkaaDoorPAllx0
import Derived.Test.YtnpbgegllphfkaaDoorPAllx1
import Derived.Test.YtnpbgegllphfkaaDoorPAllx3
import Derived.Test.YtnpbgegllphfkaaDoorPAllx4
import Derived.Test.YtnpbgegllphfkaaDoorPAllx5
namespace Go.Proofs.YtnpbgegllphfkaaDoor.PAll
open Go.RowKit Go.Proofs.YtnpbgegllphfkaaDoorW.PrintWords Go.Proofs.YtnpbgegllphfkaaDoorW.PrintLast Go.Proofs.YtnpbgegllphfkaaDoorW.PrintMore Go.Proofs.YtnpbgegllphfkaaDoorMy Go.Proofs.YtnpbgegllphfkaaDoor
attribute [local go_sem] max2_int min2_int max_two min_two max_three min_three max_four min_four   -- for this text's walks alone
set_option linter.unusedVariables false
set_option linter.unusedSimpArgs false

attribute [local go_sem high] eqA26
/-! ### seichelaw15_SuffixOf: function 3 -/
def seichelaw15_SuffixOf.f (k : Nat) (a0 : ByteArray) : Option (Bool) := (seichelaw15_alive.f k).bind fun t187 => (if t187 = true then (if (a0.size : Int) > 1024 then (some true) else ((seicheref15_Of.f k a0).bind fun bt188 => ((suffix_Of.f k a0).bind fun bt192 => (some (bt192.1 == bt188.1 && (bt192.2.1 == bt188.2.1 && (bt192.2.2.1.toList == bt188.2.2.1.toList && (bt192.2.2.2.toList == bt188.2.2.2.toList)))))))) else (some false))
theorem seichelaw15_SuffixOf.mono : ∀ a0 k, LeO (seichelaw15_SuffixOf.f k a0) (seichelaw15_SuffixOf.f (k + 1) a0) := by
  intro a0 k
  unfold seichelaw15_SuffixOf.f
  repeat' first
      | (with_reducible exact seichelaw15_alive.mono _)
      | (with_reducible exact seicheref15_Of.mono _ _)
      | (with_reducible exact suffix_Of.mono _ _)
      | (with_reducible exact LeO.refl _)
      | (with_reducible exact LeO.none _)
      | (with_reducible refine LeO.ite ?_ ?_)
      | (with_reducible refine LeO.bind ?_ (fun _ => ?_))
      | exact seichelaw15_alive.mono _
      | exact seicheref15_Of.mono _ _
      | exact suffix_Of.mono _ _
      | exact LeO.none _
      | refine LeO.ite ?_ ?_
      | refine LeO.bind ?_ (fun _ => ?_)
set_option maxHeartbeats 8000000 in
set_option maxRecDepth 100000 in
theorem seichelaw15_SuffixOf.calls (k : Nat) (a0 : ByteArray) (r : Bool) (w : World) (hT : Tabs w) (h : seichelaw15_SuffixOf.f k a0 = some r) :
    Calls Tryd.prog 3 #[.string a0] w fun e w' => e = .returned (.bool r) ∧ Below w.heap.size w w' := by
  have hu26 := Tryd.underlying26
  have HT := Aside0.mk hT
  clear hT
  have HB := Aside0.mk (Below.refl w.heap.size w)
  have H : ((seichelaw15_alive.f k).bind fun t187 => (if t187 = true then (if (a0.size : Int) > 1024 then (some true) else ((seicheref15_Of.f k a0).bind fun bt188 => ((suffix_Of.f k a0).bind fun bt192 => (some (bt192.1 == bt188.1 && (bt192.2.1 == bt188.2.1 && (bt192.2.2.1.toList == bt188.2.2.1.toList && (bt192.2.2.2.toList == bt188.2.2.2.toList)))))))) else (some false))) = some r := h
  clear h
  replace H := Option.bind_eq_some_iff.mp H
  obtain ⟨t187, A20, H⟩ := H
  replace H : (if t187 = true then (if (a0.size : Int) > 1024 then (some true) else ((seicheref15_Of.f k a0).bind fun bt188 => ((suffix_Of.f k a0).bind fun bt192 => (some (bt192.1 == bt188.1 && (bt192.2.1 == bt188.2.1 && (bt192.2.2.1.toList == bt188.2.2.1.toList && (bt192.2.2.2.toList == bt188.2.2.2.toList)))))))) else (some false)) = some r := H
  have A2 := Aside0.mk A20
  clear A20
  by_cases c3 : t187 = true
  · subst c3
    have H1 : (if (a0.size : Int) > 1024 then (some true) else ((seicheref15_Of.f k a0).bind fun bt188 => ((suffix_Of.f k a0).bind fun bt192 => (some (bt192.1 == bt188.1 && (bt192.2.1 == bt188.2.1 && (bt192.2.2.1.toList == bt188.2.2.1.toList && (bt192.2.2.2.toList == bt188.2.2.2.toList)))))))) = some r := by rw [if_pos rfl] at H; exact H
    clear H
    have H := H1
    clear H1
    by_cases c4 : (a0.size : Int) > 1024
    · rw [if_pos c4] at H
      have c4b0 : decide (1024 < (a0.size : Int)) = true := decide_eq_true c4
      have c4b1 : decide (1024 < a0.size) = true := decide_eq_true (by omega)
      clear c4
      obtain rfl := Option.some.inj H
      go_enter Tryd.func3, Tryd.ntmps3
      go_wp2_with (first | ((with_reducible refine gate_callee (f := 7) rfl ?_); refine goesL_ (some 7) rfl rfl Tryd.func7 (by kernel_rfl) rfl #[] rfl (by (try simp only [List.map_toArray, List.map_cons, List.map_nil]); first | done | rfl | (simp only [List.length_drop, List.length_take]; rfl)) ?_; (with_reducible refine (seichelaw15_alive.calls k  true _ ?side1 A2.out).mono ?_); (case side1 => exact Tabs.below HT.out (by repeat (first | (with_reducible first | exact HB.out | apply below_alloc | apply pw_below_drewN | apply below_drew1) | exact HB.out))); rintro e w5 ⟨rfl, hb⟩; refine ⟨_, rfl, ?_⟩; have n0_ := Aside0.mk (below_step (by repeat (first | (with_reducible first | exact HB.out | apply below_alloc | apply pw_below_drewN | apply below_drew1) | exact HB.out)) hb); clear HB; have HB := n0_; clear n0_; (try clear hb); (try clear hb2); (try clear hk); (try clear hi)))
      go_ret
      exact ⟨by first | rfl | (simp [errW_none, errW_some] <;> rfl) | (simp [*, errW_none, errW_some] <;> rfl), by repeat (first | (with_reducible first | exact HB.out | apply below_alloc | apply pw_below_drewN | apply below_drew1) | exact HB.out)⟩
    · rw [if_neg c4] at H
      have c4b0 : decide (1024 < (a0.size : Int)) = false := decide_eq_false c4
      have c4b1 : decide (1024 < a0.size) = false := decide_eq_false (by omega)
      clear c4
      replace H := Option.bind_eq_some_iff.mp H
      obtain ⟨⟨t188, t189, t190, t191⟩, A60, H⟩ := H
      replace H : ((suffix_Of.f k a0).bind fun bt192 => (some (bt192.1 == t188 && (bt192.2.1 == t189 && (bt192.2.2.1.toList == t190.toList && (bt192.2.2.2.toList == t191.toList)))))) = some r := H
      have A6 := Aside0.mk A60
      clear A60
      replace H := Option.bind_eq_some_iff.mp H
      obtain ⟨⟨t192, t193, t194, t195⟩, A70, H⟩ := H
      replace H : (some (t192 == t188 && (t193 == t189 && (t194.toList == t190.toList && (t195.toList == t191.toList))))) = some r := H
      have A7 := Aside0.mk A70
      clear A70
      obtain rfl := Option.some.inj H
      go_enter Tryd.func3, Tryd.ntmps3
      go_wp2_with (first | ((with_reducible refine gate_callee (f := 7) rfl ?_); refine goesL_ (some 7) rfl rfl Tryd.func7 (by kernel_rfl) rfl #[] rfl (by (try simp only [List.map_toArray, List.map_cons, List.map_nil]); first | done | rfl | (simp only [List.length_drop, List.length_take]; rfl)) ?_; (with_reducible refine (seichelaw15_alive.calls k  true _ ?side1 A2.out).mono ?_); (case side1 => exact Tabs.below HT.out (by repeat (first | (with_reducible first | exact HB.out | apply below_alloc | apply pw_below_drewN | apply below_drew1) | exact HB.out))); rintro e w8 ⟨rfl, hb⟩; refine ⟨_, rfl, ?_⟩; have n0_ := Aside0.mk (below_step (by repeat (first | (with_reducible first | exact HB.out | apply below_alloc | apply pw_below_drewN | apply below_drew1) | exact HB.out)) hb); clear HB; have HB := n0_; clear n0_; (try clear hb); (try clear hb2); (try clear hk); (try clear hi)) | ((with_reducible refine gate_callee (f := 8) rfl ?_); refine goesL_ (some 14) rfl rfl Tryd.func8 (by kernel_rfl) rfl #[.string a0] rfl (by (try simp only [List.map_toArray, List.map_cons, List.map_nil]); first | done | rfl | (simp only [List.length_drop, List.length_take]; rfl)) ?_; (with_reducible refine (seicheref15_Of.calls k a0 t188 t189 t190 t191 _ A6.out).mono ?_); rintro e w9 ⟨rfl, hb⟩; refine ⟨_, rfl, ?_⟩; have n0_ := Aside0.mk (below_step (by repeat (first | (with_reducible first | exact HB.out | apply below_alloc | apply pw_below_drewN | apply below_drew1) | exact HB.out)) hb); clear HB; have HB := n0_; clear n0_; (try clear hb); (try clear hb2); (try clear hk); (try clear hi)) | ((with_reducible refine gate_callee (f := 9) rfl ?_); refine goesL_ (some 20) rfl rfl Tryd.func9 (by kernel_rfl) rfl #[.string a0] rfl (by (try simp only [List.map_toArray, List.map_cons, List.map_nil]); first | done | rfl | (simp only [List.length_drop, List.length_take]; rfl)) ?_; (with_reducible refine (suffix_Of.calls k a0 t192 t193 t194 t195 _ ?side1 A7.out).mono ?_); (case side1 => exact Tabs.below HT.out (by repeat (first | (with_reducible first | exact HB.out | apply below_alloc | apply pw_below_drewN | apply below_drew1) | exact HB.out))); rintro e w10 ⟨rfl, hb⟩; refine ⟨_, rfl, ?_⟩; have n0_ := Aside0.mk (below_step (by repeat (first | (with_reducible first | exact HB.out | apply below_alloc | apply pw_below_drewN | apply below_drew1) | exact HB.out)) hb); clear HB; have HB := n0_; clear n0_; (try clear hb); (try clear hb2); (try clear hk); (try clear hi)))
      go_ret
      exact ⟨by first | rfl | (simp [errW_none, errW_some] <;> rfl) | (simp [*, errW_none, errW_some] <;> rfl), by repeat (first | (with_reducible first | exact HB.out | apply below_alloc | apply pw_below_drewN | apply below_drew1) | exact HB.out)⟩
  · replace c3 := Bool.eq_false_iff.mpr c3
    subst c3
    have H1 : (some false) = some r := by rw [if_neg (show ¬ (false = true) by decide)] at H; exact H
    clear H
    have H := H1
    clear H1
    obtain rfl := Option.some.inj H
    go_enter Tryd.func3, Tryd.ntmps3
    go_wp2_with (first | ((with_reducible refine gate_callee (f := 7) rfl ?_); refine goesL_ (some 7) rfl rfl Tryd.func7 (by kernel_rfl) rfl #[] rfl (by (try simp only [List.map_toArray, List.map_cons, List.map_nil]); first | done | rfl | (simp only [List.length_drop, List.length_take]; rfl)) ?_; (with_reducible refine (seichelaw15_alive.calls k  false _ ?side1 A2.out).mono ?_); (case side1 => exact Tabs.below HT.out (by repeat (first | (with_reducible first | exact HB.out | apply below_alloc | apply pw_below_drewN | apply below_drew1) | exact HB.out))); rintro e w11 ⟨rfl, hb⟩; refine ⟨_, rfl, ?_⟩; have n0_ := Aside0.mk (below_step (by repeat (first | (with_reducible first | exact HB.out | apply below_alloc | apply pw_below_drewN | apply below_drew1) | exact HB.out)) hb); clear HB; have HB := n0_; clear n0_; (try clear hb); (try clear hb2); (try clear hk); (try clear hi)))
    go_ret
    exact ⟨by first | rfl | (simp [errW_none, errW_some] <;> rfl) | (simp [*, errW_none, errW_some] <;> rfl), by repeat (first | (with_reducible first | exact HB.out | apply below_alloc | apply pw_below_drewN | apply below_drew1) | exact HB.out)⟩

/-- THE ONE PURE STATEMENT of seichelaw15_SuffixOf: yours. -/
def seichelaw15_SuffixOf.Pure : Prop := ∀ (a0 : ByteArray), a0.size ≤ 140737488351232 → ∃ k, seichelaw15_SuffixOf.f k a0 = some true
theorem seichelaw15_SuffixOf.walk (P : seichelaw15_SuffixOf.Pure) (a0 : ByteArray) (w : World) (hT : Tabs w) (w0 : a0.size ≤ 140737488351232) :
    Calls Tryd.prog 3 #[.string a0] w fun e w' => e = .returned (.bool true) ∧ Below w.heap.size w w' := by
  obtain ⟨k, h⟩ := P a0 w0
  refine (seichelaw15_SuffixOf.calls k a0 true w hT h).mono ?_
  rintro e w' ⟨rfl, hd⟩
  exact ⟨rfl, hd⟩

/-! ### seichelaw15_SuffixTells: function 4 -/
mutual
def seichelaw15_SuffixTells.j0 : Nat → ByteArray → Int → Int → Bool → Bool → Option (Bool)
  | 0, _, _, _, _, _ => none
  | k + 1, x0, x1, x2, x3, x38 => if x38 = true then (some true) else ((seicheref15_Systems.f k).bind fun t197 => ((seicheref15_Processors.f k).bind fun t200 => (if (IntKind.u64.wrap ((t197.length : Int))) = 0 then (none) else (if 0 ≤ (wrap64 (Int.tmod (IntKind.u64.wrap (x1)) (IntKind.u64.wrap ((t197.length : Int))))) then (if (wrap64 (Int.tmod (IntKind.u64.wrap (x1)) (IntKind.u64.wrap ((t197.length : Int))))) < (t197.length : Int) then (if (IntKind.u64.wrap ((t200.length : Int))) = 0 then (none) else (if 0 ≤ (wrap64 (Int.tmod (IntKind.u64.wrap (x2)) (IntKind.u64.wrap ((t200.length : Int))))) then (if (wrap64 (Int.tmod (IntKind.u64.wrap (x2)) (IntKind.u64.wrap ((t200.length : Int))))) < (t200.length : Int) then (if x3 = true then (seichelaw15_SuffixTells.j1 k x0 x3 (rdOf ByteArray.empty t197 (wrap64 (Int.tmod (IntKind.u64.wrap (x1)) (IntKind.u64.wrap ((t197.length : Int)))))) (rdOf ByteArray.empty t200 (wrap64 (Int.tmod (IntKind.u64.wrap (x2)) (IntKind.u64.wrap ((t200.length : Int)))))) (⟨#[95, 116, 101, 115, 116, 46, 103, 111]⟩ : ByteArray)) else (seichelaw15_SuffixTells.j1 k x0 x3 (rdOf ByteArray.empty t197 (wrap64 (Int.tmod (IntKind.u64.wrap (x1)) (IntKind.u64.wrap ((t197.length : Int)))))) (rdOf ByteArray.empty t200 (wrap64 (Int.tmod (IntKind.u64.wrap (x2)) (IntKind.u64.wrap ((t200.length : Int)))))) (⟨#[46, 103, 111]⟩ : ByteArray))) else (none)) else (none))) else (none)) else (none)))))
def seichelaw15_SuffixTells.j1 : Nat → ByteArray → Bool → ByteArray → ByteArray → ByteArray → Option (Bool)
  | 0, _, _, _, _, _ => none
  | k + 1, x0, x3, x11, x12, x13 => (seicheref14_Cut.f k x0 95).bind fun t205 => (if (t205.length : Int) = 1 then (if x0.size + 1 ≤ 9223372036854775807 then (if (x0 ++ (⟨#[95]⟩ : ByteArray)).size + x11.size ≤ 9223372036854775807 then (if ((x0 ++ (⟨#[95]⟩ : ByteArray)) ++ x11).size + 1 ≤ 9223372036854775807 then (if (((x0 ++ (⟨#[95]⟩ : ByteArray)) ++ x11) ++ (⟨#[95]⟩ : ByteArray)).size + x12.size ≤ 9223372036854775807 then (if ((((x0 ++ (⟨#[95]⟩ : ByteArray)) ++ x11) ++ (⟨#[95]⟩ : ByteArray)) ++ x12).size + x13.size ≤ 9223372036854775807 then ((suffix_Of.f k (((((x0 ++ (⟨#[95]⟩ : ByteArray)) ++ x11) ++ (⟨#[95]⟩ : ByteArray)) ++ x12) ++ x13)).bind fun bt208 => (if (bt208.1 && (bt208.2.1 == x3 && (bt208.2.2.1.toList == x11.toList && (bt208.2.2.2.toList == x12.toList)))) = true then (if ((x0 ++ (⟨#[95]⟩ : ByteArray)) ++ x11).size + x13.size ≤ 9223372036854775807 then ((suffix_Of.f k (((x0 ++ (⟨#[95]⟩ : ByteArray)) ++ x11) ++ x13)).bind fun bt212 => (if (bt212.1 && (bt212.2.1 == x3 && (bt212.2.2.1.toList == x11.toList && (bt212.2.2.2.toList == ([] : List UInt8))))) = true then (if (x0 ++ (⟨#[95]⟩ : ByteArray)).size + x12.size ≤ 9223372036854775807 then (if ((x0 ++ (⟨#[95]⟩ : ByteArray)) ++ x12).size + x13.size ≤ 9223372036854775807 then ((suffix_Of.f k (((x0 ++ (⟨#[95]⟩ : ByteArray)) ++ x12) ++ x13)).bind fun bt216 => (some (bt216.1 && (bt216.2.1 == x3 && (bt216.2.2.1.toList == ([] : List UInt8) && (bt216.2.2.2.toList == x12.toList)))))) else (none)) else (none)) else (some false))) else (none)) else (some false))) else (none)) else (none)) else (none)) else (none)) else (none)) else (if 0 ≤ (wrap64 ((t205.length : Int) - 1)) then (if (wrap64 ((t205.length : Int) - 1)) < (t205.length : Int) then ((seicheref15_System.f k (rdOf ByteArray.empty t205 (wrap64 ((t205.length : Int) - 1)))).bind fun t221 => (if x0.size + 1 ≤ 9223372036854775807 then (if (x0 ++ (⟨#[95]⟩ : ByteArray)).size + x11.size ≤ 9223372036854775807 then (if ((x0 ++ (⟨#[95]⟩ : ByteArray)) ++ x11).size + 1 ≤ 9223372036854775807 then (if (((x0 ++ (⟨#[95]⟩ : ByteArray)) ++ x11) ++ (⟨#[95]⟩ : ByteArray)).size + x12.size ≤ 9223372036854775807 then (if ((((x0 ++ (⟨#[95]⟩ : ByteArray)) ++ x11) ++ (⟨#[95]⟩ : ByteArray)) ++ x12).size + x13.size ≤ 9223372036854775807 then ((suffix_Of.f k (((((x0 ++ (⟨#[95]⟩ : ByteArray)) ++ x11) ++ (⟨#[95]⟩ : ByteArray)) ++ x12) ++ x13)).bind fun bt222 => (if (bt222.1 && (bt222.2.1 == x3 && (bt222.2.2.1.toList == x11.toList && (bt222.2.2.2.toList == x12.toList)))) = true then (if ((x0 ++ (⟨#[95]⟩ : ByteArray)) ++ x11).size + x13.size ≤ 9223372036854775807 then ((suffix_Of.f k (((x0 ++ (⟨#[95]⟩ : ByteArray)) ++ x11) ++ x13)).bind fun bt226 => (if (bt226.1 && (bt226.2.1 == x3 && (bt226.2.2.1.toList == x11.toList && (bt226.2.2.2.toList == ([] : List UInt8))))) = true then (if t221 = true then (some true) else (if (x0 ++ (⟨#[95]⟩ : ByteArray)).size + x12.size ≤ 9223372036854775807 then (if ((x0 ++ (⟨#[95]⟩ : ByteArray)) ++ x12).size + x13.size ≤ 9223372036854775807 then ((suffix_Of.f k (((x0 ++ (⟨#[95]⟩ : ByteArray)) ++ x12) ++ x13)).bind fun bt230 => (some (bt230.1 && (bt230.2.1 == x3 && (bt230.2.2.1.toList == ([] : List UInt8) && (bt230.2.2.2.toList == x12.toList)))))) else (none)) else (none))) else (some false))) else (none)) else (some false))) else (none)) else (none)) else (none)) else (none)) else (none))) else (none)) else (none)))
end
def seichelaw15_SuffixTells.f (k : Nat) (a0 : ByteArray) (a1 : Int) (a2 : Int) (a3 : Bool) : Option (Bool) := (seichelaw15_alive.f k).bind fun t196 => (if t196 = true then (if (a0.size : Int) > 512 then (seichelaw15_SuffixTells.j0 k a0 a1 a2 a3 true) else (if a0.toList = ([] : List UInt8) then (seichelaw15_SuffixTells.j0 k a0 a1 a2 a3 (a0.toList == ([] : List UInt8))) else (if 0 < (a0.size : Int) then (if (bt a0 0) = 95 then (seichelaw15_SuffixTells.j0 k a0 a1 a2 a3 true) else (if (bt a0 0) = 46 then (seichelaw15_SuffixTells.j0 k a0 a1 a2 a3 true) else (seichelaw15_SuffixTells.j0 k a0 a1 a2 a3 (a0.toList == ([] : List UInt8))))) else (none)))) else (some false))
theorem seichelaw15_SuffixTells.mono_l : ∀ k, (∀ y0 y1 y2 y3 y4, LeO (seichelaw15_SuffixTells.j0 k y0 y1 y2 y3 y4) (seichelaw15_SuffixTells.j0 (k + 1) y0 y1 y2 y3 y4)) ∧ (∀ y0 y1 y2 y3 y4, LeO (seichelaw15_SuffixTells.j1 k y0 y1 y2 y3 y4) (seichelaw15_SuffixTells.j1 (k + 1) y0 y1 y2 y3 y4))
  | 0 => ⟨fun _ _ _ _ _ r h => by simp [seichelaw15_SuffixTells.j0] at h, fun _ _ _ _ _ r h => by simp [seichelaw15_SuffixTells.j1] at h⟩
  | k + 1 => by
    obtain ⟨ih0, ih1⟩ := seichelaw15_SuffixTells.mono_l k
    refine ⟨?_, ?_⟩
    · intro y0 y1 y2 y3 y4
      unfold seichelaw15_SuffixTells.j0
      repeat' first
      | (with_reducible exact ih0 _ _ _ _ _)
      | (with_reducible exact ih1 _ _ _ _ _)
      | (with_reducible exact seichelaw15_alive.mono _)
      | (with_reducible exact seicheref14_Cut.mono _ _ _)
      | (with_reducible exact seicheref15_Processors.mono _)
      | (with_reducible exact seicheref15_System.mono _ _)
      | (with_reducible exact seicheref15_Systems.mono _)
      | (with_reducible exact suffix_Of.mono _ _)
      | (with_reducible exact LeO.refl _)
      | (with_reducible exact LeO.none _)
      | (with_reducible refine LeO.ite ?_ ?_)
      | (with_reducible refine LeO.bind ?_ (fun _ => ?_))
      | exact ih0 _ _ _ _ _
      | exact ih1 _ _ _ _ _
      | exact seichelaw15_alive.mono _
      | exact seicheref14_Cut.mono _ _ _
      | exact seicheref15_Processors.mono _
      | exact seicheref15_System.mono _ _
      | exact seicheref15_Systems.mono _
      | exact suffix_Of.mono _ _
      | exact LeO.none _
      | refine LeO.ite ?_ ?_
      | refine LeO.bind ?_ (fun _ => ?_)
    · intro y0 y1 y2 y3 y4
      unfold seichelaw15_SuffixTells.j1
      repeat' first
      | (with_reducible exact ih0 _ _ _ _ _)
      | (with_reducible exact ih1 _ _ _ _ _)
      | (with_reducible exact seichelaw15_alive.mono _)
      | (with_reducible exact seicheref14_Cut.mono _ _ _)
      | (with_reducible exact seicheref15_Processors.mono _)
      | (with_reducible exact seicheref15_System.mono _ _)
      | (with_reducible exact seicheref15_Systems.mono _)
      | (with_reducible exact suffix_Of.mono _ _)
      | (with_reducible exact LeO.refl _)
      | (with_reducible exact LeO.none _)
      | (with_reducible refine LeO.ite ?_ ?_)
      | (with_reducible refine LeO.bind ?_ (fun _ => ?_))
      | exact ih0 _ _ _ _ _
      | exact ih1 _ _ _ _ _
      | exact seichelaw15_alive.mono _
      | exact seicheref14_Cut.mono _ _ _
      | exact seicheref15_Processors.mono _
      | exact seicheref15_System.mono _ _
      | exact seicheref15_Systems.mono _
      | exact suffix_Of.mono _ _
      | exact LeO.none _
      | refine LeO.ite ?_ ?_
      | refine LeO.bind ?_ (fun _ => ?_)
theorem seichelaw15_SuffixTells.mono : ∀ a0 a1 a2 a3 k, LeO (seichelaw15_SuffixTells.f k a0 a1 a2 a3) (seichelaw15_SuffixTells.f (k + 1) a0 a1 a2 a3) := by
  intro a0 a1 a2 a3 k
  obtain ⟨ih0, ih1⟩ := seichelaw15_SuffixTells.mono_l k
  unfold seichelaw15_SuffixTells.f
  repeat' first
      | (with_reducible exact ih0 _ _ _ _ _)
      | (with_reducible exact ih1 _ _ _ _ _)
      | (with_reducible exact seichelaw15_alive.mono _)
      | (with_reducible exact seicheref14_Cut.mono _ _ _)
      | (with_reducible exact seicheref15_Processors.mono _)
      | (with_reducible exact seicheref15_System.mono _ _)
      | (with_reducible exact seicheref15_Systems.mono _)
      | (with_reducible exact suffix_Of.mono _ _)
      | (with_reducible exact LeO.refl _)
      | (with_reducible exact LeO.none _)
      | (with_reducible refine LeO.ite ?_ ?_)
      | (with_reducible refine LeO.bind ?_ (fun _ => ?_))
      | exact ih0 _ _ _ _ _
      | exact ih1 _ _ _ _ _
      | exact seichelaw15_alive.mono _
      | exact seicheref14_Cut.mono _ _ _
      | exact seicheref15_Processors.mono _
      | exact seicheref15_System.mono _ _
      | exact seicheref15_Systems.mono _
      | exact suffix_Of.mono _ _
      | exact LeO.none _
      | refine LeO.ite ?_ ?_
      | refine LeO.bind ?_ (fun _ => ?_)
set_option maxHeartbeats 8000000 in
set_option maxRecDepth 100000 in
theorem seichelaw15_SuffixTells.calls (k : Nat) (a0 : ByteArray) (a1 : Int) (a2 : Int) (a3 : Bool) (r : Bool) (w : World) (hT : Tabs w) (h : seichelaw15_SuffixTells.f k a0 a1 a2 a3 = some r) :
    Calls Tryd.prog 4 #[.string a0, .int .i64 a1, .int .i64 a2, .bool a3] w fun e w' => e = .returned (.bool r) ∧ Below w.heap.size w w' := by
  have hu26 := Tryd.underlying26
  have HT := Aside0.mk hT
  clear hT
  have HB := Aside0.mk (Below.refl w.heap.size w)
  have H : ((seichelaw15_alive.f k).bind fun t196 => (if t196 = true then (if (a0.size : Int) > 512 then (seichelaw15_SuffixTells.j0 k a0 a1 a2 a3 true) else (if a0.toList = ([] : List UInt8) then (seichelaw15_SuffixTells.j0 k a0 a1 a2 a3 (a0.toList == ([] : List UInt8))) else (if 0 < (a0.size : Int) then (if (bt a0 0) = 95 then (seichelaw15_SuffixTells.j0 k a0 a1 a2 a3 true) else (if (bt a0 0) = 46 then (seichelaw15_SuffixTells.j0 k a0 a1 a2 a3 true) else (seichelaw15_SuffixTells.j0 k a0 a1 a2 a3 (a0.toList == ([] : List UInt8))))) else (none)))) else (some false))) = some r := h
  clear h
  replace H := Option.bind_eq_some_iff.mp H
  obtain ⟨t196, A50, H⟩ := H
  replace H : (if t196 = true then (if (a0.size : Int) > 512 then (seichelaw15_SuffixTells.j0 k a0 a1 a2 a3 true) else (if a0.toList = ([] : List UInt8) then (seichelaw15_SuffixTells.j0 k a0 a1 a2 a3 (a0.toList == ([] : List UInt8))) else (if 0 < (a0.size : Int) then (if (bt a0 0) = 95 then (seichelaw15_SuffixTells.j0 k a0 a1 a2 a3 true) else (if (bt a0 0) = 46 then (seichelaw15_SuffixTells.j0 k a0 a1 a2 a3 true) else (seichelaw15_SuffixTells.j0 k a0 a1 a2 a3 (a0.toList == ([] : List UInt8))))) else (none)))) else (some false)) = some r := H
  have A5 := Aside0.mk A50
  clear A50
  by_cases c6 : t196 = true
  · subst c6
    have H1 : (if (a0.size : Int) > 512 then (seichelaw15_SuffixTells.j0 k a0 a1 a2 a3 true) else (if a0.toList = ([] : List UInt8) then (seichelaw15_SuffixTells.j0 k a0 a1 a2 a3 (a0.toList == ([] : List UInt8))) else (if 0 < (a0.size : Int) then (if (bt a0 0) = 95 then (seichelaw15_SuffixTells.j0 k a0 a1 a2 a3 true) else (if (bt a0 0) = 46 then (seichelaw15_SuffixTells.j0 k a0 a1 a2 a3 true) else (seichelaw15_SuffixTells.j0 k a0 a1 a2 a3 (a0.toList == ([] : List UInt8))))) else (none)))) = some r := by rw [if_pos rfl] at H; exact H
    clear H
    have H := H1
    clear H1
    have HC7 := Aside0.mk H
    clear H
    go_enter Tryd.func4, Tryd.ntmps4
    go_upto_region 3 with (first | (go_at_call 7; (with_reducible refine (seichelaw15_alive.calls k  true _ ?side1 A5.out).mono ?_); (case side1 => exact Tabs.below HT.out (by repeat (first | (with_reducible first | exact HB.out | apply below_alloc | apply pw_below_drewN | apply below_drew1) | exact HB.out))); rintro e w8 ⟨rfl, hb⟩; have n0_ := Aside0.mk (below_step (by repeat (first | (with_reducible first | exact HB.out | apply below_alloc | apply pw_below_drewN | apply below_drew1) | exact HB.out)) hb); clear HB; have HB := n0_; clear n0_; (try clear hb); (try clear hb2); (try clear hk); (try clear hi)))
    repeat (go_quiet (first | (go_at_call 7; (with_reducible refine (seichelaw15_alive.calls k  true _ ?side1 A5.out).mono ?_); (case side1 => exact Tabs.below HT.out (by repeat (first | (with_reducible first | exact HB.out | apply below_alloc | apply pw_below_drewN | apply below_drew1) | exact HB.out))); rintro e w8 ⟨rfl, hb⟩; have n0_ := Aside0.mk (below_step (by repeat (first | (with_reducible first | exact HB.out | apply below_alloc | apply pw_below_drewN | apply below_drew1) | exact HB.out)) hb); clear HB; have HB := n0_; clear n0_; (try clear hb); (try clear hb2); (try clear hk); (try clear hi))); go_upto_region 3 with (first | (go_at_call 7; (with_reducible refine (seichelaw15_alive.calls k  true _ ?side1 A5.out).mono ?_); (case side1 => exact Tabs.below HT.out (by repeat (first | (with_reducible first | exact HB.out | apply below_alloc | apply pw_below_drewN | apply below_drew1) | exact HB.out))); rintro e w8 ⟨rfl, hb⟩; have n0_ := Aside0.mk (below_step (by repeat (first | (with_reducible first | exact HB.out | apply below_alloc | apply pw_below_drewN | apply below_drew1) | exact HB.out)) hb); clear HB; have HB := n0_; clear n0_; (try clear hb); (try clear hb2); (try clear hk); (try clear hi))))
    (try simp only [Act.put, List.setIfInBounds_toArray, List.set_cons_zero, List.set_cons_succ])
    go_cut [38] (fun v38 wc => ∃ (kq : Nat) (x38_6 : Bool), v38 = .bool x38_6 ∧ Aside0 (seichelaw15_SuffixTells.j0 kq a0 a1 a2 a3 x38_6 = some r) ∧ Aside0 (kq ≤ k) ∧ Aside0 (Below w.heap.size w wc))
    case first =>
      have H := HC7.out
      clear HC7
      by_cases c9 : (a0.size : Int) > 512
      · rw [if_pos c9] at H
        have c9b0 : decide (512 < (a0.size : Int)) = true := decide_eq_true c9
        have c9b1 : decide (512 < a0.size) = true := decide_eq_true (by omega)
        clear c9
        (first | rw [c9b0] | (simp only [i64_w, i32_w]; rw [c9b0]) | skip)
        have H' := Aside0.mk H
        clear H
        go_wp2
        repeat (go_quiet (fail); try go_wp2)
        go_meet
        case rel => exact ⟨_, (true), (by first | rfl | (simp; done) | (simp [*]; done)), H', ⟨by first | omega | exact Nat.le_refl _⟩, ⟨by repeat (first | (with_reducible first | exact HB.out | apply below_alloc | apply pw_below_drewN | apply below_drew1) | exact HB.out)⟩⟩
      · rw [if_neg c9] at H
        have c9b0 : decide (512 < (a0.size : Int)) = false := decide_eq_false c9
        have c9b1 : decide (512 < a0.size) = false := decide_eq_false (by omega)
        clear c9
        (first | rw [c9b0] | (simp only [i64_w, i32_w]; rw [c9b0]) | skip)
        by_cases c10 : a0.toList = ([] : List UInt8)
        · rw [if_pos c10] at H
          have c10b0 : (a0.toList == ([] : List UInt8)) = true := beq_iff_eq.mpr c10
          have c10b1 : (a0.toList != ([] : List UInt8)) = false := bne_eq_false_iff_eq.mpr c10
          clear c10
          have H' := Aside0.mk H
          clear H
          go_wp2
          repeat (go_quiet (fail); try go_wp2)
          go_meet
          case rel => exact ⟨_, ((a0.toList == ([] : List UInt8))), (by first | rfl | (simp; done) | (simp [*]; done)), H', ⟨by first | omega | exact Nat.le_refl _⟩, ⟨by repeat (first | (with_reducible first | exact HB.out | apply below_alloc | apply pw_below_drewN | apply below_drew1) | exact HB.out)⟩⟩
        · rw [if_neg c10] at H
          have c10b0 : (a0.toList == ([] : List UInt8)) = false := beq_eq_false_iff_ne.mpr c10
          have c10b1 : (a0.toList != ([] : List UInt8)) = true := bne_iff_ne.mpr c10
          by_cases c11 : 0 < (a0.size : Int)
          · rw [if_pos c11] at H
            have c11b0 : decide (0 < (a0.size : Int)) = true := decide_eq_true c11
            have c11b1 : decide (0 < a0.size) = true := decide_eq_true (by omega)
            clear c11
            by_cases c13 : (bt a0 0) = 95
            · rw [if_pos c13] at H
              have c13b0 : ((bt a0 0) == 95) = true := beq_iff_eq.mpr c13
              have c13b1 : ((bt a0 0) != 95) = false := bne_eq_false_iff_eq.mpr c13
              clear c13
              have H' := Aside0.mk H
              clear H
              have p12 : 0 ≤ (0 : Int) := (by omega)
              have q12 : 0 < a0.size := (by have : (0 : Int) < (a0.size : Int) := of_decide_eq_true (by first | (with_reducible assumption) | assumption); omega)
              have hx12 : ∀ h : 0 < a0.size, ((a0[0]'h).toNat : Int) = bt a0 0 := bt_at a0 0
              clear p12
              have qi12 : (0 < (a0.size : Int)) = True := eq_true (of_decide_eq_true (by first | (with_reducible assumption) | assumption))
              replace q12 := eq_true q12
              go_wp2
              repeat (go_quiet (fail); try go_wp2)
              go_meet
              case rel => exact ⟨_, (true), (by first | rfl | (simp; done) | (simp [*]; done)), H', ⟨by first | omega | exact Nat.le_refl _⟩, ⟨by repeat (first | (with_reducible first | exact HB.out | apply below_alloc | apply pw_below_drewN | apply below_drew1) | exact HB.out)⟩⟩
            · rw [if_neg c13] at H
              have c13b0 : ((bt a0 0) == 95) = false := beq_eq_false_iff_ne.mpr c13
              have c13b1 : ((bt a0 0) != 95) = true := bne_iff_ne.mpr c13
              by_cases c15 : (bt a0 0) = 46
              · rw [if_pos c15] at H
                have c15b0 : ((bt a0 0) == 46) = true := beq_iff_eq.mpr c15
                have c15b1 : ((bt a0 0) != 46) = false := bne_eq_false_iff_eq.mpr c15
                clear c15
                have H' := Aside0.mk H
                clear H
                have p12 : 0 ≤ (0 : Int) := (by omega)
                have q12 : 0 < a0.size := (by have : (0 : Int) < (a0.size : Int) := of_decide_eq_true (by first | (with_reducible assumption) | assumption); omega)
                have hx12 : ∀ h : 0 < a0.size, ((a0[0]'h).toNat : Int) = bt a0 0 := bt_at a0 0
                clear p12
                have qi12 : (0 < (a0.size : Int)) = True := eq_true (of_decide_eq_true (by first | (with_reducible assumption) | assumption))
                replace q12 := eq_true q12
                have p14 : 0 ≤ (0 : Int) := (by omega)
                have q14 : 0 < a0.size := (by have : (0 : Int) < (a0.size : Int) := of_decide_eq_true (by first | (with_reducible assumption) | assumption); omega)
                have hx14 : ∀ h : 0 < a0.size, ((a0[0]'h).toNat : Int) = bt a0 0 := bt_at a0 0
                clear p14
                have qi14 : (0 < (a0.size : Int)) = True := eq_true (of_decide_eq_true (by first | (with_reducible assumption) | assumption))
                replace q14 := eq_true q14
                go_wp2
                repeat (go_quiet (fail); try go_wp2)
                go_meet
                case rel => exact ⟨_, (true), (by first | rfl | (simp; done) | (simp [*]; done)), H', ⟨by first | omega | exact Nat.le_refl _⟩, ⟨by repeat (first | (with_reducible first | exact HB.out | apply below_alloc | apply pw_below_drewN | apply below_drew1) | exact HB.out)⟩⟩
              · rw [if_neg c15] at H
                have c15b0 : ((bt a0 0) == 46) = false := beq_eq_false_iff_ne.mpr c15
                have c15b1 : ((bt a0 0) != 46) = true := bne_iff_ne.mpr c15
                have H' := Aside0.mk H
                clear H
                have p12 : 0 ≤ (0 : Int) := (by omega)
                have q12 : 0 < a0.size := (by have : (0 : Int) < (a0.size : Int) := of_decide_eq_true (by first | (with_reducible assumption) | assumption); omega)
                have hx12 : ∀ h : 0 < a0.size, ((a0[0]'h).toNat : Int) = bt a0 0 := bt_at a0 0
                clear p12
                have qi12 : (0 < (a0.size : Int)) = True := eq_true (of_decide_eq_true (by first | (with_reducible assumption) | assumption))
                replace q12 := eq_true q12
                have p14 : 0 ≤ (0 : Int) := (by omega)
                have q14 : 0 < a0.size := (by have : (0 : Int) < (a0.size : Int) := of_decide_eq_true (by first | (with_reducible assumption) | assumption); omega)
                have hx14 : ∀ h : 0 < a0.size, ((a0[0]'h).toNat : Int) = bt a0 0 := bt_at a0 0
                clear p14
                have qi14 : (0 < (a0.size : Int)) = True := eq_true (of_decide_eq_true (by first | (with_reducible assumption) | assumption))
                replace q14 := eq_true q14
                go_wp2
                repeat (go_quiet (fail); try go_wp2)
                go_meet
                case rel => exact ⟨_, ((a0.toList == ([] : List UInt8))), (by first | rfl | (simp; done) | (simp [*]; done)), H', ⟨by first | omega | exact Nat.le_refl _⟩, ⟨by repeat (first | (with_reducible first | exact HB.out | apply below_alloc | apply pw_below_drewN | apply below_drew1) | exact HB.out)⟩⟩
          · rw [if_neg c11] at H
            exact absurd H (by simp)
    case rest =>
      clear HC7
      try clear c1
      try clear p1
      try clear q1
      try clear hx1
      try clear qi1
      try clear p2
      try clear c4
      try clear c6
      try clear c9
      try clear c9b0
      try clear c9b1
      try clear c10
      try clear c10b0
      try clear c10b1
      try clear c11
      try clear c11b0
      try clear c11b1
      try clear p12
      try clear q12
      try clear hx12
      try clear qi12
      try clear c13
      try clear c13b0
      try clear c13b1
      try clear p14
      try clear q14
      try clear hx14
      try clear qi14
      try clear c15
      try clear c15b0
      try clear c15b1
      try clear p12
      try clear p14
      try clear q12
      try clear q14
      obtain ⟨kq, x38_6, rfl, HA, HJ6, HB⟩ := hcut
      cases kq with
      | zero => exact absurd HA.out (by simp [seichelaw15_SuffixTells.j0])
      | succ kj6 =>
        have H := HA.out
        clear HA
        simp only [seichelaw15_SuffixTells.j0] at H
        by_cases c16 : x38_6 = true
        · subst c16
          have H1 : (some true) = some r := by rw [if_pos rfl] at H; exact H
          clear H
          have H := H1
          clear H1
          obtain rfl := Option.some.inj H
          go_wp2
          repeat (go_quiet (fail); try go_wp2)
          go_ret
          exact ⟨by first | rfl | (simp [errW_none, errW_some] <;> rfl) | (simp [*, errW_none, errW_some] <;> rfl), by repeat (first | (with_reducible first | exact HB.out | apply below_alloc | apply pw_below_drewN | apply below_drew1) | exact HB.out)⟩
        · replace c16 := Bool.eq_false_iff.mpr c16
          subst c16
          have H1 : ((seicheref15_Systems.f kj6).bind fun t197 => ((seicheref15_Processors.f kj6).bind fun t200 => (if (IntKind.u64.wrap ((t197.length : Int))) = 0 then (none) else (if 0 ≤ (wrap64 (Int.tmod (IntKind.u64.wrap (a1)) (IntKind.u64.wrap ((t197.length : Int))))) then (if (wrap64 (Int.tmod (IntKind.u64.wrap (a1)) (IntKind.u64.wrap ((t197.length : Int))))) < (t197.length : Int) then (if (IntKind.u64.wrap ((t200.length : Int))) = 0 then (none) else (if 0 ≤ (wrap64 (Int.tmod (IntKind.u64.wrap (a2)) (IntKind.u64.wrap ((t200.length : Int))))) then (if (wrap64 (Int.tmod (IntKind.u64.wrap (a2)) (IntKind.u64.wrap ((t200.length : Int))))) < (t200.length : Int) then (if a3 = true then (seichelaw15_SuffixTells.j1 kj6 a0 a3 (rdOf ByteArray.empty t197 (wrap64 (Int.tmod (IntKind.u64.wrap (a1)) (IntKind.u64.wrap ((t197.length : Int)))))) (rdOf ByteArray.empty t200 (wrap64 (Int.tmod (IntKind.u64.wrap (a2)) (IntKind.u64.wrap ((t200.length : Int)))))) (⟨#[95, 116, 101, 115, 116, 46, 103, 111]⟩ : ByteArray)) else (seichelaw15_SuffixTells.j1 kj6 a0 a3 (rdOf ByteArray.empty t197 (wrap64 (Int.tmod (IntKind.u64.wrap (a1)) (IntKind.u64.wrap ((t197.length : Int)))))) (rdOf ByteArray.empty t200 (wrap64 (Int.tmod (IntKind.u64.wrap (a2)) (IntKind.u64.wrap ((t200.length : Int)))))) (⟨#[46, 103, 111]⟩ : ByteArray))) else (none)) else (none))) else (none)) else (none))))) = some r := by rw [if_neg (show ¬ (false = true) by decide)] at H; exact H
          clear H
          have H := H1
          clear H1
          replace H := Option.bind_eq_some_iff.mp H
          obtain ⟨t197, A170, H⟩ := H
          replace H : ((seicheref15_Processors.f kj6).bind fun t200 => (if (IntKind.u64.wrap ((t197.length : Int))) = 0 then (none) else (if 0 ≤ (wrap64 (Int.tmod (IntKind.u64.wrap (a1)) (IntKind.u64.wrap ((t197.length : Int))))) then (if (wrap64 (Int.tmod (IntKind.u64.wrap (a1)) (IntKind.u64.wrap ((t197.length : Int))))) < (t197.length : Int) then (if (IntKind.u64.wrap ((t200.length : Int))) = 0 then (none) else (if 0 ≤ (wrap64 (Int.tmod (IntKind.u64.wrap (a2)) (IntKind.u64.wrap ((t200.length : Int))))) then (if (wrap64 (Int.tmod (IntKind.u64.wrap (a2)) (IntKind.u64.wrap ((t200.length : Int))))) < (t200.length : Int) then (if a3 = true then (seichelaw15_SuffixTells.j1 kj6 a0 a3 (rdOf ByteArray.empty t197 (wrap64 (Int.tmod (IntKind.u64.wrap (a1)) (IntKind.u64.wrap ((t197.length : Int)))))) (rdOf ByteArray.empty t200 (wrap64 (Int.tmod (IntKind.u64.wrap (a2)) (IntKind.u64.wrap ((t200.length : Int)))))) (⟨#[95, 116, 101, 115, 116, 46, 103, 111]⟩ : ByteArray)) else (seichelaw15_SuffixTells.j1 kj6 a0 a3 (rdOf ByteArray.empty t197 (wrap64 (Int.tmod (IntKind.u64.wrap (a1)) (IntKind.u64.wrap ((t197.length : Int)))))) (rdOf ByteArray.empty t200 (wrap64 (Int.tmod (IntKind.u64.wrap (a2)) (IntKind.u64.wrap ((t200.length : Int)))))) (⟨#[46, 103, 111]⟩ : ByteArray))) else (none)) else (none))) else (none)) else (none)))) = some r := H
          have A17 := Aside0.mk A170
          clear A170
          replace H := Option.bind_eq_some_iff.mp H
          obtain ⟨t200, A180, H⟩ := H
          replace H : (if (IntKind.u64.wrap ((t197.length : Int))) = 0 then (none) else (if 0 ≤ (wrap64 (Int.tmod (IntKind.u64.wrap (a1)) (IntKind.u64.wrap ((t197.length : Int))))) then (if (wrap64 (Int.tmod (IntKind.u64.wrap (a1)) (IntKind.u64.wrap ((t197.length : Int))))) < (t197.length : Int) then (if (IntKind.u64.wrap ((t200.length : Int))) = 0 then (none) else (if 0 ≤ (wrap64 (Int.tmod (IntKind.u64.wrap (a2)) (IntKind.u64.wrap ((t200.length : Int))))) then (if (wrap64 (Int.tmod (IntKind.u64.wrap (a2)) (IntKind.u64.wrap ((t200.length : Int))))) < (t200.length : Int) then (if a3 = true then (seichelaw15_SuffixTells.j1 kj6 a0 a3 (rdOf ByteArray.empty t197 (wrap64 (Int.tmod (IntKind.u64.wrap (a1)) (IntKind.u64.wrap ((t197.length : Int)))))) (rdOf ByteArray.empty t200 (wrap64 (Int.tmod (IntKind.u64.wrap (a2)) (IntKind.u64.wrap ((t200.length : Int)))))) (⟨#[95, 116, 101, 115, 116, 46, 103, 111]⟩ : ByteArray)) else (seichelaw15_SuffixTells.j1 kj6 a0 a3 (rdOf ByteArray.empty t197 (wrap64 (Int.tmod (IntKind.u64.wrap (a1)) (IntKind.u64.wrap ((t197.length : Int)))))) (rdOf ByteArray.empty t200 (wrap64 (Int.tmod (IntKind.u64.wrap (a2)) (IntKind.u64.wrap ((t200.length : Int)))))) (⟨#[46, 103, 111]⟩ : ByteArray))) else (none)) else (none))) else (none)) else (none))) = some r := H
          have A18 := Aside0.mk A180
          clear A180
          by_cases c19 : (IntKind.u64.wrap ((t197.length : Int))) = 0
          · rw [if_pos c19] at H
            exact absurd H (by simp)
          · rw [if_neg c19] at H
            have c19b0 : ((IntKind.u64.wrap ((t197.length : Int))) == 0) = false := beq_eq_false_iff_ne.mpr c19
            have c19b1 : ((IntKind.u64.wrap ((t197.length : Int))) != 0) = true := bne_iff_ne.mpr c19
            obtain ⟨ji20, hji20⟩ : ∃ j_ : Int, (wrap64 (Int.tmod (IntKind.u64.wrap (a1)) (IntKind.u64.wrap ((t197.length : Int))))) = j_ := ⟨_, rfl⟩
            replace H : (if 0 ≤ (ji20) then (if (ji20) < (t197.length : Int) then (if (IntKind.u64.wrap ((t200.length : Int))) = 0 then (none) else (if 0 ≤ (wrap64 (Int.tmod (IntKind.u64.wrap (a2)) (IntKind.u64.wrap ((t200.length : Int))))) then (if (wrap64 (Int.tmod (IntKind.u64.wrap (a2)) (IntKind.u64.wrap ((t200.length : Int))))) < (t200.length : Int) then (if a3 = true then (seichelaw15_SuffixTells.j1 kj6 a0 a3 (rdOf ByteArray.empty t197 (ji20)) (rdOf ByteArray.empty t200 (wrap64 (Int.tmod (IntKind.u64.wrap (a2)) (IntKind.u64.wrap ((t200.length : Int)))))) (⟨#[95, 116, 101, 115, 116, 46, 103, 111]⟩ : ByteArray)) else (seichelaw15_SuffixTells.j1 kj6 a0 a3 (rdOf ByteArray.empty t197 (ji20)) (rdOf ByteArray.empty t200 (wrap64 (Int.tmod (IntKind.u64.wrap (a2)) (IntKind.u64.wrap ((t200.length : Int)))))) (⟨#[46, 103, 111]⟩ : ByteArray))) else (none)) else (none))) else (none)) else (none)) = some r := by first | (rw [hji20] at H; exact H) | (simp only [hji20] at H ⊢; exact H)
            (try rw [hji20] at A17)
            (try rw [hji20] at A18)
            have hji20w : (IntKind.i64.wrap (Int.tmod (IntKind.u64.wrap (a1)) (IntKind.u64.wrap ((t197.length : Int))))) = ji20 := (i64_w _).trans hji20
            by_cases c21 : 0 ≤ (ji20)
            · rw [if_pos c21] at H
              have c21b0 : decide (0 ≤ (ji20)) = true := decide_eq_true c21
              clear c21
              by_cases c22 : (ji20) < (t197.length : Int)
              · rw [if_pos c22] at H
                have c22b0 : decide ((ji20) < (t197.length : Int)) = true := decide_eq_true c22
                clear c22
                by_cases c23 : (IntKind.u64.wrap ((t200.length : Int))) = 0
                · rw [if_pos c23] at H
                  exact absurd H (by simp)
                · rw [if_neg c23] at H
                  have c23b0 : ((IntKind.u64.wrap ((t200.length : Int))) == 0) = false := beq_eq_false_iff_ne.mpr c23
                  have c23b1 : ((IntKind.u64.wrap ((t200.length : Int))) != 0) = true := bne_iff_ne.mpr c23
                  obtain ⟨ji24, hji24⟩ : ∃ j_ : Int, (wrap64 (Int.tmod (IntKind.u64.wrap (a2)) (IntKind.u64.wrap ((t200.length : Int))))) = j_ := ⟨_, rfl⟩
                  replace H : (if 0 ≤ (ji24) then (if (ji24) < (t200.length : Int) then (if a3 = true then (seichelaw15_SuffixTells.j1 kj6 a0 a3 (rdOf ByteArray.empty t197 (ji20)) (rdOf ByteArray.empty t200 (ji24)) (⟨#[95, 116, 101, 115, 116, 46, 103, 111]⟩ : ByteArray)) else (seichelaw15_SuffixTells.j1 kj6 a0 a3 (rdOf ByteArray.empty t197 (ji20)) (rdOf ByteArray.empty t200 (ji24)) (⟨#[46, 103, 111]⟩ : ByteArray))) else (none)) else (none)) = some r := by first | (rw [hji24] at H; exact H) | (simp only [hji24] at H ⊢; exact H)
                  (try rw [hji24] at A17)
                  (try rw [hji24] at A18)
                  have hji24w : (IntKind.i64.wrap (Int.tmod (IntKind.u64.wrap (a2)) (IntKind.u64.wrap ((t200.length : Int))))) = ji24 := (i64_w _).trans hji24
                  by_cases c25 : 0 ≤ (ji24)
                  · rw [if_pos c25] at H
                    have c25b0 : decide (0 ≤ (ji24)) = true := decide_eq_true c25
                    clear c25
                    by_cases c26 : (ji24) < (t200.length : Int)
                    · rw [if_pos c26] at H
                      have c26b0 : decide ((ji24) < (t200.length : Int)) = true := decide_eq_true c26
                      clear c26
                      have HC27 := Aside0.mk H
                      clear H
                      go_upto_if 61 with (first | (go_at_call 10; (with_reducible refine (seicheref15_Systems.calls kj6  t197 _ A17.out).mono ?_); rintro e w28 ⟨v198, rfl, ho0, hb⟩; have n0_ := Aside0.mk (Kd.R_lower ho0 (below_size (by repeat (first | (with_reducible first | exact HB.out | apply below_alloc | apply pw_below_drewN | apply below_drew1) | exact HB.out)))); have n1_ := Aside0.mk (below_step (by repeat (first | (with_reducible first | exact HB.out | apply below_alloc | apply pw_below_drewN | apply below_drew1) | exact HB.out)) hb); clear HB; have HO199 := n0_; have HB := n1_; clear n0_ n1_; (try clear hb); (try clear hb2); (try clear hk); (try clear hi); (try clear ho0)) | (go_at_call 11; (with_reducible refine (seicheref15_Processors.calls kj6  t200 _ A18.out).mono ?_); rintro e w29 ⟨v201, rfl, ho0, hb⟩; have n0_ := Aside0.mk (Kd.R_elder' (by (with_reducible repeat (first | apply Kd.R_alloc | apply Kd.R_drewN | apply Kd.R_drew)); exact HO199.out) (Kd.R_base ho0) hb); have n1_ := Aside0.mk (Kd.R_lower (Kd.R_new' ho0 (Kd.R_lt (by (with_reducible repeat (first | apply Kd.R_alloc | apply Kd.R_drewN | apply Kd.R_drew)); exact HO199.out))) (below_size (by repeat (first | (with_reducible first | exact HB.out | apply below_alloc | apply pw_below_drewN | apply below_drew1) | exact HB.out)))); have n2_ := Aside0.mk (below_step (by repeat (first | (with_reducible first | exact HB.out | apply below_alloc | apply pw_below_drewN | apply below_drew1) | exact HB.out)) hb); clear HO199; clear HB; have HO199 := n0_; have HO202 := n1_; have HB := n2_; clear n0_ n1_ n2_; (try clear hb); (try clear hb2); (try clear hk); (try clear hi); (try clear ho0); obtain ⟨Ao30, co30, eo30⟩ := Kd.R_slice HO199.out; subst eo30; have p203 : 0 ≤ ((ji20) : Int) := of_decide_eq_true (by first | (with_reducible assumption) | assumption); have q203 : (ji20) < (t197.length : Int) := of_decide_eq_true (by first | (with_reducible assumption) | assumption); obtain ⟨ad203, e203, hx203_0⟩ := Kd.at_string (Kd.R_reads' HO199.out).2.2 (ji20) p203 q203; cases e203; replace p203 := eq_true p203; replace q203 := eq_true q203; obtain ⟨Ao31, co31, eo31⟩ := Kd.R_slice HO202.out; subst eo31; have p204 : 0 ≤ ((ji24) : Int) := of_decide_eq_true (by first | (with_reducible assumption) | assumption); have q204 : (ji24) < (t200.length : Int) := of_decide_eq_true (by first | (with_reducible assumption) | assumption); obtain ⟨ad204, e204, hx204_0⟩ := Kd.at_string (Kd.R_reads' HO202.out).2.2 (ji24) p204 q204; cases e204; replace p204 := eq_true p204; replace q204 := eq_true q204))
                      repeat (go_quiet (first | (go_at_call 10; (with_reducible refine (seicheref15_Systems.calls kj6  t197 _ A17.out).mono ?_); rintro e w28 ⟨v198, rfl, ho0, hb⟩; have n0_ := Aside0.mk (Kd.R_lower ho0 (below_size (by repeat (first | (with_reducible first | exact HB.out | apply below_alloc | apply pw_below_drewN | apply below_drew1) | exact HB.out)))); have n1_ := Aside0.mk (below_step (by repeat (first | (with_reducible first | exact HB.out | apply below_alloc | apply pw_below_drewN | apply below_drew1) | exact HB.out)) hb); clear HB; have HO199 := n0_; have HB := n1_; clear n0_ n1_; (try clear hb); (try clear hb2); (try clear hk); (try clear hi); (try clear ho0)) | (go_at_call 11; (with_reducible refine (seicheref15_Processors.calls kj6  t200 _ A18.out).mono ?_); rintro e w29 ⟨v201, rfl, ho0, hb⟩; have n0_ := Aside0.mk (Kd.R_elder' (by (with_reducible repeat (first | apply Kd.R_alloc | apply Kd.R_drewN | apply Kd.R_drew)); exact HO199.out) (Kd.R_base ho0) hb); have n1_ := Aside0.mk (Kd.R_lower (Kd.R_new' ho0 (Kd.R_lt (by (with_reducible repeat (first | apply Kd.R_alloc | apply Kd.R_drewN | apply Kd.R_drew)); exact HO199.out))) (below_size (by repeat (first | (with_reducible first | exact HB.out | apply below_alloc | apply pw_below_drewN | apply below_drew1) | exact HB.out)))); have n2_ := Aside0.mk (below_step (by repeat (first | (with_reducible first | exact HB.out | apply below_alloc | apply pw_below_drewN | apply below_drew1) | exact HB.out)) hb); clear HO199; clear HB; have HO199 := n0_; have HO202 := n1_; have HB := n2_; clear n0_ n1_ n2_; (try clear hb); (try clear hb2); (try clear hk); (try clear hi); (try clear ho0); obtain ⟨Ao30, co30, eo30⟩ := Kd.R_slice HO199.out; subst eo30; have p203 : 0 ≤ ((ji20) : Int) := of_decide_eq_true (by first | (with_reducible assumption) | assumption); have q203 : (ji20) < (t197.length : Int) := of_decide_eq_true (by first | (with_reducible assumption) | assumption); obtain ⟨ad203, e203, hx203_0⟩ := Kd.at_string (Kd.R_reads' HO199.out).2.2 (ji20) p203 q203; cases e203; replace p203 := eq_true p203; replace q203 := eq_true q203; obtain ⟨Ao31, co31, eo31⟩ := Kd.R_slice HO202.out; subst eo31; have p204 : 0 ≤ ((ji24) : Int) := of_decide_eq_true (by first | (with_reducible assumption) | assumption); have q204 : (ji24) < (t200.length : Int) := of_decide_eq_true (by first | (with_reducible assumption) | assumption); obtain ⟨ad204, e204, hx204_0⟩ := Kd.at_string (Kd.R_reads' HO202.out).2.2 (ji24) p204 q204; cases e204; replace p204 := eq_true p204; replace q204 := eq_true q204)); go_upto_if 61 with (first | (go_at_call 10; (with_reducible refine (seicheref15_Systems.calls kj6  t197 _ A17.out).mono ?_); rintro e w28 ⟨v198, rfl, ho0, hb⟩; have n0_ := Aside0.mk (Kd.R_lower ho0 (below_size (by repeat (first | (with_reducible first | exact HB.out | apply below_alloc | apply pw_below_drewN | apply below_drew1) | exact HB.out)))); have n1_ := Aside0.mk (below_step (by repeat (first | (with_reducible first | exact HB.out | apply below_alloc | apply pw_below_drewN | apply below_drew1) | exact HB.out)) hb); clear HB; have HO199 := n0_; have HB := n1_; clear n0_ n1_; (try clear hb); (try clear hb2); (try clear hk); (try clear hi); (try clear ho0)) | (go_at_call 11; (with_reducible refine (seicheref15_Processors.calls kj6  t200 _ A18.out).mono ?_); rintro e w29 ⟨v201, rfl, ho0, hb⟩; have n0_ := Aside0.mk (Kd.R_elder' (by (with_reducible repeat (first | apply Kd.R_alloc | apply Kd.R_drewN | apply Kd.R_drew)); exact HO199.out) (Kd.R_base ho0) hb); have n1_ := Aside0.mk (Kd.R_lower (Kd.R_new' ho0 (Kd.R_lt (by (with_reducible repeat (first | apply Kd.R_alloc | apply Kd.R_drewN | apply Kd.R_drew)); exact HO199.out))) (below_size (by repeat (first | (with_reducible first | exact HB.out | apply below_alloc | apply pw_below_drewN | apply below_drew1) | exact HB.out)))); have n2_ := Aside0.mk (below_step (by repeat (first | (with_reducible first | exact HB.out | apply below_alloc | apply pw_below_drewN | apply below_drew1) | exact HB.out)) hb); clear HO199; clear HB; have HO199 := n0_; have HO202 := n1_; have HB := n2_; clear n0_ n1_ n2_; (try clear hb); (try clear hb2); (try clear hk); (try clear hi); (try clear ho0); obtain ⟨Ao30, co30, eo30⟩ := Kd.R_slice HO199.out; subst eo30; have p203 : 0 ≤ ((ji20) : Int) := of_decide_eq_true (by first | (with_reducible assumption) | assumption); have q203 : (ji20) < (t197.length : Int) := of_decide_eq_true (by first | (with_reducible assumption) | assumption); obtain ⟨ad203, e203, hx203_0⟩ := Kd.at_string (Kd.R_reads' HO199.out).2.2 (ji20) p203 q203; cases e203; replace p203 := eq_true p203; replace q203 := eq_true q203; obtain ⟨Ao31, co31, eo31⟩ := Kd.R_slice HO202.out; subst eo31; have p204 : 0 ≤ ((ji24) : Int) := of_decide_eq_true (by first | (with_reducible assumption) | assumption); have q204 : (ji24) < (t200.length : Int) := of_decide_eq_true (by first | (with_reducible assumption) | assumption); obtain ⟨ad204, e204, hx204_0⟩ := Kd.at_string (Kd.R_reads' HO202.out).2.2 (ji24) p204 q204; cases e204; replace p204 := eq_true p204; replace q204 := eq_true q204)))
                      (try simp only [Act.put, List.setIfInBounds_toArray, List.set_cons_zero, List.set_cons_succ])
                      go_cut [13] (fun v13 wc => ∃ (kq : Nat) (x13_26 : ByteArray), v13 = .string x13_26 ∧ Aside0 (seichelaw15_SuffixTells.j1 kq a0 a3 (rdOf ByteArray.empty t197 (ji20)) (rdOf ByteArray.empty t200 (ji24)) x13_26 = some r) ∧ Aside0 (kq ≤ kj6) ∧ Aside0 (Below w.heap.size w wc))
                      case first =>
                        have H := HC27.out
                        clear HC27
                        by_cases c32 : a3 = true
                        · subst c32
                          have H1 : (seichelaw15_SuffixTells.j1 kj6 a0 true (rdOf ByteArray.empty t197 (ji20)) (rdOf ByteArray.empty t200 (ji24)) (⟨#[95, 116, 101, 115, 116, 46, 103, 111]⟩ : ByteArray)) = some r := by rw [if_pos rfl] at H; exact H
                          clear H
                          have H := H1
                          clear H1
                          have H' := Aside0.mk H
                          clear H
                          go_wp2
                          repeat (go_quiet (fail); try go_wp2)
                          go_meet
                          case rel => exact ⟨_, ((⟨#[95, 116, 101, 115, 116, 46, 103, 111]⟩ : ByteArray)), (by first | rfl | (simp; done) | (simp [*]; done)), H', ⟨by have := HJ6.out; first | omega | exact Nat.le_refl _⟩, ⟨by repeat (first | (with_reducible first | exact HB.out | apply below_alloc | apply pw_below_drewN | apply below_drew1) | exact HB.out)⟩⟩
                        · replace c32 := Bool.eq_false_iff.mpr c32
                          subst c32
                          have H1 : (seichelaw15_SuffixTells.j1 kj6 a0 false (rdOf ByteArray.empty t197 (ji20)) (rdOf ByteArray.empty t200 (ji24)) (⟨#[46, 103, 111]⟩ : ByteArray)) = some r := by rw [if_neg (show ¬ (false = true) by decide)] at H; exact H
                          clear H
                          have H := H1
                          clear H1
                          have H' := Aside0.mk H
                          clear H
                          go_wp2
                          repeat (go_quiet (fail); try go_wp2)
                          go_meet
                          case rel => exact ⟨_, ((⟨#[46, 103, 111]⟩ : ByteArray)), (by first | rfl | (simp; done) | (simp [*]; done)), H', ⟨by have := HJ6.out; first | omega | exact Nat.le_refl _⟩, ⟨by repeat (first | (with_reducible first | exact HB.out | apply below_alloc | apply pw_below_drewN | apply below_drew1) | exact HB.out)⟩⟩
                      case rest =>
                        clear HC27
                        try clear c1
                        try clear p1
                        try clear q1
                        try clear hx1
                        try clear qi1
                        try clear c2
                        try clear p2
                        try clear q2
                        try clear hx2
                        try clear c3
                        try clear c4
                        try clear c6
                        try clear p6
                        try clear c9
                        try clear c9b0
                        try clear c9b1
                        try clear c10
                        try clear c10b0
                        try clear c10b1
                        try clear c11
                        try clear c11b0
                        try clear c11b1
                        try clear p12
                        try clear q12
                        try clear hx12
                        try clear qi12
                        try clear c13
                        try clear c13b0
                        try clear c13b1
                        try clear p14
                        try clear q14
                        try clear hx14
                        try clear qi14
                        try clear c15
                        try clear c15b0
                        try clear c15b1
                        try clear c16
                        try clear c19
                        try clear c19b0
                        try clear c19b1
                        try clear p20
                        try clear q20
                        try clear hx20
                        try clear c21
                        try clear c21b0
                        try clear c22
                        try clear c22b0
                        try clear c23
                        try clear c23b0
                        try clear c23b1
                        try clear c25
                        try clear c25b0
                        try clear c26
                        try clear c26b0
                        try clear c32
                        try clear hx203_0
                        try clear hx204_0
                        try clear p1
                        try clear p12
                        try clear p14
                        try clear p2
                        try clear p203
                        try clear p204
                        try clear q1
                        try clear q12
                        try clear q14
                        try clear q203
                        try clear q204
                        obtain ⟨kq, x13_26, rfl, HA, HJ26, HB⟩ := hcut
                        cases kq with
                        | zero => exact absurd HA.out (by simp [seichelaw15_SuffixTells.j1])
                        | succ kj26 =>
                          have H := HA.out
                          clear HA
                          simp only [seichelaw15_SuffixTells.j1] at H
                          replace H := Option.bind_eq_some_iff.mp H
                          obtain ⟨t205, A330, H⟩ := H
                          replace H : (if (t205.length : Int) = 1 then (if a0.size + 1 ≤ 9223372036854775807 then (if (a0 ++ (⟨#[95]⟩ : ByteArray)).size + (rdOf ByteArray.empty t197 (ji20)).size ≤ 9223372036854775807 then (if ((a0 ++ (⟨#[95]⟩ : ByteArray)) ++ (rdOf ByteArray.empty t197 (ji20))).size + 1 ≤ 9223372036854775807 then (if (((a0 ++ (⟨#[95]⟩ : ByteArray)) ++ (rdOf ByteArray.empty t197 (ji20))) ++ (⟨#[95]⟩ : ByteArray)).size + (rdOf ByteArray.empty t200 (ji24)).size ≤ 9223372036854775807 then (if ((((a0 ++ (⟨#[95]⟩ : ByteArray)) ++ (rdOf ByteArray.empty t197 (ji20))) ++ (⟨#[95]⟩ : ByteArray)) ++ (rdOf ByteArray.empty t200 (ji24))).size + x13_26.size ≤ 9223372036854775807 then ((suffix_Of.f kj26 (((((a0 ++ (⟨#[95]⟩ : ByteArray)) ++ (rdOf ByteArray.empty t197 (ji20))) ++ (⟨#[95]⟩ : ByteArray)) ++ (rdOf ByteArray.empty t200 (ji24))) ++ x13_26)).bind fun bt208 => (if (bt208.1 && (bt208.2.1 == a3 && (bt208.2.2.1.toList == (rdOf ByteArray.empty t197 (ji20)).toList && (bt208.2.2.2.toList == (rdOf ByteArray.empty t200 (ji24)).toList)))) = true then (if ((a0 ++ (⟨#[95]⟩ : ByteArray)) ++ (rdOf ByteArray.empty t197 (ji20))).size + x13_26.size ≤ 9223372036854775807 then ((suffix_Of.f kj26 (((a0 ++ (⟨#[95]⟩ : ByteArray)) ++ (rdOf ByteArray.empty t197 (ji20))) ++ x13_26)).bind fun bt212 => (if (bt212.1 && (bt212.2.1 == a3 && (bt212.2.2.1.toList == (rdOf ByteArray.empty t197 (ji20)).toList && (bt212.2.2.2.toList == ([] : List UInt8))))) = true then (if (a0 ++ (⟨#[95]⟩ : ByteArray)).size + (rdOf ByteArray.empty t200 (ji24)).size ≤ 9223372036854775807 then (if ((a0 ++ (⟨#[95]⟩ : ByteArray)) ++ (rdOf ByteArray.empty t200 (ji24))).size + x13_26.size ≤ 9223372036854775807 then ((suffix_Of.f kj26 (((a0 ++ (⟨#[95]⟩ : ByteArray)) ++ (rdOf ByteArray.empty t200 (ji24))) ++ x13_26)).bind fun bt216 => (some (bt216.1 && (bt216.2.1 == a3 && (bt216.2.2.1.toList == ([] : List UInt8) && (bt216.2.2.2.toList == (rdOf ByteArray.empty t200 (ji24)).toList)))))) else (none)) else (none)) else (some false))) else (none)) else (some false))) else (none)) else (none)) else (none)) else (none)) else (none)) else (if 0 ≤ (wrap64 ((t205.length : Int) - 1)) then (if (wrap64 ((t205.length : Int) - 1)) < (t205.length : Int) then ((seicheref15_System.f kj26 (rdOf ByteArray.empty t205 (wrap64 ((t205.length : Int) - 1)))).bind fun t221 => (if a0.size + 1 ≤ 9223372036854775807 then (if (a0 ++ (⟨#[95]⟩ : ByteArray)).size + (rdOf ByteArray.empty t197 (ji20)).size ≤ 9223372036854775807 then (if ((a0 ++ (⟨#[95]⟩ : ByteArray)) ++ (rdOf ByteArray.empty t197 (ji20))).size + 1 ≤ 9223372036854775807 then (if (((a0 ++ (⟨#[95]⟩ : ByteArray)) ++ (rdOf ByteArray.empty t197 (ji20))) ++ (⟨#[95]⟩ : ByteArray)).size + (rdOf ByteArray.empty t200 (ji24)).size ≤ 9223372036854775807 then (if ((((a0 ++ (⟨#[95]⟩ : ByteArray)) ++ (rdOf ByteArray.empty t197 (ji20))) ++ (⟨#[95]⟩ : ByteArray)) ++ (rdOf ByteArray.empty t200 (ji24))).size + x13_26.size ≤ 9223372036854775807 then ((suffix_Of.f kj26 (((((a0 ++ (⟨#[95]⟩ : ByteArray)) ++ (rdOf ByteArray.empty t197 (ji20))) ++ (⟨#[95]⟩ : ByteArray)) ++ (rdOf ByteArray.empty t200 (ji24))) ++ x13_26)).bind fun bt222 => (if (bt222.1 && (bt222.2.1 == a3 && (bt222.2.2.1.toList == (rdOf ByteArray.empty t197 (ji20)).toList && (bt222.2.2.2.toList == (rdOf ByteArray.empty t200 (ji24)).toList)))) = true then (if ((a0 ++ (⟨#[95]⟩ : ByteArray)) ++ (rdOf ByteArray.empty t197 (ji20))).size + x13_26.size ≤ 9223372036854775807 then ((suffix_Of.f kj26 (((a0 ++ (⟨#[95]⟩ : ByteArray)) ++ (rdOf ByteArray.empty t197 (ji20))) ++ x13_26)).bind fun bt226 => (if (bt226.1 && (bt226.2.1 == a3 && (bt226.2.2.1.toList == (rdOf ByteArray.empty t197 (ji20)).toList && (bt226.2.2.2.toList == ([] : List UInt8))))) = true then (if t221 = true then (some true) else (if (a0 ++ (⟨#[95]⟩ : ByteArray)).size + (rdOf ByteArray.empty t200 (ji24)).size ≤ 9223372036854775807 then (if ((a0 ++ (⟨#[95]⟩ : ByteArray)) ++ (rdOf ByteArray.empty t200 (ji24))).size + x13_26.size ≤ 9223372036854775807 then ((suffix_Of.f kj26 (((a0 ++ (⟨#[95]⟩ : ByteArray)) ++ (rdOf ByteArray.empty t200 (ji24))) ++ x13_26)).bind fun bt230 => (some (bt230.1 && (bt230.2.1 == a3 && (bt230.2.2.1.toList == ([] : List UInt8) && (bt230.2.2.2.toList == (rdOf ByteArray.empty t200 (ji24)).toList)))))) else (none)) else (none))) else (some false))) else (none)) else (some false))) else (none)) else (none)) else (none)) else (none)) else (none))) else (none)) else (none))) = some r := H
                          have A33 := Aside0.mk A330
                          clear A330
                          by_cases c34 : (t205.length : Int) = 1
                          · rw [if_pos c34] at H
                            have c34b0 : ((t205.length : Int) == 1) = true := beq_iff_eq.mpr c34
                            have c34b1 : ((t205.length : Int) != 1) = false := bne_eq_false_iff_eq.mpr c34
                            clear c34
                            by_cases c35 : a0.size + 1 ≤ 9223372036854775807
                            · rw [if_pos c35] at H
                              have c35b0 := eq_true c35
                              have c35b1 : decide (a0.size + 1 ≤ 9223372036854775807) = true := decide_eq_true c35
                              try have c35b2 : (9223372036854775807 < a0.size + 1) = False := eq_false (Nat.not_lt.2 c35)
                              by_cases c36 : (a0 ++ (⟨#[95]⟩ : ByteArray)).size + (rdOf ByteArray.empty t197 (ji20)).size ≤ 9223372036854775807
                              · rw [if_pos c36] at H
                                have c36b0 := eq_true c36
                                have c36b1 : decide ((a0 ++ (⟨#[95]⟩ : ByteArray)).size + (rdOf ByteArray.empty t197 (ji20)).size ≤ 9223372036854775807) = true := decide_eq_true c36
                                try have c36b2 : (9223372036854775807 < (a0 ++ (⟨#[95]⟩ : ByteArray)).size + (rdOf ByteArray.empty t197 (ji20)).size) = False := eq_false (Nat.not_lt.2 c36)
                                try have c36b3 : (9223372036854775807 < a0.size + 1 + (rdOf ByteArray.empty t197 (ji20)).size) = False := eq_false (Nat.not_lt.2 (by have h_ := c36; simp only [ByteArray.size_append] at h_; exact h_))
                                by_cases c37 : ((a0 ++ (⟨#[95]⟩ : ByteArray)) ++ (rdOf ByteArray.empty t197 (ji20))).size + 1 ≤ 9223372036854775807
                                · rw [if_pos c37] at H
                                  have c37b0 := eq_true c37
                                  have c37b1 : decide (((a0 ++ (⟨#[95]⟩ : ByteArray)) ++ (rdOf ByteArray.empty t197 (ji20))).size + 1 ≤ 9223372036854775807) = true := decide_eq_true c37
                                  try have c37b2 : (9223372036854775807 < ((a0 ++ (⟨#[95]⟩ : ByteArray)) ++ (rdOf ByteArray.empty t197 (ji20))).size + 1) = False := eq_false (Nat.not_lt.2 c37)
                                  try have c37b3 : (9223372036854775807 < a0.size + 1 + (rdOf ByteArray.empty t197 (ji20)).size + 1) = False := eq_false (Nat.not_lt.2 (by have h_ := c37; simp only [ByteArray.size_append] at h_; exact h_))
                                  by_cases c38 : (((a0 ++ (⟨#[95]⟩ : ByteArray)) ++ (rdOf ByteArray.empty t197 (ji20))) ++ (⟨#[95]⟩ : ByteArray)).size + (rdOf ByteArray.empty t200 (ji24)).size ≤ 9223372036854775807
                                  · rw [if_pos c38] at H
                                    have c38b0 := eq_true c38
                                    have c38b1 : decide ((((a0 ++ (⟨#[95]⟩ : ByteArray)) ++ (rdOf ByteArray.empty t197 (ji20))) ++ (⟨#[95]⟩ : ByteArray)).size + (rdOf ByteArray.empty t200 (ji24)).size ≤ 9223372036854775807) = true := decide_eq_true c38
                                    try have c38b2 : (9223372036854775807 < (((a0 ++ (⟨#[95]⟩ : ByteArray)) ++ (rdOf ByteArray.empty t197 (ji20))) ++ (⟨#[95]⟩ : ByteArray)).size + (rdOf ByteArray.empty t200 (ji24)).size) = False := eq_false (Nat.not_lt.2 c38)
                                    try have c38b3 : (9223372036854775807 < a0.size + 1 + (rdOf ByteArray.empty t197 (ji20)).size + 1 + (rdOf ByteArray.empty t200 (ji24)).size) = False := eq_false (Nat.not_lt.2 (by have h_ := c38; simp only [ByteArray.size_append] at h_; exact h_))
                                    by_cases c39 : ((((a0 ++ (⟨#[95]⟩ : ByteArray)) ++ (rdOf ByteArray.empty t197 (ji20))) ++ (⟨#[95]⟩ : ByteArray)) ++ (rdOf ByteArray.empty t200 (ji24))).size + x13_26.size ≤ 9223372036854775807
                                    · rw [if_pos c39] at H
                                      have c39b0 := eq_true c39
                                      have c39b1 : decide (((((a0 ++ (⟨#[95]⟩ : ByteArray)) ++ (rdOf ByteArray.empty t197 (ji20))) ++ (⟨#[95]⟩ : ByteArray)) ++ (rdOf ByteArray.empty t200 (ji24))).size + x13_26.size ≤ 9223372036854775807) = true := decide_eq_true c39
                                      try have c39b2 : (9223372036854775807 < ((((a0 ++ (⟨#[95]⟩ : ByteArray)) ++ (rdOf ByteArray.empty t197 (ji20))) ++ (⟨#[95]⟩ : ByteArray)) ++ (rdOf ByteArray.empty t200 (ji24))).size + x13_26.size) = False := eq_false (Nat.not_lt.2 c39)
                                      try have c39b3 : (9223372036854775807 < a0.size + 1 + (rdOf ByteArray.empty t197 (ji20)).size + 1 + (rdOf ByteArray.empty t200 (ji24)).size + x13_26.size) = False := eq_false (Nat.not_lt.2 (by have h_ := c39; simp only [ByteArray.size_append] at h_; exact h_))
                                      replace H := Option.bind_eq_some_iff.mp H
                                      obtain ⟨⟨t208, t209, t210, t211⟩, A400, H⟩ := H
                                      replace H : (if (t208 && (t209 == a3 && (t210.toList == (rdOf ByteArray.empty t197 (ji20)).toList && (t211.toList == (rdOf ByteArray.empty t200 (ji24)).toList)))) = true then (if ((a0 ++ (⟨#[95]⟩ : ByteArray)) ++ (rdOf ByteArray.empty t197 (ji20))).size + x13_26.size ≤ 9223372036854775807 then ((suffix_Of.f kj26 (((a0 ++ (⟨#[95]⟩ : ByteArray)) ++ (rdOf ByteArray.empty t197 (ji20))) ++ x13_26)).bind fun bt212 => (if (bt212.1 && (bt212.2.1 == a3 && (bt212.2.2.1.toList == (rdOf ByteArray.empty t197 (ji20)).toList && (bt212.2.2.2.toList == ([] : List UInt8))))) = true then (if (a0 ++ (⟨#[95]⟩ : ByteArray)).size + (rdOf ByteArray.empty t200 (ji24)).size ≤ 9223372036854775807 then (if ((a0 ++ (⟨#[95]⟩ : ByteArray)) ++ (rdOf ByteArray.empty t200 (ji24))).size + x13_26.size ≤ 9223372036854775807 then ((suffix_Of.f kj26 (((a0 ++ (⟨#[95]⟩ : ByteArray)) ++ (rdOf ByteArray.empty t200 (ji24))) ++ x13_26)).bind fun bt216 => (some (bt216.1 && (bt216.2.1 == a3 && (bt216.2.2.1.toList == ([] : List UInt8) && (bt216.2.2.2.toList == (rdOf ByteArray.empty t200 (ji24)).toList)))))) else (none)) else (none)) else (some false))) else (none)) else (some false)) = some r := H
                                      have A40 := Aside0.mk A400
                                      clear A400
                                      by_cases c41 : (t208 && (t209 == a3 && (t210.toList == (rdOf ByteArray.empty t197 (ji20)).toList && (t211.toList == (rdOf ByteArray.empty t200 (ji24)).toList)))) = true
                                      · rw [if_pos c41] at H
                                        have c41b0 : (t208 && (t209 == a3 && (t210.toList == (rdOf ByteArray.empty t197 (ji20)).toList && (t211.toList == (rdOf ByteArray.empty t200 (ji24)).toList)))) = true := c41
                                        clear c41
                                        by_cases c42 : ((a0 ++ (⟨#[95]⟩ : ByteArray)) ++ (rdOf ByteArray.empty t197 (ji20))).size + x13_26.size ≤ 9223372036854775807
                                        · rw [if_pos c42] at H
                                          have c42b0 := eq_true c42
                                          have c42b1 : decide (((a0 ++ (⟨#[95]⟩ : ByteArray)) ++ (rdOf ByteArray.empty t197 (ji20))).size + x13_26.size ≤ 9223372036854775807) = true := decide_eq_true c42
                                          try have c42b2 : (9223372036854775807 < ((a0 ++ (⟨#[95]⟩ : ByteArray)) ++ (rdOf ByteArray.empty t197 (ji20))).size + x13_26.size) = False := eq_false (Nat.not_lt.2 c42)
                                          try have c42b3 : (9223372036854775807 < a0.size + 1 + (rdOf ByteArray.empty t197 (ji20)).size + x13_26.size) = False := eq_false (Nat.not_lt.2 (by have h_ := c42; simp only [ByteArray.size_append] at h_; exact h_))
                                          replace H := Option.bind_eq_some_iff.mp H
                                          obtain ⟨⟨t212, t213, t214, t215⟩, A430, H⟩ := H
                                          replace H : (if (t212 && (t213 == a3 && (t214.toList == (rdOf ByteArray.empty t197 (ji20)).toList && (t215.toList == ([] : List UInt8))))) = true then (if (a0 ++ (⟨#[95]⟩ : ByteArray)).size + (rdOf ByteArray.empty t200 (ji24)).size ≤ 9223372036854775807 then (if ((a0 ++ (⟨#[95]⟩ : ByteArray)) ++ (rdOf ByteArray.empty t200 (ji24))).size + x13_26.size ≤ 9223372036854775807 then ((suffix_Of.f kj26 (((a0 ++ (⟨#[95]⟩ : ByteArray)) ++ (rdOf ByteArray.empty t200 (ji24))) ++ x13_26)).bind fun bt216 => (some (bt216.1 && (bt216.2.1 == a3 && (bt216.2.2.1.toList == ([] : List UInt8) && (bt216.2.2.2.toList == (rdOf ByteArray.empty t200 (ji24)).toList)))))) else (none)) else (none)) else (some false)) = some r := H
                                          have A43 := Aside0.mk A430
                                          clear A430
                                          by_cases c44 : (t212 && (t213 == a3 && (t214.toList == (rdOf ByteArray.empty t197 (ji20)).toList && (t215.toList == ([] : List UInt8))))) = true
                                          · rw [if_pos c44] at H
                                            have c44b0 : (t212 && (t213 == a3 && (t214.toList == (rdOf ByteArray.empty t197 (ji20)).toList && (t215.toList == ([] : List UInt8))))) = true := c44
                                            have c44p_ := c44b0
                                            simp only [Bool.and_eq_true, beq_iff_eq] at c44p_
                                            have c44q_ := eq_true c44p_
                                            clear c44p_
                                            clear c44
                                            by_cases c45 : (a0 ++ (⟨#[95]⟩ : ByteArray)).size + (rdOf ByteArray.empty t200 (ji24)).size ≤ 9223372036854775807
                                            · rw [if_pos c45] at H
                                              have c45b0 := eq_true c45
                                              have c45b1 : decide ((a0 ++ (⟨#[95]⟩ : ByteArray)).size + (rdOf ByteArray.empty t200 (ji24)).size ≤ 9223372036854775807) = true := decide_eq_true c45
                                              try have c45b2 : (9223372036854775807 < (a0 ++ (⟨#[95]⟩ : ByteArray)).size + (rdOf ByteArray.empty t200 (ji24)).size) = False := eq_false (Nat.not_lt.2 c45)
                                              try have c45b3 : (9223372036854775807 < a0.size + 1 + (rdOf ByteArray.empty t200 (ji24)).size) = False := eq_false (Nat.not_lt.2 (by have h_ := c45; simp only [ByteArray.size_append] at h_; exact h_))
                                              by_cases c46 : ((a0 ++ (⟨#[95]⟩ : ByteArray)) ++ (rdOf ByteArray.empty t200 (ji24))).size + x13_26.size ≤ 9223372036854775807
                                              · rw [if_pos c46] at H
                                                have c46b0 := eq_true c46
                                                have c46b1 : decide (((a0 ++ (⟨#[95]⟩ : ByteArray)) ++ (rdOf ByteArray.empty t200 (ji24))).size + x13_26.size ≤ 9223372036854775807) = true := decide_eq_true c46
                                                try have c46b2 : (9223372036854775807 < ((a0 ++ (⟨#[95]⟩ : ByteArray)) ++ (rdOf ByteArray.empty t200 (ji24))).size + x13_26.size) = False := eq_false (Nat.not_lt.2 c46)
                                                try have c46b3 : (9223372036854775807 < a0.size + 1 + (rdOf ByteArray.empty t200 (ji24)).size + x13_26.size) = False := eq_false (Nat.not_lt.2 (by have h_ := c46; simp only [ByteArray.size_append] at h_; exact h_))
                                                replace H := Option.bind_eq_some_iff.mp H
                                                obtain ⟨⟨t216, t217, t218, t219⟩, A470, H⟩ := H
                                                replace H : (some (t216 && (t217 == a3 && (t218.toList == ([] : List UInt8) && (t219.toList == (rdOf ByteArray.empty t200 (ji24)).toList))))) = some r := H
                                                have A47 := Aside0.mk A470
                                                clear A470
                                                obtain rfl := Option.some.inj H
                                                go_wp2_with (first | (go_at_call 12; (with_reducible refine (seicheref14_Cut.calls kj26 a0 95 t205 _ A33.out).mono ?_); rintro e w48 ⟨v206, rfl, ho0, hb⟩; have n0_ := Aside0.mk (Kd.R_lower ho0 (below_size (by repeat (first | (with_reducible first | exact HB.out | apply below_alloc | apply pw_below_drewN | apply below_drew1) | exact HB.out)))); have n1_ := Aside0.mk (below_step (by repeat (first | (with_reducible first | exact HB.out | apply below_alloc | apply pw_below_drewN | apply below_drew1) | exact HB.out)) hb); clear HB; have HO207 := n0_; have HB := n1_; clear n0_ n1_; (try clear hb); (try clear hb2); (try clear hk); (try clear hi); (try clear ho0); obtain ⟨Ao49, co49, eo49⟩ := Kd.R_slice HO207.out; subst eo49) | (go_at_call 9; (with_reducible refine (suffix_Of.calls kj26 (((((a0 ++ (⟨#[95]⟩ : ByteArray)) ++ (rdOf ByteArray.empty t197 (ji20))) ++ (⟨#[95]⟩ : ByteArray)) ++ (rdOf ByteArray.empty t200 (ji24))) ++ x13_26) t208 t209 t210 t211 _ ?side1 A40.out).mono ?_); (case side1 => exact Tabs.below HT.out (by repeat (first | (with_reducible first | exact HB.out | apply below_alloc | apply pw_below_drewN | apply below_drew1) | exact HB.out))); rintro e w50 ⟨rfl, hb⟩; have n0_ := Aside0.mk (Kd.R_below (by (with_reducible repeat (first | apply Kd.R_alloc | apply Kd.R_drewN | apply Kd.R_drew)); exact HO207.out) hb); have n1_ := Aside0.mk (below_step (by repeat (first | (with_reducible first | exact HB.out | apply below_alloc | apply pw_below_drewN | apply below_drew1) | exact HB.out)) hb); clear HO207; clear HB; have HO207 := n0_; have HB := n1_; clear n0_ n1_; (try clear hb); (try clear hb2); (try clear hk); (try clear hi)) | (go_at_call 9; (with_reducible refine (suffix_Of.calls kj26 (((a0 ++ (⟨#[95]⟩ : ByteArray)) ++ (rdOf ByteArray.empty t197 (ji20))) ++ x13_26) t212 t213 t214 t215 _ ?side1 A43.out).mono ?_); (case side1 => exact Tabs.below HT.out (by repeat (first | (with_reducible first | exact HB.out | apply below_alloc | apply pw_below_drewN | apply below_drew1) | exact HB.out))); rintro e w51 ⟨rfl, hb⟩; have n0_ := Aside0.mk (Kd.R_below (by (with_reducible repeat (first | apply Kd.R_alloc | apply Kd.R_drewN | apply Kd.R_drew)); exact HO207.out) hb); have n1_ := Aside0.mk (below_step (by repeat (first | (with_reducible first | exact HB.out | apply below_alloc | apply pw_below_drewN | apply below_drew1) | exact HB.out)) hb); clear HO207; clear HB; have HO207 := n0_; have HB := n1_; clear n0_ n1_; (try clear hb); (try clear hb2); (try clear hk); (try clear hi)) | (go_at_call 9; (with_reducible refine (suffix_Of.calls kj26 (((a0 ++ (⟨#[95]⟩ : ByteArray)) ++ (rdOf ByteArray.empty t200 (ji24))) ++ x13_26) t216 t217 t218 t219 _ ?side1 A47.out).mono ?_); (case side1 => exact Tabs.below HT.out (by repeat (first | (with_reducible first | exact HB.out | apply below_alloc | apply pw_below_drewN | apply below_drew1) | exact HB.out))); rintro e w52 ⟨rfl, hb⟩; have n0_ := Aside0.mk (Kd.R_below (by (with_reducible repeat (first | apply Kd.R_alloc | apply Kd.R_drewN | apply Kd.R_drew)); exact HO207.out) hb); have n1_ := Aside0.mk (below_step (by repeat (first | (with_reducible first | exact HB.out | apply below_alloc | apply pw_below_drewN | apply below_drew1) | exact HB.out)) hb); clear HO207; clear HB; have HO207 := n0_; have HB := n1_; clear n0_ n1_; (try clear hb); (try clear hb2); (try clear hk); (try clear hi)))
                                                repeat (go_quiet (first | (go_at_call 12; (with_reducible refine (seicheref14_Cut.calls kj26 a0 95 t205 _ A33.out).mono ?_); rintro e w48 ⟨v206, rfl, ho0, hb⟩; have n0_ := Aside0.mk (Kd.R_lower ho0 (below_size (by repeat (first | (with_reducible first | exact HB.out | apply below_alloc | apply pw_below_drewN | apply below_drew1) | exact HB.out)))); have n1_ := Aside0.mk (below_step (by repeat (first | (with_reducible first | exact HB.out | apply below_alloc | apply pw_below_drewN | apply below_drew1) | exact HB.out)) hb); clear HB; have HO207 := n0_; have HB := n1_; clear n0_ n1_; (try clear hb); (try clear hb2); (try clear hk); (try clear hi); (try clear ho0); obtain ⟨Ao49, co49, eo49⟩ := Kd.R_slice HO207.out; subst eo49) | (go_at_call 9; (with_reducible refine (suffix_Of.calls kj26 (((((a0 ++ (⟨#[95]⟩ : ByteArray)) ++ (rdOf ByteArray.empty t197 (ji20))) ++ (⟨#[95]⟩ : ByteArray)) ++ (rdOf ByteArray.empty t200 (ji24))) ++ x13_26) t208 t209 t210 t211 _ ?side1 A40.out).mono ?_); (case side1 => exact Tabs.below HT.out (by repeat (first | (with_reducible first | exact HB.out | apply below_alloc | apply pw_below_drewN | apply below_drew1) | exact HB.out))); rintro e w50 ⟨rfl, hb⟩; have n0_ := Aside0.mk (Kd.R_below (by (with_reducible repeat (first | apply Kd.R_alloc | apply Kd.R_drewN | apply Kd.R_drew)); exact HO207.out) hb); have n1_ := Aside0.mk (below_step (by repeat (first | (with_reducible first | exact HB.out | apply below_alloc | apply pw_below_drewN | apply below_drew1) | exact HB.out)) hb); clear HO207; clear HB; have HO207 := n0_; have HB := n1_; clear n0_ n1_; (try clear hb); (try clear hb2); (try clear hk); (try clear hi)) | (go_at_call 9; (with_reducible refine (suffix_Of.calls kj26 (((a0 ++ (⟨#[95]⟩ : ByteArray)) ++ (rdOf ByteArray.empty t197 (ji20))) ++ x13_26) t212 t213 t214 t215 _ ?side1 A43.out).mono ?_); (case side1 => exact Tabs.below HT.out (by repeat (first | (with_reducible first | exact HB.out | apply below_alloc | apply pw_below_drewN | apply below_drew1) | exact HB.out))); rintro e w51 ⟨rfl, hb⟩; have n0_ := Aside0.mk (Kd.R_below (by (with_reducible repeat (first | apply Kd.R_alloc | apply Kd.R_drewN | apply Kd.R_drew)); exact HO207.out) hb); have n1_ := Aside0.mk (below_step (by repeat (first | (with_reducible first | exact HB.out | apply below_alloc | apply pw_below_drewN | apply below_drew1) | exact HB.out)) hb); clear HO207; clear HB; have HO207 := n0_; have HB := n1_; clear n0_ n1_; (try clear hb); (try clear hb2); (try clear hk); (try clear hi)) | (go_at_call 9; (with_reducible refine (suffix_Of.calls kj26 (((a0 ++ (⟨#[95]⟩ : ByteArray)) ++ (rdOf ByteArray.empty t200 (ji24))) ++ x13_26) t216 t217 t218 t219 _ ?side1 A47.out).mono ?_); (case side1 => exact Tabs.below HT.out (by repeat (first | (with_reducible first | exact HB.out | apply below_alloc | apply pw_below_drewN | apply below_drew1) | exact HB.out))); rintro e w52 ⟨rfl, hb⟩; have n0_ := Aside0.mk (Kd.R_below (by (with_reducible repeat (first | apply Kd.R_alloc | apply Kd.R_drewN | apply Kd.R_drew)); exact HO207.out) hb); have n1_ := Aside0.mk (below_step (by repeat (first | (with_reducible first | exact HB.out | apply below_alloc | apply pw_below_drewN | apply below_drew1) | exact HB.out)) hb); clear HO207; clear HB; have HO207 := n0_; have HB := n1_; clear n0_ n1_; (try clear hb); (try clear hb2); (try clear hk); (try clear hi))); try go_wp2_with (first | (go_at_call 12; (with_reducible refine (seicheref14_Cut.calls kj26 a0 95 t205 _ A33.out).mono ?_); rintro e w48 ⟨v206, rfl, ho0, hb⟩; have n0_ := Aside0.mk (Kd.R_lower ho0 (below_size (by repeat (first | (with_reducible first | exact HB.out | apply below_alloc | apply pw_below_drewN | apply below_drew1) | exact HB.out)))); have n1_ := Aside0.mk (below_step (by repeat (first | (with_reducible first | exact HB.out | apply below_alloc | apply pw_below_drewN | apply below_drew1) | exact HB.out)) hb); clear HB; have HO207 := n0_; have HB := n1_; clear n0_ n1_; (try clear hb); (try clear hb2); (try clear hk); (try clear hi); (try clear ho0); obtain ⟨Ao49, co49, eo49⟩ := Kd.R_slice HO207.out; subst eo49) | (go_at_call 9; (with_reducible refine (suffix_Of.calls kj26 (((((a0 ++ (⟨#[95]⟩ : ByteArray)) ++ (rdOf ByteArray.empty t197 (ji20))) ++ (⟨#[95]⟩ : ByteArray)) ++ (rdOf ByteArray.empty t200 (ji24))) ++ x13_26) t208 t209 t210 t211 _ ?side1 A40.out).mono ?_); (case side1 => exact Tabs.below HT.out (by repeat (first | (with_reducible first | exact HB.out | apply below_alloc | apply pw_below_drewN | apply below_drew1) | exact HB.out))); rintro e w50 ⟨rfl, hb⟩; have n0_ := Aside0.mk (Kd.R_below (by (with_reducible repeat (first | apply Kd.R_alloc | apply Kd.R_drewN | apply Kd.R_drew)); exact HO207.out) hb); have n1_ := Aside0.mk (below_step (by repeat (first | (with_reducible first | exact HB.out | apply below_alloc | apply pw_below_drewN | apply below_drew1) | exact HB.out)) hb); clear HO207; clear HB; have HO207 := n0_; have HB := n1_; clear n0_ n1_; (try clear hb); (try clear hb2); (try clear hk); (try clear hi)) | (go_at_call 9; (with_reducible refine (suffix_Of.calls kj26 (((a0 ++ (⟨#[95]⟩ : ByteArray)) ++ (rdOf ByteArray.empty t197 (ji20))) ++ x13_26) t212 t213 t214 t215 _ ?side1 A43.out).mono ?_); (case side1 => exact Tabs.below HT.out (by repeat (first | (with_reducible first | exact HB.out | apply below_alloc | apply pw_below_drewN | apply below_drew1) | exact HB.out))); rintro e w51 ⟨rfl, hb⟩; have n0_ := Aside0.mk (Kd.R_below (by (with_reducible repeat (first | apply Kd.R_alloc | apply Kd.R_drewN | apply Kd.R_drew)); exact HO207.out) hb); have n1_ := Aside0.mk (below_step (by repeat (first | (with_reducible first | exact HB.out | apply below_alloc | apply pw_below_drewN | apply below_drew1) | exact HB.out)) hb); clear HO207; clear HB; have HO207 := n0_; have HB := n1_; clear n0_ n1_; (try clear hb); (try clear hb2); (try clear hk); (try clear hi)) | (go_at_call 9; (with_reducible refine (suffix_Of.calls kj26 (((a0 ++ (⟨#[95]⟩ : ByteArray)) ++ (rdOf ByteArray.empty t200 (ji24))) ++ x13_26) t216 t217 t218 t219 _ ?side1 A47.out).mono ?_); (case side1 => exact Tabs.below HT.out (by repeat (first | (with_reducible first | exact HB.out | apply below_alloc | apply pw_below_drewN | apply below_drew1) | exact HB.out))); rintro e w52 ⟨rfl, hb⟩; have n0_ := Aside0.mk (Kd.R_below (by (with_reducible repeat (first | apply Kd.R_alloc | apply Kd.R_drewN | apply Kd.R_drew)); exact HO207.out) hb); have n1_ := Aside0.mk (below_step (by repeat (first | (with_reducible first | exact HB.out | apply below_alloc | apply pw_below_drewN | apply below_drew1) | exact HB.out)) hb); clear HO207; clear HB; have HO207 := n0_; have HB := n1_; clear n0_ n1_; (try clear hb); (try clear hb2); (try clear hk); (try clear hi))))
                                                go_ret
                                                exact ⟨by first | rfl | (simp [errW_none, errW_some] <;> rfl) | (simp only [← hji20, ← hji24]; first | rfl | (simp [errW_none, errW_some] <;> rfl)) | (simp [*, errW_none, errW_some] <;> rfl), by repeat (first | (with_reducible first | exact HB.out | apply below_alloc | apply pw_below_drewN | apply below_drew1) | exact HB.out)⟩
                                              · rw [if_neg c46] at H
                                                exact absurd H (by simp)
                                            · rw [if_neg c45] at H
                                              exact absurd H (by simp)
                                          · rw [if_neg c44] at H
                                            have c44b0 : (t212 && (t213 == a3 && (t214.toList == (rdOf ByteArray.empty t197 (ji20)).toList && (t215.toList == ([] : List UInt8))))) = false := by simpa using c44
                                            have c44p_ : ¬ ((t212 && (t213 == a3 && (t214.toList == (rdOf ByteArray.empty t197 (ji20)).toList && (t215.toList == ([] : List UInt8))))) = true) := by rw [c44b0]; decide
                                            simp only [Bool.and_eq_true, beq_iff_eq] at c44p_
                                            have c44q_ := eq_false c44p_
                                            clear c44p_
                                            clear c44
                                            obtain rfl := Option.some.inj H
                                            go_wp2_with (first | (go_at_call 12; (with_reducible refine (seicheref14_Cut.calls kj26 a0 95 t205 _ A33.out).mono ?_); rintro e w53 ⟨v206, rfl, ho0, hb⟩; have n0_ := Aside0.mk (Kd.R_lower ho0 (below_size (by repeat (first | (with_reducible first | exact HB.out | apply below_alloc | apply pw_below_drewN | apply below_drew1) | exact HB.out)))); have n1_ := Aside0.mk (below_step (by repeat (first | (with_reducible first | exact HB.out | apply below_alloc | apply pw_below_drewN | apply below_drew1) | exact HB.out)) hb); clear HB; have HO207 := n0_; have HB := n1_; clear n0_ n1_; (try clear hb); (try clear hb2); (try clear hk); (try clear hi); (try clear ho0); obtain ⟨Ao54, co54, eo54⟩ := Kd.R_slice HO207.out; subst eo54) | (go_at_call 9; (with_reducible refine (suffix_Of.calls kj26 (((((a0 ++ (⟨#[95]⟩ : ByteArray)) ++ (rdOf ByteArray.empty t197 (ji20))) ++ (⟨#[95]⟩ : ByteArray)) ++ (rdOf ByteArray.empty t200 (ji24))) ++ x13_26) t208 t209 t210 t211 _ ?side1 A40.out).mono ?_); (case side1 => exact Tabs.below HT.out (by repeat (first | (with_reducible first | exact HB.out | apply below_alloc | apply pw_below_drewN | apply below_drew1) | exact HB.out))); rintro e w55 ⟨rfl, hb⟩; have n0_ := Aside0.mk (Kd.R_below (by (with_reducible repeat (first | apply Kd.R_alloc | apply Kd.R_drewN | apply Kd.R_drew)); exact HO207.out) hb); have n1_ := Aside0.mk (below_step (by repeat (first | (with_reducible first | exact HB.out | apply below_alloc | apply pw_below_drewN | apply below_drew1) | exact HB.out)) hb); clear HO207; clear HB; have HO207 := n0_; have HB := n1_; clear n0_ n1_; (try clear hb); (try clear hb2); (try clear hk); (try clear hi)) | (go_at_call 9; (with_reducible refine (suffix_Of.calls kj26 (((a0 ++ (⟨#[95]⟩ : ByteArray)) ++ (rdOf ByteArray.empty t197 (ji20))) ++ x13_26) t212 t213 t214 t215 _ ?side1 A43.out).mono ?_); (case side1 => exact Tabs.below HT.out (by repeat (first | (with_reducible first | exact HB.out | apply below_alloc | apply pw_below_drewN | apply below_drew1) | exact HB.out))); rintro e w56 ⟨rfl, hb⟩; have n0_ := Aside0.mk (Kd.R_below (by (with_reducible repeat (first | apply Kd.R_alloc | apply Kd.R_drewN | apply Kd.R_drew)); exact HO207.out) hb); have n1_ := Aside0.mk (below_step (by repeat (first | (with_reducible first | exact HB.out | apply below_alloc | apply pw_below_drewN | apply below_drew1) | exact HB.out)) hb); clear HO207; clear HB; have HO207 := n0_; have HB := n1_; clear n0_ n1_; (try clear hb); (try clear hb2); (try clear hk); (try clear hi)))
                                            repeat (go_quiet (first | (go_at_call 12; (with_reducible refine (seicheref14_Cut.calls kj26 a0 95 t205 _ A33.out).mono ?_); rintro e w53 ⟨v206, rfl, ho0, hb⟩; have n0_ := Aside0.mk (Kd.R_lower ho0 (below_size (by repeat (first | (with_reducible first | exact HB.out | apply below_alloc | apply pw_below_drewN | apply below_drew1) | exact HB.out)))); have n1_ := Aside0.mk (below_step (by repeat (first | (with_reducible first | exact HB.out | apply below_alloc | apply pw_below_drewN | apply below_drew1) | exact HB.out)) hb); clear HB; have HO207 := n0_; have HB := n1_; clear n0_ n1_; (try clear hb); (try clear hb2); (try clear hk); (try clear hi); (try clear ho0); obtain ⟨Ao54, co54, eo54⟩ := Kd.R_slice HO207.out; subst eo54) | (go_at_call 9; (with_reducible refine (suffix_Of.calls kj26 (((((a0 ++ (⟨#[95]⟩ : ByteArray)) ++ (rdOf ByteArray.empty t197 (ji20))) ++ (⟨#[95]⟩ : ByteArray)) ++ (rdOf ByteArray.empty t200 (ji24))) ++ x13_26) t208 t209 t210 t211 _ ?side1 A40.out).mono ?_); (case side1 => exact Tabs.below HT.out (by repeat (first | (with_reducible first | exact HB.out | apply below_alloc | apply pw_below_drewN | apply below_drew1) | exact HB.out))); rintro e w55 ⟨rfl, hb⟩; have n0_ := Aside0.mk (Kd.R_below (by (with_reducible repeat (first | apply Kd.R_alloc | apply Kd.R_drewN | apply Kd.R_drew)); exact HO207.out) hb); have n1_ := Aside0.mk (below_step (by repeat (first | (with_reducible first | exact HB.out | apply below_alloc | apply pw_below_drewN | apply below_drew1) | exact HB.out)) hb); clear HO207; clear HB; have HO207 := n0_; have HB := n1_; clear n0_ n1_; (try clear hb); (try clear hb2); (try clear hk); (try clear hi)) | (go_at_call 9; (with_reducible refine (suffix_Of.calls kj26 (((a0 ++ (⟨#[95]⟩ : ByteArray)) ++ (rdOf ByteArray.empty t197 (ji20))) ++ x13_26) t212 t213 t214 t215 _ ?side1 A43.out).mono ?_); (case side1 => exact Tabs.below HT.out (by repeat (first | (with_reducible first | exact HB.out | apply below_alloc | apply pw_below_drewN | apply below_drew1) | exact HB.out))); rintro e w56 ⟨rfl, hb⟩; have n0_ := Aside0.mk (Kd.R_below (by (with_reducible repeat (first | apply Kd.R_alloc | apply Kd.R_drewN | apply Kd.R_drew)); exact HO207.out) hb); have n1_ := Aside0.mk (below_step (by repeat (first | (with_reducible first | exact HB.out | apply below_alloc | apply pw_below_drewN | apply below_drew1) | exact HB.out)) hb); clear HO207; clear HB; have HO207 := n0_; have HB := n1_; clear n0_ n1_; (try clear hb); (try clear hb2); (try clear hk); (try clear hi))); try go_wp2_with (first | (go_at_call 12; (with_reducible refine (seicheref14_Cut.calls kj26 a0 95 t205 _ A33.out).mono ?_); rintro e w53 ⟨v206, rfl, ho0, hb⟩; have n0_ := Aside0.mk (Kd.R_lower ho0 (below_size (by repeat (first | (with_reducible first | exact HB.out | apply below_alloc | apply pw_below_drewN | apply below_drew1) | exact HB.out)))); have n1_ := Aside0.mk (below_step (by repeat (first | (with_reducible first | exact HB.out | apply below_alloc | apply pw_below_drewN | apply below_drew1) | exact HB.out)) hb); clear HB; have HO207 := n0_; have HB := n1_; clear n0_ n1_; (try clear hb); (try clear hb2); (try clear hk); (try clear hi); (try clear ho0); obtain ⟨Ao54, co54, eo54⟩ := Kd.R_slice HO207.out; subst eo54) | (go_at_call 9; (with_reducible refine (suffix_Of.calls kj26 (((((a0 ++ (⟨#[95]⟩ : ByteArray)) ++ (rdOf ByteArray.empty t197 (ji20))) ++ (⟨#[95]⟩ : ByteArray)) ++ (rdOf ByteArray.empty t200 (ji24))) ++ x13_26) t208 t209 t210 t211 _ ?side1 A40.out).mono ?_); (case side1 => exact Tabs.below HT.out (by repeat (first | (with_reducible first | exact HB.out | apply below_alloc | apply pw_below_drewN | apply below_drew1) | exact HB.out))); rintro e w55 ⟨rfl, hb⟩; have n0_ := Aside0.mk (Kd.R_below (by (with_reducible repeat (first | apply Kd.R_alloc | apply Kd.R_drewN | apply Kd.R_drew)); exact HO207.out) hb); have n1_ := Aside0.mk (below_step (by repeat (first | (with_reducible first | exact HB.out | apply below_alloc | apply pw_below_drewN | apply below_drew1) | exact HB.out)) hb); clear HO207; clear HB; have HO207 := n0_; have HB := n1_; clear n0_ n1_; (try clear hb); (try clear hb2); (try clear hk); (try clear hi)) | (go_at_call 9; (with_reducible refine (suffix_Of.calls kj26 (((a0 ++ (⟨#[95]⟩ : ByteArray)) ++ (rdOf ByteArray.empty t197 (ji20))) ++ x13_26) t212 t213 t214 t215 _ ?side1 A43.out).mono ?_); (case side1 => exact Tabs.below HT.out (by repeat (first | (with_reducible first | exact HB.out | apply below_alloc | apply pw_below_drewN | apply below_drew1) | exact HB.out))); rintro e w56 ⟨rfl, hb⟩; have n0_ := Aside0.mk (Kd.R_below (by (with_reducible repeat (first | apply Kd.R_alloc | apply Kd.R_drewN | apply Kd.R_drew)); exact HO207.out) hb); have n1_ := Aside0.mk (below_step (by repeat (first | (with_reducible first | exact HB.out | apply below_alloc | apply pw_below_drewN | apply below_drew1) | exact HB.out)) hb); clear HO207; clear HB; have HO207 := n0_; have HB := n1_; clear n0_ n1_; (try clear hb); (try clear hb2); (try clear hk); (try clear hi))))
                                            go_ret
                                            exact ⟨by first | rfl | (simp [errW_none, errW_some] <;> rfl) | (simp only [← hji20, ← hji24]; first | rfl | (simp [errW_none, errW_some] <;> rfl)) | (simp [*, errW_none, errW_some] <;> rfl), by repeat (first | (with_reducible first | exact HB.out | apply below_alloc | apply pw_below_drewN | apply below_drew1) | exact HB.out)⟩
                                        · rw [if_neg c42] at H
                                          exact absurd H (by simp)
                                      · rw [if_neg c41] at H
                                        have c41b0 : (t208 && (t209 == a3 && (t210.toList == (rdOf ByteArray.empty t197 (ji20)).toList && (t211.toList == (rdOf ByteArray.empty t200 (ji24)).toList)))) = false := by simpa using c41
                                        clear c41
                                        obtain rfl := Option.some.inj H
                                        go_wp2_with (first | (go_at_call 12; (with_reducible refine (seicheref14_Cut.calls kj26 a0 95 t205 _ A33.out).mono ?_); rintro e w57 ⟨v206, rfl, ho0, hb⟩; have n0_ := Aside0.mk (Kd.R_lower ho0 (below_size (by repeat (first | (with_reducible first | exact HB.out | apply below_alloc | apply pw_below_drewN | apply below_drew1) | exact HB.out)))); have n1_ := Aside0.mk (below_step (by repeat (first | (with_reducible first | exact HB.out | apply below_alloc | apply pw_below_drewN | apply below_drew1) | exact HB.out)) hb); clear HB; have HO207 := n0_; have HB := n1_; clear n0_ n1_; (try clear hb); (try clear hb2); (try clear hk); (try clear hi); (try clear ho0); obtain ⟨Ao58, co58, eo58⟩ := Kd.R_slice HO207.out; subst eo58) | (go_at_call 9; (with_reducible refine (suffix_Of.calls kj26 (((((a0 ++ (⟨#[95]⟩ : ByteArray)) ++ (rdOf ByteArray.empty t197 (ji20))) ++ (⟨#[95]⟩ : ByteArray)) ++ (rdOf ByteArray.empty t200 (ji24))) ++ x13_26) t208 t209 t210 t211 _ ?side1 A40.out).mono ?_); (case side1 => exact Tabs.below HT.out (by repeat (first | (with_reducible first | exact HB.out | apply below_alloc | apply pw_below_drewN | apply below_drew1) | exact HB.out))); rintro e w59 ⟨rfl, hb⟩; have n0_ := Aside0.mk (Kd.R_below (by (with_reducible repeat (first | apply Kd.R_alloc | apply Kd.R_drewN | apply Kd.R_drew)); exact HO207.out) hb); have n1_ := Aside0.mk (below_step (by repeat (first | (with_reducible first | exact HB.out | apply below_alloc | apply pw_below_drewN | apply below_drew1) | exact HB.out)) hb); clear HO207; clear HB; have HO207 := n0_; have HB := n1_; clear n0_ n1_; (try clear hb); (try clear hb2); (try clear hk); (try clear hi)))
                                        repeat (go_quiet (first | (go_at_call 12; (with_reducible refine (seicheref14_Cut.calls kj26 a0 95 t205 _ A33.out).mono ?_); rintro e w57 ⟨v206, rfl, ho0, hb⟩; have n0_ := Aside0.mk (Kd.R_lower ho0 (below_size (by repeat (first | (with_reducible first | exact HB.out | apply below_alloc | apply pw_below_drewN | apply below_drew1) | exact HB.out)))); have n1_ := Aside0.mk (below_step (by repeat (first | (with_reducible first | exact HB.out | apply below_alloc | apply pw_below_drewN | apply below_drew1) | exact HB.out)) hb); clear HB; have HO207 := n0_; have HB := n1_; clear n0_ n1_; (try clear hb); (try clear hb2); (try clear hk); (try clear hi); (try clear ho0); obtain ⟨Ao58, co58, eo58⟩ := Kd.R_slice HO207.out; subst eo58) | (go_at_call 9; (with_reducible refine (suffix_Of.calls kj26 (((((a0 ++ (⟨#[95]⟩ : ByteArray)) ++ (rdOf ByteArray.empty t197 (ji20))) ++ (⟨#[95]⟩ : ByteArray)) ++ (rdOf ByteArray.empty t200 (ji24))) ++ x13_26) t208 t209 t210 t211 _ ?side1 A40.out).mono ?_); (case side1 => exact Tabs.below HT.out (by repeat (first | (with_reducible first | exact HB.out | apply below_alloc | apply pw_below_drewN | apply below_drew1) | exact HB.out))); rintro e w59 ⟨rfl, hb⟩; have n0_ := Aside0.mk (Kd.R_below (by (with_reducible repeat (first | apply Kd.R_alloc | apply Kd.R_drewN | apply Kd.R_drew)); exact HO207.out) hb); have n1_ := Aside0.mk (below_step (by repeat (first | (with_reducible first | exact HB.out | apply below_alloc | apply pw_below_drewN | apply below_drew1) | exact HB.out)) hb); clear HO207; clear HB; have HO207 := n0_; have HB := n1_; clear n0_ n1_; (try clear hb); (try clear hb2); (try clear hk); (try clear hi))); try go_wp2_with (first | (go_at_call 12; (with_reducible refine (seicheref14_Cut.calls kj26 a0 95 t205 _ A33.out).mono ?_); rintro e w57 ⟨v206, rfl, ho0, hb⟩; have n0_ := Aside0.mk (Kd.R_lower ho0 (below_size (by repeat (first | (with_reducible first | exact HB.out | apply below_alloc | apply pw_below_drewN | apply below_drew1) | exact HB.out)))); have n1_ := Aside0.mk (below_step (by repeat (first | (with_reducible first | exact HB.out | apply below_alloc | apply pw_below_drewN | apply below_drew1) | exact HB.out)) hb); clear HB; have HO207 := n0_; have HB := n1_; clear n0_ n1_; (try clear hb); (try clear hb2); (try clear hk); (try clear hi); (try clear ho0); obtain ⟨Ao58, co58, eo58⟩ := Kd.R_slice HO207.out; subst eo58) | (go_at_call 9; (with_reducible refine (suffix_Of.calls kj26 (((((a0 ++ (⟨#[95]⟩ : ByteArray)) ++ (rdOf ByteArray.empty t197 (ji20))) ++ (⟨#[95]⟩ : ByteArray)) ++ (rdOf ByteArray.empty t200 (ji24))) ++ x13_26) t208 t209 t210 t211 _ ?side1 A40.out).mono ?_); (case side1 => exact Tabs.below HT.out (by repeat (first | (with_reducible first | exact HB.out | apply below_alloc | apply pw_below_drewN | apply below_drew1) | exact HB.out))); rintro e w59 ⟨rfl, hb⟩; have n0_ := Aside0.mk (Kd.R_below (by (with_reducible repeat (first | apply Kd.R_alloc | apply Kd.R_drewN | apply Kd.R_drew)); exact HO207.out) hb); have n1_ := Aside0.mk (below_step (by repeat (first | (with_reducible first | exact HB.out | apply below_alloc | apply pw_below_drewN | apply below_drew1) | exact HB.out)) hb); clear HO207; clear HB; have HO207 := n0_; have HB := n1_; clear n0_ n1_; (try clear hb); (try clear hb2); (try clear hk); (try clear hi))))
                                        go_ret
                                        exact ⟨by first | rfl | (simp [errW_none, errW_some] <;> rfl) | (simp only [← hji20, ← hji24]; first | rfl | (simp [errW_none, errW_some] <;> rfl)) | (simp [*, errW_none, errW_some] <;> rfl), by repeat (first | (with_reducible first | exact HB.out | apply below_alloc | apply pw_below_drewN | apply below_drew1) | exact HB.out)⟩
                                    · rw [if_neg c39] at H
                                      exact absurd H (by simp)
                                  · rw [if_neg c38] at H
                                    exact absurd H (by simp)
                                · rw [if_neg c37] at H
                                  exact absurd H (by simp)
                              · rw [if_neg c36] at H
                                exact absurd H (by simp)
                            · rw [if_neg c35] at H
                              exact absurd H (by simp)
                          · rw [if_neg c34] at H
                            have c34b0 : ((t205.length : Int) == 1) = false := beq_eq_false_iff_ne.mpr c34
                            have c34b1 : ((t205.length : Int) != 1) = true := bne_iff_ne.mpr c34
                            obtain ⟨ji60, hji60⟩ : ∃ j_ : Int, (wrap64 ((t205.length : Int) - 1)) = j_ := ⟨_, rfl⟩
                            replace H : (if 0 ≤ (ji60) then (if (ji60) < (t205.length : Int) then ((seicheref15_System.f kj26 (rdOf ByteArray.empty t205 (ji60))).bind fun t221 => (if a0.size + 1 ≤ 9223372036854775807 then (if (a0 ++ (⟨#[95]⟩ : ByteArray)).size + (rdOf ByteArray.empty t197 (ji20)).size ≤ 9223372036854775807 then (if ((a0 ++ (⟨#[95]⟩ : ByteArray)) ++ (rdOf ByteArray.empty t197 (ji20))).size + 1 ≤ 9223372036854775807 then (if (((a0 ++ (⟨#[95]⟩ : ByteArray)) ++ (rdOf ByteArray.empty t197 (ji20))) ++ (⟨#[95]⟩ : ByteArray)).size + (rdOf ByteArray.empty t200 (ji24)).size ≤ 9223372036854775807 then (if ((((a0 ++ (⟨#[95]⟩ : ByteArray)) ++ (rdOf ByteArray.empty t197 (ji20))) ++ (⟨#[95]⟩ : ByteArray)) ++ (rdOf ByteArray.empty t200 (ji24))).size + x13_26.size ≤ 9223372036854775807 then ((suffix_Of.f kj26 (((((a0 ++ (⟨#[95]⟩ : ByteArray)) ++ (rdOf ByteArray.empty t197 (ji20))) ++ (⟨#[95]⟩ : ByteArray)) ++ (rdOf ByteArray.empty t200 (ji24))) ++ x13_26)).bind fun bt222 => (if (bt222.1 && (bt222.2.1 == a3 && (bt222.2.2.1.toList == (rdOf ByteArray.empty t197 (ji20)).toList && (bt222.2.2.2.toList == (rdOf ByteArray.empty t200 (ji24)).toList)))) = true then (if ((a0 ++ (⟨#[95]⟩ : ByteArray)) ++ (rdOf ByteArray.empty t197 (ji20))).size + x13_26.size ≤ 9223372036854775807 then ((suffix_Of.f kj26 (((a0 ++ (⟨#[95]⟩ : ByteArray)) ++ (rdOf ByteArray.empty t197 (ji20))) ++ x13_26)).bind fun bt226 => (if (bt226.1 && (bt226.2.1 == a3 && (bt226.2.2.1.toList == (rdOf ByteArray.empty t197 (ji20)).toList && (bt226.2.2.2.toList == ([] : List UInt8))))) = true then (if t221 = true then (some true) else (if (a0 ++ (⟨#[95]⟩ : ByteArray)).size + (rdOf ByteArray.empty t200 (ji24)).size ≤ 9223372036854775807 then (if ((a0 ++ (⟨#[95]⟩ : ByteArray)) ++ (rdOf ByteArray.empty t200 (ji24))).size + x13_26.size ≤ 9223372036854775807 then ((suffix_Of.f kj26 (((a0 ++ (⟨#[95]⟩ : ByteArray)) ++ (rdOf ByteArray.empty t200 (ji24))) ++ x13_26)).bind fun bt230 => (some (bt230.1 && (bt230.2.1 == a3 && (bt230.2.2.1.toList == ([] : List UInt8) && (bt230.2.2.2.toList == (rdOf ByteArray.empty t200 (ji24)).toList)))))) else (none)) else (none))) else (some false))) else (none)) else (some false))) else (none)) else (none)) else (none)) else (none)) else (none))) else (none)) else (none)) = some r := by first | (rw [hji60] at H; exact H) | (simp only [hji60] at H ⊢; exact H)
                            (try rw [hji60] at A33)
                            have hji60w : (IntKind.i64.wrap ((t205.length : Int) - 1)) = ji60 := (i64_w _).trans hji60
                            by_cases c61 : 0 ≤ (ji60)
                            · rw [if_pos c61] at H
                              have c61b0 : decide (0 ≤ (ji60)) = true := decide_eq_true c61
                              clear c61
                              by_cases c62 : (ji60) < (t205.length : Int)
                              · rw [if_pos c62] at H
                                have c62b0 : decide ((ji60) < (t205.length : Int)) = true := decide_eq_true c62
                                clear c62
                                replace H := Option.bind_eq_some_iff.mp H
                                obtain ⟨t221, A630, H⟩ := H
                                replace H : (if a0.size + 1 ≤ 9223372036854775807 then (if (a0 ++ (⟨#[95]⟩ : ByteArray)).size + (rdOf ByteArray.empty t197 (ji20)).size ≤ 9223372036854775807 then (if ((a0 ++ (⟨#[95]⟩ : ByteArray)) ++ (rdOf ByteArray.empty t197 (ji20))).size + 1 ≤ 9223372036854775807 then (if (((a0 ++ (⟨#[95]⟩ : ByteArray)) ++ (rdOf ByteArray.empty t197 (ji20))) ++ (⟨#[95]⟩ : ByteArray)).size + (rdOf ByteArray.empty t200 (ji24)).size ≤ 9223372036854775807 then (if ((((a0 ++ (⟨#[95]⟩ : ByteArray)) ++ (rdOf ByteArray.empty t197 (ji20))) ++ (⟨#[95]⟩ : ByteArray)) ++ (rdOf ByteArray.empty t200 (ji24))).size + x13_26.size ≤ 9223372036854775807 then ((suffix_Of.f kj26 (((((a0 ++ (⟨#[95]⟩ : ByteArray)) ++ (rdOf ByteArray.empty t197 (ji20))) ++ (⟨#[95]⟩ : ByteArray)) ++ (rdOf ByteArray.empty t200 (ji24))) ++ x13_26)).bind fun bt222 => (if (bt222.1 && (bt222.2.1 == a3 && (bt222.2.2.1.toList == (rdOf ByteArray.empty t197 (ji20)).toList && (bt222.2.2.2.toList == (rdOf ByteArray.empty t200 (ji24)).toList)))) = true then (if ((a0 ++ (⟨#[95]⟩ : ByteArray)) ++ (rdOf ByteArray.empty t197 (ji20))).size + x13_26.size ≤ 9223372036854775807 then ((suffix_Of.f kj26 (((a0 ++ (⟨#[95]⟩ : ByteArray)) ++ (rdOf ByteArray.empty t197 (ji20))) ++ x13_26)).bind fun bt226 => (if (bt226.1 && (bt226.2.1 == a3 && (bt226.2.2.1.toList == (rdOf ByteArray.empty t197 (ji20)).toList && (bt226.2.2.2.toList == ([] : List UInt8))))) = true then (if t221 = true then (some true) else (if (a0 ++ (⟨#[95]⟩ : ByteArray)).size + (rdOf ByteArray.empty t200 (ji24)).size ≤ 9223372036854775807 then (if ((a0 ++ (⟨#[95]⟩ : ByteArray)) ++ (rdOf ByteArray.empty t200 (ji24))).size + x13_26.size ≤ 9223372036854775807 then ((suffix_Of.f kj26 (((a0 ++ (⟨#[95]⟩ : ByteArray)) ++ (rdOf ByteArray.empty t200 (ji24))) ++ x13_26)).bind fun bt230 => (some (bt230.1 && (bt230.2.1 == a3 && (bt230.2.2.1.toList == ([] : List UInt8) && (bt230.2.2.2.toList == (rdOf ByteArray.empty t200 (ji24)).toList)))))) else (none)) else (none))) else (some false))) else (none)) else (some false))) else (none)) else (none)) else (none)) else (none)) else (none)) = some r := H
                                have A63 := Aside0.mk A630
                                clear A630
                                by_cases c64 : a0.size + 1 ≤ 9223372036854775807
                                · rw [if_pos c64] at H
                                  have c64b0 := eq_true c64
                                  have c64b1 : decide (a0.size + 1 ≤ 9223372036854775807) = true := decide_eq_true c64
                                  try have c64b2 : (9223372036854775807 < a0.size + 1) = False := eq_false (Nat.not_lt.2 c64)
                                  by_cases c65 : (a0 ++ (⟨#[95]⟩ : ByteArray)).size + (rdOf ByteArray.empty t197 (ji20)).size ≤ 9223372036854775807
                                  · rw [if_pos c65] at H
                                    have c65b0 := eq_true c65
                                    have c65b1 : decide ((a0 ++ (⟨#[95]⟩ : ByteArray)).size + (rdOf ByteArray.empty t197 (ji20)).size ≤ 9223372036854775807) = true := decide_eq_true c65
                                    try have c65b2 : (9223372036854775807 < (a0 ++ (⟨#[95]⟩ : ByteArray)).size + (rdOf ByteArray.empty t197 (ji20)).size) = False := eq_false (Nat.not_lt.2 c65)
                                    try have c65b3 : (9223372036854775807 < a0.size + 1 + (rdOf ByteArray.empty t197 (ji20)).size) = False := eq_false (Nat.not_lt.2 (by have h_ := c65; simp only [ByteArray.size_append] at h_; exact h_))
                                    by_cases c66 : ((a0 ++ (⟨#[95]⟩ : ByteArray)) ++ (rdOf ByteArray.empty t197 (ji20))).size + 1 ≤ 9223372036854775807
                                    · rw [if_pos c66] at H
                                      have c66b0 := eq_true c66
                                      have c66b1 : decide (((a0 ++ (⟨#[95]⟩ : ByteArray)) ++ (rdOf ByteArray.empty t197 (ji20))).size + 1 ≤ 9223372036854775807) = true := decide_eq_true c66
                                      try have c66b2 : (9223372036854775807 < ((a0 ++ (⟨#[95]⟩ : ByteArray)) ++ (rdOf ByteArray.empty t197 (ji20))).size + 1) = False := eq_false (Nat.not_lt.2 c66)
                                      try have c66b3 : (9223372036854775807 < a0.size + 1 + (rdOf ByteArray.empty t197 (ji20)).size + 1) = False := eq_false (Nat.not_lt.2 (by have h_ := c66; simp only [ByteArray.size_append] at h_; exact h_))
                                      by_cases c67 : (((a0 ++ (⟨#[95]⟩ : ByteArray)) ++ (rdOf ByteArray.empty t197 (ji20))) ++ (⟨#[95]⟩ : ByteArray)).size + (rdOf ByteArray.empty t200 (ji24)).size ≤ 9223372036854775807
                                      · rw [if_pos c67] at H
                                        have c67b0 := eq_true c67
                                        have c67b1 : decide ((((a0 ++ (⟨#[95]⟩ : ByteArray)) ++ (rdOf ByteArray.empty t197 (ji20))) ++ (⟨#[95]⟩ : ByteArray)).size + (rdOf ByteArray.empty t200 (ji24)).size ≤ 9223372036854775807) = true := decide_eq_true c67
                                        try have c67b2 : (9223372036854775807 < (((a0 ++ (⟨#[95]⟩ : ByteArray)) ++ (rdOf ByteArray.empty t197 (ji20))) ++ (⟨#[95]⟩ : ByteArray)).size + (rdOf ByteArray.empty t200 (ji24)).size) = False := eq_false (Nat.not_lt.2 c67)
                                        try have c67b3 : (9223372036854775807 < a0.size + 1 + (rdOf ByteArray.empty t197 (ji20)).size + 1 + (rdOf ByteArray.empty t200 (ji24)).size) = False := eq_false (Nat.not_lt.2 (by have h_ := c67; simp only [ByteArray.size_append] at h_; exact h_))
                                        by_cases c68 : ((((a0 ++ (⟨#[95]⟩ : ByteArray)) ++ (rdOf ByteArray.empty t197 (ji20))) ++ (⟨#[95]⟩ : ByteArray)) ++ (rdOf ByteArray.empty t200 (ji24))).size + x13_26.size ≤ 9223372036854775807
                                        · rw [if_pos c68] at H
                                          have c68b0 := eq_true c68
                                          have c68b1 : decide (((((a0 ++ (⟨#[95]⟩ : ByteArray)) ++ (rdOf ByteArray.empty t197 (ji20))) ++ (⟨#[95]⟩ : ByteArray)) ++ (rdOf ByteArray.empty t200 (ji24))).size + x13_26.size ≤ 9223372036854775807) = true := decide_eq_true c68
                                          try have c68b2 : (9223372036854775807 < ((((a0 ++ (⟨#[95]⟩ : ByteArray)) ++ (rdOf ByteArray.empty t197 (ji20))) ++ (⟨#[95]⟩ : ByteArray)) ++ (rdOf ByteArray.empty t200 (ji24))).size + x13_26.size) = False := eq_false (Nat.not_lt.2 c68)
                                          try have c68b3 : (9223372036854775807 < a0.size + 1 + (rdOf ByteArray.empty t197 (ji20)).size + 1 + (rdOf ByteArray.empty t200 (ji24)).size + x13_26.size) = False := eq_false (Nat.not_lt.2 (by have h_ := c68; simp only [ByteArray.size_append] at h_; exact h_))
                                          replace H := Option.bind_eq_some_iff.mp H
                                          obtain ⟨⟨t222, t223, t224, t225⟩, A690, H⟩ := H
                                          replace H : (if (t222 && (t223 == a3 && (t224.toList == (rdOf ByteArray.empty t197 (ji20)).toList && (t225.toList == (rdOf ByteArray.empty t200 (ji24)).toList)))) = true then (if ((a0 ++ (⟨#[95]⟩ : ByteArray)) ++ (rdOf ByteArray.empty t197 (ji20))).size + x13_26.size ≤ 9223372036854775807 then ((suffix_Of.f kj26 (((a0 ++ (⟨#[95]⟩ : ByteArray)) ++ (rdOf ByteArray.empty t197 (ji20))) ++ x13_26)).bind fun bt226 => (if (bt226.1 && (bt226.2.1 == a3 && (bt226.2.2.1.toList == (rdOf ByteArray.empty t197 (ji20)).toList && (bt226.2.2.2.toList == ([] : List UInt8))))) = true then (if t221 = true then (some true) else (if (a0 ++ (⟨#[95]⟩ : ByteArray)).size + (rdOf ByteArray.empty t200 (ji24)).size ≤ 9223372036854775807 then (if ((a0 ++ (⟨#[95]⟩ : ByteArray)) ++ (rdOf ByteArray.empty t200 (ji24))).size + x13_26.size ≤ 9223372036854775807 then ((suffix_Of.f kj26 (((a0 ++ (⟨#[95]⟩ : ByteArray)) ++ (rdOf ByteArray.empty t200 (ji24))) ++ x13_26)).bind fun bt230 => (some (bt230.1 && (bt230.2.1 == a3 && (bt230.2.2.1.toList == ([] : List UInt8) && (bt230.2.2.2.toList == (rdOf ByteArray.empty t200 (ji24)).toList)))))) else (none)) else (none))) else (some false))) else (none)) else (some false)) = some r := H
                                          have A69 := Aside0.mk A690
                                          clear A690
                                          by_cases c70 : (t222 && (t223 == a3 && (t224.toList == (rdOf ByteArray.empty t197 (ji20)).toList && (t225.toList == (rdOf ByteArray.empty t200 (ji24)).toList)))) = true
                                          · rw [if_pos c70] at H
                                            have c70b0 : (t222 && (t223 == a3 && (t224.toList == (rdOf ByteArray.empty t197 (ji20)).toList && (t225.toList == (rdOf ByteArray.empty t200 (ji24)).toList)))) = true := c70
                                            clear c70
                                            by_cases c71 : ((a0 ++ (⟨#[95]⟩ : ByteArray)) ++ (rdOf ByteArray.empty t197 (ji20))).size + x13_26.size ≤ 9223372036854775807
                                            · rw [if_pos c71] at H
                                              have c71b0 := eq_true c71
                                              have c71b1 : decide (((a0 ++ (⟨#[95]⟩ : ByteArray)) ++ (rdOf ByteArray.empty t197 (ji20))).size + x13_26.size ≤ 9223372036854775807) = true := decide_eq_true c71
                                              try have c71b2 : (9223372036854775807 < ((a0 ++ (⟨#[95]⟩ : ByteArray)) ++ (rdOf ByteArray.empty t197 (ji20))).size + x13_26.size) = False := eq_false (Nat.not_lt.2 c71)
                                              try have c71b3 : (9223372036854775807 < a0.size + 1 + (rdOf ByteArray.empty t197 (ji20)).size + x13_26.size) = False := eq_false (Nat.not_lt.2 (by have h_ := c71; simp only [ByteArray.size_append] at h_; exact h_))
                                              replace H := Option.bind_eq_some_iff.mp H
                                              obtain ⟨⟨t226, t227, t228, t229⟩, A720, H⟩ := H
                                              replace H : (if (t226 && (t227 == a3 && (t228.toList == (rdOf ByteArray.empty t197 (ji20)).toList && (t229.toList == ([] : List UInt8))))) = true then (if t221 = true then (some true) else (if (a0 ++ (⟨#[95]⟩ : ByteArray)).size + (rdOf ByteArray.empty t200 (ji24)).size ≤ 9223372036854775807 then (if ((a0 ++ (⟨#[95]⟩ : ByteArray)) ++ (rdOf ByteArray.empty t200 (ji24))).size + x13_26.size ≤ 9223372036854775807 then ((suffix_Of.f kj26 (((a0 ++ (⟨#[95]⟩ : ByteArray)) ++ (rdOf ByteArray.empty t200 (ji24))) ++ x13_26)).bind fun bt230 => (some (bt230.1 && (bt230.2.1 == a3 && (bt230.2.2.1.toList == ([] : List UInt8) && (bt230.2.2.2.toList == (rdOf ByteArray.empty t200 (ji24)).toList)))))) else (none)) else (none))) else (some false)) = some r := H
                                              have A72 := Aside0.mk A720
                                              clear A720
                                              by_cases c73 : (t226 && (t227 == a3 && (t228.toList == (rdOf ByteArray.empty t197 (ji20)).toList && (t229.toList == ([] : List UInt8))))) = true
                                              · rw [if_pos c73] at H
                                                have c73b0 : (t226 && (t227 == a3 && (t228.toList == (rdOf ByteArray.empty t197 (ji20)).toList && (t229.toList == ([] : List UInt8))))) = true := c73
                                                have c73p_ := c73b0
                                                simp only [Bool.and_eq_true, beq_iff_eq] at c73p_
                                                have c73q_ := eq_true c73p_
                                                clear c73p_
                                                clear c73
                                                by_cases c74 : t221 = true
                                                · subst c74
                                                  have H1 : (some true) = some r := by rw [if_pos rfl] at H; exact H
                                                  clear H
                                                  have H := H1
                                                  clear H1
                                                  obtain rfl := Option.some.inj H
                                                  go_wp2_with (first | (go_at_call 12; (with_reducible refine (seicheref14_Cut.calls kj26 a0 95 t205 _ A33.out).mono ?_); rintro e w75 ⟨v206, rfl, ho0, hb⟩; have n0_ := Aside0.mk (Kd.R_lower ho0 (below_size (by repeat (first | (with_reducible first | exact HB.out | apply below_alloc | apply pw_below_drewN | apply below_drew1) | exact HB.out)))); have n1_ := Aside0.mk (below_step (by repeat (first | (with_reducible first | exact HB.out | apply below_alloc | apply pw_below_drewN | apply below_drew1) | exact HB.out)) hb); clear HB; have HO207 := n0_; have HB := n1_; clear n0_ n1_; (try clear hb); (try clear hb2); (try clear hk); (try clear hi); (try clear ho0); obtain ⟨Ao76, co76, eo76⟩ := Kd.R_slice HO207.out; subst eo76; have p220 : 0 ≤ ((ji60) : Int) := of_decide_eq_true (by first | (with_reducible assumption) | assumption); have q220 : (ji60) < (t205.length : Int) := of_decide_eq_true (by first | (with_reducible assumption) | assumption); obtain ⟨ad220, e220, hx220_0⟩ := Kd.at_string (Kd.R_reads' HO207.out).2.2 (ji60) p220 q220; cases e220; replace p220 := eq_true p220; replace q220 := eq_true q220) | (go_at_call 13; (with_reducible refine (seicheref15_System.calls kj26 (rdOf ByteArray.empty t205 (ji60)) true _ A63.out).mono ?_); rintro e w77 ⟨rfl, hb⟩; have n0_ := Aside0.mk (Kd.R_below (by (with_reducible repeat (first | apply Kd.R_alloc | apply Kd.R_drewN | apply Kd.R_drew)); exact HO207.out) hb); have n1_ := Aside0.mk (below_step (by repeat (first | (with_reducible first | exact HB.out | apply below_alloc | apply pw_below_drewN | apply below_drew1) | exact HB.out)) hb); clear HO207; clear HB; have HO207 := n0_; have HB := n1_; clear n0_ n1_; (try clear hb); (try clear hb2); (try clear hk); (try clear hi)) | (go_at_call 9; (with_reducible refine (suffix_Of.calls kj26 (((((a0 ++ (⟨#[95]⟩ : ByteArray)) ++ (rdOf ByteArray.empty t197 (ji20))) ++ (⟨#[95]⟩ : ByteArray)) ++ (rdOf ByteArray.empty t200 (ji24))) ++ x13_26) t222 t223 t224 t225 _ ?side1 A69.out).mono ?_); (case side1 => exact Tabs.below HT.out (by repeat (first | (with_reducible first | exact HB.out | apply below_alloc | apply pw_below_drewN | apply below_drew1) | exact HB.out))); rintro e w78 ⟨rfl, hb⟩; have n0_ := Aside0.mk (Kd.R_below (by (with_reducible repeat (first | apply Kd.R_alloc | apply Kd.R_drewN | apply Kd.R_drew)); exact HO207.out) hb); have n1_ := Aside0.mk (below_step (by repeat (first | (with_reducible first | exact HB.out | apply below_alloc | apply pw_below_drewN | apply below_drew1) | exact HB.out)) hb); clear HO207; clear HB; have HO207 := n0_; have HB := n1_; clear n0_ n1_; (try clear hb); (try clear hb2); (try clear hk); (try clear hi)) | (go_at_call 9; (with_reducible refine (suffix_Of.calls kj26 (((a0 ++ (⟨#[95]⟩ : ByteArray)) ++ (rdOf ByteArray.empty t197 (ji20))) ++ x13_26) t226 t227 t228 t229 _ ?side1 A72.out).mono ?_); (case side1 => exact Tabs.below HT.out (by repeat (first | (with_reducible first | exact HB.out | apply below_alloc | apply pw_below_drewN | apply below_drew1) | exact HB.out))); rintro e w79 ⟨rfl, hb⟩; have n0_ := Aside0.mk (Kd.R_below (by (with_reducible repeat (first | apply Kd.R_alloc | apply Kd.R_drewN | apply Kd.R_drew)); exact HO207.out) hb); have n1_ := Aside0.mk (below_step (by repeat (first | (with_reducible first | exact HB.out | apply below_alloc | apply pw_below_drewN | apply below_drew1) | exact HB.out)) hb); clear HO207; clear HB; have HO207 := n0_; have HB := n1_; clear n0_ n1_; (try clear hb); (try clear hb2); (try clear hk); (try clear hi)))
                                                  repeat (go_quiet (first | (go_at_call 12; (with_reducible refine (seicheref14_Cut.calls kj26 a0 95 t205 _ A33.out).mono ?_); rintro e w75 ⟨v206, rfl, ho0, hb⟩; have n0_ := Aside0.mk (Kd.R_lower ho0 (below_size (by repeat (first | (with_reducible first | exact HB.out | apply below_alloc | apply pw_below_drewN | apply below_drew1) | exact HB.out)))); have n1_ := Aside0.mk (below_step (by repeat (first | (with_reducible first | exact HB.out | apply below_alloc | apply pw_below_drewN | apply below_drew1) | exact HB.out)) hb); clear HB; have HO207 := n0_; have HB := n1_; clear n0_ n1_; (try clear hb); (try clear hb2); (try clear hk); (try clear hi); (try clear ho0); obtain ⟨Ao76, co76, eo76⟩ := Kd.R_slice HO207.out; subst eo76; have p220 : 0 ≤ ((ji60) : Int) := of_decide_eq_true (by first | (with_reducible assumption) | assumption); have q220 : (ji60) < (t205.length : Int) := of_decide_eq_true (by first | (with_reducible assumption) | assumption); obtain ⟨ad220, e220, hx220_0⟩ := Kd.at_string (Kd.R_reads' HO207.out).2.2 (ji60) p220 q220; cases e220; replace p220 := eq_true p220; replace q220 := eq_true q220) | (go_at_call 13; (with_reducible refine (seicheref15_System.calls kj26 (rdOf ByteArray.empty t205 (ji60)) true _ A63.out).mono ?_); rintro e w77 ⟨rfl, hb⟩; have n0_ := Aside0.mk (Kd.R_below (by (with_reducible repeat (first | apply Kd.R_alloc | apply Kd.R_drewN | apply Kd.R_drew)); exact HO207.out) hb); have n1_ := Aside0.mk (below_step (by repeat (first | (with_reducible first | exact HB.out | apply below_alloc | apply pw_below_drewN | apply below_drew1) | exact HB.out)) hb); clear HO207; clear HB; have HO207 := n0_; have HB := n1_; clear n0_ n1_; (try clear hb); (try clear hb2); (try clear hk); (try clear hi)) | (go_at_call 9; (with_reducible refine (suffix_Of.calls kj26 (((((a0 ++ (⟨#[95]⟩ : ByteArray)) ++ (rdOf ByteArray.empty t197 (ji20))) ++ (⟨#[95]⟩ : ByteArray)) ++ (rdOf ByteArray.empty t200 (ji24))) ++ x13_26) t222 t223 t224 t225 _ ?side1 A69.out).mono ?_); (case side1 => exact Tabs.below HT.out (by repeat (first | (with_reducible first | exact HB.out | apply below_alloc | apply pw_below_drewN | apply below_drew1) | exact HB.out))); rintro e w78 ⟨rfl, hb⟩; have n0_ := Aside0.mk (Kd.R_below (by (with_reducible repeat (first | apply Kd.R_alloc | apply Kd.R_drewN | apply Kd.R_drew)); exact HO207.out) hb); have n1_ := Aside0.mk (below_step (by repeat (first | (with_reducible first | exact HB.out | apply below_alloc | apply pw_below_drewN | apply below_drew1) | exact HB.out)) hb); clear HO207; clear HB; have HO207 := n0_; have HB := n1_; clear n0_ n1_; (try clear hb); (try clear hb2); (try clear hk); (try clear hi)) | (go_at_call 9; (with_reducible refine (suffix_Of.calls kj26 (((a0 ++ (⟨#[95]⟩ : ByteArray)) ++ (rdOf ByteArray.empty t197 (ji20))) ++ x13_26) t226 t227 t228 t229 _ ?side1 A72.out).mono ?_); (case side1 => exact Tabs.below HT.out (by repeat (first | (with_reducible first | exact HB.out | apply below_alloc | apply pw_below_drewN | apply below_drew1) | exact HB.out))); rintro e w79 ⟨rfl, hb⟩; have n0_ := Aside0.mk (Kd.R_below (by (with_reducible repeat (first | apply Kd.R_alloc | apply Kd.R_drewN | apply Kd.R_drew)); exact HO207.out) hb); have n1_ := Aside0.mk (below_step (by repeat (first | (with_reducible first | exact HB.out | apply below_alloc | apply pw_below_drewN | apply below_drew1) | exact HB.out)) hb); clear HO207; clear HB; have HO207 := n0_; have HB := n1_; clear n0_ n1_; (try clear hb); (try clear hb2); (try clear hk); (try clear hi))); try go_wp2_with (first | (go_at_call 12; (with_reducible refine (seicheref14_Cut.calls kj26 a0 95 t205 _ A33.out).mono ?_); rintro e w75 ⟨v206, rfl, ho0, hb⟩; have n0_ := Aside0.mk (Kd.R_lower ho0 (below_size (by repeat (first | (with_reducible first | exact HB.out | apply below_alloc | apply pw_below_drewN | apply below_drew1) | exact HB.out)))); have n1_ := Aside0.mk (below_step (by repeat (first | (with_reducible first | exact HB.out | apply below_alloc | apply pw_below_drewN | apply below_drew1) | exact HB.out)) hb); clear HB; have HO207 := n0_; have HB := n1_; clear n0_ n1_; (try clear hb); (try clear hb2); (try clear hk); (try clear hi); (try clear ho0); obtain ⟨Ao76, co76, eo76⟩ := Kd.R_slice HO207.out; subst eo76; have p220 : 0 ≤ ((ji60) : Int) := of_decide_eq_true (by first | (with_reducible assumption) | assumption); have q220 : (ji60) < (t205.length : Int) := of_decide_eq_true (by first | (with_reducible assumption) | assumption); obtain ⟨ad220, e220, hx220_0⟩ := Kd.at_string (Kd.R_reads' HO207.out).2.2 (ji60) p220 q220; cases e220; replace p220 := eq_true p220; replace q220 := eq_true q220) | (go_at_call 13; (with_reducible refine (seicheref15_System.calls kj26 (rdOf ByteArray.empty t205 (ji60)) true _ A63.out).mono ?_); rintro e w77 ⟨rfl, hb⟩; have n0_ := Aside0.mk (Kd.R_below (by (with_reducible repeat (first | apply Kd.R_alloc | apply Kd.R_drewN | apply Kd.R_drew)); exact HO207.out) hb); have n1_ := Aside0.mk (below_step (by repeat (first | (with_reducible first | exact HB.out | apply below_alloc | apply pw_below_drewN | apply below_drew1) | exact HB.out)) hb); clear HO207; clear HB; have HO207 := n0_; have HB := n1_; clear n0_ n1_; (try clear hb); (try clear hb2); (try clear hk); (try clear hi)) | (go_at_call 9; (with_reducible refine (suffix_Of.calls kj26 (((((a0 ++ (⟨#[95]⟩ : ByteArray)) ++ (rdOf ByteArray.empty t197 (ji20))) ++ (⟨#[95]⟩ : ByteArray)) ++ (rdOf ByteArray.empty t200 (ji24))) ++ x13_26) t222 t223 t224 t225 _ ?side1 A69.out).mono ?_); (case side1 => exact Tabs.below HT.out (by repeat (first | (with_reducible first | exact HB.out | apply below_alloc | apply pw_below_drewN | apply below_drew1) | exact HB.out))); rintro e w78 ⟨rfl, hb⟩; have n0_ := Aside0.mk (Kd.R_below (by (with_reducible repeat (first | apply Kd.R_alloc | apply Kd.R_drewN | apply Kd.R_drew)); exact HO207.out) hb); have n1_ := Aside0.mk (below_step (by repeat (first | (with_reducible first | exact HB.out | apply below_alloc | apply pw_below_drewN | apply below_drew1) | exact HB.out)) hb); clear HO207; clear HB; have HO207 := n0_; have HB := n1_; clear n0_ n1_; (try clear hb); (try clear hb2); (try clear hk); (try clear hi)) | (go_at_call 9; (with_reducible refine (suffix_Of.calls kj26 (((a0 ++ (⟨#[95]⟩ : ByteArray)) ++ (rdOf ByteArray.empty t197 (ji20))) ++ x13_26) t226 t227 t228 t229 _ ?side1 A72.out).mono ?_); (case side1 => exact Tabs.below HT.out (by repeat (first | (with_reducible first | exact HB.out | apply below_alloc | apply pw_below_drewN | apply below_drew1) | exact HB.out))); rintro e w79 ⟨rfl, hb⟩; have n0_ := Aside0.mk (Kd.R_below (by (with_reducible repeat (first | apply Kd.R_alloc | apply Kd.R_drewN | apply Kd.R_drew)); exact HO207.out) hb); have n1_ := Aside0.mk (below_step (by repeat (first | (with_reducible first | exact HB.out | apply below_alloc | apply pw_below_drewN | apply below_drew1) | exact HB.out)) hb); clear HO207; clear HB; have HO207 := n0_; have HB := n1_; clear n0_ n1_; (try clear hb); (try clear hb2); (try clear hk); (try clear hi))))
                                                  go_ret
                                                  exact ⟨by first | rfl | (simp [errW_none, errW_some] <;> rfl) | (simp only [← hji20, ← hji24, ← hji60]; first | rfl | (simp [errW_none, errW_some] <;> rfl)) | (simp [*, errW_none, errW_some] <;> rfl), by repeat (first | (with_reducible first | exact HB.out | apply below_alloc | apply pw_below_drewN | apply below_drew1) | exact HB.out)⟩
                                                · replace c74 := Bool.eq_false_iff.mpr c74
                                                  subst c74
                                                  have H1 : (if (a0 ++ (⟨#[95]⟩ : ByteArray)).size + (rdOf ByteArray.empty t200 (ji24)).size ≤ 9223372036854775807 then (if ((a0 ++ (⟨#[95]⟩ : ByteArray)) ++ (rdOf ByteArray.empty t200 (ji24))).size + x13_26.size ≤ 9223372036854775807 then ((suffix_Of.f kj26 (((a0 ++ (⟨#[95]⟩ : ByteArray)) ++ (rdOf ByteArray.empty t200 (ji24))) ++ x13_26)).bind fun bt230 => (some (bt230.1 && (bt230.2.1 == a3 && (bt230.2.2.1.toList == ([] : List UInt8) && (bt230.2.2.2.toList == (rdOf ByteArray.empty t200 (ji24)).toList)))))) else (none)) else (none)) = some r := by rw [if_neg (show ¬ (false = true) by decide)] at H; exact H
                                                  clear H
                                                  have H := H1
                                                  clear H1
                                                  by_cases c80 : (a0 ++ (⟨#[95]⟩ : ByteArray)).size + (rdOf ByteArray.empty t200 (ji24)).size ≤ 9223372036854775807
                                                  · rw [if_pos c80] at H
                                                    have c80b0 := eq_true c80
                                                    have c80b1 : decide ((a0 ++ (⟨#[95]⟩ : ByteArray)).size + (rdOf ByteArray.empty t200 (ji24)).size ≤ 9223372036854775807) = true := decide_eq_true c80
                                                    try have c80b2 : (9223372036854775807 < (a0 ++ (⟨#[95]⟩ : ByteArray)).size + (rdOf ByteArray.empty t200 (ji24)).size) = False := eq_false (Nat.not_lt.2 c80)
                                                    try have c80b3 : (9223372036854775807 < a0.size + 1 + (rdOf ByteArray.empty t200 (ji24)).size) = False := eq_false (Nat.not_lt.2 (by have h_ := c80; simp only [ByteArray.size_append] at h_; exact h_))
                                                    by_cases c81 : ((a0 ++ (⟨#[95]⟩ : ByteArray)) ++ (rdOf ByteArray.empty t200 (ji24))).size + x13_26.size ≤ 9223372036854775807
                                                    · rw [if_pos c81] at H
                                                      have c81b0 := eq_true c81
                                                      have c81b1 : decide (((a0 ++ (⟨#[95]⟩ : ByteArray)) ++ (rdOf ByteArray.empty t200 (ji24))).size + x13_26.size ≤ 9223372036854775807) = true := decide_eq_true c81
                                                      try have c81b2 : (9223372036854775807 < ((a0 ++ (⟨#[95]⟩ : ByteArray)) ++ (rdOf ByteArray.empty t200 (ji24))).size + x13_26.size) = False := eq_false (Nat.not_lt.2 c81)
                                                      try have c81b3 : (9223372036854775807 < a0.size + 1 + (rdOf ByteArray.empty t200 (ji24)).size + x13_26.size) = False := eq_false (Nat.not_lt.2 (by have h_ := c81; simp only [ByteArray.size_append] at h_; exact h_))
                                                      replace H := Option.bind_eq_some_iff.mp H
                                                      obtain ⟨⟨t230, t231, t232, t233⟩, A820, H⟩ := H
                                                      replace H : (some (t230 && (t231 == a3 && (t232.toList == ([] : List UInt8) && (t233.toList == (rdOf ByteArray.empty t200 (ji24)).toList))))) = some r := H
                                                      have A82 := Aside0.mk A820
                                                      clear A820
                                                      obtain rfl := Option.some.inj H
                                                      go_wp2_with (first | (go_at_call 12; (with_reducible refine (seicheref14_Cut.calls kj26 a0 95 t205 _ A33.out).mono ?_); rintro e w83 ⟨v206, rfl, ho0, hb⟩; have n0_ := Aside0.mk (Kd.R_lower ho0 (below_size (by repeat (first | (with_reducible first | exact HB.out | apply below_alloc | apply pw_below_drewN | apply below_drew1) | exact HB.out)))); have n1_ := Aside0.mk (below_step (by repeat (first | (with_reducible first | exact HB.out | apply below_alloc | apply pw_below_drewN | apply below_drew1) | exact HB.out)) hb); clear HB; have HO207 := n0_; have HB := n1_; clear n0_ n1_; (try clear hb); (try clear hb2); (try clear hk); (try clear hi); (try clear ho0); obtain ⟨Ao84, co84, eo84⟩ := Kd.R_slice HO207.out; subst eo84; have p220 : 0 ≤ ((ji60) : Int) := of_decide_eq_true (by first | (with_reducible assumption) | assumption); have q220 : (ji60) < (t205.length : Int) := of_decide_eq_true (by first | (with_reducible assumption) | assumption); obtain ⟨ad220, e220, hx220_0⟩ := Kd.at_string (Kd.R_reads' HO207.out).2.2 (ji60) p220 q220; cases e220; replace p220 := eq_true p220; replace q220 := eq_true q220) | (go_at_call 13; (with_reducible refine (seicheref15_System.calls kj26 (rdOf ByteArray.empty t205 (ji60)) false _ A63.out).mono ?_); rintro e w85 ⟨rfl, hb⟩; have n0_ := Aside0.mk (Kd.R_below (by (with_reducible repeat (first | apply Kd.R_alloc | apply Kd.R_drewN | apply Kd.R_drew)); exact HO207.out) hb); have n1_ := Aside0.mk (below_step (by repeat (first | (with_reducible first | exact HB.out | apply below_alloc | apply pw_below_drewN | apply below_drew1) | exact HB.out)) hb); clear HO207; clear HB; have HO207 := n0_; have HB := n1_; clear n0_ n1_; (try clear hb); (try clear hb2); (try clear hk); (try clear hi)) | (go_at_call 9; (with_reducible refine (suffix_Of.calls kj26 (((((a0 ++ (⟨#[95]⟩ : ByteArray)) ++ (rdOf ByteArray.empty t197 (ji20))) ++ (⟨#[95]⟩ : ByteArray)) ++ (rdOf ByteArray.empty t200 (ji24))) ++ x13_26) t222 t223 t224 t225 _ ?side1 A69.out).mono ?_); (case side1 => exact Tabs.below HT.out (by repeat (first | (with_reducible first | exact HB.out | apply below_alloc | apply pw_below_drewN | apply below_drew1) | exact HB.out))); rintro e w86 ⟨rfl, hb⟩; have n0_ := Aside0.mk (Kd.R_below (by (with_reducible repeat (first | apply Kd.R_alloc | apply Kd.R_drewN | apply Kd.R_drew)); exact HO207.out) hb); have n1_ := Aside0.mk (below_step (by repeat (first | (with_reducible first | exact HB.out | apply below_alloc | apply pw_below_drewN | apply below_drew1) | exact HB.out)) hb); clear HO207; clear HB; have HO207 := n0_; have HB := n1_; clear n0_ n1_; (try clear hb); (try clear hb2); (try clear hk); (try clear hi)) | (go_at_call 9; (with_reducible refine (suffix_Of.calls kj26 (((a0 ++ (⟨#[95]⟩ : ByteArray)) ++ (rdOf ByteArray.empty t197 (ji20))) ++ x13_26) t226 t227 t228 t229 _ ?side1 A72.out).mono ?_); (case side1 => exact Tabs.below HT.out (by repeat (first | (with_reducible first | exact HB.out | apply below_alloc | apply pw_below_drewN | apply below_drew1) | exact HB.out))); rintro e w87 ⟨rfl, hb⟩; have n0_ := Aside0.mk (Kd.R_below (by (with_reducible repeat (first | apply Kd.R_alloc | apply Kd.R_drewN | apply Kd.R_drew)); exact HO207.out) hb); have n1_ := Aside0.mk (below_step (by repeat (first | (with_reducible first | exact HB.out | apply below_alloc | apply pw_below_drewN | apply below_drew1) | exact HB.out)) hb); clear HO207; clear HB; have HO207 := n0_; have HB := n1_; clear n0_ n1_; (try clear hb); (try clear hb2); (try clear hk); (try clear hi)) | (go_at_call 9; (with_reducible refine (suffix_Of.calls kj26 (((a0 ++ (⟨#[95]⟩ : ByteArray)) ++ (rdOf ByteArray.empty t200 (ji24))) ++ x13_26) t230 t231 t232 t233 _ ?side1 A82.out).mono ?_); (case side1 => exact Tabs.below HT.out (by repeat (first | (with_reducible first | exact HB.out | apply below_alloc | apply pw_below_drewN | apply below_drew1) | exact HB.out))); rintro e w88 ⟨rfl, hb⟩; have n0_ := Aside0.mk (Kd.R_below (by (with_reducible repeat (first | apply Kd.R_alloc | apply Kd.R_drewN | apply Kd.R_drew)); exact HO207.out) hb); have n1_ := Aside0.mk (below_step (by repeat (first | (with_reducible first | exact HB.out | apply below_alloc | apply pw_below_drewN | apply below_drew1) | exact HB.out)) hb); clear HO207; clear HB; have HO207 := n0_; have HB := n1_; clear n0_ n1_; (try clear hb); (try clear hb2); (try clear hk); (try clear hi)))
                                                      repeat (go_quiet (first | (go_at_call 12; (with_reducible refine (seicheref14_Cut.calls kj26 a0 95 t205 _ A33.out).mono ?_); rintro e w83 ⟨v206, rfl, ho0, hb⟩; have n0_ := Aside0.mk (Kd.R_lower ho0 (below_size (by repeat (first | (with_reducible first | exact HB.out | apply below_alloc | apply pw_below_drewN | apply below_drew1) | exact HB.out)))); have n1_ := Aside0.mk (below_step (by repeat (first | (with_reducible first | exact HB.out | apply below_alloc | apply pw_below_drewN | apply below_drew1) | exact HB.out)) hb); clear HB; have HO207 := n0_; have HB := n1_; clear n0_ n1_; (try clear hb); (try clear hb2); (try clear hk); (try clear hi); (try clear ho0); obtain ⟨Ao84, co84, eo84⟩ := Kd.R_slice HO207.out; subst eo84; have p220 : 0 ≤ ((ji60) : Int) := of_decide_eq_true (by first | (with_reducible assumption) | assumption); have q220 : (ji60) < (t205.length : Int) := of_decide_eq_true (by first | (with_reducible assumption) | assumption); obtain ⟨ad220, e220, hx220_0⟩ := Kd.at_string (Kd.R_reads' HO207.out).2.2 (ji60) p220 q220; cases e220; replace p220 := eq_true p220; replace q220 := eq_true q220) | (go_at_call 13; (with_reducible refine (seicheref15_System.calls kj26 (rdOf ByteArray.empty t205 (ji60)) false _ A63.out).mono ?_); rintro e w85 ⟨rfl, hb⟩; have n0_ := Aside0.mk (Kd.R_below (by (with_reducible repeat (first | apply Kd.R_alloc | apply Kd.R_drewN | apply Kd.R_drew)); exact HO207.out) hb); have n1_ := Aside0.mk (below_step (by repeat (first | (with_reducible first | exact HB.out | apply below_alloc | apply pw_below_drewN | apply below_drew1) | exact HB.out)) hb); clear HO207; clear HB; have HO207 := n0_; have HB := n1_; clear n0_ n1_; (try clear hb); (try clear hb2); (try clear hk); (try clear hi)) | (go_at_call 9; (with_reducible refine (suffix_Of.calls kj26 (((((a0 ++ (⟨#[95]⟩ : ByteArray)) ++ (rdOf ByteArray.empty t197 (ji20))) ++ (⟨#[95]⟩ : ByteArray)) ++ (rdOf ByteArray.empty t200 (ji24))) ++ x13_26) t222 t223 t224 t225 _ ?side1 A69.out).mono ?_); (case side1 => exact Tabs.below HT.out (by repeat (first | (with_reducible first | exact HB.out | apply below_alloc | apply pw_below_drewN | apply below_drew1) | exact HB.out))); rintro e w86 ⟨rfl, hb⟩; have n0_ := Aside0.mk (Kd.R_below (by (with_reducible repeat (first | apply Kd.R_alloc | apply Kd.R_drewN | apply Kd.R_drew)); exact HO207.out) hb); have n1_ := Aside0.mk (below_step (by repeat (first | (with_reducible first | exact HB.out | apply below_alloc | apply pw_below_drewN | apply below_drew1) | exact HB.out)) hb); clear HO207; clear HB; have HO207 := n0_; have HB := n1_; clear n0_ n1_; (try clear hb); (try clear hb2); (try clear hk); (try clear hi)) | (go_at_call 9; (with_reducible refine (suffix_Of.calls kj26 (((a0 ++ (⟨#[95]⟩ : ByteArray)) ++ (rdOf ByteArray.empty t197 (ji20))) ++ x13_26) t226 t227 t228 t229 _ ?side1 A72.out).mono ?_); (case side1 => exact Tabs.below HT.out (by repeat (first | (with_reducible first | exact HB.out | apply below_alloc | apply pw_below_drewN | apply below_drew1) | exact HB.out))); rintro e w87 ⟨rfl, hb⟩; have n0_ := Aside0.mk (Kd.R_below (by (with_reducible repeat (first | apply Kd.R_alloc | apply Kd.R_drewN | apply Kd.R_drew)); exact HO207.out) hb); have n1_ := Aside0.mk (below_step (by repeat (first | (with_reducible first | exact HB.out | apply below_alloc | apply pw_below_drewN | apply below_drew1) | exact HB.out)) hb); clear HO207; clear HB; have HO207 := n0_; have HB := n1_; clear n0_ n1_; (try clear hb); (try clear hb2); (try clear hk); (try clear hi)) | (go_at_call 9; (with_reducible refine (suffix_Of.calls kj26 (((a0 ++ (⟨#[95]⟩ : ByteArray)) ++ (rdOf ByteArray.empty t200 (ji24))) ++ x13_26) t230 t231 t232 t233 _ ?side1 A82.out).mono ?_); (case side1 => exact Tabs.below HT.out (by repeat (first | (with_reducible first | exact HB.out | apply below_alloc | apply pw_below_drewN | apply below_drew1) | exact HB.out))); rintro e w88 ⟨rfl, hb⟩; have n0_ := Aside0.mk (Kd.R_below (by (with_reducible repeat (first | apply Kd.R_alloc | apply Kd.R_drewN | apply Kd.R_drew)); exact HO207.out) hb); have n1_ := Aside0.mk (below_step (by repeat (first | (with_reducible first | exact HB.out | apply below_alloc | apply pw_below_drewN | apply below_drew1) | exact HB.out)) hb); clear HO207; clear HB; have HO207 := n0_; have HB := n1_; clear n0_ n1_; (try clear hb); (try clear hb2); (try clear hk); (try clear hi))); try go_wp2_with (first | (go_at_call 12; (with_reducible refine (seicheref14_Cut.calls kj26 a0 95 t205 _ A33.out).mono ?_); rintro e w83 ⟨v206, rfl, ho0, hb⟩; have n0_ := Aside0.mk (Kd.R_lower ho0 (below_size (by repeat (first | (with_reducible first | exact HB.out | apply below_alloc | apply pw_below_drewN | apply below_drew1) | exact HB.out)))); have n1_ := Aside0.mk (below_step (by repeat (first | (with_reducible first | exact HB.out | apply below_alloc | apply pw_below_drewN | apply below_drew1) | exact HB.out)) hb); clear HB; have HO207 := n0_; have HB := n1_; clear n0_ n1_; (try clear hb); (try clear hb2); (try clear hk); (try clear hi); (try clear ho0); obtain ⟨Ao84, co84, eo84⟩ := Kd.R_slice HO207.out; subst eo84; have p220 : 0 ≤ ((ji60) : Int) := of_decide_eq_true (by first | (with_reducible assumption) | assumption); have q220 : (ji60) < (t205.length : Int) := of_decide_eq_true (by first | (with_reducible assumption) | assumption); obtain ⟨ad220, e220, hx220_0⟩ := Kd.at_string (Kd.R_reads' HO207.out).2.2 (ji60) p220 q220; cases e220; replace p220 := eq_true p220; replace q220 := eq_true q220) | (go_at_call 13; (with_reducible refine (seicheref15_System.calls kj26 (rdOf ByteArray.empty t205 (ji60)) false _ A63.out).mono ?_); rintro e w85 ⟨rfl, hb⟩; have n0_ := Aside0.mk (Kd.R_below (by (with_reducible repeat (first | apply Kd.R_alloc | apply Kd.R_drewN | apply Kd.R_drew)); exact HO207.out) hb); have n1_ := Aside0.mk (below_step (by repeat (first | (with_reducible first | exact HB.out | apply below_alloc | apply pw_below_drewN | apply below_drew1) | exact HB.out)) hb); clear HO207; clear HB; have HO207 := n0_; have HB := n1_; clear n0_ n1_; (try clear hb); (try clear hb2); (try clear hk); (try clear hi)) | (go_at_call 9; (with_reducible refine (suffix_Of.calls kj26 (((((a0 ++ (⟨#[95]⟩ : ByteArray)) ++ (rdOf ByteArray.empty t197 (ji20))) ++ (⟨#[95]⟩ : ByteArray)) ++ (rdOf ByteArray.empty t200 (ji24))) ++ x13_26) t222 t223 t224 t225 _ ?side1 A69.out).mono ?_); (case side1 => exact Tabs.below HT.out (by repeat (first | (with_reducible first | exact HB.out | apply below_alloc | apply pw_below_drewN | apply below_drew1) | exact HB.out))); rintro e w86 ⟨rfl, hb⟩; have n0_ := Aside0.mk (Kd.R_below (by (with_reducible repeat (first | apply Kd.R_alloc | apply Kd.R_drewN | apply Kd.R_drew)); exact HO207.out) hb); have n1_ := Aside0.mk (below_step (by repeat (first | (with_reducible first | exact HB.out | apply below_alloc | apply pw_below_drewN | apply below_drew1) | exact HB.out)) hb); clear HO207; clear HB; have HO207 := n0_; have HB := n1_; clear n0_ n1_; (try clear hb); (try clear hb2); (try clear hk); (try clear hi)) | (go_at_call 9; (with_reducible refine (suffix_Of.calls kj26 (((a0 ++ (⟨#[95]⟩ : ByteArray)) ++ (rdOf ByteArray.empty t197 (ji20))) ++ x13_26) t226 t227 t228 t229 _ ?side1 A72.out).mono ?_); (case side1 => exact Tabs.below HT.out (by repeat (first | (with_reducible first | exact HB.out | apply below_alloc | apply pw_below_drewN | apply below_drew1) | exact HB.out))); rintro e w87 ⟨rfl, hb⟩; have n0_ := Aside0.mk (Kd.R_below (by (with_reducible repeat (first | apply Kd.R_alloc | apply Kd.R_drewN | apply Kd.R_drew)); exact HO207.out) hb); have n1_ := Aside0.mk (below_step (by repeat (first | (with_reducible first | exact HB.out | apply below_alloc | apply pw_below_drewN | apply below_drew1) | exact HB.out)) hb); clear HO207; clear HB; have HO207 := n0_; have HB := n1_; clear n0_ n1_; (try clear hb); (try clear hb2); (try clear hk); (try clear hi)) | (go_at_call 9; (with_reducible refine (suffix_Of.calls kj26 (((a0 ++ (⟨#[95]⟩ : ByteArray)) ++ (rdOf ByteArray.empty t200 (ji24))) ++ x13_26) t230 t231 t232 t233 _ ?side1 A82.out).mono ?_); (case side1 => exact Tabs.below HT.out (by repeat (first | (with_reducible first | exact HB.out | apply below_alloc | apply pw_below_drewN | apply below_drew1) | exact HB.out))); rintro e w88 ⟨rfl, hb⟩; have n0_ := Aside0.mk (Kd.R_below (by (with_reducible repeat (first | apply Kd.R_alloc | apply Kd.R_drewN | apply Kd.R_drew)); exact HO207.out) hb); have n1_ := Aside0.mk (below_step (by repeat (first | (with_reducible first | exact HB.out | apply below_alloc | apply pw_below_drewN | apply below_drew1) | exact HB.out)) hb); clear HO207; clear HB; have HO207 := n0_; have HB := n1_; clear n0_ n1_; (try clear hb); (try clear hb2); (try clear hk); (try clear hi))))
                                                      go_ret
                                                      exact ⟨by first | rfl | (simp [errW_none, errW_some] <;> rfl) | (simp only [← hji20, ← hji24, ← hji60]; first | rfl | (simp [errW_none, errW_some] <;> rfl)) | (simp [*, errW_none, errW_some] <;> rfl), by repeat (first | (with_reducible first | exact HB.out | apply below_alloc | apply pw_below_drewN | apply below_drew1) | exact HB.out)⟩
                                                    · rw [if_neg c81] at H
                                                      exact absurd H (by simp)
                                                  · rw [if_neg c80] at H
                                                    exact absurd H (by simp)
                                              · rw [if_neg c73] at H
                                                have c73b0 : (t226 && (t227 == a3 && (t228.toList == (rdOf ByteArray.empty t197 (ji20)).toList && (t229.toList == ([] : List UInt8))))) = false := by simpa using c73
                                                have c73p_ : ¬ ((t226 && (t227 == a3 && (t228.toList == (rdOf ByteArray.empty t197 (ji20)).toList && (t229.toList == ([] : List UInt8))))) = true) := by rw [c73b0]; decide
                                                simp only [Bool.and_eq_true, beq_iff_eq] at c73p_
                                                have c73q_ := eq_false c73p_
                                                clear c73p_
                                                clear c73
                                                obtain rfl := Option.some.inj H
                                                go_wp2_with (first | (go_at_call 12; (with_reducible refine (seicheref14_Cut.calls kj26 a0 95 t205 _ A33.out).mono ?_); rintro e w89 ⟨v206, rfl, ho0, hb⟩; have n0_ := Aside0.mk (Kd.R_lower ho0 (below_size (by repeat (first | (with_reducible first | exact HB.out | apply below_alloc | apply pw_below_drewN | apply below_drew1) | exact HB.out)))); have n1_ := Aside0.mk (below_step (by repeat (first | (with_reducible first | exact HB.out | apply below_alloc | apply pw_below_drewN | apply below_drew1) | exact HB.out)) hb); clear HB; have HO207 := n0_; have HB := n1_; clear n0_ n1_; (try clear hb); (try clear hb2); (try clear hk); (try clear hi); (try clear ho0); obtain ⟨Ao90, co90, eo90⟩ := Kd.R_slice HO207.out; subst eo90; have p220 : 0 ≤ ((ji60) : Int) := of_decide_eq_true (by first | (with_reducible assumption) | assumption); have q220 : (ji60) < (t205.length : Int) := of_decide_eq_true (by first | (with_reducible assumption) | assumption); obtain ⟨ad220, e220, hx220_0⟩ := Kd.at_string (Kd.R_reads' HO207.out).2.2 (ji60) p220 q220; cases e220; replace p220 := eq_true p220; replace q220 := eq_true q220) | (go_at_call 13; (with_reducible refine (seicheref15_System.calls kj26 (rdOf ByteArray.empty t205 (ji60)) t221 _ A63.out).mono ?_); rintro e w91 ⟨rfl, hb⟩; have n0_ := Aside0.mk (Kd.R_below (by (with_reducible repeat (first | apply Kd.R_alloc | apply Kd.R_drewN | apply Kd.R_drew)); exact HO207.out) hb); have n1_ := Aside0.mk (below_step (by repeat (first | (with_reducible first | exact HB.out | apply below_alloc | apply pw_below_drewN | apply below_drew1) | exact HB.out)) hb); clear HO207; clear HB; have HO207 := n0_; have HB := n1_; clear n0_ n1_; (try clear hb); (try clear hb2); (try clear hk); (try clear hi)) | (go_at_call 9; (with_reducible refine (suffix_Of.calls kj26 (((((a0 ++ (⟨#[95]⟩ : ByteArray)) ++ (rdOf ByteArray.empty t197 (ji20))) ++ (⟨#[95]⟩ : ByteArray)) ++ (rdOf ByteArray.empty t200 (ji24))) ++ x13_26) t222 t223 t224 t225 _ ?side1 A69.out).mono ?_); (case side1 => exact Tabs.below HT.out (by repeat (first | (with_reducible first | exact HB.out | apply below_alloc | apply pw_below_drewN | apply below_drew1) | exact HB.out))); rintro e w92 ⟨rfl, hb⟩; have n0_ := Aside0.mk (Kd.R_below (by (with_reducible repeat (first | apply Kd.R_alloc | apply Kd.R_drewN | apply Kd.R_drew)); exact HO207.out) hb); have n1_ := Aside0.mk (below_step (by repeat (first | (with_reducible first | exact HB.out | apply below_alloc | apply pw_below_drewN | apply below_drew1) | exact HB.out)) hb); clear HO207; clear HB; have HO207 := n0_; have HB := n1_; clear n0_ n1_; (try clear hb); (try clear hb2); (try clear hk); (try clear hi)) | (go_at_call 9; (with_reducible refine (suffix_Of.calls kj26 (((a0 ++ (⟨#[95]⟩ : ByteArray)) ++ (rdOf ByteArray.empty t197 (ji20))) ++ x13_26) t226 t227 t228 t229 _ ?side1 A72.out).mono ?_); (case side1 => exact Tabs.below HT.out (by repeat (first | (with_reducible first | exact HB.out | apply below_alloc | apply pw_below_drewN | apply below_drew1) | exact HB.out))); rintro e w93 ⟨rfl, hb⟩; have n0_ := Aside0.mk (Kd.R_below (by (with_reducible repeat (first | apply Kd.R_alloc | apply Kd.R_drewN | apply Kd.R_drew)); exact HO207.out) hb); have n1_ := Aside0.mk (below_step (by repeat (first | (with_reducible first | exact HB.out | apply below_alloc | apply pw_below_drewN | apply below_drew1) | exact HB.out)) hb); clear HO207; clear HB; have HO207 := n0_; have HB := n1_; clear n0_ n1_; (try clear hb); (try clear hb2); (try clear hk); (try clear hi)))
                                                repeat (go_quiet (first | (go_at_call 12; (with_reducible refine (seicheref14_Cut.calls kj26 a0 95 t205 _ A33.out).mono ?_); rintro e w89 ⟨v206, rfl, ho0, hb⟩; have n0_ := Aside0.mk (Kd.R_lower ho0 (below_size (by repeat (first | (with_reducible first | exact HB.out | apply below_alloc | apply pw_below_drewN | apply below_drew1) | exact HB.out)))); have n1_ := Aside0.mk (below_step (by repeat (first | (with_reducible first | exact HB.out | apply below_alloc | apply pw_below_drewN | apply below_drew1) | exact HB.out)) hb); clear HB; have HO207 := n0_; have HB := n1_; clear n0_ n1_; (try clear hb); (try clear hb2); (try clear hk); (try clear hi); (try clear ho0); obtain ⟨Ao90, co90, eo90⟩ := Kd.R_slice HO207.out; subst eo90; have p220 : 0 ≤ ((ji60) : Int) := of_decide_eq_true (by first | (with_reducible assumption) | assumption); have q220 : (ji60) < (t205.length : Int) := of_decide_eq_true (by first | (with_reducible assumption) | assumption); obtain ⟨ad220, e220, hx220_0⟩ := Kd.at_string (Kd.R_reads' HO207.out).2.2 (ji60) p220 q220; cases e220; replace p220 := eq_true p220; replace q220 := eq_true q220) | (go_at_call 13; (with_reducible refine (seicheref15_System.calls kj26 (rdOf ByteArray.empty t205 (ji60)) t221 _ A63.out).mono ?_); rintro e w91 ⟨rfl, hb⟩; have n0_ := Aside0.mk (Kd.R_below (by (with_reducible repeat (first | apply Kd.R_alloc | apply Kd.R_drewN | apply Kd.R_drew)); exact HO207.out) hb); have n1_ := Aside0.mk (below_step (by repeat (first | (with_reducible first | exact HB.out | apply below_alloc | apply pw_below_drewN | apply below_drew1) | exact HB.out)) hb); clear HO207; clear HB; have HO207 := n0_; have HB := n1_; clear n0_ n1_; (try clear hb); (try clear hb2); (try clear hk); (try clear hi)) | (go_at_call 9; (with_reducible refine (suffix_Of.calls kj26 (((((a0 ++ (⟨#[95]⟩ : ByteArray)) ++ (rdOf ByteArray.empty t197 (ji20))) ++ (⟨#[95]⟩ : ByteArray)) ++ (rdOf ByteArray.empty t200 (ji24))) ++ x13_26) t222 t223 t224 t225 _ ?side1 A69.out).mono ?_); (case side1 => exact Tabs.below HT.out (by repeat (first | (with_reducible first | exact HB.out | apply below_alloc | apply pw_below_drewN | apply below_drew1) | exact HB.out))); rintro e w92 ⟨rfl, hb⟩; have n0_ := Aside0.mk (Kd.R_below (by (with_reducible repeat (first | apply Kd.R_alloc | apply Kd.R_drewN | apply Kd.R_drew)); exact HO207.out) hb); have n1_ := Aside0.mk (below_step (by repeat (first | (with_reducible first | exact HB.out | apply below_alloc | apply pw_below_drewN | apply below_drew1) | exact HB.out)) hb); clear HO207; clear HB; have HO207 := n0_; have HB := n1_; clear n0_ n1_; (try clear hb); (try clear hb2); (try clear hk); (try clear hi)) | (go_at_call 9; (with_reducible refine (suffix_Of.calls kj26 (((a0 ++ (⟨#[95]⟩ : ByteArray)) ++ (rdOf ByteArray.empty t197 (ji20))) ++ x13_26) t226 t227 t228 t229 _ ?side1 A72.out).mono ?_); (case side1 => exact Tabs.below HT.out (by repeat (first | (with_reducible first | exact HB.out | apply below_alloc | apply pw_below_drewN | apply below_drew1) | exact HB.out))); rintro e w93 ⟨rfl, hb⟩; have n0_ := Aside0.mk (Kd.R_below (by (with_reducible repeat (first | apply Kd.R_alloc | apply Kd.R_drewN | apply Kd.R_drew)); exact HO207.out) hb); have n1_ := Aside0.mk (below_step (by repeat (first | (with_reducible first | exact HB.out | apply below_alloc | apply pw_below_drewN | apply below_drew1) | exact HB.out)) hb); clear HO207; clear HB; have HO207 := n0_; have HB := n1_; clear n0_ n1_; (try clear hb); (try clear hb2); (try clear hk); (try clear hi))); try go_wp2_with (first | (go_at_call 12; (with_reducible refine (seicheref14_Cut.calls kj26 a0 95 t205 _ A33.out).mono ?_); rintro e w89 ⟨v206, rfl, ho0, hb⟩; have n0_ := Aside0.mk (Kd.R_lower ho0 (below_size (by repeat (first | (with_reducible first | exact HB.out | apply below_alloc | apply pw_below_drewN | apply below_drew1) | exact HB.out)))); have n1_ := Aside0.mk (below_step (by repeat (first | (with_reducible first | exact HB.out | apply below_alloc | apply pw_below_drewN | apply below_drew1) | exact HB.out)) hb); clear HB; have HO207 := n0_; have HB := n1_; clear n0_ n1_; (try clear hb); (try clear hb2); (try clear hk); (try clear hi); (try clear ho0); obtain ⟨Ao90, co90, eo90⟩ := Kd.R_slice HO207.out; subst eo90; have p220 : 0 ≤ ((ji60) : Int) := of_decide_eq_true (by first | (with_reducible assumption) | assumption); have q220 : (ji60) < (t205.length : Int) := of_decide_eq_true (by first | (with_reducible assumption) | assumption); obtain ⟨ad220, e220, hx220_0⟩ := Kd.at_string (Kd.R_reads' HO207.out).2.2 (ji60) p220 q220; cases e220; replace p220 := eq_true p220; replace q220 := eq_true q220) | (go_at_call 13; (with_reducible refine (seicheref15_System.calls kj26 (rdOf ByteArray.empty t205 (ji60)) t221 _ A63.out).mono ?_); rintro e w91 ⟨rfl, hb⟩; have n0_ := Aside0.mk (Kd.R_below (by (with_reducible repeat (first | apply Kd.R_alloc | apply Kd.R_drewN | apply Kd.R_drew)); exact HO207.out) hb); have n1_ := Aside0.mk (below_step (by repeat (first | (with_reducible first | exact HB.out | apply below_alloc | apply pw_below_drewN | apply below_drew1) | exact HB.out)) hb); clear HO207; clear HB; have HO207 := n0_; have HB := n1_; clear n0_ n1_; (try clear hb); (try clear hb2); (try clear hk); (try clear hi)) | (go_at_call 9; (with_reducible refine (suffix_Of.calls kj26 (((((a0 ++ (⟨#[95]⟩ : ByteArray)) ++ (rdOf ByteArray.empty t197 (ji20))) ++ (⟨#[95]⟩ : ByteArray)) ++ (rdOf ByteArray.empty t200 (ji24))) ++ x13_26) t222 t223 t224 t225 _ ?side1 A69.out).mono ?_); (case side1 => exact Tabs.below HT.out (by repeat (first | (with_reducible first | exact HB.out | apply below_alloc | apply pw_below_drewN | apply below_drew1) | exact HB.out))); rintro e w92 ⟨rfl, hb⟩; have n0_ := Aside0.mk (Kd.R_below (by (with_reducible repeat (first | apply Kd.R_alloc | apply Kd.R_drewN | apply Kd.R_drew)); exact HO207.out) hb); have n1_ := Aside0.mk (below_step (by repeat (first | (with_reducible first | exact HB.out | apply below_alloc | apply pw_below_drewN | apply below_drew1) | exact HB.out)) hb); clear HO207; clear HB; have HO207 := n0_; have HB := n1_; clear n0_ n1_; (try clear hb); (try clear hb2); (try clear hk); (try clear hi)) | (go_at_call 9; (with_reducible refine (suffix_Of.calls kj26 (((a0 ++ (⟨#[95]⟩ : ByteArray)) ++ (rdOf ByteArray.empty t197 (ji20))) ++ x13_26) t226 t227 t228 t229 _ ?side1 A72.out).mono ?_); (case side1 => exact Tabs.below HT.out (by repeat (first | (with_reducible first | exact HB.out | apply below_alloc | apply pw_below_drewN | apply below_drew1) | exact HB.out))); rintro e w93 ⟨rfl, hb⟩; have n0_ := Aside0.mk (Kd.R_below (by (with_reducible repeat (first | apply Kd.R_alloc | apply Kd.R_drewN | apply Kd.R_drew)); exact HO207.out) hb); have n1_ := Aside0.mk (below_step (by repeat (first | (with_reducible first | exact HB.out | apply below_alloc | apply pw_below_drewN | apply below_drew1) | exact HB.out)) hb); clear HO207; clear HB; have HO207 := n0_; have HB := n1_; clear n0_ n1_; (try clear hb); (try clear hb2); (try clear hk); (try clear hi))))
                                                go_ret
                                                exact ⟨by first | rfl | (simp [errW_none, errW_some] <;> rfl) | (simp only [← hji20, ← hji24, ← hji60]; first | rfl | (simp [errW_none, errW_some] <;> rfl)) | (simp [*, errW_none, errW_some] <;> rfl), by repeat (first | (with_reducible first | exact HB.out | apply below_alloc | apply pw_below_drewN | apply below_drew1) | exact HB.out)⟩
                                            · rw [if_neg c71] at H
                                              exact absurd H (by simp)
                                          · rw [if_neg c70] at H
                                            have c70b0 : (t222 && (t223 == a3 && (t224.toList == (rdOf ByteArray.empty t197 (ji20)).toList && (t225.toList == (rdOf ByteArray.empty t200 (ji24)).toList)))) = false := by simpa using c70
                                            clear c70
                                            obtain rfl := Option.some.inj H
                                            go_wp2_with (first | (go_at_call 12; (with_reducible refine (seicheref14_Cut.calls kj26 a0 95 t205 _ A33.out).mono ?_); rintro e w94 ⟨v206, rfl, ho0, hb⟩; have n0_ := Aside0.mk (Kd.R_lower ho0 (below_size (by repeat (first | (with_reducible first | exact HB.out | apply below_alloc | apply pw_below_drewN | apply below_drew1) | exact HB.out)))); have n1_ := Aside0.mk (below_step (by repeat (first | (with_reducible first | exact HB.out | apply below_alloc | apply pw_below_drewN | apply below_drew1) | exact HB.out)) hb); clear HB; have HO207 := n0_; have HB := n1_; clear n0_ n1_; (try clear hb); (try clear hb2); (try clear hk); (try clear hi); (try clear ho0); obtain ⟨Ao95, co95, eo95⟩ := Kd.R_slice HO207.out; subst eo95; have p220 : 0 ≤ ((ji60) : Int) := of_decide_eq_true (by first | (with_reducible assumption) | assumption); have q220 : (ji60) < (t205.length : Int) := of_decide_eq_true (by first | (with_reducible assumption) | assumption); obtain ⟨ad220, e220, hx220_0⟩ := Kd.at_string (Kd.R_reads' HO207.out).2.2 (ji60) p220 q220; cases e220; replace p220 := eq_true p220; replace q220 := eq_true q220) | (go_at_call 13; (with_reducible refine (seicheref15_System.calls kj26 (rdOf ByteArray.empty t205 (ji60)) t221 _ A63.out).mono ?_); rintro e w96 ⟨rfl, hb⟩; have n0_ := Aside0.mk (Kd.R_below (by (with_reducible repeat (first | apply Kd.R_alloc | apply Kd.R_drewN | apply Kd.R_drew)); exact HO207.out) hb); have n1_ := Aside0.mk (below_step (by repeat (first | (with_reducible first | exact HB.out | apply below_alloc | apply pw_below_drewN | apply below_drew1) | exact HB.out)) hb); clear HO207; clear HB; have HO207 := n0_; have HB := n1_; clear n0_ n1_; (try clear hb); (try clear hb2); (try clear hk); (try clear hi)) | (go_at_call 9; (with_reducible refine (suffix_Of.calls kj26 (((((a0 ++ (⟨#[95]⟩ : ByteArray)) ++ (rdOf ByteArray.empty t197 (ji20))) ++ (⟨#[95]⟩ : ByteArray)) ++ (rdOf ByteArray.empty t200 (ji24))) ++ x13_26) t222 t223 t224 t225 _ ?side1 A69.out).mono ?_); (case side1 => exact Tabs.below HT.out (by repeat (first | (with_reducible first | exact HB.out | apply below_alloc | apply pw_below_drewN | apply below_drew1) | exact HB.out))); rintro e w97 ⟨rfl, hb⟩; have n0_ := Aside0.mk (Kd.R_below (by (with_reducible repeat (first | apply Kd.R_alloc | apply Kd.R_drewN | apply Kd.R_drew)); exact HO207.out) hb); have n1_ := Aside0.mk (below_step (by repeat (first | (with_reducible first | exact HB.out | apply below_alloc | apply pw_below_drewN | apply below_drew1) | exact HB.out)) hb); clear HO207; clear HB; have HO207 := n0_; have HB := n1_; clear n0_ n1_; (try clear hb); (try clear hb2); (try clear hk); (try clear hi)))
                                            repeat (go_quiet (first | (go_at_call 12; (with_reducible refine (seicheref14_Cut.calls kj26 a0 95 t205 _ A33.out).mono ?_); rintro e w94 ⟨v206, rfl, ho0, hb⟩; have n0_ := Aside0.mk (Kd.R_lower ho0 (below_size (by repeat (first | (with_reducible first | exact HB.out | apply below_alloc | apply pw_below_drewN | apply below_drew1) | exact HB.out)))); have n1_ := Aside0.mk (below_step (by repeat (first | (with_reducible first | exact HB.out | apply below_alloc | apply pw_below_drewN | apply below_drew1) | exact HB.out)) hb); clear HB; have HO207 := n0_; have HB := n1_; clear n0_ n1_; (try clear hb); (try clear hb2); (try clear hk); (try clear hi); (try clear ho0); obtain ⟨Ao95, co95, eo95⟩ := Kd.R_slice HO207.out; subst eo95; have p220 : 0 ≤ ((ji60) : Int) := of_decide_eq_true (by first | (with_reducible assumption) | assumption); have q220 : (ji60) < (t205.length : Int) := of_decide_eq_true (by first | (with_reducible assumption) | assumption); obtain ⟨ad220, e220, hx220_0⟩ := Kd.at_string (Kd.R_reads' HO207.out).2.2 (ji60) p220 q220; cases e220; replace p220 := eq_true p220; replace q220 := eq_true q220) | (go_at_call 13; (with_reducible refine (seicheref15_System.calls kj26 (rdOf ByteArray.empty t205 (ji60)) t221 _ A63.out).mono ?_); rintro e w96 ⟨rfl, hb⟩; have n0_ := Aside0.mk (Kd.R_below (by (with_reducible repeat (first | apply Kd.R_alloc | apply Kd.R_drewN | apply Kd.R_drew)); exact HO207.out) hb); have n1_ := Aside0.mk (below_step (by repeat (first | (with_reducible first | exact HB.out | apply below_alloc | apply pw_below_drewN | apply below_drew1) | exact HB.out)) hb); clear HO207; clear HB; have HO207 := n0_; have HB := n1_; clear n0_ n1_; (try clear hb); (try clear hb2); (try clear hk); (try clear hi)) | (go_at_call 9; (with_reducible refine (suffix_Of.calls kj26 (((((a0 ++ (⟨#[95]⟩ : ByteArray)) ++ (rdOf ByteArray.empty t197 (ji20))) ++ (⟨#[95]⟩ : ByteArray)) ++ (rdOf ByteArray.empty t200 (ji24))) ++ x13_26) t222 t223 t224 t225 _ ?side1 A69.out).mono ?_); (case side1 => exact Tabs.below HT.out (by repeat (first | (with_reducible first | exact HB.out | apply below_alloc | apply pw_below_drewN | apply below_drew1) | exact HB.out))); rintro e w97 ⟨rfl, hb⟩; have n0_ := Aside0.mk (Kd.R_below (by (with_reducible repeat (first | apply Kd.R_alloc | apply Kd.R_drewN | apply Kd.R_drew)); exact HO207.out) hb); have n1_ := Aside0.mk (below_step (by repeat (first | (with_reducible first | exact HB.out | apply below_alloc | apply pw_below_drewN | apply below_drew1) | exact HB.out)) hb); clear HO207; clear HB; have HO207 := n0_; have HB := n1_; clear n0_ n1_; (try clear hb); (try clear hb2); (try clear hk); (try clear hi))); try go_wp2_with (first | (go_at_call 12; (with_reducible refine (seicheref14_Cut.calls kj26 a0 95 t205 _ A33.out).mono ?_); rintro e w94 ⟨v206, rfl, ho0, hb⟩; have n0_ := Aside0.mk (Kd.R_lower ho0 (below_size (by repeat (first | (with_reducible first | exact HB.out | apply below_alloc | apply pw_below_drewN | apply below_drew1) | exact HB.out)))); have n1_ := Aside0.mk (below_step (by repeat (first | (with_reducible first | exact HB.out | apply below_alloc | apply pw_below_drewN | apply below_drew1) | exact HB.out)) hb); clear HB; have HO207 := n0_; have HB := n1_; clear n0_ n1_; (try clear hb); (try clear hb2); (try clear hk); (try clear hi); (try clear ho0); obtain ⟨Ao95, co95, eo95⟩ := Kd.R_slice HO207.out; subst eo95; have p220 : 0 ≤ ((ji60) : Int) := of_decide_eq_true (by first | (with_reducible assumption) | assumption); have q220 : (ji60) < (t205.length : Int) := of_decide_eq_true (by first | (with_reducible assumption) | assumption); obtain ⟨ad220, e220, hx220_0⟩ := Kd.at_string (Kd.R_reads' HO207.out).2.2 (ji60) p220 q220; cases e220; replace p220 := eq_true p220; replace q220 := eq_true q220) | (go_at_call 13; (with_reducible refine (seicheref15_System.calls kj26 (rdOf ByteArray.empty t205 (ji60)) t221 _ A63.out).mono ?_); rintro e w96 ⟨rfl, hb⟩; have n0_ := Aside0.mk (Kd.R_below (by (with_reducible repeat (first | apply Kd.R_alloc | apply Kd.R_drewN | apply Kd.R_drew)); exact HO207.out) hb); have n1_ := Aside0.mk (below_step (by repeat (first | (with_reducible first | exact HB.out | apply below_alloc | apply pw_below_drewN | apply below_drew1) | exact HB.out)) hb); clear HO207; clear HB; have HO207 := n0_; have HB := n1_; clear n0_ n1_; (try clear hb); (try clear hb2); (try clear hk); (try clear hi)) | (go_at_call 9; (with_reducible refine (suffix_Of.calls kj26 (((((a0 ++ (⟨#[95]⟩ : ByteArray)) ++ (rdOf ByteArray.empty t197 (ji20))) ++ (⟨#[95]⟩ : ByteArray)) ++ (rdOf ByteArray.empty t200 (ji24))) ++ x13_26) t222 t223 t224 t225 _ ?side1 A69.out).mono ?_); (case side1 => exact Tabs.below HT.out (by repeat (first | (with_reducible first | exact HB.out | apply below_alloc | apply pw_below_drewN | apply below_drew1) | exact HB.out))); rintro e w97 ⟨rfl, hb⟩; have n0_ := Aside0.mk (Kd.R_below (by (with_reducible repeat (first | apply Kd.R_alloc | apply Kd.R_drewN | apply Kd.R_drew)); exact HO207.out) hb); have n1_ := Aside0.mk (below_step (by repeat (first | (with_reducible first | exact HB.out | apply below_alloc | apply pw_below_drewN | apply below_drew1) | exact HB.out)) hb); clear HO207; clear HB; have HO207 := n0_; have HB := n1_; clear n0_ n1_; (try clear hb); (try clear hb2); (try clear hk); (try clear hi))))
                                            go_ret
                                            exact ⟨by first | rfl | (simp [errW_none, errW_some] <;> rfl) | (simp only [← hji20, ← hji24, ← hji60]; first | rfl | (simp [errW_none, errW_some] <;> rfl)) | (simp [*, errW_none, errW_some] <;> rfl), by repeat (first | (with_reducible first | exact HB.out | apply below_alloc | apply pw_below_drewN | apply below_drew1) | exact HB.out)⟩
                                        · rw [if_neg c68] at H
                                          exact absurd H (by simp)
                                      · rw [if_neg c67] at H
                                        exact absurd H (by simp)
                                    · rw [if_neg c66] at H
                                      exact absurd H (by simp)
                                  · rw [if_neg c65] at H
                                    exact absurd H (by simp)
                                · rw [if_neg c64] at H
                                  exact absurd H (by simp)
                              · rw [if_neg c62] at H
                                exact absurd H (by simp)
                            · rw [if_neg c61] at H
                              exact absurd H (by simp)
                    · rw [if_neg c26] at H
                      exact absurd H (by simp)
                  · rw [if_neg c25] at H
                    exact absurd H (by simp)
              · rw [if_neg c22] at H
                exact absurd H (by simp)
            · rw [if_neg c21] at H
              exact absurd H (by simp)
  · replace c6 := Bool.eq_false_iff.mpr c6
    subst c6
    have H1 : (some false) = some r := by rw [if_neg (show ¬ (false = true) by decide)] at H; exact H
    clear H
    have H := H1
    clear H1
    obtain rfl := Option.some.inj H
    go_enter Tryd.func4, Tryd.ntmps4
    go_wp2_with (first | (go_at_call 7; (with_reducible refine (seichelaw15_alive.calls k  false _ ?side1 A5.out).mono ?_); (case side1 => exact Tabs.below HT.out (by repeat (first | (with_reducible first | exact HB.out | apply below_alloc | apply pw_below_drewN | apply below_drew1) | exact HB.out))); rintro e w98 ⟨rfl, hb⟩; have n0_ := Aside0.mk (below_step (by repeat (first | (with_reducible first | exact HB.out | apply below_alloc | apply pw_below_drewN | apply below_drew1) | exact HB.out)) hb); clear HB; have HB := n0_; clear n0_; (try clear hb); (try clear hb2); (try clear hk); (try clear hi)))
    repeat (go_quiet (first | (go_at_call 7; (with_reducible refine (seichelaw15_alive.calls k  false _ ?side1 A5.out).mono ?_); (case side1 => exact Tabs.below HT.out (by repeat (first | (with_reducible first | exact HB.out | apply below_alloc | apply pw_below_drewN | apply below_drew1) | exact HB.out))); rintro e w98 ⟨rfl, hb⟩; have n0_ := Aside0.mk (below_step (by repeat (first | (with_reducible first | exact HB.out | apply below_alloc | apply pw_below_drewN | apply below_drew1) | exact HB.out)) hb); clear HB; have HB := n0_; clear n0_; (try clear hb); (try clear hb2); (try clear hk); (try clear hi))); try go_wp2_with (first | (go_at_call 7; (with_reducible refine (seichelaw15_alive.calls k  false _ ?side1 A5.out).mono ?_); (case side1 => exact Tabs.below HT.out (by repeat (first | (with_reducible first | exact HB.out | apply below_alloc | apply pw_below_drewN | apply below_drew1) | exact HB.out))); rintro e w98 ⟨rfl, hb⟩; have n0_ := Aside0.mk (below_step (by repeat (first | (with_reducible first | exact HB.out | apply below_alloc | apply pw_below_drewN | apply below_drew1) | exact HB.out)) hb); clear HB; have HB := n0_; clear n0_; (try clear hb); (try clear hb2); (try clear hk); (try clear hi))))
    go_ret
    exact ⟨by first | rfl | (simp [errW_none, errW_some] <;> rfl) | (simp [*, errW_none, errW_some] <;> rfl), by repeat (first | (with_reducible first | exact HB.out | apply below_alloc | apply pw_below_drewN | apply below_drew1) | exact HB.out)⟩

/-- THE ONE PURE STATEMENT of seichelaw15_SuffixTells: yours. -/
def seichelaw15_SuffixTells.Pure : Prop := ∀ (a0 : ByteArray) (a1 : Int) (a2 : Int) (a3 : Bool), a0.size ≤ 140737488351232 → (Lit.int .i64 a1).wf = true → (Lit.int .i64 a2).wf = true → ∃ k, seichelaw15_SuffixTells.f k a0 a1 a2 a3 = some true
theorem seichelaw15_SuffixTells.walk (P : seichelaw15_SuffixTells.Pure) (a0 : ByteArray) (a1 : Int) (a2 : Int) (a3 : Bool) (w : World) (hT : Tabs w) (w0 : a0.size ≤ 140737488351232) (w1 : (Lit.int .i64 a1).wf = true) (w2 : (Lit.int .i64 a2).wf = true) :
    Calls Tryd.prog 4 #[.string a0, .int .i64 a1, .int .i64 a2, .bool a3] w fun e w' => e = .returned (.bool true) ∧ Below w.heap.size w w' := by
  obtain ⟨k, h⟩ := P a0 a1 a2 a3 w0 w1 w2
  refine (seichelaw15_SuffixTells.calls k a0 a1 a2 a3 true w hT h).mono ?_
  rintro e w' ⟨rfl, hd⟩
  exact ⟨rfl, hd⟩

end Go.Proofs.YtnpbgegllphfkaaDoor.PAll
