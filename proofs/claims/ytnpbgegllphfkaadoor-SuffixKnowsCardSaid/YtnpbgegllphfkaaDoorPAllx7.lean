-- Written by a program of this session (a changed scratch copy of a tool of the kit); not a print of the kit's own.
import Derived.Test.YtnpbgegllphfkaaDoorPAllx0
import Derived.Test.YtnpbgegllphfkaaDoorPAllx1
import Derived.Test.YtnpbgegllphfkaaDoorPAllx2
import Derived.Test.YtnpbgegllphfkaaDoorPAllx3
import Derived.Test.YtnpbgegllphfkaaDoorPAllx4
namespace Go.Proofs.YtnpbgegllphfkaaDoor.PAll
open Go.RowKit Go.Proofs.YtnpbgegllphfkaaDoorW.PrintWords Go.Proofs.YtnpbgegllphfkaaDoorW.PrintLast Go.Proofs.YtnpbgegllphfkaaDoorW.PrintMore Go.Proofs.YtnpbgegllphfkaaDoorMy Go.Proofs.YtnpbgegllphfkaaDoor
attribute [local go_sem] max2_int min2_int max_two min_two max_three min_three max_four min_four   -- for this text's walks alone
set_option linter.unusedVariables false
set_option linter.unusedSimpArgs false

attribute [local go_sem high] eqA26
/-! ### seichelaw15_SuffixTests: function 5 -/
def seichelaw15_SuffixTests.j0 : Nat → ByteArray → Bool → Option (Bool)
  | 0, _, _ => none
  | k + 1, x0, x13 => if x13 = true then (some true) else (if x0.size + 3 ≤ 9223372036854775807 then ((suffix_Of.f k (x0 ++ (⟨#[46, 103, 111]⟩ : ByteArray))).bind fun bt236 => (if x0.size + 8 ≤ 9223372036854775807 then ((suffix_Of.f k (x0 ++ (⟨#[95, 116, 101, 115, 116, 46, 103, 111]⟩ : ByteArray))).bind fun bt240 => (if bt236.1 = true then (some (bt236.1 == bt240.1 && (bt240.2.1 && (bt236.2.2.1.toList == bt240.2.2.1.toList && (bt236.2.2.2.toList == bt240.2.2.2.toList))))) else (if bt240.1 = true then (some (x0.toList == ([] : List UInt8))) else (some true)))) else (none))) else (none))
def seichelaw15_SuffixTests.f (k : Nat) (a0 : ByteArray) : Option (Bool) := (seichelaw15_alive.f k).bind fun t234 => (if t234 = true then (if (a0.size : Int) > 512 then (seichelaw15_SuffixTests.j0 k a0 true) else ((seicheref15_Ends.f a0 (⟨#[95, 116, 101, 115, 116]⟩ : ByteArray)).bind fun t235 => (seichelaw15_SuffixTests.j0 k a0 t235))) else (some false))
theorem seichelaw15_SuffixTests.mono_l : ∀ k, (∀ y0 y1, LeO (seichelaw15_SuffixTests.j0 k y0 y1) (seichelaw15_SuffixTests.j0 (k + 1) y0 y1))
  | 0 => fun _ _ r h => by simp [seichelaw15_SuffixTests.j0] at h
  | k + 1 => by
    have ih0 := seichelaw15_SuffixTests.mono_l k
    · intro y0 y1
      unfold seichelaw15_SuffixTests.j0
      repeat' first
      | (with_reducible exact ih0 _ _)
      | (with_reducible exact seichelaw15_alive.mono _)
      | (with_reducible exact suffix_Of.mono _ _)
      | (with_reducible exact LeO.refl _)
      | (with_reducible exact LeO.none _)
      | (with_reducible refine LeO.ite ?_ ?_)
      | (with_reducible refine LeO.bind ?_ (fun _ => ?_))
      | exact ih0 _ _
      | exact seichelaw15_alive.mono _
      | exact suffix_Of.mono _ _
      | exact LeO.none _
      | refine LeO.ite ?_ ?_
      | refine LeO.bind ?_ (fun _ => ?_)
theorem seichelaw15_SuffixTests.mono : ∀ a0 k, LeO (seichelaw15_SuffixTests.f k a0) (seichelaw15_SuffixTests.f (k + 1) a0) := by
  intro a0 k
  have ih0 := seichelaw15_SuffixTests.mono_l k
  unfold seichelaw15_SuffixTests.f
  repeat' first
      | (with_reducible exact ih0 _ _)
      | (with_reducible exact seichelaw15_alive.mono _)
      | (with_reducible exact suffix_Of.mono _ _)
      | (with_reducible exact LeO.refl _)
      | (with_reducible exact LeO.none _)
      | (with_reducible refine LeO.ite ?_ ?_)
      | (with_reducible refine LeO.bind ?_ (fun _ => ?_))
      | exact ih0 _ _
      | exact seichelaw15_alive.mono _
      | exact suffix_Of.mono _ _
      | exact LeO.none _
      | refine LeO.ite ?_ ?_
      | refine LeO.bind ?_ (fun _ => ?_)
set_option maxHeartbeats 8000000 in
set_option maxRecDepth 100000 in
theorem seichelaw15_SuffixTests.calls (k : Nat) (a0 : ByteArray) (r : Bool) (w : World) (hT : Tabs w) (h : seichelaw15_SuffixTests.f k a0 = some r) :
    Calls Tryd.prog 5 #[.string a0] w fun e w' => e = .returned (.bool r) ∧ Below w.heap.size w w' := by
  have hu26 := Tryd.underlying26
  have HT := Aside0.mk hT
  clear hT
  have HB := Aside0.mk (Below.refl w.heap.size w)
  have H : ((seichelaw15_alive.f k).bind fun t234 => (if t234 = true then (if (a0.size : Int) > 512 then (seichelaw15_SuffixTests.j0 k a0 true) else ((seicheref15_Ends.f a0 (⟨#[95, 116, 101, 115, 116]⟩ : ByteArray)).bind fun t235 => (seichelaw15_SuffixTests.j0 k a0 t235))) else (some false))) = some r := h
  clear h
  replace H := Option.bind_eq_some_iff.mp H
  obtain ⟨t234, A20, H⟩ := H
  replace H : (if t234 = true then (if (a0.size : Int) > 512 then (seichelaw15_SuffixTests.j0 k a0 true) else ((seicheref15_Ends.f a0 (⟨#[95, 116, 101, 115, 116]⟩ : ByteArray)).bind fun t235 => (seichelaw15_SuffixTests.j0 k a0 t235))) else (some false)) = some r := H
  have A2 := Aside0.mk A20
  clear A20
  by_cases c3 : t234 = true
  · subst c3
    have H1 : (if (a0.size : Int) > 512 then (seichelaw15_SuffixTests.j0 k a0 true) else ((seicheref15_Ends.f a0 (⟨#[95, 116, 101, 115, 116]⟩ : ByteArray)).bind fun t235 => (seichelaw15_SuffixTests.j0 k a0 t235))) = some r := by rw [if_pos rfl] at H; exact H
    clear H
    have H := H1
    clear H1
    have HC4 := Aside0.mk H
    clear H
    go_enter Tryd.func5, Tryd.ntmps5
    go_upto_region 3 with (first | ((with_reducible refine gate_callee (f := 7) rfl ?_); refine goesL_ (some 5) rfl rfl Tryd.func7 (by kernel_rfl) rfl #[] rfl (by (try simp only [List.map_toArray, List.map_cons, List.map_nil]); first | done | rfl | (simp only [List.length_drop, List.length_take]; rfl)) ?_; (with_reducible refine (seichelaw15_alive.calls k  true _ ?side1 A2.out).mono ?_); (case side1 => exact Tabs.below HT.out (by repeat (first | (with_reducible first | exact HB.out | apply below_alloc | apply pw_below_drewN | apply below_drew1) | exact HB.out))); rintro e w5 ⟨rfl, hb⟩; refine ⟨_, rfl, ?_⟩; have n0_ := Aside0.mk (below_step (by repeat (first | (with_reducible first | exact HB.out | apply below_alloc | apply pw_below_drewN | apply below_drew1) | exact HB.out)) hb); clear HB; have HB := n0_; clear n0_; (try clear hb); (try clear hb2); (try clear hk); (try clear hi)))
    (try simp only [Act.put, List.setIfInBounds_toArray, List.set_cons_zero, List.set_cons_succ])
    go_cut [13] (fun v13 wc => ∃ (kq : Nat) (x13_3 : Bool), v13 = .bool x13_3 ∧ Aside0 (seichelaw15_SuffixTests.j0 kq a0 x13_3 = some r) ∧ Aside0 (kq ≤ k) ∧ Aside0 (Below w.heap.size w wc))
    case first =>
      have H := HC4.out
      clear HC4
      by_cases c6 : (a0.size : Int) > 512
      · rw [if_pos c6] at H
        have c6b0 : decide (512 < (a0.size : Int)) = true := decide_eq_true c6
        have c6b1 : decide (512 < a0.size) = true := decide_eq_true (by omega)
        clear c6
        (first | rw [c6b0] | (simp only [i64_w, i32_w]; rw [c6b0]) | skip)
        have H' := Aside0.mk H
        clear H
        go_wp2
        go_meet
        case rel => exact ⟨_, (true), (by first | rfl | (simp; done) | (simp [*]; done)), H', ⟨by first | omega | exact Nat.le_refl _⟩, ⟨by repeat (first | (with_reducible first | exact HB.out | apply below_alloc | apply pw_below_drewN | apply below_drew1) | exact HB.out)⟩⟩
      · rw [if_neg c6] at H
        have c6b0 : decide (512 < (a0.size : Int)) = false := decide_eq_false c6
        have c6b1 : decide (512 < a0.size) = false := decide_eq_false (by omega)
        clear c6
        (first | rw [c6b0] | (simp only [i64_w, i32_w]; rw [c6b0]) | skip)
        replace H := Option.bind_eq_some_iff.mp H
        obtain ⟨t235, A70, H⟩ := H
        replace H : (seichelaw15_SuffixTests.j0 k a0 t235) = some r := H
        have A7 := Aside0.mk A70
        clear A70
        have H' := Aside0.mk H
        clear H
        go_wp2_with (first | (go_at_call 14; (with_reducible refine (seicheref15_Ends.calls a0 (⟨#[95, 116, 101, 115, 116]⟩ : ByteArray) t235 _ A7.out).mono ?_); rintro e w' ⟨rfl, ⟨nd, rfl⟩⟩))
        go_meet
        case rel => exact ⟨_, (t235), (by first | rfl | (simp; done) | (simp [*]; done)), H', ⟨by first | omega | exact Nat.le_refl _⟩, ⟨by repeat (first | (with_reducible first | exact HB.out | apply below_alloc | apply pw_below_drewN | apply below_drew1) | exact HB.out)⟩⟩
    case rest =>
      clear HC4
      try clear p2
      try clear c3
      try clear c5
      try clear c6
      try clear c6b0
      try clear c6b1
      try clear c7
      obtain ⟨kq, x13_3, rfl, HA, HJ3, HB⟩ := hcut
      cases kq with
      | zero => exact absurd HA.out (by simp [seichelaw15_SuffixTests.j0])
      | succ kj3 =>
        have H := HA.out
        clear HA
        simp only [seichelaw15_SuffixTests.j0] at H
        by_cases c8 : x13_3 = true
        · subst c8
          have H1 : (some true) = some r := by rw [if_pos rfl] at H; exact H
          clear H
          have H := H1
          clear H1
          obtain rfl := Option.some.inj H
          go_wp2
          go_ret
          exact ⟨by first | rfl | (simp [errW_none, errW_some] <;> rfl) | (simp [*, errW_none, errW_some] <;> rfl), by repeat (first | (with_reducible first | exact HB.out | apply below_alloc | apply pw_below_drewN | apply below_drew1) | exact HB.out)⟩
        · replace c8 := Bool.eq_false_iff.mpr c8
          subst c8
          have H1 : (if a0.size + 3 ≤ 9223372036854775807 then ((suffix_Of.f kj3 (a0 ++ (⟨#[46, 103, 111]⟩ : ByteArray))).bind fun bt236 => (if a0.size + 8 ≤ 9223372036854775807 then ((suffix_Of.f kj3 (a0 ++ (⟨#[95, 116, 101, 115, 116, 46, 103, 111]⟩ : ByteArray))).bind fun bt240 => (if bt236.1 = true then (some (bt236.1 == bt240.1 && (bt240.2.1 && (bt236.2.2.1.toList == bt240.2.2.1.toList && (bt236.2.2.2.toList == bt240.2.2.2.toList))))) else (if bt240.1 = true then (some (a0.toList == ([] : List UInt8))) else (some true)))) else (none))) else (none)) = some r := by rw [if_neg (show ¬ (false = true) by decide)] at H; exact H
          clear H
          have H := H1
          clear H1
          by_cases c9 : a0.size + 3 ≤ 9223372036854775807
          · rw [if_pos c9] at H
            have c9b0 := eq_true c9
            have c9b1 : decide (a0.size + 3 ≤ 9223372036854775807) = true := decide_eq_true c9
            try have c9b2 : (9223372036854775807 < a0.size + 3) = False := eq_false (Nat.not_lt.2 c9)
            replace H := Option.bind_eq_some_iff.mp H
            obtain ⟨⟨t236, t237, t238, t239⟩, A100, H⟩ := H
            replace H : (if a0.size + 8 ≤ 9223372036854775807 then ((suffix_Of.f kj3 (a0 ++ (⟨#[95, 116, 101, 115, 116, 46, 103, 111]⟩ : ByteArray))).bind fun bt240 => (if t236 = true then (some (t236 == bt240.1 && (bt240.2.1 && (t238.toList == bt240.2.2.1.toList && (t239.toList == bt240.2.2.2.toList))))) else (if bt240.1 = true then (some (a0.toList == ([] : List UInt8))) else (some true)))) else (none)) = some r := H
            have A10 := Aside0.mk A100
            clear A100
            by_cases c11 : a0.size + 8 ≤ 9223372036854775807
            · rw [if_pos c11] at H
              have c11b0 := eq_true c11
              have c11b1 : decide (a0.size + 8 ≤ 9223372036854775807) = true := decide_eq_true c11
              try have c11b2 : (9223372036854775807 < a0.size + 8) = False := eq_false (Nat.not_lt.2 c11)
              replace H := Option.bind_eq_some_iff.mp H
              obtain ⟨⟨t240, t241, t242, t243⟩, A120, H⟩ := H
              replace H : (if t236 = true then (some (t236 == t240 && (t241 && (t238.toList == t242.toList && (t239.toList == t243.toList))))) else (if t240 = true then (some (a0.toList == ([] : List UInt8))) else (some true))) = some r := H
              have A12 := Aside0.mk A120
              clear A120
              by_cases c13 : t236 = true
              · subst c13
                have H1 : (some (true == t240 && (t241 && (t238.toList == t242.toList && (t239.toList == t243.toList))))) = some r := by rw [if_pos rfl] at H; exact H
                clear H
                have H := H1
                clear H1
                obtain rfl := Option.some.inj H
                go_upto_region 9 with (first | ((with_reducible refine gate_callee (f := 9) rfl ?_); refine goesL_ (some 16) rfl rfl Tryd.func9 (by kernel_rfl) rfl #[.string (a0 ++ (⟨#[46, 103, 111]⟩ : ByteArray))] rfl (by (try simp only [List.map_toArray, List.map_cons, List.map_nil]); first | done | rfl | (simp only [List.length_drop, List.length_take]; rfl)) ?_; (with_reducible refine (suffix_Of.calls kj3 (a0 ++ (⟨#[46, 103, 111]⟩ : ByteArray)) true t237 t238 t239 _ ?side1 A10.out).mono ?_); (case side1 => exact Tabs.below HT.out (by repeat (first | (with_reducible first | exact HB.out | apply below_alloc | apply pw_below_drewN | apply below_drew1) | exact HB.out))); rintro e w14 ⟨rfl, hb⟩; refine ⟨_, rfl, ?_⟩; have n0_ := Aside0.mk (below_step (by repeat (first | (with_reducible first | exact HB.out | apply below_alloc | apply pw_below_drewN | apply below_drew1) | exact HB.out)) hb); clear HB; have HB := n0_; clear n0_; (try clear hb); (try clear hb2); (try clear hk); (try clear hi)) | ((with_reducible refine gate_callee (f := 9) rfl ?_); refine goesL_ (some 19) rfl rfl Tryd.func9 (by kernel_rfl) rfl #[.string (a0 ++ (⟨#[95, 116, 101, 115, 116, 46, 103, 111]⟩ : ByteArray))] rfl (by (try simp only [List.map_toArray, List.map_cons, List.map_nil]); first | done | rfl | (simp only [List.length_drop, List.length_take]; rfl)) ?_; (with_reducible refine (suffix_Of.calls kj3 (a0 ++ (⟨#[95, 116, 101, 115, 116, 46, 103, 111]⟩ : ByteArray)) t240 t241 t242 t243 _ ?side1 A12.out).mono ?_); (case side1 => exact Tabs.below HT.out (by repeat (first | (with_reducible first | exact HB.out | apply below_alloc | apply pw_below_drewN | apply below_drew1) | exact HB.out))); rintro e w15 ⟨rfl, hb⟩; refine ⟨_, rfl, ?_⟩; have n0_ := Aside0.mk (below_step (by repeat (first | (with_reducible first | exact HB.out | apply below_alloc | apply pw_below_drewN | apply below_drew1) | exact HB.out)) hb); clear HB; have HB := n0_; clear n0_; (try clear hb); (try clear hb2); (try clear hk); (try clear hi)) | ((with_reducible refine gate_dst (N := 3) rfl ?_); refine box_event ?hg (N := 3) ?hd (cs := #[.bool false, .bool false, .string (⟨#[]⟩ : ByteArray), .string (⟨#[]⟩ : ByteArray)]) (t := 26) ?hr ?_; (case hd => rfl); (case hg => rfl); (case hr => first | (go_simp; done) | (go_simp; rfl)); intro gb244 hg w16 hbox hb; have n0_ := Aside0.mk (below_step (by repeat (first | (with_reducible first | exact HB.out | apply below_alloc | apply pw_below_drewN | apply below_drew1) | exact HB.out)) hb); have n1_ := Aside0.mk (hbox); have n2_ := Aside0.mk ((by rw [hg]; exact (below_size (by repeat (first | (with_reducible first | exact HB.out | apply below_alloc | apply pw_below_drewN | apply below_drew1) | exact HB.out))) : w.heap.size ≤ gb244)); have n3_ := Aside0.mk ((by rw [hg]; exact (below_size (by repeat (first | (with_reducible first | exact HB.out | apply below_alloc | apply pw_below_drewN | apply below_drew1) | exact HB.out))) : w.heap.size ≤ gb244)); clear HB; have HB := n0_; have BK244 := n1_; have GW244 := n2_; have GE244 := n3_; clear n0_ n1_ n2_ n3_; clear hb hbox hg) | ((with_reducible refine gate_dst (N := 4) rfl ?_); refine box_event ?hg (N := 4) ?hd (cs := #[.bool false, .bool false, .string (⟨#[]⟩ : ByteArray), .string (⟨#[]⟩ : ByteArray)]) (t := 26) ?hr ?_; (case hd => rfl); (case hg => rfl); (case hr => first | (go_simp; done) | (go_simp; rfl)); intro gb245 hg w17 hbox hb; have n0_ := Aside0.mk (blk_below (g := gb244) (o := .cells #[.bool false, .bool false, .string (⟨#[]⟩ : ByteArray), .string (⟨#[]⟩ : ByteArray)] 26 (0, 0)) (by (with_reducible repeat (first | refine blk_drewN ?_ _ | refine blk_drew ?_ | refine blk_alloc ?_ _)); exact BK244.out) hb); have n1_ := Aside0.mk (below_step (by repeat (first | (with_reducible first | exact HB.out | apply below_alloc | apply pw_below_drewN | apply below_drew1 | refine below_set ?_ GE244.out) | exact HB.out)) hb); have n2_ := Aside0.mk (hbox); have n3_ := Aside0.mk ((by rw [hg]; exact (below_size (by repeat (first | (with_reducible first | exact HB.out | apply below_alloc | apply pw_below_drewN | apply below_drew1 | refine below_set ?_ GE244.out) | exact HB.out))) : w.heap.size ≤ gb245)); have n4_ := Aside0.mk ((by rw [hg]; exact (below_size (by repeat (first | (with_reducible first | exact HB.out | apply below_alloc | apply pw_below_drewN | apply below_drew1 | refine below_set ?_ GE244.out) | exact HB.out))) : w.heap.size ≤ gb245)); have n5_ := Aside0.mk ((by rw [hg]; exact Nat.ne_of_lt (blk_lt (g := gb244) (o := .cells #[.bool false, .bool false, .string (⟨#[]⟩ : ByteArray), .string (⟨#[]⟩ : ByteArray)] 26 (0, 0)) (by (with_reducible repeat (first | refine blk_drewN ?_ _ | refine blk_drew ?_ | refine blk_alloc ?_ _)); exact BK244.out)) : gb244 ≠ gb245)); have n6_ := Aside0.mk ((by rw [hg]; exact Nat.ne_of_gt (blk_lt (g := gb244) (o := .cells #[.bool false, .bool false, .string (⟨#[]⟩ : ByteArray), .string (⟨#[]⟩ : ByteArray)] 26 (0, 0)) (by (with_reducible repeat (first | refine blk_drewN ?_ _ | refine blk_drew ?_ | refine blk_alloc ?_ _)); exact BK244.out)) : gb245 ≠ gb244)); clear BK244; clear HB; have BK244 := n0_; have HB := n1_; have BK245 := n2_; have GW245 := n3_; have GE245 := n4_; have NB244_245 := n5_; have NB245_244 := n6_; clear n0_ n1_ n2_ n3_ n4_ n5_ n6_; clear hb hbox hg; have hnb18 := NB244_245.out; have hnc18 := NB245_244.out; have hcz19_0 : w17.cell? ⟨gb244, 0, none⟩ = some (.bool false) := (blk_cell BK244.out 0).trans rfl; have hcz19_1 : w17.cell? ⟨gb244, 1, none⟩ = some (.bool false) := (blk_cell BK244.out 1).trans rfl; have hcz19_2 : w17.cell? ⟨gb244, 2, none⟩ = some (.string (⟨#[]⟩ : ByteArray)) := (blk_cell BK244.out 2).trans rfl; have hcz19_3 : w17.cell? ⟨gb244, 3, none⟩ = some (.string (⟨#[]⟩ : ByteArray)) := (blk_cell BK244.out 3).trans rfl; have hfz19_0 := blk_frozen BK244.out 0; have hfz19_1 := blk_frozen BK244.out 1; have hfz19_2 := blk_frozen BK244.out 2; have hfz19_3 := blk_frozen BK244.out 3; have hcz20_0 : w17.cell? ⟨gb245, 0, none⟩ = some (.bool false) := (blk_cell BK245.out 0).trans rfl; have hcz20_1 : w17.cell? ⟨gb245, 1, none⟩ = some (.bool false) := (blk_cell BK245.out 1).trans rfl; have hcz20_2 : w17.cell? ⟨gb245, 2, none⟩ = some (.string (⟨#[]⟩ : ByteArray)) := (blk_cell BK245.out 2).trans rfl; have hcz20_3 : w17.cell? ⟨gb245, 3, none⟩ = some (.string (⟨#[]⟩ : ByteArray)) := (blk_cell BK245.out 3).trans rfl; have hfz20_0 := blk_frozen BK245.out 0; have hfz20_1 := blk_frozen BK245.out 1; have hfz20_2 := blk_frozen BK245.out 2; have hfz20_3 := blk_frozen BK245.out 3))
                generalize hW : World.setCell _ _ _ = W9
                have k0_ : W9.cell? ⟨gb244, 0, none⟩ = some (.bool true) := by subst hW; go_simp
                have k1_ : W9.cell? ⟨gb244, 1, none⟩ = some (.bool true) := by subst hW; exact World.cell?_setCell_same _ _ _ (show _ = some (Value.bool t237) by go_simp)
                have k2_ : W9.cell? ⟨gb244, 2, none⟩ = some (.string t238) := by subst hW; go_simp
                have k3_ : W9.cell? ⟨gb244, 3, none⟩ = some (.string t239) := by subst hW; go_simp
                have m0_ : W9.cell? ⟨gb245, 0, none⟩ = some (.bool t240) := by subst hW; go_simp
                have m1_ : W9.cell? ⟨gb245, 1, none⟩ = some (.bool t241) := by subst hW; go_simp
                have m2_ : W9.cell? ⟨gb245, 2, none⟩ = some (.string t242) := by subst hW; go_simp
                have m3_ : W9.cell? ⟨gb245, 3, none⟩ = some (.string t243) := by subst hW; go_simp
                have HB9 : Below w.heap.size w W9 := by rw [← hW]; repeat (first | (with_reducible first | exact HB.out | apply below_alloc | apply pw_below_drewN | apply below_drew1 | refine below_set ?_ GE244.out | refine below_set ?_ GE245.out) | exact HB.out)
                clear hW HB
                have HB := Aside0.mk HB9
                clear HB9
                go_wp2
                go_ret
                exact ⟨by first | rfl | (simp [errW_none, errW_some] <;> rfl) | (simp [*, errW_none, errW_some] <;> rfl), by repeat (first | (with_reducible first | exact HB.out | apply below_alloc | apply pw_below_drewN | apply below_drew1 | refine below_set ?_ GE244.out | refine below_set ?_ GE245.out) | exact HB.out)⟩
              · replace c13 := Bool.eq_false_iff.mpr c13
                subst c13
                have H1 : (if t240 = true then (some (a0.toList == ([] : List UInt8))) else (some true)) = some r := by rw [if_neg (show ¬ (false = true) by decide)] at H; exact H
                clear H
                have H := H1
                clear H1
                by_cases c21 : t240 = true
                · subst c21
                  have H1 : (some (a0.toList == ([] : List UInt8))) = some r := by rw [if_pos rfl] at H; exact H
                  clear H
                  have H := H1
                  clear H1
                  obtain rfl := Option.some.inj H
                  go_wp2_with (first | ((with_reducible refine gate_callee (f := 9) rfl ?_); refine goesL_ (some 16) rfl rfl Tryd.func9 (by kernel_rfl) rfl #[.string (a0 ++ (⟨#[46, 103, 111]⟩ : ByteArray))] rfl (by (try simp only [List.map_toArray, List.map_cons, List.map_nil]); first | done | rfl | (simp only [List.length_drop, List.length_take]; rfl)) ?_; (with_reducible refine (suffix_Of.calls kj3 (a0 ++ (⟨#[46, 103, 111]⟩ : ByteArray)) false t237 t238 t239 _ ?side1 A10.out).mono ?_); (case side1 => exact Tabs.below HT.out (by repeat (first | (with_reducible first | exact HB.out | apply below_alloc | apply pw_below_drewN | apply below_drew1) | exact HB.out))); rintro e w22 ⟨rfl, hb⟩; refine ⟨_, rfl, ?_⟩; have n0_ := Aside0.mk (below_step (by repeat (first | (with_reducible first | exact HB.out | apply below_alloc | apply pw_below_drewN | apply below_drew1) | exact HB.out)) hb); clear HB; have HB := n0_; clear n0_; (try clear hb); (try clear hb2); (try clear hk); (try clear hi)) | ((with_reducible refine gate_callee (f := 9) rfl ?_); refine goesL_ (some 19) rfl rfl Tryd.func9 (by kernel_rfl) rfl #[.string (a0 ++ (⟨#[95, 116, 101, 115, 116, 46, 103, 111]⟩ : ByteArray))] rfl (by (try simp only [List.map_toArray, List.map_cons, List.map_nil]); first | done | rfl | (simp only [List.length_drop, List.length_take]; rfl)) ?_; (with_reducible refine (suffix_Of.calls kj3 (a0 ++ (⟨#[95, 116, 101, 115, 116, 46, 103, 111]⟩ : ByteArray)) true t241 t242 t243 _ ?side1 A12.out).mono ?_); (case side1 => exact Tabs.below HT.out (by repeat (first | (with_reducible first | exact HB.out | apply below_alloc | apply pw_below_drewN | apply below_drew1) | exact HB.out))); rintro e w23 ⟨rfl, hb⟩; refine ⟨_, rfl, ?_⟩; have n0_ := Aside0.mk (below_step (by repeat (first | (with_reducible first | exact HB.out | apply below_alloc | apply pw_below_drewN | apply below_drew1) | exact HB.out)) hb); clear HB; have HB := n0_; clear n0_; (try clear hb); (try clear hb2); (try clear hk); (try clear hi)) | ((with_reducible refine gate_dst (N := 3) rfl ?_); refine box_event ?hg (N := 3) ?hd (cs := #[.bool false, .bool false, .string (⟨#[]⟩ : ByteArray), .string (⟨#[]⟩ : ByteArray)]) (t := 26) ?hr ?_; (case hd => rfl); (case hg => rfl); (case hr => first | (go_simp; done) | (go_simp; rfl)); intro gb244 hg w24 hbox hb; have n0_ := Aside0.mk (below_step (by repeat (first | (with_reducible first | exact HB.out | apply below_alloc | apply pw_below_drewN | apply below_drew1) | exact HB.out)) hb); have n1_ := Aside0.mk (hbox); have n2_ := Aside0.mk ((by rw [hg]; exact (below_size (by repeat (first | (with_reducible first | exact HB.out | apply below_alloc | apply pw_below_drewN | apply below_drew1) | exact HB.out))) : w.heap.size ≤ gb244)); have n3_ := Aside0.mk ((by rw [hg]; exact (below_size (by repeat (first | (with_reducible first | exact HB.out | apply below_alloc | apply pw_below_drewN | apply below_drew1) | exact HB.out))) : w.heap.size ≤ gb244)); clear HB; have HB := n0_; have BK244 := n1_; have GW244 := n2_; have GE244 := n3_; clear n0_ n1_ n2_ n3_; clear hb hbox hg) | ((with_reducible refine gate_dst (N := 4) rfl ?_); refine box_event ?hg (N := 4) ?hd (cs := #[.bool false, .bool false, .string (⟨#[]⟩ : ByteArray), .string (⟨#[]⟩ : ByteArray)]) (t := 26) ?hr ?_; (case hd => rfl); (case hg => rfl); (case hr => first | (go_simp; done) | (go_simp; rfl)); intro gb245 hg w25 hbox hb; have n0_ := Aside0.mk (blk_below (g := gb244) (o := .cells #[.bool false, .bool false, .string (⟨#[]⟩ : ByteArray), .string (⟨#[]⟩ : ByteArray)] 26 (0, 0)) (by (with_reducible repeat (first | refine blk_drewN ?_ _ | refine blk_drew ?_ | refine blk_alloc ?_ _)); exact BK244.out) hb); have n1_ := Aside0.mk (below_step (by repeat (first | (with_reducible first | exact HB.out | apply below_alloc | apply pw_below_drewN | apply below_drew1 | refine below_set ?_ GE244.out) | exact HB.out)) hb); have n2_ := Aside0.mk (hbox); have n3_ := Aside0.mk ((by rw [hg]; exact (below_size (by repeat (first | (with_reducible first | exact HB.out | apply below_alloc | apply pw_below_drewN | apply below_drew1 | refine below_set ?_ GE244.out) | exact HB.out))) : w.heap.size ≤ gb245)); have n4_ := Aside0.mk ((by rw [hg]; exact (below_size (by repeat (first | (with_reducible first | exact HB.out | apply below_alloc | apply pw_below_drewN | apply below_drew1 | refine below_set ?_ GE244.out) | exact HB.out))) : w.heap.size ≤ gb245)); have n5_ := Aside0.mk ((by rw [hg]; exact Nat.ne_of_lt (blk_lt (g := gb244) (o := .cells #[.bool false, .bool false, .string (⟨#[]⟩ : ByteArray), .string (⟨#[]⟩ : ByteArray)] 26 (0, 0)) (by (with_reducible repeat (first | refine blk_drewN ?_ _ | refine blk_drew ?_ | refine blk_alloc ?_ _)); exact BK244.out)) : gb244 ≠ gb245)); have n6_ := Aside0.mk ((by rw [hg]; exact Nat.ne_of_gt (blk_lt (g := gb244) (o := .cells #[.bool false, .bool false, .string (⟨#[]⟩ : ByteArray), .string (⟨#[]⟩ : ByteArray)] 26 (0, 0)) (by (with_reducible repeat (first | refine blk_drewN ?_ _ | refine blk_drew ?_ | refine blk_alloc ?_ _)); exact BK244.out)) : gb245 ≠ gb244)); clear BK244; clear HB; have BK244 := n0_; have HB := n1_; have BK245 := n2_; have GW245 := n3_; have GE245 := n4_; have NB244_245 := n5_; have NB245_244 := n6_; clear n0_ n1_ n2_ n3_ n4_ n5_ n6_; clear hb hbox hg; have hnb26 := NB244_245.out; have hnc26 := NB245_244.out; have hcz27_0 : w25.cell? ⟨gb244, 0, none⟩ = some (.bool false) := (blk_cell BK244.out 0).trans rfl; have hcz27_1 : w25.cell? ⟨gb244, 1, none⟩ = some (.bool false) := (blk_cell BK244.out 1).trans rfl; have hcz27_2 : w25.cell? ⟨gb244, 2, none⟩ = some (.string (⟨#[]⟩ : ByteArray)) := (blk_cell BK244.out 2).trans rfl; have hcz27_3 : w25.cell? ⟨gb244, 3, none⟩ = some (.string (⟨#[]⟩ : ByteArray)) := (blk_cell BK244.out 3).trans rfl; have hfz27_0 := blk_frozen BK244.out 0; have hfz27_1 := blk_frozen BK244.out 1; have hfz27_2 := blk_frozen BK244.out 2; have hfz27_3 := blk_frozen BK244.out 3; have hcz28_0 : w25.cell? ⟨gb245, 0, none⟩ = some (.bool false) := (blk_cell BK245.out 0).trans rfl; have hcz28_1 : w25.cell? ⟨gb245, 1, none⟩ = some (.bool false) := (blk_cell BK245.out 1).trans rfl; have hcz28_2 : w25.cell? ⟨gb245, 2, none⟩ = some (.string (⟨#[]⟩ : ByteArray)) := (blk_cell BK245.out 2).trans rfl; have hcz28_3 : w25.cell? ⟨gb245, 3, none⟩ = some (.string (⟨#[]⟩ : ByteArray)) := (blk_cell BK245.out 3).trans rfl; have hfz28_0 := blk_frozen BK245.out 0; have hfz28_1 := blk_frozen BK245.out 1; have hfz28_2 := blk_frozen BK245.out 2; have hfz28_3 := blk_frozen BK245.out 3))
                  go_ret
                  exact ⟨by first | rfl | (simp [errW_none, errW_some] <;> rfl) | (simp [*, errW_none, errW_some] <;> rfl), by repeat (first | (with_reducible first | exact HB.out | apply below_alloc | apply pw_below_drewN | apply below_drew1 | refine below_set ?_ GE244.out | refine below_set ?_ GE245.out) | exact HB.out)⟩
                · replace c21 := Bool.eq_false_iff.mpr c21
                  subst c21
                  have H1 : (some true) = some r := by rw [if_neg (show ¬ (false = true) by decide)] at H; exact H
                  clear H
                  have H := H1
                  clear H1
                  obtain rfl := Option.some.inj H
                  go_wp2_with (first | ((with_reducible refine gate_callee (f := 9) rfl ?_); refine goesL_ (some 16) rfl rfl Tryd.func9 (by kernel_rfl) rfl #[.string (a0 ++ (⟨#[46, 103, 111]⟩ : ByteArray))] rfl (by (try simp only [List.map_toArray, List.map_cons, List.map_nil]); first | done | rfl | (simp only [List.length_drop, List.length_take]; rfl)) ?_; (with_reducible refine (suffix_Of.calls kj3 (a0 ++ (⟨#[46, 103, 111]⟩ : ByteArray)) false t237 t238 t239 _ ?side1 A10.out).mono ?_); (case side1 => exact Tabs.below HT.out (by repeat (first | (with_reducible first | exact HB.out | apply below_alloc | apply pw_below_drewN | apply below_drew1) | exact HB.out))); rintro e w29 ⟨rfl, hb⟩; refine ⟨_, rfl, ?_⟩; have n0_ := Aside0.mk (below_step (by repeat (first | (with_reducible first | exact HB.out | apply below_alloc | apply pw_below_drewN | apply below_drew1) | exact HB.out)) hb); clear HB; have HB := n0_; clear n0_; (try clear hb); (try clear hb2); (try clear hk); (try clear hi)) | ((with_reducible refine gate_callee (f := 9) rfl ?_); refine goesL_ (some 19) rfl rfl Tryd.func9 (by kernel_rfl) rfl #[.string (a0 ++ (⟨#[95, 116, 101, 115, 116, 46, 103, 111]⟩ : ByteArray))] rfl (by (try simp only [List.map_toArray, List.map_cons, List.map_nil]); first | done | rfl | (simp only [List.length_drop, List.length_take]; rfl)) ?_; (with_reducible refine (suffix_Of.calls kj3 (a0 ++ (⟨#[95, 116, 101, 115, 116, 46, 103, 111]⟩ : ByteArray)) false t241 t242 t243 _ ?side1 A12.out).mono ?_); (case side1 => exact Tabs.below HT.out (by repeat (first | (with_reducible first | exact HB.out | apply below_alloc | apply pw_below_drewN | apply below_drew1) | exact HB.out))); rintro e w30 ⟨rfl, hb⟩; refine ⟨_, rfl, ?_⟩; have n0_ := Aside0.mk (below_step (by repeat (first | (with_reducible first | exact HB.out | apply below_alloc | apply pw_below_drewN | apply below_drew1) | exact HB.out)) hb); clear HB; have HB := n0_; clear n0_; (try clear hb); (try clear hb2); (try clear hk); (try clear hi)) | ((with_reducible refine gate_dst (N := 3) rfl ?_); refine box_event ?hg (N := 3) ?hd (cs := #[.bool false, .bool false, .string (⟨#[]⟩ : ByteArray), .string (⟨#[]⟩ : ByteArray)]) (t := 26) ?hr ?_; (case hd => rfl); (case hg => rfl); (case hr => first | (go_simp; done) | (go_simp; rfl)); intro gb244 hg w31 hbox hb; have n0_ := Aside0.mk (below_step (by repeat (first | (with_reducible first | exact HB.out | apply below_alloc | apply pw_below_drewN | apply below_drew1) | exact HB.out)) hb); have n1_ := Aside0.mk (hbox); have n2_ := Aside0.mk ((by rw [hg]; exact (below_size (by repeat (first | (with_reducible first | exact HB.out | apply below_alloc | apply pw_below_drewN | apply below_drew1) | exact HB.out))) : w.heap.size ≤ gb244)); have n3_ := Aside0.mk ((by rw [hg]; exact (below_size (by repeat (first | (with_reducible first | exact HB.out | apply below_alloc | apply pw_below_drewN | apply below_drew1) | exact HB.out))) : w.heap.size ≤ gb244)); clear HB; have HB := n0_; have BK244 := n1_; have GW244 := n2_; have GE244 := n3_; clear n0_ n1_ n2_ n3_; clear hb hbox hg) | ((with_reducible refine gate_dst (N := 4) rfl ?_); refine box_event ?hg (N := 4) ?hd (cs := #[.bool false, .bool false, .string (⟨#[]⟩ : ByteArray), .string (⟨#[]⟩ : ByteArray)]) (t := 26) ?hr ?_; (case hd => rfl); (case hg => rfl); (case hr => first | (go_simp; done) | (go_simp; rfl)); intro gb245 hg w32 hbox hb; have n0_ := Aside0.mk (blk_below (g := gb244) (o := .cells #[.bool false, .bool false, .string (⟨#[]⟩ : ByteArray), .string (⟨#[]⟩ : ByteArray)] 26 (0, 0)) (by (with_reducible repeat (first | refine blk_drewN ?_ _ | refine blk_drew ?_ | refine blk_alloc ?_ _)); exact BK244.out) hb); have n1_ := Aside0.mk (below_step (by repeat (first | (with_reducible first | exact HB.out | apply below_alloc | apply pw_below_drewN | apply below_drew1 | refine below_set ?_ GE244.out) | exact HB.out)) hb); have n2_ := Aside0.mk (hbox); have n3_ := Aside0.mk ((by rw [hg]; exact (below_size (by repeat (first | (with_reducible first | exact HB.out | apply below_alloc | apply pw_below_drewN | apply below_drew1 | refine below_set ?_ GE244.out) | exact HB.out))) : w.heap.size ≤ gb245)); have n4_ := Aside0.mk ((by rw [hg]; exact (below_size (by repeat (first | (with_reducible first | exact HB.out | apply below_alloc | apply pw_below_drewN | apply below_drew1 | refine below_set ?_ GE244.out) | exact HB.out))) : w.heap.size ≤ gb245)); have n5_ := Aside0.mk ((by rw [hg]; exact Nat.ne_of_lt (blk_lt (g := gb244) (o := .cells #[.bool false, .bool false, .string (⟨#[]⟩ : ByteArray), .string (⟨#[]⟩ : ByteArray)] 26 (0, 0)) (by (with_reducible repeat (first | refine blk_drewN ?_ _ | refine blk_drew ?_ | refine blk_alloc ?_ _)); exact BK244.out)) : gb244 ≠ gb245)); have n6_ := Aside0.mk ((by rw [hg]; exact Nat.ne_of_gt (blk_lt (g := gb244) (o := .cells #[.bool false, .bool false, .string (⟨#[]⟩ : ByteArray), .string (⟨#[]⟩ : ByteArray)] 26 (0, 0)) (by (with_reducible repeat (first | refine blk_drewN ?_ _ | refine blk_drew ?_ | refine blk_alloc ?_ _)); exact BK244.out)) : gb245 ≠ gb244)); clear BK244; clear HB; have BK244 := n0_; have HB := n1_; have BK245 := n2_; have GW245 := n3_; have GE245 := n4_; have NB244_245 := n5_; have NB245_244 := n6_; clear n0_ n1_ n2_ n3_ n4_ n5_ n6_; clear hb hbox hg; have hnb33 := NB244_245.out; have hnc33 := NB245_244.out; have hcz34_0 : w32.cell? ⟨gb244, 0, none⟩ = some (.bool false) := (blk_cell BK244.out 0).trans rfl; have hcz34_1 : w32.cell? ⟨gb244, 1, none⟩ = some (.bool false) := (blk_cell BK244.out 1).trans rfl; have hcz34_2 : w32.cell? ⟨gb244, 2, none⟩ = some (.string (⟨#[]⟩ : ByteArray)) := (blk_cell BK244.out 2).trans rfl; have hcz34_3 : w32.cell? ⟨gb244, 3, none⟩ = some (.string (⟨#[]⟩ : ByteArray)) := (blk_cell BK244.out 3).trans rfl; have hfz34_0 := blk_frozen BK244.out 0; have hfz34_1 := blk_frozen BK244.out 1; have hfz34_2 := blk_frozen BK244.out 2; have hfz34_3 := blk_frozen BK244.out 3; have hcz35_0 : w32.cell? ⟨gb245, 0, none⟩ = some (.bool false) := (blk_cell BK245.out 0).trans rfl; have hcz35_1 : w32.cell? ⟨gb245, 1, none⟩ = some (.bool false) := (blk_cell BK245.out 1).trans rfl; have hcz35_2 : w32.cell? ⟨gb245, 2, none⟩ = some (.string (⟨#[]⟩ : ByteArray)) := (blk_cell BK245.out 2).trans rfl; have hcz35_3 : w32.cell? ⟨gb245, 3, none⟩ = some (.string (⟨#[]⟩ : ByteArray)) := (blk_cell BK245.out 3).trans rfl; have hfz35_0 := blk_frozen BK245.out 0; have hfz35_1 := blk_frozen BK245.out 1; have hfz35_2 := blk_frozen BK245.out 2; have hfz35_3 := blk_frozen BK245.out 3))
                  go_ret
                  exact ⟨by first | rfl | (simp [errW_none, errW_some] <;> rfl) | (simp [*, errW_none, errW_some] <;> rfl), by repeat (first | (with_reducible first | exact HB.out | apply below_alloc | apply pw_below_drewN | apply below_drew1 | refine below_set ?_ GE244.out | refine below_set ?_ GE245.out) | exact HB.out)⟩
            · rw [if_neg c11] at H
              exact absurd H (by simp)
          · rw [if_neg c9] at H
            exact absurd H (by simp)
  · replace c3 := Bool.eq_false_iff.mpr c3
    subst c3
    have H1 : (some false) = some r := by rw [if_neg (show ¬ (false = true) by decide)] at H; exact H
    clear H
    have H := H1
    clear H1
    obtain rfl := Option.some.inj H
    go_enter Tryd.func5, Tryd.ntmps5
    go_wp2_with (first | ((with_reducible refine gate_callee (f := 7) rfl ?_); refine goesL_ (some 5) rfl rfl Tryd.func7 (by kernel_rfl) rfl #[] rfl (by (try simp only [List.map_toArray, List.map_cons, List.map_nil]); first | done | rfl | (simp only [List.length_drop, List.length_take]; rfl)) ?_; (with_reducible refine (seichelaw15_alive.calls k  false _ ?side1 A2.out).mono ?_); (case side1 => exact Tabs.below HT.out (by repeat (first | (with_reducible first | exact HB.out | apply below_alloc | apply pw_below_drewN | apply below_drew1) | exact HB.out))); rintro e w36 ⟨rfl, hb⟩; refine ⟨_, rfl, ?_⟩; have n0_ := Aside0.mk (below_step (by repeat (first | (with_reducible first | exact HB.out | apply below_alloc | apply pw_below_drewN | apply below_drew1) | exact HB.out)) hb); clear HB; have HB := n0_; clear n0_; (try clear hb); (try clear hb2); (try clear hk); (try clear hi)))
    go_ret
    exact ⟨by first | rfl | (simp [errW_none, errW_some] <;> rfl) | (simp [*, errW_none, errW_some] <;> rfl), by repeat (first | (with_reducible first | exact HB.out | apply below_alloc | apply pw_below_drewN | apply below_drew1) | exact HB.out)⟩

/-- THE ONE PURE STATEMENT of seichelaw15_SuffixTests: yours. -/
def seichelaw15_SuffixTests.Pure : Prop := ∀ (a0 : ByteArray), a0.size ≤ 140737488351232 → ∃ k, seichelaw15_SuffixTests.f k a0 = some true
theorem seichelaw15_SuffixTests.walk (P : seichelaw15_SuffixTests.Pure) (a0 : ByteArray) (w : World) (hT : Tabs w) (w0 : a0.size ≤ 140737488351232) :
    Calls Tryd.prog 5 #[.string a0] w fun e w' => e = .returned (.bool true) ∧ Below w.heap.size w w' := by
  obtain ⟨k, h⟩ := P a0 w0
  refine (seichelaw15_SuffixTests.calls k a0 true w hT h).mono ?_
  rintro e w' ⟨rfl, hd⟩
  exact ⟨rfl, hd⟩

/-! ### seicheref15_Unix: function 19 -/
def seicheref15_Unix.f (k : Nat) (a0 : ByteArray) : Option (Bool) := (seicheref15_System.f k a0).bind fun t246 => (if t246 = true then (if a0.toList = ([106, 115] : List UInt8) then (some false) else (if a0.toList = ([112, 108, 97, 110, 57] : List UInt8) then (some false) else (if a0.toList = ([119, 97, 115, 105, 112, 49] : List UInt8) then (some false) else (some (a0.toList != ([119, 105, 110, 100, 111, 119, 115] : List UInt8)))))) else (some false))
theorem seicheref15_Unix.mono : ∀ a0 k, LeO (seicheref15_Unix.f k a0) (seicheref15_Unix.f (k + 1) a0) := by
  intro a0 k
  unfold seicheref15_Unix.f
  repeat' first
      | (with_reducible exact seicheref15_System.mono _ _)
      | (with_reducible exact LeO.refl _)
      | (with_reducible exact LeO.none _)
      | (with_reducible refine LeO.ite ?_ ?_)
      | (with_reducible refine LeO.bind ?_ (fun _ => ?_))
      | exact seicheref15_System.mono _ _
      | exact LeO.none _
      | refine LeO.ite ?_ ?_
      | refine LeO.bind ?_ (fun _ => ?_)
set_option maxHeartbeats 8000000 in
set_option maxRecDepth 100000 in
theorem seicheref15_Unix.calls (k : Nat) (a0 : ByteArray) (r : Bool) (w : World) (h : seicheref15_Unix.f k a0 = some r) :
    Calls Tryd.prog 19 #[.string a0] w fun e w' => e = .returned (.bool r) ∧ Below w.heap.size w w' := by
  have HB := Aside0.mk (Below.refl w.heap.size w)
  have H : ((seicheref15_System.f k a0).bind fun t246 => (if t246 = true then (if a0.toList = ([106, 115] : List UInt8) then (some false) else (if a0.toList = ([112, 108, 97, 110, 57] : List UInt8) then (some false) else (if a0.toList = ([119, 97, 115, 105, 112, 49] : List UInt8) then (some false) else (some (a0.toList != ([119, 105, 110, 100, 111, 119, 115] : List UInt8)))))) else (some false))) = some r := h
  clear h
  replace H := Option.bind_eq_some_iff.mp H
  obtain ⟨t246, A20, H⟩ := H
  replace H : (if t246 = true then (if a0.toList = ([106, 115] : List UInt8) then (some false) else (if a0.toList = ([112, 108, 97, 110, 57] : List UInt8) then (some false) else (if a0.toList = ([119, 97, 115, 105, 112, 49] : List UInt8) then (some false) else (some (a0.toList != ([119, 105, 110, 100, 111, 119, 115] : List UInt8)))))) else (some false)) = some r := H
  have A2 := Aside0.mk A20
  clear A20
  by_cases c3 : t246 = true
  · subst c3
    have H1 : (if a0.toList = ([106, 115] : List UInt8) then (some false) else (if a0.toList = ([112, 108, 97, 110, 57] : List UInt8) then (some false) else (if a0.toList = ([119, 97, 115, 105, 112, 49] : List UInt8) then (some false) else (some (a0.toList != ([119, 105, 110, 100, 111, 119, 115] : List UInt8)))))) = some r := by rw [if_pos rfl] at H; exact H
    clear H
    have H := H1
    clear H1
    by_cases c4 : a0.toList = ([106, 115] : List UInt8)
    · rw [if_pos c4] at H
      have c4b0 : (a0.toList == ([106, 115] : List UInt8)) = true := beq_iff_eq.mpr c4
      have c4b1 : (a0.toList != ([106, 115] : List UInt8)) = false := bne_eq_false_iff_eq.mpr c4
      clear c4
      obtain rfl := Option.some.inj H
      go_enter Tryd.func19, Tryd.ntmps19
      go_wp2_with (first | ((with_reducible refine gate_callee (f := 13) rfl ?_); refine goesL_ (some 4) rfl rfl Tryd.func13 (by kernel_rfl) rfl #[.string a0] rfl (by (try simp only [List.map_toArray, List.map_cons, List.map_nil]); first | done | rfl | (simp only [List.length_drop, List.length_take]; rfl)) ?_; (with_reducible refine (seicheref15_System.calls k a0 true _ A2.out).mono ?_); rintro e w5 ⟨rfl, hb⟩; refine ⟨_, rfl, ?_⟩; have n0_ := Aside0.mk (below_step (by repeat (first | (with_reducible first | exact HB.out | apply below_alloc | apply pw_below_drewN | apply below_drew1) | exact HB.out)) hb); clear HB; have HB := n0_; clear n0_; (try clear hb); (try clear hb2); (try clear hk); (try clear hi)))
      go_ret
      exact ⟨by first | rfl | (simp [errW_none, errW_some] <;> rfl) | (simp [*, errW_none, errW_some] <;> rfl), by repeat (first | (with_reducible first | exact HB.out | apply below_alloc | apply pw_below_drewN | apply below_drew1) | exact HB.out)⟩
    · rw [if_neg c4] at H
      have c4b0 : (a0.toList == ([106, 115] : List UInt8)) = false := beq_eq_false_iff_ne.mpr c4
      have c4b1 : (a0.toList != ([106, 115] : List UInt8)) = true := bne_iff_ne.mpr c4
      by_cases c6 : a0.toList = ([112, 108, 97, 110, 57] : List UInt8)
      · rw [if_pos c6] at H
        have c6b0 : (a0.toList == ([112, 108, 97, 110, 57] : List UInt8)) = true := beq_iff_eq.mpr c6
        have c6b1 : (a0.toList != ([112, 108, 97, 110, 57] : List UInt8)) = false := bne_eq_false_iff_eq.mpr c6
        clear c6
        obtain rfl := Option.some.inj H
        go_enter Tryd.func19, Tryd.ntmps19
        go_wp2_with (first | ((with_reducible refine gate_callee (f := 13) rfl ?_); refine goesL_ (some 4) rfl rfl Tryd.func13 (by kernel_rfl) rfl #[.string a0] rfl (by (try simp only [List.map_toArray, List.map_cons, List.map_nil]); first | done | rfl | (simp only [List.length_drop, List.length_take]; rfl)) ?_; (with_reducible refine (seicheref15_System.calls k a0 true _ A2.out).mono ?_); rintro e w7 ⟨rfl, hb⟩; refine ⟨_, rfl, ?_⟩; have n0_ := Aside0.mk (below_step (by repeat (first | (with_reducible first | exact HB.out | apply below_alloc | apply pw_below_drewN | apply below_drew1) | exact HB.out)) hb); clear HB; have HB := n0_; clear n0_; (try clear hb); (try clear hb2); (try clear hk); (try clear hi)))
        go_ret
        exact ⟨by first | rfl | (simp [errW_none, errW_some] <;> rfl) | (simp [*, errW_none, errW_some] <;> rfl), by repeat (first | (with_reducible first | exact HB.out | apply below_alloc | apply pw_below_drewN | apply below_drew1) | exact HB.out)⟩
      · rw [if_neg c6] at H
        have c6b0 : (a0.toList == ([112, 108, 97, 110, 57] : List UInt8)) = false := beq_eq_false_iff_ne.mpr c6
        have c6b1 : (a0.toList != ([112, 108, 97, 110, 57] : List UInt8)) = true := bne_iff_ne.mpr c6
        by_cases c8 : a0.toList = ([119, 97, 115, 105, 112, 49] : List UInt8)
        · rw [if_pos c8] at H
          have c8b0 : (a0.toList == ([119, 97, 115, 105, 112, 49] : List UInt8)) = true := beq_iff_eq.mpr c8
          have c8b1 : (a0.toList != ([119, 97, 115, 105, 112, 49] : List UInt8)) = false := bne_eq_false_iff_eq.mpr c8
          clear c8
          obtain rfl := Option.some.inj H
          go_enter Tryd.func19, Tryd.ntmps19
          go_wp2_with (first | ((with_reducible refine gate_callee (f := 13) rfl ?_); refine goesL_ (some 4) rfl rfl Tryd.func13 (by kernel_rfl) rfl #[.string a0] rfl (by (try simp only [List.map_toArray, List.map_cons, List.map_nil]); first | done | rfl | (simp only [List.length_drop, List.length_take]; rfl)) ?_; (with_reducible refine (seicheref15_System.calls k a0 true _ A2.out).mono ?_); rintro e w9 ⟨rfl, hb⟩; refine ⟨_, rfl, ?_⟩; have n0_ := Aside0.mk (below_step (by repeat (first | (with_reducible first | exact HB.out | apply below_alloc | apply pw_below_drewN | apply below_drew1) | exact HB.out)) hb); clear HB; have HB := n0_; clear n0_; (try clear hb); (try clear hb2); (try clear hk); (try clear hi)))
          go_ret
          exact ⟨by first | rfl | (simp [errW_none, errW_some] <;> rfl) | (simp [*, errW_none, errW_some] <;> rfl), by repeat (first | (with_reducible first | exact HB.out | apply below_alloc | apply pw_below_drewN | apply below_drew1) | exact HB.out)⟩
        · rw [if_neg c8] at H
          have c8b0 : (a0.toList == ([119, 97, 115, 105, 112, 49] : List UInt8)) = false := beq_eq_false_iff_ne.mpr c8
          have c8b1 : (a0.toList != ([119, 97, 115, 105, 112, 49] : List UInt8)) = true := bne_iff_ne.mpr c8
          obtain rfl := Option.some.inj H
          go_enter Tryd.func19, Tryd.ntmps19
          go_wp2_with (first | ((with_reducible refine gate_callee (f := 13) rfl ?_); refine goesL_ (some 4) rfl rfl Tryd.func13 (by kernel_rfl) rfl #[.string a0] rfl (by (try simp only [List.map_toArray, List.map_cons, List.map_nil]); first | done | rfl | (simp only [List.length_drop, List.length_take]; rfl)) ?_; (with_reducible refine (seicheref15_System.calls k a0 true _ A2.out).mono ?_); rintro e w10 ⟨rfl, hb⟩; refine ⟨_, rfl, ?_⟩; have n0_ := Aside0.mk (below_step (by repeat (first | (with_reducible first | exact HB.out | apply below_alloc | apply pw_below_drewN | apply below_drew1) | exact HB.out)) hb); clear HB; have HB := n0_; clear n0_; (try clear hb); (try clear hb2); (try clear hk); (try clear hi)))
          go_ret
          exact ⟨by first | rfl | (simp [errW_none, errW_some] <;> rfl) | (simp [*, errW_none, errW_some] <;> rfl), by repeat (first | (with_reducible first | exact HB.out | apply below_alloc | apply pw_below_drewN | apply below_drew1) | exact HB.out)⟩
  · replace c3 := Bool.eq_false_iff.mpr c3
    subst c3
    have H1 : (some false) = some r := by rw [if_neg (show ¬ (false = true) by decide)] at H; exact H
    clear H
    have H := H1
    clear H1
    obtain rfl := Option.some.inj H
    go_enter Tryd.func19, Tryd.ntmps19
    go_wp2_with (first | ((with_reducible refine gate_callee (f := 13) rfl ?_); refine goesL_ (some 4) rfl rfl Tryd.func13 (by kernel_rfl) rfl #[.string a0] rfl (by (try simp only [List.map_toArray, List.map_cons, List.map_nil]); first | done | rfl | (simp only [List.length_drop, List.length_take]; rfl)) ?_; (with_reducible refine (seicheref15_System.calls k a0 false _ A2.out).mono ?_); rintro e w11 ⟨rfl, hb⟩; refine ⟨_, rfl, ?_⟩; have n0_ := Aside0.mk (below_step (by repeat (first | (with_reducible first | exact HB.out | apply below_alloc | apply pw_below_drewN | apply below_drew1) | exact HB.out)) hb); clear HB; have HB := n0_; clear n0_; (try clear hb); (try clear hb2); (try clear hk); (try clear hi)))
    go_ret
    exact ⟨by first | rfl | (simp [errW_none, errW_some] <;> rfl) | (simp [*, errW_none, errW_some] <;> rfl), by repeat (first | (with_reducible first | exact HB.out | apply below_alloc | apply pw_below_drewN | apply below_drew1) | exact HB.out)⟩

/-! ### suffix_Hidden: function 20 -/
def suffix_Hidden.f (a0 : ByteArray) : Option (Bool) := (strings_HasPrefix.f a0 (⟨#[95]⟩ : ByteArray)).bind fun t247 => (if t247 = true then (some true) else ((strings_HasPrefix.f a0 (⟨#[46]⟩ : ByteArray)).bind fun t248 => (if t248 = true then (some true) else (some (a0.toList == ([116, 101, 115, 116, 100, 97, 116, 97] : List UInt8))))))
set_option maxHeartbeats 8000000 in
set_option maxRecDepth 100000 in
theorem suffix_Hidden.calls (a0 : ByteArray) (r : Bool) (w : World) (h : suffix_Hidden.f a0 = some r) :
    Calls Tryd.prog 20 #[.string a0] w fun e w' => e = .returned (.bool r) ∧ Drawn0 w w' := by
  have H : ((strings_HasPrefix.f a0 (⟨#[95]⟩ : ByteArray)).bind fun t247 => (if t247 = true then (some true) else ((strings_HasPrefix.f a0 (⟨#[46]⟩ : ByteArray)).bind fun t248 => (if t248 = true then (some true) else (some (a0.toList == ([116, 101, 115, 116, 100, 97, 116, 97] : List UInt8))))))) = some r := h
  clear h
  replace H := Option.bind_eq_some_iff.mp H
  obtain ⟨t247, A20, H⟩ := H
  replace H : (if t247 = true then (some true) else ((strings_HasPrefix.f a0 (⟨#[46]⟩ : ByteArray)).bind fun t248 => (if t248 = true then (some true) else (some (a0.toList == ([116, 101, 115, 116, 100, 97, 116, 97] : List UInt8)))))) = some r := H
  have A2 := Aside0.mk A20
  clear A20
  by_cases c3 : t247 = true
  · subst c3
    have H1 : (some true) = some r := by rw [if_pos rfl] at H; exact H
    clear H
    have H := H1
    clear H1
    obtain rfl := Option.some.inj H
    go_enter Tryd.func20, Tryd.ntmps20
    go_wp2_with (first | ((with_reducible refine gate_callee (f := 23) rfl ?_); refine goesL_ (some 4) rfl rfl Tryd.func23 (by kernel_rfl) rfl #[.string a0, .string (⟨#[95]⟩ : ByteArray)] rfl (by (try simp only [List.map_toArray, List.map_cons, List.map_nil]); first | done | rfl | (simp only [List.length_drop, List.length_take]; rfl)) ?_; (with_reducible refine (strings_HasPrefix.calls a0 (⟨#[95]⟩ : ByteArray) true _ A2.out).mono ?_); rintro e w' ⟨rfl, ⟨nd, rfl⟩⟩; refine ⟨_, rfl, ?_⟩))
    go_ret
    exact ⟨by first | rfl | (simp; done) | (simp [*]; done), by repeat (first | exact Drawn0.refl _ | apply Drawn0.step)⟩
  · replace c3 := Bool.eq_false_iff.mpr c3
    subst c3
    have H1 : ((strings_HasPrefix.f a0 (⟨#[46]⟩ : ByteArray)).bind fun t248 => (if t248 = true then (some true) else (some (a0.toList == ([116, 101, 115, 116, 100, 97, 116, 97] : List UInt8))))) = some r := by rw [if_neg (show ¬ (false = true) by decide)] at H; exact H
    clear H
    have H := H1
    clear H1
    replace H := Option.bind_eq_some_iff.mp H
    obtain ⟨t248, A40, H⟩ := H
    replace H : (if t248 = true then (some true) else (some (a0.toList == ([116, 101, 115, 116, 100, 97, 116, 97] : List UInt8)))) = some r := H
    have A4 := Aside0.mk A40
    clear A40
    by_cases c5 : t248 = true
    · subst c5
      have H1 : (some true) = some r := by rw [if_pos rfl] at H; exact H
      clear H
      have H := H1
      clear H1
      obtain rfl := Option.some.inj H
      go_enter Tryd.func20, Tryd.ntmps20
      go_wp2_with (first | ((with_reducible refine gate_callee (f := 23) rfl ?_); refine goesL_ (some 4) rfl rfl Tryd.func23 (by kernel_rfl) rfl #[.string a0, .string (⟨#[95]⟩ : ByteArray)] rfl (by (try simp only [List.map_toArray, List.map_cons, List.map_nil]); first | done | rfl | (simp only [List.length_drop, List.length_take]; rfl)) ?_; (with_reducible refine (strings_HasPrefix.calls a0 (⟨#[95]⟩ : ByteArray) false _ A2.out).mono ?_); rintro e w' ⟨rfl, ⟨nd, rfl⟩⟩; refine ⟨_, rfl, ?_⟩) | (go_at_call 23; (with_reducible refine (strings_HasPrefix.calls a0 (⟨#[46]⟩ : ByteArray) true _ A4.out).mono ?_); rintro e w' ⟨rfl, ⟨nd, rfl⟩⟩))
      go_ret
      exact ⟨by first | rfl | (simp; done) | (simp [*]; done), by repeat (first | exact Drawn0.refl _ | apply Drawn0.step)⟩
    · replace c5 := Bool.eq_false_iff.mpr c5
      subst c5
      have H1 : (some (a0.toList == ([116, 101, 115, 116, 100, 97, 116, 97] : List UInt8))) = some r := by rw [if_neg (show ¬ (false = true) by decide)] at H; exact H
      clear H
      have H := H1
      clear H1
      obtain rfl := Option.some.inj H
      go_enter Tryd.func20, Tryd.ntmps20
      go_wp2_with (first | ((with_reducible refine gate_callee (f := 23) rfl ?_); refine goesL_ (some 4) rfl rfl Tryd.func23 (by kernel_rfl) rfl #[.string a0, .string (⟨#[95]⟩ : ByteArray)] rfl (by (try simp only [List.map_toArray, List.map_cons, List.map_nil]); first | done | rfl | (simp only [List.length_drop, List.length_take]; rfl)) ?_; (with_reducible refine (strings_HasPrefix.calls a0 (⟨#[95]⟩ : ByteArray) false _ A2.out).mono ?_); rintro e w' ⟨rfl, ⟨nd, rfl⟩⟩; refine ⟨_, rfl, ?_⟩) | (go_at_call 23; (with_reducible refine (strings_HasPrefix.calls a0 (⟨#[46]⟩ : ByteArray) false _ A4.out).mono ?_); rintro e w' ⟨rfl, ⟨nd, rfl⟩⟩))
      go_ret
      exact ⟨by first | rfl | (simp; done) | (simp [*]; done), by repeat (first | exact Drawn0.refl _ | apply Drawn0.step)⟩

/-! ### seicheref15_Hidden: function 21 -/
def seicheref15_Hidden.f (a0 : ByteArray) : Option (Bool) := if a0.toList = ([116, 101, 115, 116, 100, 97, 116, 97] : List UInt8) then (some true) else (if a0.toList = ([] : List UInt8) then (some false) else (if 0 < (a0.size : Int) then (if (bt a0 0) = 95 then (some true) else (some ((bt a0 0) == 46))) else (none)))
set_option maxHeartbeats 8000000 in
set_option maxRecDepth 100000 in
theorem seicheref15_Hidden.calls (a0 : ByteArray) (r : Bool) (w : World) (h : seicheref15_Hidden.f a0 = some r) :
    Calls Tryd.prog 21 #[.string a0] w fun e w' => e = .returned (.bool r) ∧ Drawn0 w w' := by
  have H : (if a0.toList = ([116, 101, 115, 116, 100, 97, 116, 97] : List UInt8) then (some true) else (if a0.toList = ([] : List UInt8) then (some false) else (if 0 < (a0.size : Int) then (if (bt a0 0) = 95 then (some true) else (some ((bt a0 0) == 46))) else (none)))) = some r := h
  clear h
  by_cases c2 : a0.toList = ([116, 101, 115, 116, 100, 97, 116, 97] : List UInt8)
  · rw [if_pos c2] at H
    have c2b0 : (a0.toList == ([116, 101, 115, 116, 100, 97, 116, 97] : List UInt8)) = true := beq_iff_eq.mpr c2
    have c2b1 : (a0.toList != ([116, 101, 115, 116, 100, 97, 116, 97] : List UInt8)) = false := bne_eq_false_iff_eq.mpr c2
    clear c2
    obtain rfl := Option.some.inj H
    go_enter Tryd.func21, Tryd.ntmps21
    go_wp2
    go_ret
    exact ⟨by first | rfl | (simp; done) | (simp [*]; done), by repeat (first | exact Drawn0.refl _ | apply Drawn0.step)⟩
  · rw [if_neg c2] at H
    have c2b0 : (a0.toList == ([116, 101, 115, 116, 100, 97, 116, 97] : List UInt8)) = false := beq_eq_false_iff_ne.mpr c2
    have c2b1 : (a0.toList != ([116, 101, 115, 116, 100, 97, 116, 97] : List UInt8)) = true := bne_iff_ne.mpr c2
    by_cases c3 : a0.toList = ([] : List UInt8)
    · rw [if_pos c3] at H
      have c3b0 : (a0.toList == ([] : List UInt8)) = true := beq_iff_eq.mpr c3
      have c3b1 : (a0.toList != ([] : List UInt8)) = false := bne_eq_false_iff_eq.mpr c3
      clear c3
      obtain rfl := Option.some.inj H
      go_enter Tryd.func21, Tryd.ntmps21
      go_wp2
      go_ret
      exact ⟨by first | rfl | (simp; done) | (simp [*]; done), by repeat (first | exact Drawn0.refl _ | apply Drawn0.step)⟩
    · rw [if_neg c3] at H
      have c3b0 : (a0.toList == ([] : List UInt8)) = false := beq_eq_false_iff_ne.mpr c3
      have c3b1 : (a0.toList != ([] : List UInt8)) = true := bne_iff_ne.mpr c3
      by_cases c4 : 0 < (a0.size : Int)
      · rw [if_pos c4] at H
        have c4b0 : decide (0 < (a0.size : Int)) = true := decide_eq_true c4
        have c4b1 : decide (0 < a0.size) = true := decide_eq_true (by omega)
        clear c4
        by_cases c6 : (bt a0 0) = 95
        · rw [if_pos c6] at H
          have c6b0 : ((bt a0 0) == 95) = true := beq_iff_eq.mpr c6
          have c6b1 : ((bt a0 0) != 95) = false := bne_eq_false_iff_eq.mpr c6
          clear c6
          obtain rfl := Option.some.inj H
          have p5 : 0 ≤ (0 : Int) := (by omega)
          have q5 : 0 < a0.size := (by have : (0 : Int) < (a0.size : Int) := of_decide_eq_true (by first | (with_reducible assumption) | assumption); omega)
          have hx5 : ∀ h : 0 < a0.size, ((a0[0]'h).toNat : Int) = bt a0 0 := bt_at a0 0
          clear p5
          have qi5 : (0 < (a0.size : Int)) = True := eq_true (of_decide_eq_true (by first | (with_reducible assumption) | assumption))
          replace q5 := eq_true q5
          go_enter Tryd.func21, Tryd.ntmps21
          go_wp2
          go_ret
          exact ⟨by first | rfl | (simp; done) | (simp [*]; done), by repeat (first | exact Drawn0.refl _ | apply Drawn0.step)⟩
        · rw [if_neg c6] at H
          have c6b0 : ((bt a0 0) == 95) = false := beq_eq_false_iff_ne.mpr c6
          have c6b1 : ((bt a0 0) != 95) = true := bne_iff_ne.mpr c6
          obtain rfl := Option.some.inj H
          have p5 : 0 ≤ (0 : Int) := (by omega)
          have q5 : 0 < a0.size := (by have : (0 : Int) < (a0.size : Int) := of_decide_eq_true (by first | (with_reducible assumption) | assumption); omega)
          have hx5 : ∀ h : 0 < a0.size, ((a0[0]'h).toNat : Int) = bt a0 0 := bt_at a0 0
          clear p5
          have qi5 : (0 < (a0.size : Int)) = True := eq_true (of_decide_eq_true (by first | (with_reducible assumption) | assumption))
          replace q5 := eq_true q5
          have p7 : 0 ≤ (0 : Int) := (by omega)
          have q7 : 0 < a0.size := (by have : (0 : Int) < (a0.size : Int) := of_decide_eq_true (by first | (with_reducible assumption) | assumption); omega)
          have hx7 : ∀ h : 0 < a0.size, ((a0[0]'h).toNat : Int) = bt a0 0 := bt_at a0 0
          clear p7
          have qi7 : (0 < (a0.size : Int)) = True := eq_true (of_decide_eq_true (by first | (with_reducible assumption) | assumption))
          replace q7 := eq_true q7
          go_enter Tryd.func21, Tryd.ntmps21
          go_wp2
          go_ret
          exact ⟨by first | rfl | (simp; done) | (simp [*]; done), by repeat (first | exact Drawn0.refl _ | apply Drawn0.step)⟩
      · rw [if_neg c4] at H
        exact absurd H (by simp)

/-! ### seichelaw15_SuffixKnows: function 6 -/
def seichelaw15_SuffixKnows.f (k : Nat) (a0 : ByteArray) : Option (Bool) := (seichelaw15_alive.f k).bind fun t249 => (if t249 = true then (if (a0.size : Int) > 1024 then (some true) else ((suffix_System.f a0).bind fun t250 => ((seicheref15_System.f k a0).bind fun t251 => (if (t250 == t251) = true then ((suffix_Processor.f a0).bind fun t252 => ((seicheref15_Processor.f k a0).bind fun t253 => (if (t252 == t253) = true then ((suffix_Unix.f a0).bind fun t254 => ((seicheref15_Unix.f k a0).bind fun t255 => (if (t254 == t255) = true then ((suffix_Hidden.f a0).bind fun t256 => ((seicheref15_Hidden.f a0).bind fun t257 => (some (t256 == t257)))) else (some false)))) else (some false)))) else (some false))))) else (some false))
theorem seichelaw15_SuffixKnows.mono : ∀ a0 k, LeO (seichelaw15_SuffixKnows.f k a0) (seichelaw15_SuffixKnows.f (k + 1) a0) := by
  intro a0 k
  unfold seichelaw15_SuffixKnows.f
  repeat' first
      | (with_reducible exact seichelaw15_alive.mono _)
      | (with_reducible exact seicheref15_Processor.mono _ _)
      | (with_reducible exact seicheref15_System.mono _ _)
      | (with_reducible exact seicheref15_Unix.mono _ _)
      | (with_reducible exact LeO.refl _)
      | (with_reducible exact LeO.none _)
      | (with_reducible refine LeO.ite ?_ ?_)
      | (with_reducible refine LeO.bind ?_ (fun _ => ?_))
      | exact seichelaw15_alive.mono _
      | exact seicheref15_Processor.mono _ _
      | exact seicheref15_System.mono _ _
      | exact seicheref15_Unix.mono _ _
      | exact LeO.none _
      | refine LeO.ite ?_ ?_
      | refine LeO.bind ?_ (fun _ => ?_)
set_option maxHeartbeats 8000000 in
set_option maxRecDepth 100000 in
theorem seichelaw15_SuffixKnows.calls (k : Nat) (a0 : ByteArray) (r : Bool) (w : World) (hT : Tabs w) (h : seichelaw15_SuffixKnows.f k a0 = some r) :
    Calls Tryd.prog 6 #[.string a0] w fun e w' => e = .returned (.bool r) ∧ Below w.heap.size w w' := by
  have HT := Aside0.mk hT
  clear hT
  have HB := Aside0.mk (Below.refl w.heap.size w)
  have H : ((seichelaw15_alive.f k).bind fun t249 => (if t249 = true then (if (a0.size : Int) > 1024 then (some true) else ((suffix_System.f a0).bind fun t250 => ((seicheref15_System.f k a0).bind fun t251 => (if (t250 == t251) = true then ((suffix_Processor.f a0).bind fun t252 => ((seicheref15_Processor.f k a0).bind fun t253 => (if (t252 == t253) = true then ((suffix_Unix.f a0).bind fun t254 => ((seicheref15_Unix.f k a0).bind fun t255 => (if (t254 == t255) = true then ((suffix_Hidden.f a0).bind fun t256 => ((seicheref15_Hidden.f a0).bind fun t257 => (some (t256 == t257)))) else (some false)))) else (some false)))) else (some false))))) else (some false))) = some r := h
  clear h
  replace H := Option.bind_eq_some_iff.mp H
  obtain ⟨t249, A20, H⟩ := H
  replace H : (if t249 = true then (if (a0.size : Int) > 1024 then (some true) else ((suffix_System.f a0).bind fun t250 => ((seicheref15_System.f k a0).bind fun t251 => (if (t250 == t251) = true then ((suffix_Processor.f a0).bind fun t252 => ((seicheref15_Processor.f k a0).bind fun t253 => (if (t252 == t253) = true then ((suffix_Unix.f a0).bind fun t254 => ((seicheref15_Unix.f k a0).bind fun t255 => (if (t254 == t255) = true then ((suffix_Hidden.f a0).bind fun t256 => ((seicheref15_Hidden.f a0).bind fun t257 => (some (t256 == t257)))) else (some false)))) else (some false)))) else (some false))))) else (some false)) = some r := H
  have A2 := Aside0.mk A20
  clear A20
  by_cases c3 : t249 = true
  · subst c3
    have H1 : (if (a0.size : Int) > 1024 then (some true) else ((suffix_System.f a0).bind fun t250 => ((seicheref15_System.f k a0).bind fun t251 => (if (t250 == t251) = true then ((suffix_Processor.f a0).bind fun t252 => ((seicheref15_Processor.f k a0).bind fun t253 => (if (t252 == t253) = true then ((suffix_Unix.f a0).bind fun t254 => ((seicheref15_Unix.f k a0).bind fun t255 => (if (t254 == t255) = true then ((suffix_Hidden.f a0).bind fun t256 => ((seicheref15_Hidden.f a0).bind fun t257 => (some (t256 == t257)))) else (some false)))) else (some false)))) else (some false))))) = some r := by rw [if_pos rfl] at H; exact H
    clear H
    have H := H1
    clear H1
    by_cases c4 : (a0.size : Int) > 1024
    · rw [if_pos c4] at H
      have c4b0 : decide (1024 < (a0.size : Int)) = true := decide_eq_true c4
      have c4b1 : decide (1024 < a0.size) = true := decide_eq_true (by omega)
      clear c4
      obtain rfl := Option.some.inj H
      go_enter Tryd.func6, Tryd.ntmps6
      go_wp2_with (first | ((with_reducible refine gate_callee (f := 7) rfl ?_); refine goesL_ (some 3) rfl rfl Tryd.func7 (by kernel_rfl) rfl #[] rfl (by (try simp only [List.map_toArray, List.map_cons, List.map_nil]); first | done | rfl | (simp only [List.length_drop, List.length_take]; rfl)) ?_; (with_reducible refine (seichelaw15_alive.calls k  true _ ?side1 A2.out).mono ?_); (case side1 => exact Tabs.below HT.out (by repeat (first | (with_reducible first | exact HB.out | apply below_alloc | apply pw_below_drewN | apply below_drew1) | exact HB.out))); rintro e w5 ⟨rfl, hb⟩; refine ⟨_, rfl, ?_⟩; have n0_ := Aside0.mk (below_step (by repeat (first | (with_reducible first | exact HB.out | apply below_alloc | apply pw_below_drewN | apply below_drew1) | exact HB.out)) hb); clear HB; have HB := n0_; clear n0_; (try clear hb); (try clear hb2); (try clear hk); (try clear hi)))
      go_ret
      exact ⟨by first | rfl | (simp [errW_none, errW_some] <;> rfl) | (simp [*, errW_none, errW_some] <;> rfl), by repeat (first | (with_reducible first | exact HB.out | apply below_alloc | apply pw_below_drewN | apply below_drew1) | exact HB.out)⟩
    · rw [if_neg c4] at H
      have c4b0 : decide (1024 < (a0.size : Int)) = false := decide_eq_false c4
      have c4b1 : decide (1024 < a0.size) = false := decide_eq_false (by omega)
      clear c4
      replace H := Option.bind_eq_some_iff.mp H
      obtain ⟨t250, A60, H⟩ := H
      replace H : ((seicheref15_System.f k a0).bind fun t251 => (if (t250 == t251) = true then ((suffix_Processor.f a0).bind fun t252 => ((seicheref15_Processor.f k a0).bind fun t253 => (if (t252 == t253) = true then ((suffix_Unix.f a0).bind fun t254 => ((seicheref15_Unix.f k a0).bind fun t255 => (if (t254 == t255) = true then ((suffix_Hidden.f a0).bind fun t256 => ((seicheref15_Hidden.f a0).bind fun t257 => (some (t256 == t257)))) else (some false)))) else (some false)))) else (some false))) = some r := H
      have A6 := Aside0.mk A60
      clear A60
      replace H := Option.bind_eq_some_iff.mp H
      obtain ⟨t251, A70, H⟩ := H
      replace H : (if (t250 == t251) = true then ((suffix_Processor.f a0).bind fun t252 => ((seicheref15_Processor.f k a0).bind fun t253 => (if (t252 == t253) = true then ((suffix_Unix.f a0).bind fun t254 => ((seicheref15_Unix.f k a0).bind fun t255 => (if (t254 == t255) = true then ((suffix_Hidden.f a0).bind fun t256 => ((seicheref15_Hidden.f a0).bind fun t257 => (some (t256 == t257)))) else (some false)))) else (some false)))) else (some false)) = some r := H
      have A7 := Aside0.mk A70
      clear A70
      by_cases c8 : (t250 == t251) = true
      · rw [if_pos c8] at H
        have c8b0 : (t250 == t251) = true := c8
        (try (have c8b1 : decide (t250 = t251) = true := by simpa using c8))
        (try (have c8b2 : (t250 == t251) = true := by simpa using c8))
        clear c8
        replace H := Option.bind_eq_some_iff.mp H
        obtain ⟨t252, A90, H⟩ := H
        replace H : ((seicheref15_Processor.f k a0).bind fun t253 => (if (t252 == t253) = true then ((suffix_Unix.f a0).bind fun t254 => ((seicheref15_Unix.f k a0).bind fun t255 => (if (t254 == t255) = true then ((suffix_Hidden.f a0).bind fun t256 => ((seicheref15_Hidden.f a0).bind fun t257 => (some (t256 == t257)))) else (some false)))) else (some false))) = some r := H
        have A9 := Aside0.mk A90
        clear A90
        replace H := Option.bind_eq_some_iff.mp H
        obtain ⟨t253, A100, H⟩ := H
        replace H : (if (t252 == t253) = true then ((suffix_Unix.f a0).bind fun t254 => ((seicheref15_Unix.f k a0).bind fun t255 => (if (t254 == t255) = true then ((suffix_Hidden.f a0).bind fun t256 => ((seicheref15_Hidden.f a0).bind fun t257 => (some (t256 == t257)))) else (some false)))) else (some false)) = some r := H
        have A10 := Aside0.mk A100
        clear A100
        by_cases c11 : (t252 == t253) = true
        · rw [if_pos c11] at H
          have c11b0 : (t252 == t253) = true := c11
          (try (have c11b1 : decide (t252 = t253) = true := by simpa using c11))
          (try (have c11b2 : (t252 == t253) = true := by simpa using c11))
          clear c11
          replace H := Option.bind_eq_some_iff.mp H
          obtain ⟨t254, A120, H⟩ := H
          replace H : ((seicheref15_Unix.f k a0).bind fun t255 => (if (t254 == t255) = true then ((suffix_Hidden.f a0).bind fun t256 => ((seicheref15_Hidden.f a0).bind fun t257 => (some (t256 == t257)))) else (some false))) = some r := H
          have A12 := Aside0.mk A120
          clear A120
          replace H := Option.bind_eq_some_iff.mp H
          obtain ⟨t255, A130, H⟩ := H
          replace H : (if (t254 == t255) = true then ((suffix_Hidden.f a0).bind fun t256 => ((seicheref15_Hidden.f a0).bind fun t257 => (some (t256 == t257)))) else (some false)) = some r := H
          have A13 := Aside0.mk A130
          clear A130
          by_cases c14 : (t254 == t255) = true
          · rw [if_pos c14] at H
            have c14b0 : (t254 == t255) = true := c14
            (try (have c14b1 : decide (t254 = t255) = true := by simpa using c14))
            (try (have c14b2 : (t254 == t255) = true := by simpa using c14))
            clear c14
            replace H := Option.bind_eq_some_iff.mp H
            obtain ⟨t256, A150, H⟩ := H
            replace H : ((seicheref15_Hidden.f a0).bind fun t257 => (some (t256 == t257))) = some r := H
            have A15 := Aside0.mk A150
            clear A150
            replace H := Option.bind_eq_some_iff.mp H
            obtain ⟨t257, A160, H⟩ := H
            replace H : (some (t256 == t257)) = some r := H
            have A16 := Aside0.mk A160
            clear A160
            obtain rfl := Option.some.inj H
            go_enter Tryd.func6, Tryd.ntmps6
            go_wp2_with (first | ((with_reducible refine gate_callee (f := 7) rfl ?_); refine goesL_ (some 3) rfl rfl Tryd.func7 (by kernel_rfl) rfl #[] rfl (by (try simp only [List.map_toArray, List.map_cons, List.map_nil]); first | done | rfl | (simp only [List.length_drop, List.length_take]; rfl)) ?_; (with_reducible refine (seichelaw15_alive.calls k  true _ ?side1 A2.out).mono ?_); (case side1 => exact Tabs.below HT.out (by repeat (first | (with_reducible first | exact HB.out | apply below_alloc | apply pw_below_drewN | apply below_drew1) | exact HB.out))); rintro e w17 ⟨rfl, hb⟩; refine ⟨_, rfl, ?_⟩; have n0_ := Aside0.mk (below_step (by repeat (first | (with_reducible first | exact HB.out | apply below_alloc | apply pw_below_drewN | apply below_drew1) | exact HB.out)) hb); clear HB; have HB := n0_; clear n0_; (try clear hb); (try clear hb2); (try clear hk); (try clear hi)) | ((with_reducible refine gate_callee (f := 15) rfl ?_); refine goesL_ (some 9) rfl rfl Tryd.func15 (by kernel_rfl) rfl #[.string a0] rfl (by (try simp only [List.map_toArray, List.map_cons, List.map_nil]); first | done | rfl | (simp only [List.length_drop, List.length_take]; rfl)) ?_; (with_reducible refine (suffix_System.calls a0 t250 _ ?side1 A6.out).mono ?_); (case side1 => exact Tabs.below HT.out (by repeat (first | (with_reducible first | exact HB.out | apply below_alloc | apply pw_below_drewN | apply below_drew1) | exact HB.out))); rintro e w18 ⟨rfl, hb⟩; refine ⟨_, rfl, ?_⟩; have n0_ := Aside0.mk (below_step (by repeat (first | (with_reducible first | exact HB.out | apply below_alloc | apply pw_below_drewN | apply below_drew1) | exact HB.out)) hb); clear HB; have HB := n0_; clear n0_; (try clear hb); (try clear hb2); (try clear hk); (try clear hi)) | ((with_reducible refine gate_callee (f := 13) rfl ?_); refine goesL_ (some 11) rfl rfl Tryd.func13 (by kernel_rfl) rfl #[.string a0] rfl (by (try simp only [List.map_toArray, List.map_cons, List.map_nil]); first | done | rfl | (simp only [List.length_drop, List.length_take]; rfl)) ?_; (with_reducible refine (seicheref15_System.calls k a0 t251 _ A7.out).mono ?_); rintro e w19 ⟨rfl, hb⟩; refine ⟨_, rfl, ?_⟩; have n0_ := Aside0.mk (below_step (by repeat (first | (with_reducible first | exact HB.out | apply below_alloc | apply pw_below_drewN | apply below_drew1) | exact HB.out)) hb); clear HB; have HB := n0_; clear n0_; (try clear hb); (try clear hb2); (try clear hk); (try clear hi)) | (go_at_call 16; (with_reducible refine (suffix_Processor.calls a0 t252 _ ?side1 A9.out).mono ?_); (case side1 => exact Tabs.below HT.out (by repeat (first | (with_reducible first | exact HB.out | apply below_alloc | apply pw_below_drewN | apply below_drew1) | exact HB.out))); rintro e w20 ⟨rfl, hb⟩; have n0_ := Aside0.mk (below_step (by repeat (first | (with_reducible first | exact HB.out | apply below_alloc | apply pw_below_drewN | apply below_drew1) | exact HB.out)) hb); clear HB; have HB := n0_; clear n0_; (try clear hb); (try clear hb2); (try clear hk); (try clear hi)) | (go_at_call 17; (with_reducible refine (seicheref15_Processor.calls k a0 t253 _ A10.out).mono ?_); rintro e w21 ⟨rfl, hb⟩; have n0_ := Aside0.mk (below_step (by repeat (first | (with_reducible first | exact HB.out | apply below_alloc | apply pw_below_drewN | apply below_drew1) | exact HB.out)) hb); clear HB; have HB := n0_; clear n0_; (try clear hb); (try clear hb2); (try clear hk); (try clear hi)) | (go_at_call 18; (with_reducible refine (suffix_Unix.calls a0 t254 _ ?side1 A12.out).mono ?_); (case side1 => exact Tabs.below HT.out (by repeat (first | (with_reducible first | exact HB.out | apply below_alloc | apply pw_below_drewN | apply below_drew1) | exact HB.out))); rintro e w22 ⟨rfl, hb⟩; have n0_ := Aside0.mk (below_step (by repeat (first | (with_reducible first | exact HB.out | apply below_alloc | apply pw_below_drewN | apply below_drew1) | exact HB.out)) hb); clear HB; have HB := n0_; clear n0_; (try clear hb); (try clear hb2); (try clear hk); (try clear hi)) | (go_at_call 19; (with_reducible refine (seicheref15_Unix.calls k a0 t255 _ A13.out).mono ?_); rintro e w23 ⟨rfl, hb⟩; have n0_ := Aside0.mk (below_step (by repeat (first | (with_reducible first | exact HB.out | apply below_alloc | apply pw_below_drewN | apply below_drew1) | exact HB.out)) hb); clear HB; have HB := n0_; clear n0_; (try clear hb); (try clear hb2); (try clear hk); (try clear hi)) | (go_at_call 20; (with_reducible refine (suffix_Hidden.calls a0 t256 _ A15.out).mono ?_); rintro e w' ⟨rfl, ⟨nd, rfl⟩⟩) | (go_at_call 21; (with_reducible refine (seicheref15_Hidden.calls a0 t257 _ A16.out).mono ?_); rintro e w' ⟨rfl, ⟨nd, rfl⟩⟩))
            go_ret
            exact ⟨by first | rfl | (simp [errW_none, errW_some] <;> rfl) | (simp [*, errW_none, errW_some] <;> rfl), by repeat (first | (with_reducible first | exact HB.out | apply below_alloc | apply pw_below_drewN | apply below_drew1) | exact HB.out)⟩
          · rw [if_neg c14] at H
            have c14b0 : (t254 == t255) = false := by simpa using c14
            (try (have c14b1 : decide (t254 = t255) = false := by simpa using c14))
            (try (have c14b2 : (t254 == t255) = false := by simpa using c14))
            (try (have c14b3 : ¬ (t254 = t255) := by simpa using c14))
            clear c14
            obtain rfl := Option.some.inj H
            go_enter Tryd.func6, Tryd.ntmps6
            go_wp2_with (first | ((with_reducible refine gate_callee (f := 7) rfl ?_); refine goesL_ (some 3) rfl rfl Tryd.func7 (by kernel_rfl) rfl #[] rfl (by (try simp only [List.map_toArray, List.map_cons, List.map_nil]); first | done | rfl | (simp only [List.length_drop, List.length_take]; rfl)) ?_; (with_reducible refine (seichelaw15_alive.calls k  true _ ?side1 A2.out).mono ?_); (case side1 => exact Tabs.below HT.out (by repeat (first | (with_reducible first | exact HB.out | apply below_alloc | apply pw_below_drewN | apply below_drew1) | exact HB.out))); rintro e w24 ⟨rfl, hb⟩; refine ⟨_, rfl, ?_⟩; have n0_ := Aside0.mk (below_step (by repeat (first | (with_reducible first | exact HB.out | apply below_alloc | apply pw_below_drewN | apply below_drew1) | exact HB.out)) hb); clear HB; have HB := n0_; clear n0_; (try clear hb); (try clear hb2); (try clear hk); (try clear hi)) | ((with_reducible refine gate_callee (f := 15) rfl ?_); refine goesL_ (some 9) rfl rfl Tryd.func15 (by kernel_rfl) rfl #[.string a0] rfl (by (try simp only [List.map_toArray, List.map_cons, List.map_nil]); first | done | rfl | (simp only [List.length_drop, List.length_take]; rfl)) ?_; (with_reducible refine (suffix_System.calls a0 t250 _ ?side1 A6.out).mono ?_); (case side1 => exact Tabs.below HT.out (by repeat (first | (with_reducible first | exact HB.out | apply below_alloc | apply pw_below_drewN | apply below_drew1) | exact HB.out))); rintro e w25 ⟨rfl, hb⟩; refine ⟨_, rfl, ?_⟩; have n0_ := Aside0.mk (below_step (by repeat (first | (with_reducible first | exact HB.out | apply below_alloc | apply pw_below_drewN | apply below_drew1) | exact HB.out)) hb); clear HB; have HB := n0_; clear n0_; (try clear hb); (try clear hb2); (try clear hk); (try clear hi)) | ((with_reducible refine gate_callee (f := 13) rfl ?_); refine goesL_ (some 11) rfl rfl Tryd.func13 (by kernel_rfl) rfl #[.string a0] rfl (by (try simp only [List.map_toArray, List.map_cons, List.map_nil]); first | done | rfl | (simp only [List.length_drop, List.length_take]; rfl)) ?_; (with_reducible refine (seicheref15_System.calls k a0 t251 _ A7.out).mono ?_); rintro e w26 ⟨rfl, hb⟩; refine ⟨_, rfl, ?_⟩; have n0_ := Aside0.mk (below_step (by repeat (first | (with_reducible first | exact HB.out | apply below_alloc | apply pw_below_drewN | apply below_drew1) | exact HB.out)) hb); clear HB; have HB := n0_; clear n0_; (try clear hb); (try clear hb2); (try clear hk); (try clear hi)) | (go_at_call 16; (with_reducible refine (suffix_Processor.calls a0 t252 _ ?side1 A9.out).mono ?_); (case side1 => exact Tabs.below HT.out (by repeat (first | (with_reducible first | exact HB.out | apply below_alloc | apply pw_below_drewN | apply below_drew1) | exact HB.out))); rintro e w27 ⟨rfl, hb⟩; have n0_ := Aside0.mk (below_step (by repeat (first | (with_reducible first | exact HB.out | apply below_alloc | apply pw_below_drewN | apply below_drew1) | exact HB.out)) hb); clear HB; have HB := n0_; clear n0_; (try clear hb); (try clear hb2); (try clear hk); (try clear hi)) | (go_at_call 17; (with_reducible refine (seicheref15_Processor.calls k a0 t253 _ A10.out).mono ?_); rintro e w28 ⟨rfl, hb⟩; have n0_ := Aside0.mk (below_step (by repeat (first | (with_reducible first | exact HB.out | apply below_alloc | apply pw_below_drewN | apply below_drew1) | exact HB.out)) hb); clear HB; have HB := n0_; clear n0_; (try clear hb); (try clear hb2); (try clear hk); (try clear hi)) | (go_at_call 18; (with_reducible refine (suffix_Unix.calls a0 t254 _ ?side1 A12.out).mono ?_); (case side1 => exact Tabs.below HT.out (by repeat (first | (with_reducible first | exact HB.out | apply below_alloc | apply pw_below_drewN | apply below_drew1) | exact HB.out))); rintro e w29 ⟨rfl, hb⟩; have n0_ := Aside0.mk (below_step (by repeat (first | (with_reducible first | exact HB.out | apply below_alloc | apply pw_below_drewN | apply below_drew1) | exact HB.out)) hb); clear HB; have HB := n0_; clear n0_; (try clear hb); (try clear hb2); (try clear hk); (try clear hi)) | (go_at_call 19; (with_reducible refine (seicheref15_Unix.calls k a0 t255 _ A13.out).mono ?_); rintro e w30 ⟨rfl, hb⟩; have n0_ := Aside0.mk (below_step (by repeat (first | (with_reducible first | exact HB.out | apply below_alloc | apply pw_below_drewN | apply below_drew1) | exact HB.out)) hb); clear HB; have HB := n0_; clear n0_; (try clear hb); (try clear hb2); (try clear hk); (try clear hi)))
            go_ret
            exact ⟨by first | rfl | (simp [errW_none, errW_some] <;> rfl) | (simp [*, errW_none, errW_some] <;> rfl), by repeat (first | (with_reducible first | exact HB.out | apply below_alloc | apply pw_below_drewN | apply below_drew1) | exact HB.out)⟩
        · rw [if_neg c11] at H
          have c11b0 : (t252 == t253) = false := by simpa using c11
          (try (have c11b1 : decide (t252 = t253) = false := by simpa using c11))
          (try (have c11b2 : (t252 == t253) = false := by simpa using c11))
          (try (have c11b3 : ¬ (t252 = t253) := by simpa using c11))
          clear c11
          obtain rfl := Option.some.inj H
          go_enter Tryd.func6, Tryd.ntmps6
          go_wp2_with (first | ((with_reducible refine gate_callee (f := 7) rfl ?_); refine goesL_ (some 3) rfl rfl Tryd.func7 (by kernel_rfl) rfl #[] rfl (by (try simp only [List.map_toArray, List.map_cons, List.map_nil]); first | done | rfl | (simp only [List.length_drop, List.length_take]; rfl)) ?_; (with_reducible refine (seichelaw15_alive.calls k  true _ ?side1 A2.out).mono ?_); (case side1 => exact Tabs.below HT.out (by repeat (first | (with_reducible first | exact HB.out | apply below_alloc | apply pw_below_drewN | apply below_drew1) | exact HB.out))); rintro e w31 ⟨rfl, hb⟩; refine ⟨_, rfl, ?_⟩; have n0_ := Aside0.mk (below_step (by repeat (first | (with_reducible first | exact HB.out | apply below_alloc | apply pw_below_drewN | apply below_drew1) | exact HB.out)) hb); clear HB; have HB := n0_; clear n0_; (try clear hb); (try clear hb2); (try clear hk); (try clear hi)) | ((with_reducible refine gate_callee (f := 15) rfl ?_); refine goesL_ (some 9) rfl rfl Tryd.func15 (by kernel_rfl) rfl #[.string a0] rfl (by (try simp only [List.map_toArray, List.map_cons, List.map_nil]); first | done | rfl | (simp only [List.length_drop, List.length_take]; rfl)) ?_; (with_reducible refine (suffix_System.calls a0 t250 _ ?side1 A6.out).mono ?_); (case side1 => exact Tabs.below HT.out (by repeat (first | (with_reducible first | exact HB.out | apply below_alloc | apply pw_below_drewN | apply below_drew1) | exact HB.out))); rintro e w32 ⟨rfl, hb⟩; refine ⟨_, rfl, ?_⟩; have n0_ := Aside0.mk (below_step (by repeat (first | (with_reducible first | exact HB.out | apply below_alloc | apply pw_below_drewN | apply below_drew1) | exact HB.out)) hb); clear HB; have HB := n0_; clear n0_; (try clear hb); (try clear hb2); (try clear hk); (try clear hi)) | ((with_reducible refine gate_callee (f := 13) rfl ?_); refine goesL_ (some 11) rfl rfl Tryd.func13 (by kernel_rfl) rfl #[.string a0] rfl (by (try simp only [List.map_toArray, List.map_cons, List.map_nil]); first | done | rfl | (simp only [List.length_drop, List.length_take]; rfl)) ?_; (with_reducible refine (seicheref15_System.calls k a0 t251 _ A7.out).mono ?_); rintro e w33 ⟨rfl, hb⟩; refine ⟨_, rfl, ?_⟩; have n0_ := Aside0.mk (below_step (by repeat (first | (with_reducible first | exact HB.out | apply below_alloc | apply pw_below_drewN | apply below_drew1) | exact HB.out)) hb); clear HB; have HB := n0_; clear n0_; (try clear hb); (try clear hb2); (try clear hk); (try clear hi)) | (go_at_call 16; (with_reducible refine (suffix_Processor.calls a0 t252 _ ?side1 A9.out).mono ?_); (case side1 => exact Tabs.below HT.out (by repeat (first | (with_reducible first | exact HB.out | apply below_alloc | apply pw_below_drewN | apply below_drew1) | exact HB.out))); rintro e w34 ⟨rfl, hb⟩; have n0_ := Aside0.mk (below_step (by repeat (first | (with_reducible first | exact HB.out | apply below_alloc | apply pw_below_drewN | apply below_drew1) | exact HB.out)) hb); clear HB; have HB := n0_; clear n0_; (try clear hb); (try clear hb2); (try clear hk); (try clear hi)) | (go_at_call 17; (with_reducible refine (seicheref15_Processor.calls k a0 t253 _ A10.out).mono ?_); rintro e w35 ⟨rfl, hb⟩; have n0_ := Aside0.mk (below_step (by repeat (first | (with_reducible first | exact HB.out | apply below_alloc | apply pw_below_drewN | apply below_drew1) | exact HB.out)) hb); clear HB; have HB := n0_; clear n0_; (try clear hb); (try clear hb2); (try clear hk); (try clear hi)))
          go_ret
          exact ⟨by first | rfl | (simp [errW_none, errW_some] <;> rfl) | (simp [*, errW_none, errW_some] <;> rfl), by repeat (first | (with_reducible first | exact HB.out | apply below_alloc | apply pw_below_drewN | apply below_drew1) | exact HB.out)⟩
      · rw [if_neg c8] at H
        have c8b0 : (t250 == t251) = false := by simpa using c8
        (try (have c8b1 : decide (t250 = t251) = false := by simpa using c8))
        (try (have c8b2 : (t250 == t251) = false := by simpa using c8))
        (try (have c8b3 : ¬ (t250 = t251) := by simpa using c8))
        clear c8
        obtain rfl := Option.some.inj H
        go_enter Tryd.func6, Tryd.ntmps6
        go_wp2_with (first | ((with_reducible refine gate_callee (f := 7) rfl ?_); refine goesL_ (some 3) rfl rfl Tryd.func7 (by kernel_rfl) rfl #[] rfl (by (try simp only [List.map_toArray, List.map_cons, List.map_nil]); first | done | rfl | (simp only [List.length_drop, List.length_take]; rfl)) ?_; (with_reducible refine (seichelaw15_alive.calls k  true _ ?side1 A2.out).mono ?_); (case side1 => exact Tabs.below HT.out (by repeat (first | (with_reducible first | exact HB.out | apply below_alloc | apply pw_below_drewN | apply below_drew1) | exact HB.out))); rintro e w36 ⟨rfl, hb⟩; refine ⟨_, rfl, ?_⟩; have n0_ := Aside0.mk (below_step (by repeat (first | (with_reducible first | exact HB.out | apply below_alloc | apply pw_below_drewN | apply below_drew1) | exact HB.out)) hb); clear HB; have HB := n0_; clear n0_; (try clear hb); (try clear hb2); (try clear hk); (try clear hi)) | ((with_reducible refine gate_callee (f := 15) rfl ?_); refine goesL_ (some 9) rfl rfl Tryd.func15 (by kernel_rfl) rfl #[.string a0] rfl (by (try simp only [List.map_toArray, List.map_cons, List.map_nil]); first | done | rfl | (simp only [List.length_drop, List.length_take]; rfl)) ?_; (with_reducible refine (suffix_System.calls a0 t250 _ ?side1 A6.out).mono ?_); (case side1 => exact Tabs.below HT.out (by repeat (first | (with_reducible first | exact HB.out | apply below_alloc | apply pw_below_drewN | apply below_drew1) | exact HB.out))); rintro e w37 ⟨rfl, hb⟩; refine ⟨_, rfl, ?_⟩; have n0_ := Aside0.mk (below_step (by repeat (first | (with_reducible first | exact HB.out | apply below_alloc | apply pw_below_drewN | apply below_drew1) | exact HB.out)) hb); clear HB; have HB := n0_; clear n0_; (try clear hb); (try clear hb2); (try clear hk); (try clear hi)) | ((with_reducible refine gate_callee (f := 13) rfl ?_); refine goesL_ (some 11) rfl rfl Tryd.func13 (by kernel_rfl) rfl #[.string a0] rfl (by (try simp only [List.map_toArray, List.map_cons, List.map_nil]); first | done | rfl | (simp only [List.length_drop, List.length_take]; rfl)) ?_; (with_reducible refine (seicheref15_System.calls k a0 t251 _ A7.out).mono ?_); rintro e w38 ⟨rfl, hb⟩; refine ⟨_, rfl, ?_⟩; have n0_ := Aside0.mk (below_step (by repeat (first | (with_reducible first | exact HB.out | apply below_alloc | apply pw_below_drewN | apply below_drew1) | exact HB.out)) hb); clear HB; have HB := n0_; clear n0_; (try clear hb); (try clear hb2); (try clear hk); (try clear hi)))
        go_ret
        exact ⟨by first | rfl | (simp [errW_none, errW_some] <;> rfl) | (simp [*, errW_none, errW_some] <;> rfl), by repeat (first | (with_reducible first | exact HB.out | apply below_alloc | apply pw_below_drewN | apply below_drew1) | exact HB.out)⟩
  · replace c3 := Bool.eq_false_iff.mpr c3
    subst c3
    have H1 : (some false) = some r := by rw [if_neg (show ¬ (false = true) by decide)] at H; exact H
    clear H
    have H := H1
    clear H1
    obtain rfl := Option.some.inj H
    go_enter Tryd.func6, Tryd.ntmps6
    go_wp2_with (first | ((with_reducible refine gate_callee (f := 7) rfl ?_); refine goesL_ (some 3) rfl rfl Tryd.func7 (by kernel_rfl) rfl #[] rfl (by (try simp only [List.map_toArray, List.map_cons, List.map_nil]); first | done | rfl | (simp only [List.length_drop, List.length_take]; rfl)) ?_; (with_reducible refine (seichelaw15_alive.calls k  false _ ?side1 A2.out).mono ?_); (case side1 => exact Tabs.below HT.out (by repeat (first | (with_reducible first | exact HB.out | apply below_alloc | apply pw_below_drewN | apply below_drew1) | exact HB.out))); rintro e w39 ⟨rfl, hb⟩; refine ⟨_, rfl, ?_⟩; have n0_ := Aside0.mk (below_step (by repeat (first | (with_reducible first | exact HB.out | apply below_alloc | apply pw_below_drewN | apply below_drew1) | exact HB.out)) hb); clear HB; have HB := n0_; clear n0_; (try clear hb); (try clear hb2); (try clear hk); (try clear hi)))
    go_ret
    exact ⟨by first | rfl | (simp [errW_none, errW_some] <;> rfl) | (simp [*, errW_none, errW_some] <;> rfl), by repeat (first | (with_reducible first | exact HB.out | apply below_alloc | apply pw_below_drewN | apply below_drew1) | exact HB.out)⟩

/-- THE ONE PURE STATEMENT of seichelaw15_SuffixKnows: yours. -/
def seichelaw15_SuffixKnows.Pure : Prop := ∀ (a0 : ByteArray), a0.size ≤ 140737488351232 → ∃ k, seichelaw15_SuffixKnows.f k a0 = some true
theorem seichelaw15_SuffixKnows.walk (P : seichelaw15_SuffixKnows.Pure) (a0 : ByteArray) (w : World) (hT : Tabs w) (w0 : a0.size ≤ 140737488351232) :
    Calls Tryd.prog 6 #[.string a0] w fun e w' => e = .returned (.bool true) ∧ Below w.heap.size w w' := by
  obtain ⟨k, h⟩ := P a0 w0
  refine (seichelaw15_SuffixKnows.calls k a0 true w hT h).mono ?_
  rintro e w' ⟨rfl, hd⟩
  exact ⟨rfl, hd⟩

end Go.Proofs.YtnpbgegllphfkaaDoor.PAll
