-- Written by a program of this session (a changed scratch copy of a tool of the kit); not a print of the kit's own.
import Derived.Test.YtdcbmpjofacbhaaPAllx0
import Derived.Test.YtdcbmpjofacbhaaPAllx2
namespace Go.Proofs.Ytdcbmpjofacbhaa.PAll
open Go.RowKit Go.Proofs.YtdcbmpjofacbhaaW.PrintWords Go.Proofs.YtdcbmpjofacbhaaW.PrintLast Go.Proofs.YtdcbmpjofacbhaaW.PrintMore Go.Proofs.YtdcbmpjofacbhaaMy
attribute [local go_sem] max2_int min2_int max_two min_two max_three min_three max_four min_four   -- for this text's walks alone
set_option linter.unusedVariables false
set_option linter.unusedSimpArgs false

/-! ### glob_class: function 12 -/
mutual
def glob_class.j0 : Nat → ByteArray → Bool → Bool → Bool → Option (Bool × Bool × (List (S43)) × ByteArray × Bool)
  | 0, _, _, _, _ => none
  | k + 1, x0, x17, x103000, x103001 => if x17 = true then (if 1 ≤ (x0.size : Int) then (glob_class.j1 k (x0.extract 1 x0.size) x103000 true) else (none)) else (glob_class.j1 k x0 x103000 x103001)
def glob_class.j1 : Nat → ByteArray → Bool → Bool → Option (Bool × Bool × (List (S43)) × ByteArray × Bool)
  | 0, _, _, _ => none
  | k + 1, x0, x103000, x103001 => glob_class.l0 k x0 true x103000 x103001 ([] : List (S43))
def glob_class.l0 : Nat → ByteArray → Bool → Bool → Bool → List (S43) → Option (Bool × Bool × (List (S43)) × ByteArray × Bool)
  | 0, _, _, _, _, _ => none
  | k + 1, x0, x6, x103000, x103001, x103002 => if x6 = true then (glob_class.j3 k x0 true x103000 x103001 x103002) else (if x0.toList = ([] : List UInt8) then (glob_class.j3 k x0 true x103000 x103001 x103002) else (if 0 < (x0.size : Int) then (glob_class.j3 k x0 ((bt x0 0) != 93) x103000 x103001 x103002) else (none)))
def glob_class.j3 : Nat → ByteArray → Bool → Bool → Bool → List (S43) → Option (Bool × Bool × (List (S43)) × ByteArray × Bool)
  | 0, _, _, _, _, _ => none
  | k + 1, x0, x30, x103000, x103001, x103002 => if x30 = true then (if x0.toList = ([] : List UInt8) then (glob_class.j4 k x0 true x103000 x103001 x103002) else (if 0 < (x0.size : Int) then (if (bt x0 0) = 93 then (glob_class.j4 k x0 true x103000 x103001 x103002) else (glob_class.j4 k x0 ((bt x0 0) == 45) x103000 x103001 x103002)) else (none))) else (if 1 ≤ (x0.size : Int) then (some (x103000, x103001, x103002, x0.extract 1 x0.size, true)) else (none))
def glob_class.j4 : Nat → ByteArray → Bool → Bool → Bool → List (S43) → Option (Bool × Bool × (List (S43)) × ByteArray × Bool)
  | 0, _, _, _, _, _ => none
  | k + 1, x0, x42, x103000, x103001, x103002 => if x42 = true then (some (x103000, x103001, x103002, (⟨#[]⟩ : ByteArray), false)) else ((glob_one.f x0).bind fun bt103 => (if bt103.2.2 = true then (if bt103.2.1.toList = ([] : List UInt8) then (glob_class.j5 k bt103.1 bt103.2.1 bt103.1 false x103000 x103001 x103002) else (if 0 < (bt103.2.1.size : Int) then (glob_class.j5 k bt103.1 bt103.2.1 bt103.1 ((bt bt103.2.1 0) == 45) x103000 x103001 x103002) else (none))) else (some (x103000, x103001, x103002, (⟨#[]⟩ : ByteArray), false))))
def glob_class.j5 : Nat → Int → ByteArray → Int → Bool → Bool → Bool → List (S43) → Option (Bool × Bool × (List (S43)) × ByteArray × Bool)
  | 0, _, _, _, _, _, _, _ => none
  | k + 1, x7, x8, x10, x60, x103000, x103001, x103002 => if x60 = true then (if (x8.size : Int) < 2 then (glob_class.j6 k x7 x8 true x103000 x103001 x103002) else (if 1 < (x8.size : Int) then (if (bt x8 1) = 93 then (glob_class.j6 k x7 x8 true x103000 x103001 x103002) else (glob_class.j6 k x7 x8 ((bt x8 1) == 45) x103000 x103001 x103002)) else (none))) else (if x10 < x7 then (some (x103000, x103001, x103002, (⟨#[]⟩ : ByteArray), false)) else (if x103002.length < 70368744177664 then (glob_class.l0 k x8 false x103000 x103001 (x103002 ++ [(⟨x7, x10⟩ : S43)])) else (none)))
def glob_class.j6 : Nat → Int → ByteArray → Bool → Bool → Bool → List (S43) → Option (Bool × Bool × (List (S43)) × ByteArray × Bool)
  | 0, _, _, _, _, _, _ => none
  | k + 1, x7, x8, x73, x103000, x103001, x103002 => if x73 = true then (some (x103000, x103001, x103002, (⟨#[]⟩ : ByteArray), false)) else (if 1 ≤ (x8.size : Int) then ((glob_one.f (x8.extract 1 x8.size)).bind fun bt106 => (if bt106.2.2 = true then (if bt106.1 < x7 then (some (x103000, x103001, x103002, (⟨#[]⟩ : ByteArray), false)) else (if x103002.length < 70368744177664 then (glob_class.l0 k bt106.2.1 false x103000 x103001 (x103002 ++ [(⟨x7, bt106.1⟩ : S43)])) else (none))) else (some (x103000, x103001, x103002, (⟨#[]⟩ : ByteArray), false)))) else (none))
end
def glob_class.f (k : Nat) (a0 : ByteArray) : Option (Bool × Bool × (List (S43)) × ByteArray × Bool) := if a0.toList = ([] : List UInt8) then (glob_class.j0 k a0 false false false) else (if 0 < (a0.size : Int) then (glob_class.j0 k a0 ((bt a0 0) == 94) false false) else (none))
theorem glob_class.mono_l : ∀ k, (∀ y0 y1 y2 y3, LeO (glob_class.j0 k y0 y1 y2 y3) (glob_class.j0 (k + 1) y0 y1 y2 y3)) ∧ (∀ y0 y1 y2, LeO (glob_class.j1 k y0 y1 y2) (glob_class.j1 (k + 1) y0 y1 y2)) ∧ (∀ y0 y1 y2 y3 y4, LeO (glob_class.l0 k y0 y1 y2 y3 y4) (glob_class.l0 (k + 1) y0 y1 y2 y3 y4)) ∧ (∀ y0 y1 y2 y3 y4, LeO (glob_class.j3 k y0 y1 y2 y3 y4) (glob_class.j3 (k + 1) y0 y1 y2 y3 y4)) ∧ (∀ y0 y1 y2 y3 y4, LeO (glob_class.j4 k y0 y1 y2 y3 y4) (glob_class.j4 (k + 1) y0 y1 y2 y3 y4)) ∧ (∀ y0 y1 y2 y3 y4 y5 y6, LeO (glob_class.j5 k y0 y1 y2 y3 y4 y5 y6) (glob_class.j5 (k + 1) y0 y1 y2 y3 y4 y5 y6)) ∧ (∀ y0 y1 y2 y3 y4 y5, LeO (glob_class.j6 k y0 y1 y2 y3 y4 y5) (glob_class.j6 (k + 1) y0 y1 y2 y3 y4 y5))
  | 0 => ⟨fun _ _ _ _ r h => by simp [glob_class.j0] at h, fun _ _ _ r h => by simp [glob_class.j1] at h, fun _ _ _ _ _ r h => by simp [glob_class.l0] at h, fun _ _ _ _ _ r h => by simp [glob_class.j3] at h, fun _ _ _ _ _ r h => by simp [glob_class.j4] at h, fun _ _ _ _ _ _ _ r h => by simp [glob_class.j5] at h, fun _ _ _ _ _ _ r h => by simp [glob_class.j6] at h⟩
  | k + 1 => by
    obtain ⟨ih0, ih1, ih2, ih3, ih4, ih5, ih6⟩ := glob_class.mono_l k
    refine ⟨?_, ?_, ?_, ?_, ?_, ?_, ?_⟩
    · intro y0 y1 y2 y3
      unfold glob_class.j0
      repeat' first
      | (with_reducible exact ih0 _ _ _ _)
      | (with_reducible exact ih1 _ _ _)
      | (with_reducible exact ih2 _ _ _ _ _)
      | (with_reducible exact ih3 _ _ _ _ _)
      | (with_reducible exact ih4 _ _ _ _ _)
      | (with_reducible exact ih5 _ _ _ _ _ _ _)
      | (with_reducible exact ih6 _ _ _ _ _ _)
      | (with_reducible exact LeO.refl _)
      | (with_reducible exact LeO.none _)
      | (with_reducible refine LeO.ite ?_ ?_)
      | (with_reducible refine LeO.bind ?_ (fun _ => ?_))
      | exact ih0 _ _ _ _
      | exact ih1 _ _ _
      | exact ih2 _ _ _ _ _
      | exact ih3 _ _ _ _ _
      | exact ih4 _ _ _ _ _
      | exact ih5 _ _ _ _ _ _ _
      | exact ih6 _ _ _ _ _ _
      | exact LeO.none _
      | refine LeO.ite ?_ ?_
      | refine LeO.bind ?_ (fun _ => ?_)
    · intro y0 y1 y2
      unfold glob_class.j1
      repeat' first
      | (with_reducible exact ih0 _ _ _ _)
      | (with_reducible exact ih1 _ _ _)
      | (with_reducible exact ih2 _ _ _ _ _)
      | (with_reducible exact ih3 _ _ _ _ _)
      | (with_reducible exact ih4 _ _ _ _ _)
      | (with_reducible exact ih5 _ _ _ _ _ _ _)
      | (with_reducible exact ih6 _ _ _ _ _ _)
      | (with_reducible exact LeO.refl _)
      | (with_reducible exact LeO.none _)
      | (with_reducible refine LeO.ite ?_ ?_)
      | (with_reducible refine LeO.bind ?_ (fun _ => ?_))
      | exact ih0 _ _ _ _
      | exact ih1 _ _ _
      | exact ih2 _ _ _ _ _
      | exact ih3 _ _ _ _ _
      | exact ih4 _ _ _ _ _
      | exact ih5 _ _ _ _ _ _ _
      | exact ih6 _ _ _ _ _ _
      | exact LeO.none _
      | refine LeO.ite ?_ ?_
      | refine LeO.bind ?_ (fun _ => ?_)
    · intro y0 y1 y2 y3 y4
      unfold glob_class.l0
      repeat' first
      | (with_reducible exact ih0 _ _ _ _)
      | (with_reducible exact ih1 _ _ _)
      | (with_reducible exact ih2 _ _ _ _ _)
      | (with_reducible exact ih3 _ _ _ _ _)
      | (with_reducible exact ih4 _ _ _ _ _)
      | (with_reducible exact ih5 _ _ _ _ _ _ _)
      | (with_reducible exact ih6 _ _ _ _ _ _)
      | (with_reducible exact LeO.refl _)
      | (with_reducible exact LeO.none _)
      | (with_reducible refine LeO.ite ?_ ?_)
      | (with_reducible refine LeO.bind ?_ (fun _ => ?_))
      | exact ih0 _ _ _ _
      | exact ih1 _ _ _
      | exact ih2 _ _ _ _ _
      | exact ih3 _ _ _ _ _
      | exact ih4 _ _ _ _ _
      | exact ih5 _ _ _ _ _ _ _
      | exact ih6 _ _ _ _ _ _
      | exact LeO.none _
      | refine LeO.ite ?_ ?_
      | refine LeO.bind ?_ (fun _ => ?_)
    · intro y0 y1 y2 y3 y4
      unfold glob_class.j3
      repeat' first
      | (with_reducible exact ih0 _ _ _ _)
      | (with_reducible exact ih1 _ _ _)
      | (with_reducible exact ih2 _ _ _ _ _)
      | (with_reducible exact ih3 _ _ _ _ _)
      | (with_reducible exact ih4 _ _ _ _ _)
      | (with_reducible exact ih5 _ _ _ _ _ _ _)
      | (with_reducible exact ih6 _ _ _ _ _ _)
      | (with_reducible exact LeO.refl _)
      | (with_reducible exact LeO.none _)
      | (with_reducible refine LeO.ite ?_ ?_)
      | (with_reducible refine LeO.bind ?_ (fun _ => ?_))
      | exact ih0 _ _ _ _
      | exact ih1 _ _ _
      | exact ih2 _ _ _ _ _
      | exact ih3 _ _ _ _ _
      | exact ih4 _ _ _ _ _
      | exact ih5 _ _ _ _ _ _ _
      | exact ih6 _ _ _ _ _ _
      | exact LeO.none _
      | refine LeO.ite ?_ ?_
      | refine LeO.bind ?_ (fun _ => ?_)
    · intro y0 y1 y2 y3 y4
      unfold glob_class.j4
      repeat' first
      | (with_reducible exact ih0 _ _ _ _)
      | (with_reducible exact ih1 _ _ _)
      | (with_reducible exact ih2 _ _ _ _ _)
      | (with_reducible exact ih3 _ _ _ _ _)
      | (with_reducible exact ih4 _ _ _ _ _)
      | (with_reducible exact ih5 _ _ _ _ _ _ _)
      | (with_reducible exact ih6 _ _ _ _ _ _)
      | (with_reducible exact LeO.refl _)
      | (with_reducible exact LeO.none _)
      | (with_reducible refine LeO.ite ?_ ?_)
      | (with_reducible refine LeO.bind ?_ (fun _ => ?_))
      | exact ih0 _ _ _ _
      | exact ih1 _ _ _
      | exact ih2 _ _ _ _ _
      | exact ih3 _ _ _ _ _
      | exact ih4 _ _ _ _ _
      | exact ih5 _ _ _ _ _ _ _
      | exact ih6 _ _ _ _ _ _
      | exact LeO.none _
      | refine LeO.ite ?_ ?_
      | refine LeO.bind ?_ (fun _ => ?_)
    · intro y0 y1 y2 y3 y4 y5 y6
      unfold glob_class.j5
      repeat' first
      | (with_reducible exact ih0 _ _ _ _)
      | (with_reducible exact ih1 _ _ _)
      | (with_reducible exact ih2 _ _ _ _ _)
      | (with_reducible exact ih3 _ _ _ _ _)
      | (with_reducible exact ih4 _ _ _ _ _)
      | (with_reducible exact ih5 _ _ _ _ _ _ _)
      | (with_reducible exact ih6 _ _ _ _ _ _)
      | (with_reducible exact LeO.refl _)
      | (with_reducible exact LeO.none _)
      | (with_reducible refine LeO.ite ?_ ?_)
      | (with_reducible refine LeO.bind ?_ (fun _ => ?_))
      | exact ih0 _ _ _ _
      | exact ih1 _ _ _
      | exact ih2 _ _ _ _ _
      | exact ih3 _ _ _ _ _
      | exact ih4 _ _ _ _ _
      | exact ih5 _ _ _ _ _ _ _
      | exact ih6 _ _ _ _ _ _
      | exact LeO.none _
      | refine LeO.ite ?_ ?_
      | refine LeO.bind ?_ (fun _ => ?_)
    · intro y0 y1 y2 y3 y4 y5
      unfold glob_class.j6
      repeat' first
      | (with_reducible exact ih0 _ _ _ _)
      | (with_reducible exact ih1 _ _ _)
      | (with_reducible exact ih2 _ _ _ _ _)
      | (with_reducible exact ih3 _ _ _ _ _)
      | (with_reducible exact ih4 _ _ _ _ _)
      | (with_reducible exact ih5 _ _ _ _ _ _ _)
      | (with_reducible exact ih6 _ _ _ _ _ _)
      | (with_reducible exact LeO.refl _)
      | (with_reducible exact LeO.none _)
      | (with_reducible refine LeO.ite ?_ ?_)
      | (with_reducible refine LeO.bind ?_ (fun _ => ?_))
      | exact ih0 _ _ _ _
      | exact ih1 _ _ _
      | exact ih2 _ _ _ _ _
      | exact ih3 _ _ _ _ _
      | exact ih4 _ _ _ _ _
      | exact ih5 _ _ _ _ _ _ _
      | exact ih6 _ _ _ _ _ _
      | exact LeO.none _
      | refine LeO.ite ?_ ?_
      | refine LeO.bind ?_ (fun _ => ?_)
theorem glob_class.mono : ∀ a0 k, LeO (glob_class.f k a0) (glob_class.f (k + 1) a0) := by
  intro a0 k
  obtain ⟨ih0, ih1, ih2, ih3, ih4, ih5, ih6⟩ := glob_class.mono_l k
  unfold glob_class.f
  repeat' first
      | (with_reducible exact ih0 _ _ _ _)
      | (with_reducible exact ih1 _ _ _)
      | (with_reducible exact ih2 _ _ _ _ _)
      | (with_reducible exact ih3 _ _ _ _ _)
      | (with_reducible exact ih4 _ _ _ _ _)
      | (with_reducible exact ih5 _ _ _ _ _ _ _)
      | (with_reducible exact ih6 _ _ _ _ _ _)
      | (with_reducible exact LeO.refl _)
      | (with_reducible exact LeO.none _)
      | (with_reducible refine LeO.ite ?_ ?_)
      | (with_reducible refine LeO.bind ?_ (fun _ => ?_))
      | exact ih0 _ _ _ _
      | exact ih1 _ _ _
      | exact ih2 _ _ _ _ _
      | exact ih3 _ _ _ _ _
      | exact ih4 _ _ _ _ _
      | exact ih5 _ _ _ _ _ _ _
      | exact ih6 _ _ _ _ _ _
      | exact LeO.none _
      | refine LeO.ite ?_ ?_
      | refine LeO.bind ?_ (fun _ => ?_)
set_option maxHeartbeats 8000000 in
set_option maxRecDepth 100000 in
theorem glob_class.calls (k : Nat) (a0 : ByteArray) (r1 : Bool) (r2 : Bool) (r3 : List (S43)) (r4 : ByteArray) (r5 : Bool) (w : World) (h : glob_class.f k a0 = some (r1, r2, r3, r4, r5)) :
    Calls Try.prog 12 #[.string a0] w fun e w' => ∃ v2_ : Value, e = .returned (.tuple #[.agg #[.bool r1, .bool r2, v2_], .string r4, .bool r5]) ∧ Kd.R k43 43 w' w.heap.size (fun _ => True) v2_ r3 ∧ Below w.heap.size w w' := by
  have hu38 := Try.underlying38
  have hu43 := Try.underlying43
  have HB := Aside0.mk (Below.refl w.heap.size w)
  have H : (if a0.toList = ([] : List UInt8) then (glob_class.j0 k a0 false false false) else (if 0 < (a0.size : Int) then (glob_class.j0 k a0 ((bt a0 0) == 94) false false) else (none))) = some (r1, r2, r3, r4, r5) := h
  clear h
  have HC2 := Aside0.mk H
  clear H
  go_enter Try.func12, Try.ntmps12
  go_upto_region 2 with (first | ((with_reducible refine gate_dst (N := 2) rfl ?_); refine box_event ?hg (N := 2) ?hd (cs := #[.bool false, .bool false, .slice none 0 0]) (t := 38) ?hr ?_; (case hd => rfl); (case hg => rfl); (case hr => first | (go_simp; done) | (go_simp; rfl)); intro gb101 hg w3 hbox hb; have n0_ := Aside0.mk (below_step (by repeat (first | (with_reducible first | exact HB.out | apply below_alloc | apply pw_below_drewN | apply below_drew1) | exact HB.out)) hb); have n1_ := Aside0.mk (hbox); have n2_ := Aside0.mk ((by rw [hg]; exact (below_size (by repeat (first | (with_reducible first | exact HB.out | apply below_alloc | apply pw_below_drewN | apply below_drew1) | exact HB.out))) : w.heap.size ≤ gb101)); have n3_ := Aside0.mk ((by rw [hg]; exact (below_size (by repeat (first | (with_reducible first | exact HB.out | apply below_alloc | apply pw_below_drewN | apply below_drew1) | exact HB.out))) : w.heap.size ≤ gb101)); clear HB; have HB := n0_; have BK101 := n1_; have GW101 := n2_; have GE101 := n3_; clear n0_ n1_ n2_ n3_; clear hb hbox hg) | ((with_reducible refine gate_dst (N := 5) rfl ?_); refine box_event ?hg (N := 5) ?hd (cs := #[.bool false, .bool false, .slice none 0 0]) (t := 38) ?hr ?_; (case hd => rfl); (case hg => rfl); (case hr => first | (go_simp; done) | (go_simp; rfl)); intro gb102 hg w4 hbox hb; have n0_ := Aside0.mk (blk_below (g := gb101) (o := .cells #[.bool false, .bool false, .slice none 0 0] 38 (0, 0)) (by (with_reducible repeat (first | refine blk_drewN ?_ _ | refine blk_drew ?_ | refine blk_alloc ?_ _)); exact BK101.out) hb); have n1_ := Aside0.mk (below_step (by repeat (first | (with_reducible first | exact HB.out | apply below_alloc | apply pw_below_drewN | apply below_drew1 | refine below_set ?_ GE101.out) | exact HB.out)) hb); have n2_ := Aside0.mk (hbox); have n3_ := Aside0.mk ((by rw [hg]; exact (below_size (by repeat (first | (with_reducible first | exact HB.out | apply below_alloc | apply pw_below_drewN | apply below_drew1 | refine below_set ?_ GE101.out) | exact HB.out))) : w.heap.size ≤ gb102)); have n4_ := Aside0.mk ((by rw [hg]; exact (below_size (by repeat (first | (with_reducible first | exact HB.out | apply below_alloc | apply pw_below_drewN | apply below_drew1 | refine below_set ?_ GE101.out) | exact HB.out))) : w.heap.size ≤ gb102)); have n5_ := Aside0.mk ((by rw [hg]; exact Nat.ne_of_lt (blk_lt (g := gb101) (o := .cells #[.bool false, .bool false, .slice none 0 0] 38 (0, 0)) (by (with_reducible repeat (first | refine blk_drewN ?_ _ | refine blk_drew ?_ | refine blk_alloc ?_ _)); exact BK101.out)) : gb101 ≠ gb102)); have n6_ := Aside0.mk ((by rw [hg]; exact Nat.ne_of_gt (blk_lt (g := gb101) (o := .cells #[.bool false, .bool false, .slice none 0 0] 38 (0, 0)) (by (with_reducible repeat (first | refine blk_drewN ?_ _ | refine blk_drew ?_ | refine blk_alloc ?_ _)); exact BK101.out)) : gb102 ≠ gb101)); clear BK101; clear HB; have BK101 := n0_; have HB := n1_; have BK102 := n2_; have GW102 := n3_; have GE102 := n4_; have NB101_102 := n5_; have NB102_101 := n6_; clear n0_ n1_ n2_ n3_ n4_ n5_ n6_; clear hb hbox hg))
  (try simp only [Act.put, List.setIfInBounds_toArray, List.set_cons_zero, List.set_cons_succ])
  go_cut [17] (fun v17 wc => ∃ (kq : Nat) (x17_1 : Bool), v17 = .bool x17_1 ∧ Aside0 (glob_class.j0 kq a0 x17_1 false false = some (r1, r2, r3, r4, r5)) ∧ Aside0 (kq ≤ k) ∧ Aside0 (wc.heap[gb101]? = some (.cells #[.bool false, .bool false, (.slice none 0 0)] 38 (0, 0))) ∧ Aside0 (wc.heap[gb102]? = some (.cells #[.bool false, .bool false, (.slice none 0 0)] 38 (0, 0))) ∧ Aside0 (Below w.heap.size w wc))
  case first =>
    have H := HC2.out
    clear HC2
    by_cases c5 : a0.toList = ([] : List UInt8)
    · rw [if_pos c5] at H
      have c5b0 : (a0.toList == ([] : List UInt8)) = true := beq_iff_eq.mpr c5
      have c5b1 : (a0.toList != ([] : List UInt8)) = false := bne_eq_false_iff_eq.mpr c5
      clear c5
      (first | rw [c5b0] | (simp only [i64_w, i32_w]; rw [c5b0]) | skip)
      have H' := Aside0.mk H
      clear H
      go_wp2
      go_meet
      case rel => exact ⟨_, (false), (by first | rfl | (simp; done) | (simp [*]; done)), H', ⟨by first | omega | exact Nat.le_refl _⟩, ⟨by (with_reducible repeat (first | refine blk_drewN ?_ _ | refine blk_drew ?_ | refine blk_alloc ?_ _)); exact BK101.out⟩, ⟨by (with_reducible repeat (first | refine blk_drewN ?_ _ | refine blk_drew ?_ | refine blk_alloc ?_ _)); exact BK102.out⟩, ⟨by repeat (first | (with_reducible first | exact HB.out | apply below_alloc | apply pw_below_drewN | apply below_drew1 | refine below_set ?_ GE101.out | refine below_set ?_ GE102.out) | exact HB.out)⟩⟩
    · rw [if_neg c5] at H
      have c5b0 : (a0.toList == ([] : List UInt8)) = false := beq_eq_false_iff_ne.mpr c5
      have c5b1 : (a0.toList != ([] : List UInt8)) = true := bne_iff_ne.mpr c5
      (first | rw [c5b0] | (simp only [i64_w, i32_w]; rw [c5b0]) | skip)
      by_cases c6 : 0 < (a0.size : Int)
      · rw [if_pos c6] at H
        have c6b0 : decide (0 < (a0.size : Int)) = true := decide_eq_true c6
        have c6b1 : decide (0 < a0.size) = true := decide_eq_true (by omega)
        clear c6
        have H' := Aside0.mk H
        clear H
        have p7 : 0 ≤ (0 : Int) := (by omega)
        have q7 : 0 < a0.size := (by have : (0 : Int) < (a0.size : Int) := of_decide_eq_true (by first | (with_reducible assumption) | assumption); omega)
        have hx7 : ∀ h : 0 < a0.size, ((a0[0]'h).toNat : Int) = bt a0 0 := bt_at a0 0
        clear p7
        have qi7 : (0 < (a0.size : Int)) = True := eq_true (of_decide_eq_true (by first | (with_reducible assumption) | assumption))
        replace q7 := eq_true q7
        go_wp2
        go_meet
        case rel => exact ⟨_, (((bt a0 0) == 94)), (by first | rfl | (simp; done) | (simp [*]; done)), H', ⟨by first | omega | exact Nat.le_refl _⟩, ⟨by (with_reducible repeat (first | refine blk_drewN ?_ _ | refine blk_drew ?_ | refine blk_alloc ?_ _)); exact BK101.out⟩, ⟨by (with_reducible repeat (first | refine blk_drewN ?_ _ | refine blk_drew ?_ | refine blk_alloc ?_ _)); exact BK102.out⟩, ⟨by repeat (first | (with_reducible first | exact HB.out | apply below_alloc | apply pw_below_drewN | apply below_drew1 | refine below_set ?_ GE101.out | refine below_set ?_ GE102.out) | exact HB.out)⟩⟩
      · rw [if_neg c6] at H
        exact absurd H (by simp)
  case rest =>
    clear HC2
    try clear c1
    try clear p2
    try clear c5
    try clear c5b0
    try clear c5b1
    try clear c6
    try clear c6b0
    try clear c6b1
    try clear p7
    try clear q7
    try clear hx7
    try clear qi7
    try clear p7
    try clear q7
    obtain ⟨kq, x17_1, rfl, HA, HJ1, BK101, BK102, HB⟩ := hcut
    cases kq with
    | zero => exact absurd HA.out (by simp [glob_class.j0])
    | succ kj1 =>
      have H := HA.out
      clear HA
      simp only [glob_class.j0] at H
      have HC8 := Aside0.mk H
      clear H
      go_upto_if 17 with (fail)
      go_cut [0] (fun v0 wc => ∃ (kq : Nat) (x0_7 : ByteArray) (x103001_7 : Bool), v0 = .string x0_7 ∧ Aside0 (glob_class.j1 kq x0_7 false x103001_7 = some (r1, r2, r3, r4, r5)) ∧ Aside0 (kq ≤ kj1) ∧ Aside0 (wc.heap[gb101]? = some (.cells #[.bool false, .bool false, (.slice none 0 0)] 38 (0, 0))) ∧ Aside0 (wc.heap[gb102]? = some (.cells #[.bool false, .bool x103001_7, (.slice none 0 0)] 38 (0, 0))) ∧ Aside0 (Below w.heap.size w wc))
      case first =>
        have H := HC8.out
        clear HC8
        by_cases c9 : x17_1 = true
        · subst c9
          have H1 : (if 1 ≤ (a0.size : Int) then (glob_class.j1 kj1 (a0.extract 1 a0.size) false true) else (none)) = some (r1, r2, r3, r4, r5) := by rw [if_pos rfl] at H; exact H
          clear H
          have H := H1
          clear H1
          by_cases c10 : 1 ≤ (a0.size : Int)
          · rw [if_pos c10] at H
            have c10b0 := eq_true c10
            have c10b1 : decide (1 ≤ (a0.size : Int)) = true := decide_eq_true c10
            clear c10
            have H' := Aside0.mk H
            clear H
            try go_wp2
            have n0_ := Aside0.mk (blk_drew BK101.out)
            have n1_ := Aside0.mk (blk_drew BK102.out)
            have n2_ := Aside0.mk (below_drew1 HB.out)
            clear BK101
            clear BK102
            clear HB
            have BK101 := n0_
            have BK102 := n1_
            have HB := n2_
            clear n0_ n1_ n2_
            refine start_ (n := 5) (S := fun w' => True) (ds := []) #[false, false, false, false, false] (by kernel_rfl) rfl rfl trivial (fun hHeld => ?_)
            generalize wc.drew = w11 at BK101 BK102 HB hHeld ⊢
            refine pure_ (i := 0) (N := some 18) (v := ?_) (a' := ?_) #[true, false, false, false, false] rfl rfl (by kernel_rfl) (fun _ _ _ h => h) (Or.inl ⟨by rfl, ?_⟩) ?_ ?_
            rotate_left
            · intro w'
              go_simp
              with_reducible rfl
            rotate_left
            · simp only [Act.put, List.setIfInBounds_toArray, List.set_cons_zero, List.set_cons_succ, i64_w, i32_w]
              rfl
            refine pure_ (i := 1) (N := some 19) (v := ?_) (a' := ?_) #[true, true, false, false, false] rfl rfl (by kernel_rfl) (fun _ _ _ h => h) (Or.inl ⟨by rfl, ?_⟩) ?_ ?_
            rotate_left
            · intro w'
              go_simp
              with_reducible rfl
            rotate_left
            · simp only [Act.put, List.setIfInBounds_toArray, List.set_cons_zero, List.set_cons_succ, i64_w, i32_w]
              rfl
            refine pure_ (i := 2) (N := some 20) (v := ?_) (a' := ?_) #[true, true, true, false, false] rfl rfl (by kernel_rfl) (fun _ _ _ h => h) (Or.inl ⟨by rfl, ?_⟩) ?_ ?_
            rotate_left
            · intro w'
              go_simp
              with_reducible rfl
            rotate_left
            · simp only [Act.put, List.setIfInBounds_toArray, List.set_cons_zero, List.set_cons_succ, i64_w, i32_w]
              rfl
            refine one_ (i := 3) (N := none) #[true, true, true, true, false] rfl rfl (by kernel_rfl) (by decide) (fun K hK => ?_)
            have hs12 : w11.cell? ⟨gb102, 1, none⟩ = some (.bool false) := (blk_cell BK102.out 1).trans rfl
            have hfs12 := blk_frozen BK102.out 1
            have hns12_0 := NB101_102.out
            have hms12_0 := NB102_101.out
            refine skip_ (w1 := ?_) (by rfl) rfl ?_ ?_
            rotate_left
            · go_simp
              rfl
            refine hK.out _ _ trivial (fun hHeld => ?_)
            clear hK K
            refine pure_ (i := 4) (N := some 0) (v := ?_) (a' := ?_) #[true, true, true, true, true] rfl rfl (by kernel_rfl) (fun _ _ _ h => h) (Or.inl ⟨by rfl, ?_⟩) ?_ ?_
            rotate_left
            · intro w'
              go_simp
              with_reducible rfl
            rotate_left
            · simp only [Act.put, List.setIfInBounds_toArray, List.set_cons_zero, List.set_cons_succ, i64_w, i32_w]
              rfl
            refine done_ (by kernel_rfl) ?_
            try go_wp2
            go_meet
            case rel => exact ⟨_, (a0.extract 1 a0.size), (true), (by first | rfl | (simp; done) | (simp [*]; done)), H', ⟨by have := HJ1.out; first | omega | exact Nat.le_refl _⟩, ⟨by (with_reducible repeat (first | refine blk_drewN ?_ _ | refine blk_drew ?_ | refine blk_alloc ?_ _)); refine blk_far ?_ NB101_102.out _; (with_reducible repeat (first | refine blk_drewN ?_ _ | refine blk_drew ?_ | refine blk_alloc ?_ _)); exact BK101.out⟩, ⟨by (with_reducible repeat (first | refine blk_drewN ?_ _ | refine blk_drew ?_ | refine blk_alloc ?_ _)); refine blk_put (cs := #[.bool false, .bool false, .slice none 0 0]) ?_ 1 _ rfl; (with_reducible repeat (first | refine blk_drewN ?_ _ | refine blk_drew ?_ | refine blk_alloc ?_ _)); exact BK102.out⟩, ⟨by repeat (first | (with_reducible first | exact HB.out | apply below_alloc | apply pw_below_drewN | apply below_drew1 | refine below_set ?_ GE101.out | refine below_set ?_ GE102.out) | exact HB.out)⟩⟩
          · rw [if_neg c10] at H
            exact absurd H (by simp)
        · replace c9 := Bool.eq_false_iff.mpr c9
          subst c9
          have H1 : (glob_class.j1 kj1 a0 false false) = some (r1, r2, r3, r4, r5) := by rw [if_neg (show ¬ (false = true) by decide)] at H; exact H
          clear H
          have H := H1
          clear H1
          have H' := Aside0.mk H
          clear H
          go_wp2
          go_meet
          case rel => exact ⟨_, (a0), (false), (by first | rfl | (simp; done) | (simp [*]; done)), H', ⟨by have := HJ1.out; first | omega | exact Nat.le_refl _⟩, ⟨by (with_reducible repeat (first | refine blk_drewN ?_ _ | refine blk_drew ?_ | refine blk_alloc ?_ _)); exact BK101.out⟩, ⟨by (with_reducible repeat (first | refine blk_drewN ?_ _ | refine blk_drew ?_ | refine blk_alloc ?_ _)); exact BK102.out⟩, ⟨by repeat (first | (with_reducible first | exact HB.out | apply below_alloc | apply pw_below_drewN | apply below_drew1 | refine below_set ?_ GE101.out | refine below_set ?_ GE102.out) | exact HB.out)⟩⟩
      case rest =>
        clear HC8
        try clear c1
        try clear p2
        try clear c5
        try clear c5b0
        try clear c5b1
        try clear c6
        try clear c6b0
        try clear c6b1
        try clear p7
        try clear q7
        try clear hx7
        try clear qi7
        try clear c9
        try clear c10
        try clear c10b0
        try clear c10b1
        try clear c12
        try clear p2
        try clear p7
        try clear q7
        obtain ⟨kq, x0_7, x103001_7, rfl, HA, HJ7, BK101, BK102, HB⟩ := hcut
        cases kq with
        | zero => exact absurd HA.out (by simp [glob_class.j1])
        | succ kj7 =>
          have H := HA.out
          clear HA
          simp only [glob_class.j1] at H
          have H' := Aside0.mk H
          clear H
          go_wp2
          go_loopg [0, 6] kj7 (fun kq v0 v6 w' => ∃ (x0_3 : ByteArray) (x6_3 : Bool) (x102000_3 : Bool) (x102001_3 : Bool) (x103002_3 : List (S43)) (u103002 : Value), v0 = .string x0_3 ∧ v6 = .bool x6_3 ∧ Aside0 (glob_class.l0 kq x0_3 x6_3 false x103001_7 x103002_3 = some (r1, r2, r3, r4, r5)) ∧ Aside0 (kq ≤ kj7) ∧ Aside0 (Kd.R k43 43 w' w.heap.size (fun _ => True) u103002 x103002_3) ∧ Aside0 (w'.heap[gb101]? = some (.cells #[.bool x102000_3, .bool x102001_3, (.slice none 0 0)] 38 (0, 0))) ∧ Aside0 (w'.heap[gb102]? = some (.cells #[.bool false, .bool x103001_7, u103002] 38 (0, 0))) ∧ Aside0 (Below w.heap.size w w'))
          case atStart => exact ⟨(x0_7), (true), (false), (false), (([] : List (S43))), (.slice none 0 0), (by first | rfl | (simp; done) | (simp [*]; done)), (by first | rfl | (simp; done) | (simp [*]; done)), H', ⟨Nat.le_refl _⟩, ⟨by first | exact Kd.R_nil _ _ _ _ _ | exact Kd.N_nil _ _ _ _ _ | exact Kd.V_nil _ _ _ _ _ | exact Kd.Q_nil _ _ _ _ _ | exact Kd.S_nil _ _ _ _ _⟩, ⟨by (with_reducible repeat (first | refine blk_drewN ?_ _ | refine blk_drew ?_ | refine blk_alloc ?_ _)); exact BK101.out⟩, ⟨by (with_reducible repeat (first | refine blk_drewN ?_ _ | refine blk_drew ?_ | refine blk_alloc ?_ _)); exact BK102.out⟩, ⟨by repeat (first | (with_reducible first | exact HB.out | apply below_alloc | apply pw_below_drewN | apply below_drew1 | refine below_set ?_ GE101.out | refine below_set ?_ GE102.out) | exact HB.out)⟩⟩
          case round =>
            clear H'
            try clear c1
            try clear p2
            try clear c5
            try clear c5b0
            try clear c5b1
            try clear c6
            try clear c6b0
            try clear c6b1
            try clear p7
            try clear q7
            try clear hx7
            try clear qi7
            try clear c9
            try clear c10
            try clear c10b0
            try clear c10b1
            try clear c12
            try clear p2
            try clear p7
            try clear q7
            obtain ⟨x0_3, x6_3, x102000_3, x102001_3, x103002_3, u103002, rfl, rfl, HA, HK3, HO_103002, BK101, BK102, HB⟩ := hrel
            cases gk with
            | zero => exact absurd HA.out (by simp [glob_class.l0])
            | succ k3 =>
              have H := HA.out
              clear HA
              simp only [glob_class.l0] at H
              have HC13 := Aside0.mk H
              clear H
              go_upto_region 5 with (fail)
              go_cut [30] (fun v30 wc => ∃ (kq : Nat) (x30_12 : Bool), v30 = .bool x30_12 ∧ Aside0 (glob_class.j3 kq x0_3 x30_12 false x103001_7 x103002_3 = some (r1, r2, r3, r4, r5)) ∧ Aside0 (kq ≤ k3) ∧ Aside0 (Kd.R k43 43 wc w.heap.size (fun _ => True) u103002 x103002_3) ∧ Aside0 (wc.heap[gb101]? = some (.cells #[.bool x102000_3, .bool x102001_3, (.slice none 0 0)] 38 (0, 0))) ∧ Aside0 (wc.heap[gb102]? = some (.cells #[.bool false, .bool x103001_7, u103002] 38 (0, 0))) ∧ Aside0 (Below w.heap.size w wc))
              case first =>
                have H := HC13.out
                clear HC13
                by_cases c14 : x6_3 = true
                · subst c14
                  have H1 : (glob_class.j3 k3 x0_3 true false x103001_7 x103002_3) = some (r1, r2, r3, r4, r5) := by rw [if_pos rfl] at H; exact H
                  clear H
                  have H := H1
                  clear H1
                  have H' := Aside0.mk H
                  clear H
                  go_wp2
                  go_meet
                  case rel => exact ⟨_, (true), (by first | rfl | (simp; done) | (simp [*]; done)), H', ⟨by have := HJ1.out; have := HJ7.out; have := HK3.out; first | omega | exact Nat.le_refl _⟩, ⟨by (with_reducible repeat (first | apply Kd.R_alloc | apply Kd.R_drewN | apply Kd.R_drew)); exact HO_103002.out⟩, ⟨by (with_reducible repeat (first | refine blk_drewN ?_ _ | refine blk_drew ?_ | refine blk_alloc ?_ _)); exact BK101.out⟩, ⟨by (with_reducible repeat (first | refine blk_drewN ?_ _ | refine blk_drew ?_ | refine blk_alloc ?_ _)); exact BK102.out⟩, ⟨by repeat (first | (with_reducible first | exact HB.out | apply below_alloc | apply pw_below_drewN | apply below_drew1 | refine below_set ?_ GE101.out | refine below_set ?_ GE102.out) | exact HB.out)⟩⟩
                · replace c14 := Bool.eq_false_iff.mpr c14
                  subst c14
                  have H1 : (if x0_3.toList = ([] : List UInt8) then (glob_class.j3 k3 x0_3 true false x103001_7 x103002_3) else (if 0 < (x0_3.size : Int) then (glob_class.j3 k3 x0_3 ((bt x0_3 0) != 93) false x103001_7 x103002_3) else (none))) = some (r1, r2, r3, r4, r5) := by rw [if_neg (show ¬ (false = true) by decide)] at H; exact H
                  clear H
                  have H := H1
                  clear H1
                  by_cases c15 : x0_3.toList = ([] : List UInt8)
                  · rw [if_pos c15] at H
                    have c15b0 : (x0_3.toList == ([] : List UInt8)) = true := beq_iff_eq.mpr c15
                    have c15b1 : (x0_3.toList != ([] : List UInt8)) = false := bne_eq_false_iff_eq.mpr c15
                    clear c15
                    (first | rw [c15b0] | (simp only [i64_w, i32_w]; rw [c15b0]) | skip)
                    have H' := Aside0.mk H
                    clear H
                    go_wp2
                    go_meet
                    case rel => exact ⟨_, (true), (by first | rfl | (simp; done) | (simp [*]; done)), H', ⟨by have := HJ1.out; have := HJ7.out; have := HK3.out; first | omega | exact Nat.le_refl _⟩, ⟨by (with_reducible repeat (first | apply Kd.R_alloc | apply Kd.R_drewN | apply Kd.R_drew)); exact HO_103002.out⟩, ⟨by (with_reducible repeat (first | refine blk_drewN ?_ _ | refine blk_drew ?_ | refine blk_alloc ?_ _)); exact BK101.out⟩, ⟨by (with_reducible repeat (first | refine blk_drewN ?_ _ | refine blk_drew ?_ | refine blk_alloc ?_ _)); exact BK102.out⟩, ⟨by repeat (first | (with_reducible first | exact HB.out | apply below_alloc | apply pw_below_drewN | apply below_drew1 | refine below_set ?_ GE101.out | refine below_set ?_ GE102.out) | exact HB.out)⟩⟩
                  · rw [if_neg c15] at H
                    have c15b0 : (x0_3.toList == ([] : List UInt8)) = false := beq_eq_false_iff_ne.mpr c15
                    have c15b1 : (x0_3.toList != ([] : List UInt8)) = true := bne_iff_ne.mpr c15
                    (first | rw [c15b0] | (simp only [i64_w, i32_w]; rw [c15b0]) | skip)
                    by_cases c16 : 0 < (x0_3.size : Int)
                    · rw [if_pos c16] at H
                      have c16b0 : decide (0 < (x0_3.size : Int)) = true := decide_eq_true c16
                      have c16b1 : decide (0 < x0_3.size) = true := decide_eq_true (by omega)
                      clear c16
                      have H' := Aside0.mk H
                      clear H
                      have p17 : 0 ≤ (0 : Int) := (by omega)
                      have q17 : 0 < x0_3.size := (by have : (0 : Int) < (x0_3.size : Int) := of_decide_eq_true (by first | (with_reducible assumption) | assumption); omega)
                      have hx17 : ∀ h : 0 < x0_3.size, ((x0_3[0]'h).toNat : Int) = bt x0_3 0 := bt_at x0_3 0
                      clear p17
                      have qi17 : (0 < (x0_3.size : Int)) = True := eq_true (of_decide_eq_true (by first | (with_reducible assumption) | assumption))
                      replace q17 := eq_true q17
                      go_wp2
                      go_meet
                      case rel => exact ⟨_, (((bt x0_3 0) != 93)), (by first | rfl | (simp; done) | (simp [*]; done)), H', ⟨by have := HJ1.out; have := HJ7.out; have := HK3.out; first | omega | exact Nat.le_refl _⟩, ⟨by (with_reducible repeat (first | apply Kd.R_alloc | apply Kd.R_drewN | apply Kd.R_drew)); exact HO_103002.out⟩, ⟨by (with_reducible repeat (first | refine blk_drewN ?_ _ | refine blk_drew ?_ | refine blk_alloc ?_ _)); exact BK101.out⟩, ⟨by (with_reducible repeat (first | refine blk_drewN ?_ _ | refine blk_drew ?_ | refine blk_alloc ?_ _)); exact BK102.out⟩, ⟨by repeat (first | (with_reducible first | exact HB.out | apply below_alloc | apply pw_below_drewN | apply below_drew1 | refine below_set ?_ GE101.out | refine below_set ?_ GE102.out) | exact HB.out)⟩⟩
                    · rw [if_neg c16] at H
                      exact absurd H (by simp)
              case rest =>
                clear HC13
                try clear c1
                try clear p1
                try clear q1
                try clear hx1
                try clear qi1
                try clear p2
                try clear c5
                try clear c5b0
                try clear c5b1
                try clear c6
                try clear c6b0
                try clear c6b1
                try clear p7
                try clear q7
                try clear hx7
                try clear qi7
                try clear c9
                try clear c10
                try clear c10b0
                try clear c10b1
                try clear c12
                try clear c14
                try clear c15
                try clear c15b0
                try clear c15b1
                try clear c16
                try clear c16b0
                try clear c16b1
                try clear p17
                try clear q17
                try clear hx17
                try clear qi17
                try clear p17
                try clear p2
                try clear p7
                try clear q17
                try clear q7
                obtain ⟨kq, x30_12, rfl, HA, HJ12, HO_103002, BK101, BK102, HB⟩ := hcut
                cases kq with
                | zero => exact absurd HA.out (by simp [glob_class.j3])
                | succ kj12 =>
                  have H := HA.out
                  clear HA
                  simp only [glob_class.j3] at H
                  by_cases c18 : x30_12 = true
                  · subst c18
                    have H1 : (if x0_3.toList = ([] : List UInt8) then (glob_class.j4 kj12 x0_3 true false x103001_7 x103002_3) else (if 0 < (x0_3.size : Int) then (if (bt x0_3 0) = 93 then (glob_class.j4 kj12 x0_3 true false x103001_7 x103002_3) else (glob_class.j4 kj12 x0_3 ((bt x0_3 0) == 45) false x103001_7 x103002_3)) else (none))) = some (r1, r2, r3, r4, r5) := by rw [if_pos rfl] at H; exact H
                    clear H
                    have H := H1
                    clear H1
                    have HC19 := Aside0.mk H
                    clear H
                    go_upto_region 7 with (fail)
                    go_cut [42] (fun v42 wc => ∃ (kq : Nat) (x42_18 : Bool), v42 = .bool x42_18 ∧ Aside0 (glob_class.j4 kq x0_3 x42_18 false x103001_7 x103002_3 = some (r1, r2, r3, r4, r5)) ∧ Aside0 (kq ≤ kj12) ∧ Aside0 (Kd.R k43 43 wc w.heap.size (fun _ => True) u103002 x103002_3) ∧ Aside0 (wc.heap[gb101]? = some (.cells #[.bool x102000_3, .bool x102001_3, (.slice none 0 0)] 38 (0, 0))) ∧ Aside0 (wc.heap[gb102]? = some (.cells #[.bool false, .bool x103001_7, u103002] 38 (0, 0))) ∧ Aside0 (Below w.heap.size w wc))
                    case first =>
                      have H := HC19.out
                      clear HC19
                      by_cases c20 : x0_3.toList = ([] : List UInt8)
                      · rw [if_pos c20] at H
                        have c20b0 : (x0_3.toList == ([] : List UInt8)) = true := beq_iff_eq.mpr c20
                        have c20b1 : (x0_3.toList != ([] : List UInt8)) = false := bne_eq_false_iff_eq.mpr c20
                        clear c20
                        (first | rw [c20b0] | (simp only [i64_w, i32_w]; rw [c20b0]) | skip)
                        have H' := Aside0.mk H
                        clear H
                        go_wp2
                        go_meet
                        case rel => exact ⟨_, (true), (by first | rfl | (simp; done) | (simp [*]; done)), H', ⟨by have := HJ1.out; have := HJ7.out; have := HK3.out; have := HJ12.out; first | omega | exact Nat.le_refl _⟩, ⟨by (with_reducible repeat (first | apply Kd.R_alloc | apply Kd.R_drewN | apply Kd.R_drew)); exact HO_103002.out⟩, ⟨by (with_reducible repeat (first | refine blk_drewN ?_ _ | refine blk_drew ?_ | refine blk_alloc ?_ _)); exact BK101.out⟩, ⟨by (with_reducible repeat (first | refine blk_drewN ?_ _ | refine blk_drew ?_ | refine blk_alloc ?_ _)); exact BK102.out⟩, ⟨by repeat (first | (with_reducible first | exact HB.out | apply below_alloc | apply pw_below_drewN | apply below_drew1 | refine below_set ?_ GE101.out | refine below_set ?_ GE102.out) | exact HB.out)⟩⟩
                      · rw [if_neg c20] at H
                        have c20b0 : (x0_3.toList == ([] : List UInt8)) = false := beq_eq_false_iff_ne.mpr c20
                        have c20b1 : (x0_3.toList != ([] : List UInt8)) = true := bne_iff_ne.mpr c20
                        (first | rw [c20b0] | (simp only [i64_w, i32_w]; rw [c20b0]) | skip)
                        by_cases c21 : 0 < (x0_3.size : Int)
                        · rw [if_pos c21] at H
                          have c21b0 : decide (0 < (x0_3.size : Int)) = true := decide_eq_true c21
                          have c21b1 : decide (0 < x0_3.size) = true := decide_eq_true (by omega)
                          clear c21
                          by_cases c23 : (bt x0_3 0) = 93
                          · rw [if_pos c23] at H
                            have c23b0 : ((bt x0_3 0) == 93) = true := beq_iff_eq.mpr c23
                            have c23b1 : ((bt x0_3 0) != 93) = false := bne_eq_false_iff_eq.mpr c23
                            clear c23
                            have H' := Aside0.mk H
                            clear H
                            have p22 : 0 ≤ (0 : Int) := (by omega)
                            have q22 : 0 < x0_3.size := (by have : (0 : Int) < (x0_3.size : Int) := of_decide_eq_true (by first | (with_reducible assumption) | assumption); omega)
                            have hx22 : ∀ h : 0 < x0_3.size, ((x0_3[0]'h).toNat : Int) = bt x0_3 0 := bt_at x0_3 0
                            clear p22
                            have qi22 : (0 < (x0_3.size : Int)) = True := eq_true (of_decide_eq_true (by first | (with_reducible assumption) | assumption))
                            replace q22 := eq_true q22
                            go_wp2
                            go_meet
                            case rel => exact ⟨_, (true), (by first | rfl | (simp; done) | (simp [*]; done)), H', ⟨by have := HJ1.out; have := HJ7.out; have := HK3.out; have := HJ12.out; first | omega | exact Nat.le_refl _⟩, ⟨by (with_reducible repeat (first | apply Kd.R_alloc | apply Kd.R_drewN | apply Kd.R_drew)); exact HO_103002.out⟩, ⟨by (with_reducible repeat (first | refine blk_drewN ?_ _ | refine blk_drew ?_ | refine blk_alloc ?_ _)); exact BK101.out⟩, ⟨by (with_reducible repeat (first | refine blk_drewN ?_ _ | refine blk_drew ?_ | refine blk_alloc ?_ _)); exact BK102.out⟩, ⟨by repeat (first | (with_reducible first | exact HB.out | apply below_alloc | apply pw_below_drewN | apply below_drew1 | refine below_set ?_ GE101.out | refine below_set ?_ GE102.out) | exact HB.out)⟩⟩
                          · rw [if_neg c23] at H
                            have c23b0 : ((bt x0_3 0) == 93) = false := beq_eq_false_iff_ne.mpr c23
                            have c23b1 : ((bt x0_3 0) != 93) = true := bne_iff_ne.mpr c23
                            have H' := Aside0.mk H
                            clear H
                            have p22 : 0 ≤ (0 : Int) := (by omega)
                            have q22 : 0 < x0_3.size := (by have : (0 : Int) < (x0_3.size : Int) := of_decide_eq_true (by first | (with_reducible assumption) | assumption); omega)
                            have hx22 : ∀ h : 0 < x0_3.size, ((x0_3[0]'h).toNat : Int) = bt x0_3 0 := bt_at x0_3 0
                            clear p22
                            have qi22 : (0 < (x0_3.size : Int)) = True := eq_true (of_decide_eq_true (by first | (with_reducible assumption) | assumption))
                            replace q22 := eq_true q22
                            have p24 : 0 ≤ (0 : Int) := (by omega)
                            have q24 : 0 < x0_3.size := (by have : (0 : Int) < (x0_3.size : Int) := of_decide_eq_true (by first | (with_reducible assumption) | assumption); omega)
                            have hx24 : ∀ h : 0 < x0_3.size, ((x0_3[0]'h).toNat : Int) = bt x0_3 0 := bt_at x0_3 0
                            clear p24
                            have qi24 : (0 < (x0_3.size : Int)) = True := eq_true (of_decide_eq_true (by first | (with_reducible assumption) | assumption))
                            replace q24 := eq_true q24
                            go_wp2
                            go_meet
                            case rel => exact ⟨_, (((bt x0_3 0) == 45)), (by first | rfl | (simp; done) | (simp [*]; done)), H', ⟨by have := HJ1.out; have := HJ7.out; have := HK3.out; have := HJ12.out; first | omega | exact Nat.le_refl _⟩, ⟨by (with_reducible repeat (first | apply Kd.R_alloc | apply Kd.R_drewN | apply Kd.R_drew)); exact HO_103002.out⟩, ⟨by (with_reducible repeat (first | refine blk_drewN ?_ _ | refine blk_drew ?_ | refine blk_alloc ?_ _)); exact BK101.out⟩, ⟨by (with_reducible repeat (first | refine blk_drewN ?_ _ | refine blk_drew ?_ | refine blk_alloc ?_ _)); exact BK102.out⟩, ⟨by repeat (first | (with_reducible first | exact HB.out | apply below_alloc | apply pw_below_drewN | apply below_drew1 | refine below_set ?_ GE101.out | refine below_set ?_ GE102.out) | exact HB.out)⟩⟩
                        · rw [if_neg c21] at H
                          exact absurd H (by simp)
                    case rest =>
                      clear HC19
                      try clear c1
                      try clear p1
                      try clear q1
                      try clear hx1
                      try clear qi1
                      try clear c2
                      try clear p2
                      try clear q2
                      try clear hx2
                      try clear qi2
                      try clear c5
                      try clear c5b0
                      try clear c5b1
                      try clear c6
                      try clear c6b0
                      try clear c6b1
                      try clear p7
                      try clear q7
                      try clear hx7
                      try clear qi7
                      try clear c9
                      try clear c10
                      try clear c10b0
                      try clear c10b1
                      try clear c12
                      try clear c14
                      try clear c15
                      try clear c15b0
                      try clear c15b1
                      try clear c16
                      try clear c16b0
                      try clear c16b1
                      try clear p17
                      try clear q17
                      try clear hx17
                      try clear qi17
                      try clear c18
                      try clear c20
                      try clear c20b0
                      try clear c20b1
                      try clear c21
                      try clear c21b0
                      try clear c21b1
                      try clear p22
                      try clear q22
                      try clear hx22
                      try clear qi22
                      try clear c23
                      try clear c23b0
                      try clear c23b1
                      try clear p24
                      try clear q24
                      try clear hx24
                      try clear qi24
                      try clear p1
                      try clear p17
                      try clear p2
                      try clear p22
                      try clear p24
                      try clear p7
                      try clear q1
                      try clear q17
                      try clear q22
                      try clear q24
                      try clear q7
                      obtain ⟨kq, x42_18, rfl, HA, HJ18, HO_103002, BK101, BK102, HB⟩ := hcut
                      cases kq with
                      | zero => exact absurd HA.out (by simp [glob_class.j4])
                      | succ kj18 =>
                        have H := HA.out
                        clear HA
                        simp only [glob_class.j4] at H
                        by_cases c25 : x42_18 = true
                        · subst c25
                          have H1 : (some (false, x103001_7, x103002_3, (⟨#[]⟩ : ByteArray), false)) = some (r1, r2, r3, r4, r5) := by rw [if_pos rfl] at H; exact H
                          clear H
                          have H := H1
                          clear H1
                          simp only [Option.some.injEq, Prod.mk.injEq] at H
                          obtain ⟨rfl, rfl, rfl, rfl, rfl⟩ := H
                          have hnb26 := NB102_101.out
                          have hnc26 := NB101_102.out
                          have hcz27_0 : wc.cell? ⟨gb102, 0, none⟩ = some (.bool false) := (blk_cell BK102.out 0).trans rfl
                          have hcz27_1 : wc.cell? ⟨gb102, 1, none⟩ = some (.bool x103001_7) := (blk_cell BK102.out 1).trans rfl
                          have hcz27_2 : wc.cell? ⟨gb102, 2, none⟩ = some (u103002) := (blk_cell BK102.out 2).trans rfl
                          have hfz27_0 := blk_frozen BK102.out 0
                          have hfz27_1 := blk_frozen BK102.out 1
                          have hfz27_2 := blk_frozen BK102.out 2
                          have hcz28_0 : wc.cell? ⟨gb101, 0, none⟩ = some (.bool x102000_3) := (blk_cell BK101.out 0).trans rfl
                          have hcz28_1 : wc.cell? ⟨gb101, 1, none⟩ = some (.bool x102001_3) := (blk_cell BK101.out 1).trans rfl
                          have hcz28_2 : wc.cell? ⟨gb101, 2, none⟩ = some (.slice none 0 0) := (blk_cell BK101.out 2).trans rfl
                          have hfz28_0 := blk_frozen BK101.out 0
                          have hfz28_1 := blk_frozen BK101.out 1
                          have hfz28_2 := blk_frozen BK101.out 2
                          obtain ⟨Ao29, co29, eo29⟩ := Kd.R_slice HO_103002.out
                          subst eo29
                          repeat (first | go_values | go_skip | go_guarded | go_step | go_upon | go_in | (simp only [Int.not_lt, Int.not_le] at *; go_simp))
                          refine bodyPost_ret (results_ctt rfl _ _ gb101 38 #[.bool false, .bool x103001_7, .slice Ao29 x103002_3.length co29] (0, 0) _ rfl (by (with_reducible repeat (first | refine blk_drewN ?_ _ | refine blk_drew ?_ | refine blk_alloc ?_ _)); refine blk_put (cs := #[.bool false, .bool x103001_7, .slice none 0 0]) ?_ 2 _ rfl; (with_reducible repeat (first | refine blk_drewN ?_ _ | refine blk_drew ?_ | refine blk_alloc ?_ _)); refine blk_put (cs := #[.bool false, .bool x102001_3, .slice none 0 0]) ?_ 1 _ rfl; (with_reducible repeat (first | refine blk_drewN ?_ _ | refine blk_drew ?_ | refine blk_alloc ?_ _)); refine blk_put (cs := #[.bool x102000_3, .bool x102001_3, .slice none 0 0]) ?_ 0 _ rfl; (with_reducible repeat (first | refine blk_drewN ?_ _ | refine blk_drew ?_ | refine blk_alloc ?_ _)); exact BK101.out) Try.underlying38 rfl (by kernel_rfl)) rfl ?_
                          exact ⟨_, by first | rfl | (simp [errW_none, errW_some] <;> rfl) | (simp [*, errW_none, errW_some] <;> rfl), by (with_reducible repeat (first | apply Kd.R_alloc | apply Kd.R_drewN | apply Kd.R_drew)); exact Kd.R_mono (Kd.R_far (p := ⟨gb101, 2, none⟩) (Kd.R_far (p := ⟨gb101, 1, none⟩) (Kd.R_far (p := ⟨gb101, 0, none⟩) (Kd.R_types HO_103002.out BK101.out (by decide)) (fun _ hk => hk.2) (.bool false)) (fun _ hk => hk.2) (.bool x103001_7)) (fun _ hk => hk.2) (.slice Ao29 x103002_3.length co29)) (fun _ hk => trivial), by repeat (first | (with_reducible first | exact HB.out | apply below_alloc | apply pw_below_drewN | apply below_drew1 | refine below_set ?_ GE101.out | refine below_set ?_ GE102.out) | exact HB.out)⟩
                        · replace c25 := Bool.eq_false_iff.mpr c25
                          subst c25
                          have H1 : ((glob_one.f x0_3).bind fun bt103 => (if bt103.2.2 = true then (if bt103.2.1.toList = ([] : List UInt8) then (glob_class.j5 kj18 bt103.1 bt103.2.1 bt103.1 false false x103001_7 x103002_3) else (if 0 < (bt103.2.1.size : Int) then (glob_class.j5 kj18 bt103.1 bt103.2.1 bt103.1 ((bt bt103.2.1 0) == 45) false x103001_7 x103002_3) else (none))) else (some (false, x103001_7, x103002_3, (⟨#[]⟩ : ByteArray), false)))) = some (r1, r2, r3, r4, r5) := by rw [if_neg (show ¬ (false = true) by decide)] at H; exact H
                          clear H
                          have H := H1
                          clear H1
                          replace H := Option.bind_eq_some_iff.mp H
                          obtain ⟨⟨t103, t104, t105⟩, A300, H⟩ := H
                          replace H : (if t105 = true then (if t104.toList = ([] : List UInt8) then (glob_class.j5 kj18 t103 t104 t103 false false x103001_7 x103002_3) else (if 0 < (t104.size : Int) then (glob_class.j5 kj18 t103 t104 t103 ((bt t104 0) == 45) false x103001_7 x103002_3) else (none))) else (some (false, x103001_7, x103002_3, (⟨#[]⟩ : ByteArray), false))) = some (r1, r2, r3, r4, r5) := H
                          have A30 := Aside0.mk A300
                          clear A300
                          by_cases c31 : t105 = true
                          · subst c31
                            have H1 : (if t104.toList = ([] : List UInt8) then (glob_class.j5 kj18 t103 t104 t103 false false x103001_7 x103002_3) else (if 0 < (t104.size : Int) then (glob_class.j5 kj18 t103 t104 t103 ((bt t104 0) == 45) false x103001_7 x103002_3) else (none))) = some (r1, r2, r3, r4, r5) := by rw [if_pos rfl] at H; exact H
                            clear H
                            have H := H1
                            clear H1
                            have HC32 := Aside0.mk H
                            clear H
                            go_upto_region 13 with (first | ((with_reducible refine gate_callee (f := 13) rfl ?_); refine goesL_ (some 46) rfl rfl Try.func13 (by kernel_rfl) rfl #[.string x0_3] rfl (by (try simp only [List.map_toArray, List.map_cons, List.map_nil]); first | done | rfl | (simp only [List.length_drop, List.length_take]; rfl)) ?_; (with_reducible refine (glob_one.calls x0_3 t103 t104 true _ A30.out).mono ?_); rintro e w' ⟨rfl, ⟨nd, rfl⟩⟩; refine ⟨_, rfl, ?_⟩))
                            (try simp only [Act.put, List.setIfInBounds_toArray, List.set_cons_zero, List.set_cons_succ])
                            go_cut [60] (fun v60 wc => ∃ (kq : Nat) (x60_31 : Bool), v60 = .bool x60_31 ∧ Aside0 (glob_class.j5 kq t103 t104 t103 x60_31 false x103001_7 x103002_3 = some (r1, r2, r3, r4, r5)) ∧ Aside0 (kq ≤ kj18) ∧ Aside0 (Kd.R k43 43 wc w.heap.size (fun _ => True) u103002 x103002_3) ∧ Aside0 (wc.heap[gb101]? = some (.cells #[.bool x102000_3, .bool x102001_3, (.slice none 0 0)] 38 (0, 0))) ∧ Aside0 (wc.heap[gb102]? = some (.cells #[.bool false, .bool x103001_7, u103002] 38 (0, 0))) ∧ Aside0 (Below w.heap.size w wc))
                            case first =>
                              have H := HC32.out
                              clear HC32
                              by_cases c33 : t104.toList = ([] : List UInt8)
                              · rw [if_pos c33] at H
                                have c33b0 : (t104.toList == ([] : List UInt8)) = true := beq_iff_eq.mpr c33
                                have c33b1 : (t104.toList != ([] : List UInt8)) = false := bne_eq_false_iff_eq.mpr c33
                                clear c33
                                (first | rw [c33b0] | (simp only [i64_w, i32_w]; rw [c33b0]) | skip)
                                have H' := Aside0.mk H
                                clear H
                                go_wp2
                                go_meet
                                case rel => exact ⟨_, (false), (by first | rfl | (simp; done) | (simp [*]; done)), H', ⟨by have := HJ1.out; have := HJ7.out; have := HK3.out; have := HJ12.out; have := HJ18.out; first | omega | exact Nat.le_refl _⟩, ⟨by (with_reducible repeat (first | apply Kd.R_alloc | apply Kd.R_drewN | apply Kd.R_drew)); exact HO_103002.out⟩, ⟨by (with_reducible repeat (first | refine blk_drewN ?_ _ | refine blk_drew ?_ | refine blk_alloc ?_ _)); exact BK101.out⟩, ⟨by (with_reducible repeat (first | refine blk_drewN ?_ _ | refine blk_drew ?_ | refine blk_alloc ?_ _)); exact BK102.out⟩, ⟨by repeat (first | (with_reducible first | exact HB.out | apply below_alloc | apply pw_below_drewN | apply below_drew1 | refine below_set ?_ GE101.out | refine below_set ?_ GE102.out) | exact HB.out)⟩⟩
                              · rw [if_neg c33] at H
                                have c33b0 : (t104.toList == ([] : List UInt8)) = false := beq_eq_false_iff_ne.mpr c33
                                have c33b1 : (t104.toList != ([] : List UInt8)) = true := bne_iff_ne.mpr c33
                                (first | rw [c33b0] | (simp only [i64_w, i32_w]; rw [c33b0]) | skip)
                                by_cases c34 : 0 < (t104.size : Int)
                                · rw [if_pos c34] at H
                                  have c34b0 : decide (0 < (t104.size : Int)) = true := decide_eq_true c34
                                  have c34b1 : decide (0 < t104.size) = true := decide_eq_true (by omega)
                                  clear c34
                                  have H' := Aside0.mk H
                                  clear H
                                  have p35 : 0 ≤ (0 : Int) := (by omega)
                                  have q35 : 0 < t104.size := (by have : (0 : Int) < (t104.size : Int) := of_decide_eq_true (by first | (with_reducible assumption) | assumption); omega)
                                  have hx35 : ∀ h : 0 < t104.size, ((t104[0]'h).toNat : Int) = bt t104 0 := bt_at t104 0
                                  clear p35
                                  have qi35 : (0 < (t104.size : Int)) = True := eq_true (of_decide_eq_true (by first | (with_reducible assumption) | assumption))
                                  replace q35 := eq_true q35
                                  go_wp2
                                  go_meet
                                  case rel => exact ⟨_, (((bt t104 0) == 45)), (by first | rfl | (simp; done) | (simp [*]; done)), H', ⟨by have := HJ1.out; have := HJ7.out; have := HK3.out; have := HJ12.out; have := HJ18.out; first | omega | exact Nat.le_refl _⟩, ⟨by (with_reducible repeat (first | apply Kd.R_alloc | apply Kd.R_drewN | apply Kd.R_drew)); exact HO_103002.out⟩, ⟨by (with_reducible repeat (first | refine blk_drewN ?_ _ | refine blk_drew ?_ | refine blk_alloc ?_ _)); exact BK101.out⟩, ⟨by (with_reducible repeat (first | refine blk_drewN ?_ _ | refine blk_drew ?_ | refine blk_alloc ?_ _)); exact BK102.out⟩, ⟨by repeat (first | (with_reducible first | exact HB.out | apply below_alloc | apply pw_below_drewN | apply below_drew1 | refine below_set ?_ GE101.out | refine below_set ?_ GE102.out) | exact HB.out)⟩⟩
                                · rw [if_neg c34] at H
                                  exact absurd H (by simp)
                            case rest =>
                              clear HC32
                              try clear c1
                              try clear p1
                              try clear q1
                              try clear hx1
                              try clear qi1
                              try clear c2
                              try clear p2
                              try clear q2
                              try clear hx2
                              try clear qi2
                              try clear c3
                              try clear p3
                              try clear q3
                              try clear hx3
                              try clear qi3
                              try clear c5
                              try clear c5b0
                              try clear c5b1
                              try clear c6
                              try clear c6b0
                              try clear c6b1
                              try clear p7
                              try clear q7
                              try clear hx7
                              try clear qi7
                              try clear c9
                              try clear c10
                              try clear c10b0
                              try clear c10b1
                              try clear c12
                              try clear c13
                              try clear c14
                              try clear c15
                              try clear c15b0
                              try clear c15b1
                              try clear c16
                              try clear c16b0
                              try clear c16b1
                              try clear p17
                              try clear q17
                              try clear hx17
                              try clear qi17
                              try clear c18
                              try clear c20
                              try clear c20b0
                              try clear c20b1
                              try clear c21
                              try clear c21b0
                              try clear c21b1
                              try clear p22
                              try clear q22
                              try clear hx22
                              try clear qi22
                              try clear c23
                              try clear c23b0
                              try clear c23b1
                              try clear p24
                              try clear q24
                              try clear hx24
                              try clear qi24
                              try clear c25
                              try clear c26
                              try clear c31
                              try clear c33
                              try clear c33b0
                              try clear c33b1
                              try clear c34
                              try clear c34b0
                              try clear c34b1
                              try clear p35
                              try clear q35
                              try clear hx35
                              try clear qi35
                              try clear hcz27_0
                              try clear hcz27_1
                              try clear hcz27_2
                              try clear hcz28_0
                              try clear hcz28_1
                              try clear hcz28_2
                              try clear hfz27_0
                              try clear hfz27_1
                              try clear hfz27_2
                              try clear hfz28_0
                              try clear hfz28_1
                              try clear hfz28_2
                              try clear p1
                              try clear p17
                              try clear p2
                              try clear p22
                              try clear p24
                              try clear p35
                              try clear p7
                              try clear q1
                              try clear q17
                              try clear q2
                              try clear q22
                              try clear q24
                              try clear q35
                              try clear q7
                              obtain ⟨kq, x60_31, rfl, HA, HJ31, HO_103002, BK101, BK102, HB⟩ := hcut
                              cases kq with
                              | zero => exact absurd HA.out (by simp [glob_class.j5])
                              | succ kj31 =>
                                have H := HA.out
                                clear HA
                                simp only [glob_class.j5] at H
                                by_cases c36 : x60_31 = true
                                · subst c36
                                  have H1 : (if (t104.size : Int) < 2 then (glob_class.j6 kj31 t103 t104 true false x103001_7 x103002_3) else (if 1 < (t104.size : Int) then (if (bt t104 1) = 93 then (glob_class.j6 kj31 t103 t104 true false x103001_7 x103002_3) else (glob_class.j6 kj31 t103 t104 ((bt t104 1) == 45) false x103001_7 x103002_3)) else (none))) = some (r1, r2, r3, r4, r5) := by rw [if_pos rfl] at H; exact H
                                  clear H
                                  have H := H1
                                  clear H1
                                  have HC37 := Aside0.mk H
                                  clear H
                                  go_upto_region 14 with (fail)
                                  go_cut [73] (fun v73 wc => ∃ (kq : Nat) (x73_36 : Bool), v73 = .bool x73_36 ∧ Aside0 (glob_class.j6 kq t103 t104 x73_36 false x103001_7 x103002_3 = some (r1, r2, r3, r4, r5)) ∧ Aside0 (kq ≤ kj31) ∧ Aside0 (Kd.R k43 43 wc w.heap.size (fun _ => True) u103002 x103002_3) ∧ Aside0 (wc.heap[gb101]? = some (.cells #[.bool x102000_3, .bool x102001_3, (.slice none 0 0)] 38 (0, 0))) ∧ Aside0 (wc.heap[gb102]? = some (.cells #[.bool false, .bool x103001_7, u103002] 38 (0, 0))) ∧ Aside0 (Below w.heap.size w wc))
                                  case first =>
                                    have H := HC37.out
                                    clear HC37
                                    by_cases c38 : (t104.size : Int) < 2
                                    · rw [if_pos c38] at H
                                      have c38b0 : decide ((t104.size : Int) < 2) = true := decide_eq_true c38
                                      have c38b1 : decide (t104.size < 2) = true := decide_eq_true (by omega)
                                      clear c38
                                      (first | rw [c38b0] | (simp only [i64_w, i32_w]; rw [c38b0]) | skip)
                                      have H' := Aside0.mk H
                                      clear H
                                      go_wp2
                                      go_meet
                                      case rel => exact ⟨_, (true), (by first | rfl | (simp; done) | (simp [*]; done)), H', ⟨by have := HJ1.out; have := HJ7.out; have := HK3.out; have := HJ12.out; have := HJ18.out; have := HJ31.out; first | omega | exact Nat.le_refl _⟩, ⟨by (with_reducible repeat (first | apply Kd.R_alloc | apply Kd.R_drewN | apply Kd.R_drew)); exact HO_103002.out⟩, ⟨by (with_reducible repeat (first | refine blk_drewN ?_ _ | refine blk_drew ?_ | refine blk_alloc ?_ _)); exact BK101.out⟩, ⟨by (with_reducible repeat (first | refine blk_drewN ?_ _ | refine blk_drew ?_ | refine blk_alloc ?_ _)); exact BK102.out⟩, ⟨by repeat (first | (with_reducible first | exact HB.out | apply below_alloc | apply pw_below_drewN | apply below_drew1 | refine below_set ?_ GE101.out | refine below_set ?_ GE102.out) | exact HB.out)⟩⟩
                                    · rw [if_neg c38] at H
                                      have c38b0 : decide ((t104.size : Int) < 2) = false := decide_eq_false c38
                                      have c38b1 : decide (t104.size < 2) = false := decide_eq_false (by omega)
                                      clear c38
                                      (first | rw [c38b0] | (simp only [i64_w, i32_w]; rw [c38b0]) | skip)
                                      by_cases c39 : 1 < (t104.size : Int)
                                      · rw [if_pos c39] at H
                                        have c39b0 : decide (1 < (t104.size : Int)) = true := decide_eq_true c39
                                        have c39b1 : decide (1 < t104.size) = true := decide_eq_true (by omega)
                                        clear c39
                                        by_cases c41 : (bt t104 1) = 93
                                        · rw [if_pos c41] at H
                                          have c41b0 : ((bt t104 1) == 93) = true := beq_iff_eq.mpr c41
                                          have c41b1 : ((bt t104 1) != 93) = false := bne_eq_false_iff_eq.mpr c41
                                          clear c41
                                          have H' := Aside0.mk H
                                          clear H
                                          have p40 : 0 ≤ (1 : Int) := (by omega)
                                          have q40 : 1 < t104.size := (by have : (1 : Int) < (t104.size : Int) := of_decide_eq_true (by first | (with_reducible assumption) | assumption); omega)
                                          have hx40 : ∀ h : 1 < t104.size, ((t104[1]'h).toNat : Int) = bt t104 1 := bt_at t104 1
                                          clear p40
                                          have qi40 : (1 < (t104.size : Int)) = True := eq_true (of_decide_eq_true (by first | (with_reducible assumption) | assumption))
                                          replace q40 := eq_true q40
                                          go_wp2
                                          go_meet
                                          case rel => exact ⟨_, (true), (by first | rfl | (simp; done) | (simp [*]; done)), H', ⟨by have := HJ1.out; have := HJ7.out; have := HK3.out; have := HJ12.out; have := HJ18.out; have := HJ31.out; first | omega | exact Nat.le_refl _⟩, ⟨by (with_reducible repeat (first | apply Kd.R_alloc | apply Kd.R_drewN | apply Kd.R_drew)); exact HO_103002.out⟩, ⟨by (with_reducible repeat (first | refine blk_drewN ?_ _ | refine blk_drew ?_ | refine blk_alloc ?_ _)); exact BK101.out⟩, ⟨by (with_reducible repeat (first | refine blk_drewN ?_ _ | refine blk_drew ?_ | refine blk_alloc ?_ _)); exact BK102.out⟩, ⟨by repeat (first | (with_reducible first | exact HB.out | apply below_alloc | apply pw_below_drewN | apply below_drew1 | refine below_set ?_ GE101.out | refine below_set ?_ GE102.out) | exact HB.out)⟩⟩
                                        · rw [if_neg c41] at H
                                          have c41b0 : ((bt t104 1) == 93) = false := beq_eq_false_iff_ne.mpr c41
                                          have c41b1 : ((bt t104 1) != 93) = true := bne_iff_ne.mpr c41
                                          have H' := Aside0.mk H
                                          clear H
                                          have p40 : 0 ≤ (1 : Int) := (by omega)
                                          have q40 : 1 < t104.size := (by have : (1 : Int) < (t104.size : Int) := of_decide_eq_true (by first | (with_reducible assumption) | assumption); omega)
                                          have hx40 : ∀ h : 1 < t104.size, ((t104[1]'h).toNat : Int) = bt t104 1 := bt_at t104 1
                                          clear p40
                                          have qi40 : (1 < (t104.size : Int)) = True := eq_true (of_decide_eq_true (by first | (with_reducible assumption) | assumption))
                                          replace q40 := eq_true q40
                                          have p42 : 0 ≤ (1 : Int) := (by omega)
                                          have q42 : 1 < t104.size := (by have : (1 : Int) < (t104.size : Int) := of_decide_eq_true (by first | (with_reducible assumption) | assumption); omega)
                                          have hx42 : ∀ h : 1 < t104.size, ((t104[1]'h).toNat : Int) = bt t104 1 := bt_at t104 1
                                          clear p42
                                          have qi42 : (1 < (t104.size : Int)) = True := eq_true (of_decide_eq_true (by first | (with_reducible assumption) | assumption))
                                          replace q42 := eq_true q42
                                          go_wp2
                                          go_meet
                                          case rel => exact ⟨_, (((bt t104 1) == 45)), (by first | rfl | (simp; done) | (simp [*]; done)), H', ⟨by have := HJ1.out; have := HJ7.out; have := HK3.out; have := HJ12.out; have := HJ18.out; have := HJ31.out; first | omega | exact Nat.le_refl _⟩, ⟨by (with_reducible repeat (first | apply Kd.R_alloc | apply Kd.R_drewN | apply Kd.R_drew)); exact HO_103002.out⟩, ⟨by (with_reducible repeat (first | refine blk_drewN ?_ _ | refine blk_drew ?_ | refine blk_alloc ?_ _)); exact BK101.out⟩, ⟨by (with_reducible repeat (first | refine blk_drewN ?_ _ | refine blk_drew ?_ | refine blk_alloc ?_ _)); exact BK102.out⟩, ⟨by repeat (first | (with_reducible first | exact HB.out | apply below_alloc | apply pw_below_drewN | apply below_drew1 | refine below_set ?_ GE101.out | refine below_set ?_ GE102.out) | exact HB.out)⟩⟩
                                      · rw [if_neg c39] at H
                                        exact absurd H (by simp)
                                  case rest =>
                                    clear HC37
                                    try clear c1
                                    try clear p1
                                    try clear q1
                                    try clear hx1
                                    try clear qi1
                                    try clear c2
                                    try clear p2
                                    try clear q2
                                    try clear hx2
                                    try clear qi2
                                    try clear c3
                                    try clear p3
                                    try clear q3
                                    try clear hx3
                                    try clear qi3
                                    try clear c4
                                    try clear p4
                                    try clear q4
                                    try clear hx4
                                    try clear qi4
                                    try clear c5
                                    try clear c5b0
                                    try clear c5b1
                                    try clear c6
                                    try clear c6b0
                                    try clear c6b1
                                    try clear p7
                                    try clear q7
                                    try clear hx7
                                    try clear qi7
                                    try clear c9
                                    try clear c10
                                    try clear c10b0
                                    try clear c10b1
                                    try clear c12
                                    try clear c13
                                    try clear c14
                                    try clear c15
                                    try clear c15b0
                                    try clear c15b1
                                    try clear c16
                                    try clear c16b0
                                    try clear c16b1
                                    try clear p17
                                    try clear q17
                                    try clear hx17
                                    try clear qi17
                                    try clear c18
                                    try clear c20
                                    try clear c20b0
                                    try clear c20b1
                                    try clear c21
                                    try clear c21b0
                                    try clear c21b1
                                    try clear p22
                                    try clear q22
                                    try clear hx22
                                    try clear qi22
                                    try clear c23
                                    try clear c23b0
                                    try clear c23b1
                                    try clear p24
                                    try clear q24
                                    try clear hx24
                                    try clear qi24
                                    try clear c25
                                    try clear c26
                                    try clear c31
                                    try clear c33
                                    try clear c33b0
                                    try clear c33b1
                                    try clear c34
                                    try clear c34b0
                                    try clear c34b1
                                    try clear p35
                                    try clear q35
                                    try clear hx35
                                    try clear qi35
                                    try clear c36
                                    try clear c38
                                    try clear c38b0
                                    try clear c38b1
                                    try clear c39
                                    try clear c39b0
                                    try clear c39b1
                                    try clear p40
                                    try clear q40
                                    try clear hx40
                                    try clear qi40
                                    try clear c41
                                    try clear c41b0
                                    try clear c41b1
                                    try clear p42
                                    try clear q42
                                    try clear hx42
                                    try clear qi42
                                    try clear hcz27_0
                                    try clear hcz27_1
                                    try clear hcz27_2
                                    try clear hcz28_0
                                    try clear hcz28_1
                                    try clear hcz28_2
                                    try clear hfz27_0
                                    try clear hfz27_1
                                    try clear hfz27_2
                                    try clear hfz28_0
                                    try clear hfz28_1
                                    try clear hfz28_2
                                    try clear p1
                                    try clear p17
                                    try clear p2
                                    try clear p22
                                    try clear p24
                                    try clear p3
                                    try clear p35
                                    try clear p40
                                    try clear p42
                                    try clear p7
                                    try clear q1
                                    try clear q17
                                    try clear q2
                                    try clear q22
                                    try clear q24
                                    try clear q3
                                    try clear q35
                                    try clear q40
                                    try clear q42
                                    try clear q7
                                    obtain ⟨kq, x73_36, rfl, HA, HJ36, HO_103002, BK101, BK102, HB⟩ := hcut
                                    cases kq with
                                    | zero => exact absurd HA.out (by simp [glob_class.j6])
                                    | succ kj36 =>
                                      have H := HA.out
                                      clear HA
                                      simp only [glob_class.j6] at H
                                      by_cases c43 : x73_36 = true
                                      · subst c43
                                        have H1 : (some (false, x103001_7, x103002_3, (⟨#[]⟩ : ByteArray), false)) = some (r1, r2, r3, r4, r5) := by rw [if_pos rfl] at H; exact H
                                        clear H
                                        have H := H1
                                        clear H1
                                        simp only [Option.some.injEq, Prod.mk.injEq] at H
                                        obtain ⟨rfl, rfl, rfl, rfl, rfl⟩ := H
                                        have hnb44 := NB102_101.out
                                        have hnc44 := NB101_102.out
                                        have hcz45_0 : wc.cell? ⟨gb102, 0, none⟩ = some (.bool false) := (blk_cell BK102.out 0).trans rfl
                                        have hcz45_1 : wc.cell? ⟨gb102, 1, none⟩ = some (.bool x103001_7) := (blk_cell BK102.out 1).trans rfl
                                        have hcz45_2 : wc.cell? ⟨gb102, 2, none⟩ = some (u103002) := (blk_cell BK102.out 2).trans rfl
                                        have hfz45_0 := blk_frozen BK102.out 0
                                        have hfz45_1 := blk_frozen BK102.out 1
                                        have hfz45_2 := blk_frozen BK102.out 2
                                        have hcz46_0 : wc.cell? ⟨gb101, 0, none⟩ = some (.bool x102000_3) := (blk_cell BK101.out 0).trans rfl
                                        have hcz46_1 : wc.cell? ⟨gb101, 1, none⟩ = some (.bool x102001_3) := (blk_cell BK101.out 1).trans rfl
                                        have hcz46_2 : wc.cell? ⟨gb101, 2, none⟩ = some (.slice none 0 0) := (blk_cell BK101.out 2).trans rfl
                                        have hfz46_0 := blk_frozen BK101.out 0
                                        have hfz46_1 := blk_frozen BK101.out 1
                                        have hfz46_2 := blk_frozen BK101.out 2
                                        obtain ⟨Ao47, co47, eo47⟩ := Kd.R_slice HO_103002.out
                                        subst eo47
                                        repeat (first | go_values | go_skip | go_guarded | go_step | go_upon | go_in | (simp only [Int.not_lt, Int.not_le] at *; go_simp))
                                        refine bodyPost_ret (results_ctt rfl _ _ gb101 38 #[.bool false, .bool x103001_7, .slice Ao47 x103002_3.length co47] (0, 0) _ rfl (by (with_reducible repeat (first | refine blk_drewN ?_ _ | refine blk_drew ?_ | refine blk_alloc ?_ _)); refine blk_put (cs := #[.bool false, .bool x103001_7, .slice none 0 0]) ?_ 2 _ rfl; (with_reducible repeat (first | refine blk_drewN ?_ _ | refine blk_drew ?_ | refine blk_alloc ?_ _)); refine blk_put (cs := #[.bool false, .bool x102001_3, .slice none 0 0]) ?_ 1 _ rfl; (with_reducible repeat (first | refine blk_drewN ?_ _ | refine blk_drew ?_ | refine blk_alloc ?_ _)); refine blk_put (cs := #[.bool x102000_3, .bool x102001_3, .slice none 0 0]) ?_ 0 _ rfl; (with_reducible repeat (first | refine blk_drewN ?_ _ | refine blk_drew ?_ | refine blk_alloc ?_ _)); exact BK101.out) Try.underlying38 rfl (by kernel_rfl)) rfl ?_
                                        exact ⟨_, by first | rfl | (simp [errW_none, errW_some] <;> rfl) | (simp [*, errW_none, errW_some] <;> rfl), by (with_reducible repeat (first | apply Kd.R_alloc | apply Kd.R_drewN | apply Kd.R_drew)); exact Kd.R_mono (Kd.R_far (p := ⟨gb101, 2, none⟩) (Kd.R_far (p := ⟨gb101, 1, none⟩) (Kd.R_far (p := ⟨gb101, 0, none⟩) (Kd.R_types HO_103002.out BK101.out (by decide)) (fun _ hk => hk.2) (.bool false)) (fun _ hk => hk.2) (.bool x103001_7)) (fun _ hk => hk.2) (.slice Ao47 x103002_3.length co47)) (fun _ hk => trivial), by repeat (first | (with_reducible first | exact HB.out | apply below_alloc | apply pw_below_drewN | apply below_drew1 | refine below_set ?_ GE101.out | refine below_set ?_ GE102.out) | exact HB.out)⟩
                                      · replace c43 := Bool.eq_false_iff.mpr c43
                                        subst c43
                                        have H1 : (if 1 ≤ (t104.size : Int) then ((glob_one.f (t104.extract 1 t104.size)).bind fun bt106 => (if bt106.2.2 = true then (if bt106.1 < t103 then (some (false, x103001_7, x103002_3, (⟨#[]⟩ : ByteArray), false)) else (if x103002_3.length < 70368744177664 then (glob_class.l0 kj36 bt106.2.1 false false x103001_7 (x103002_3 ++ [(⟨t103, bt106.1⟩ : S43)])) else (none))) else (some (false, x103001_7, x103002_3, (⟨#[]⟩ : ByteArray), false)))) else (none)) = some (r1, r2, r3, r4, r5) := by rw [if_neg (show ¬ (false = true) by decide)] at H; exact H
                                        clear H
                                        have H := H1
                                        clear H1
                                        by_cases c48 : 1 ≤ (t104.size : Int)
                                        · rw [if_pos c48] at H
                                          have c48b0 := eq_true c48
                                          have c48b1 : decide (1 ≤ (t104.size : Int)) = true := decide_eq_true c48
                                          clear c48
                                          replace H := Option.bind_eq_some_iff.mp H
                                          obtain ⟨⟨t106, t107, t108⟩, A490, H⟩ := H
                                          replace H : (if t108 = true then (if t106 < t103 then (some (false, x103001_7, x103002_3, (⟨#[]⟩ : ByteArray), false)) else (if x103002_3.length < 70368744177664 then (glob_class.l0 kj36 t107 false false x103001_7 (x103002_3 ++ [(⟨t103, t106⟩ : S43)])) else (none))) else (some (false, x103001_7, x103002_3, (⟨#[]⟩ : ByteArray), false))) = some (r1, r2, r3, r4, r5) := H
                                          have A49 := Aside0.mk A490
                                          clear A490
                                          by_cases c50 : t108 = true
                                          · subst c50
                                            have H1 : (if t106 < t103 then (some (false, x103001_7, x103002_3, (⟨#[]⟩ : ByteArray), false)) else (if x103002_3.length < 70368744177664 then (glob_class.l0 kj36 t107 false false x103001_7 (x103002_3 ++ [(⟨t103, t106⟩ : S43)])) else (none))) = some (r1, r2, r3, r4, r5) := by rw [if_pos rfl] at H; exact H
                                            clear H
                                            have H := H1
                                            clear H1
                                            by_cases c51 : t106 < t103
                                            · rw [if_pos c51] at H
                                              have c51b0 : decide (t106 < t103) = true := decide_eq_true c51
                                              clear c51
                                              simp only [Option.some.injEq, Prod.mk.injEq] at H
                                              obtain ⟨rfl, rfl, rfl, rfl, rfl⟩ := H
                                              repeat (first | (first | ((with_reducible refine gate_callee (f := 13) rfl ?_); refine goesL_ (some 78) rfl rfl Try.func13 (by kernel_rfl) rfl #[.string (t104.extract 1 t104.size)] rfl (by (try simp only [List.map_toArray, List.map_cons, List.map_nil]); first | done | rfl | (simp only [List.length_drop, List.length_take]; rfl)) ?_; (with_reducible refine (glob_one.calls (t104.extract 1 t104.size) t106 t107 true _ A49.out).mono ?_); rintro e w' ⟨rfl, ⟨nd, rfl⟩⟩; refine ⟨_, rfl, ?_⟩; (try (rw [drewN_self wc]; generalize hq_ : World.drewN wc _ = wc; have n0_ : Aside0 (Kd.R k43 43 wc w.heap.size (fun _ => True) u103002 x103002_3) := ⟨by rw [← hq_]; exact (by (with_reducible repeat (first | apply Kd.R_alloc | apply Kd.R_drewN | apply Kd.R_drew)); exact HO_103002.out)⟩; have n1_ : Aside0 (wc.heap[gb101]? = some (.cells #[.bool x102000_3, .bool x102001_3, .slice none 0 0] 38 (0, 0))) := ⟨by rw [← hq_]; exact (by (with_reducible repeat (first | refine blk_drewN ?_ _ | refine blk_drew ?_ | refine blk_alloc ?_ _)); exact BK101.out)⟩; have n2_ : Aside0 (wc.heap[gb102]? = some (.cells #[.bool false, .bool x103001_7, u103002] 38 (0, 0))) := ⟨by rw [← hq_]; exact (by (with_reducible repeat (first | refine blk_drewN ?_ _ | refine blk_drew ?_ | refine blk_alloc ?_ _)); exact BK102.out)⟩; have n3_ : Aside0 (Below w.heap.size w wc) := ⟨by rw [← hq_]; exact (by repeat (first | (with_reducible first | exact HB.out | apply below_alloc | apply pw_below_drewN | apply below_drew1 | refine below_set ?_ GE101.out | refine below_set ?_ GE102.out) | exact HB.out))⟩; clear HO_103002 BK101 BK102 HB hq_; have HO_103002 := n0_; have BK101 := n1_; have BK102 := n2_; have HB := n3_; clear n0_ n1_ n2_ n3_)); have hnb52 := NB102_101.out; have hnc52 := NB101_102.out; have hcz53_0 : wc.cell? ⟨gb102, 0, none⟩ = some (.bool false) := (blk_cell BK102.out 0).trans rfl; have hcz53_1 : wc.cell? ⟨gb102, 1, none⟩ = some (.bool x103001_7) := (blk_cell BK102.out 1).trans rfl; have hcz53_2 : wc.cell? ⟨gb102, 2, none⟩ = some (u103002) := (blk_cell BK102.out 2).trans rfl; have hfz53_0 := blk_frozen BK102.out 0; have hfz53_1 := blk_frozen BK102.out 1; have hfz53_2 := blk_frozen BK102.out 2; have hcz54_0 : wc.cell? ⟨gb101, 0, none⟩ = some (.bool x102000_3) := (blk_cell BK101.out 0).trans rfl; have hcz54_1 : wc.cell? ⟨gb101, 1, none⟩ = some (.bool x102001_3) := (blk_cell BK101.out 1).trans rfl; have hcz54_2 : wc.cell? ⟨gb101, 2, none⟩ = some (.slice none 0 0) := (blk_cell BK101.out 2).trans rfl; have hfz54_0 := blk_frozen BK101.out 0; have hfz54_1 := blk_frozen BK101.out 1; have hfz54_2 := blk_frozen BK101.out 2; obtain ⟨Ao55, co55, eo55⟩ := Kd.R_slice HO_103002.out; subst eo55)) | go_values | go_skip | go_guarded | go_step | go_upon | go_in | (simp only [Int.not_lt, Int.not_le] at *; go_simp))
                                              refine bodyPost_ret (results_ctt rfl _ _ gb101 38 #[.bool false, .bool x103001_7, .slice Ao55 x103002_3.length co55] (0, 0) _ rfl (by (with_reducible repeat (first | refine blk_drewN ?_ _ | refine blk_drew ?_ | refine blk_alloc ?_ _)); refine blk_put (cs := #[.bool false, .bool x103001_7, .slice none 0 0]) ?_ 2 _ rfl; (with_reducible repeat (first | refine blk_drewN ?_ _ | refine blk_drew ?_ | refine blk_alloc ?_ _)); refine blk_put (cs := #[.bool false, .bool x102001_3, .slice none 0 0]) ?_ 1 _ rfl; (with_reducible repeat (first | refine blk_drewN ?_ _ | refine blk_drew ?_ | refine blk_alloc ?_ _)); refine blk_put (cs := #[.bool x102000_3, .bool x102001_3, .slice none 0 0]) ?_ 0 _ rfl; (with_reducible repeat (first | refine blk_drewN ?_ _ | refine blk_drew ?_ | refine blk_alloc ?_ _)); exact BK101.out) Try.underlying38 rfl (by kernel_rfl)) rfl ?_
                                              exact ⟨_, by first | rfl | (simp [errW_none, errW_some] <;> rfl) | (simp [*, errW_none, errW_some] <;> rfl), by (with_reducible repeat (first | apply Kd.R_alloc | apply Kd.R_drewN | apply Kd.R_drew)); exact Kd.R_mono (Kd.R_far (p := ⟨gb101, 2, none⟩) (Kd.R_far (p := ⟨gb101, 1, none⟩) (Kd.R_far (p := ⟨gb101, 0, none⟩) (Kd.R_types HO_103002.out BK101.out (by decide)) (fun _ hk => hk.2) (.bool false)) (fun _ hk => hk.2) (.bool x103001_7)) (fun _ hk => hk.2) (.slice Ao55 x103002_3.length co55)) (fun _ hk => trivial), by repeat (first | (with_reducible first | exact HB.out | apply below_alloc | apply pw_below_drewN | apply below_drew1 | refine below_set ?_ GE101.out | refine below_set ?_ GE102.out) | exact HB.out)⟩
                                            · rw [if_neg c51] at H
                                              have c51b0 : decide (t106 < t103) = false := decide_eq_false c51
                                              clear c51
                                              by_cases c56 : x103002_3.length < 70368744177664
                                              · rw [if_pos c56] at H
                                                have LMc56 := Aside0.mk c56
                                                clear c56
                                                obtain ⟨y109, hy109⟩ : ∃ y_ : List (S43), y_ = (x103002_3 ++ [(⟨t103, t106⟩ : S43)]) := ⟨_, rfl⟩
                                                replace H : (glob_class.l0 kj36 t107 false false x103001_7 y109) = some (r1, r2, r3, r4, r5) := by first | (rw [hy109]; with_reducible exact H) | (have H2_ := (Option.bind_some _ _).symm.trans H; rw [hy109]; with_reducible exact H2_) | (have H2_ := (Option.bind_some _ _).symm.trans H; with_reducible exact H2_) | with_reducible exact H | (rw [hy109]; exact H) | exact H
                                                have Ny109 := Aside0.mk hy109
                                                clear hy109
                                                have H' := Aside0.mk H
                                                clear H
                                                go_wp2_with (first | ((with_reducible refine gate_callee (f := 13) rfl ?_); refine goesL_ (some 78) rfl rfl Try.func13 (by kernel_rfl) rfl #[.string (t104.extract 1 t104.size)] rfl (by (try simp only [List.map_toArray, List.map_cons, List.map_nil]); first | done | rfl | (simp only [List.length_drop, List.length_take]; rfl)) ?_; (with_reducible refine (glob_one.calls (t104.extract 1 t104.size) t106 t107 true _ A49.out).mono ?_); rintro e w' ⟨rfl, ⟨nd, rfl⟩⟩; refine ⟨_, rfl, ?_⟩; (try (rw [drewN_self wc]; generalize hq_ : World.drewN wc _ = wc; have n0_ : Aside0 (Kd.R k43 43 wc w.heap.size (fun _ => True) u103002 x103002_3) := ⟨by rw [← hq_]; exact (by (with_reducible repeat (first | apply Kd.R_alloc | apply Kd.R_drewN | apply Kd.R_drew)); exact HO_103002.out)⟩; have n1_ : Aside0 (wc.heap[gb101]? = some (.cells #[.bool x102000_3, .bool x102001_3, .slice none 0 0] 38 (0, 0))) := ⟨by rw [← hq_]; exact (by (with_reducible repeat (first | refine blk_drewN ?_ _ | refine blk_drew ?_ | refine blk_alloc ?_ _)); exact BK101.out)⟩; have n2_ : Aside0 (wc.heap[gb102]? = some (.cells #[.bool false, .bool x103001_7, u103002] 38 (0, 0))) := ⟨by rw [← hq_]; exact (by (with_reducible repeat (first | refine blk_drewN ?_ _ | refine blk_drew ?_ | refine blk_alloc ?_ _)); exact BK102.out)⟩; have n3_ : Aside0 (Below w.heap.size w wc) := ⟨by rw [← hq_]; exact (by repeat (first | (with_reducible first | exact HB.out | apply below_alloc | apply pw_below_drewN | apply below_drew1 | refine below_set ?_ GE101.out | refine below_set ?_ GE102.out) | exact HB.out))⟩; clear HO_103002 BK101 BK102 HB hq_; have HO_103002 := n0_; have BK101 := n1_; have BK102 := n2_; have HB := n3_; clear n0_ n1_ n2_ n3_)); have hnb57 := NB102_101.out; have hnc57 := NB101_102.out; have hcz58_0 : wc.cell? ⟨gb102, 0, none⟩ = some (.bool false) := (blk_cell BK102.out 0).trans rfl; have hcz58_1 : wc.cell? ⟨gb102, 1, none⟩ = some (.bool x103001_7) := (blk_cell BK102.out 1).trans rfl; have hcz58_2 : wc.cell? ⟨gb102, 2, none⟩ = some (u103002) := (blk_cell BK102.out 2).trans rfl; have hfz58_0 := blk_frozen BK102.out 0; have hfz58_1 := blk_frozen BK102.out 1; have hfz58_2 := blk_frozen BK102.out 2) | ((with_reducible refine gate_builtin (b := .append) (xs := #[.tmp 90, .tmp 94]) rfl ?_); at_builtin; refine Kd.R_append k43 (w0 := w) w.heap.size rfl (.tmp 90) (.tmp 94) 36 43 (.agg #[(.int .u8 0), (.int .u8 0)]) 2 rfl Try.underlying36 info43 rfl (by decide) (by omega) u103002 x103002_3 (⟨t103, t106⟩ : S43) [.int .u8 t103, .int .u8 t106] (fun _ => True) (fun _ => False) rfl rfl ?aP (fun _ hk => hk.elim) ?aF ?aO ?aB ?aS ?aL ?_; (case aP => exact k43_mkM _ _ _ (⟨t103, t106⟩ : S43)); (case aB => exact (by repeat (first | (with_reducible first | exact HB.out | apply below_alloc | apply pw_below_drewN | apply below_drew1 | refine below_set ?_ GE101.out | refine below_set ?_ GE102.out) | exact HB.out))); (case aF => exact (fun _ _ => trivial)); (case aO => exact (by (with_reducible repeat (first | apply Kd.R_alloc | apply Kd.R_drewN | apply Kd.R_drew)); exact HO_103002.out)); (case aS => exact (below_size (by repeat (first | (with_reducible first | exact HB.out | apply below_alloc | apply pw_below_drewN | apply below_drew1 | refine below_set ?_ GE101.out | refine below_set ?_ GE102.out) | exact HB.out)))); (case aL => have := LMc56.out; omega); intro v110 w59 ho hb hg hat; rw [← Ny109.out] at ho; have n0_ := Aside0.mk (blk_grown (g := gb101) (o := .cells #[.bool x102000_3, .bool x102001_3, .slice none 0 0] 38 (0, 0)) (by (with_reducible repeat (first | refine blk_drewN ?_ _ | refine blk_drew ?_ | refine blk_alloc ?_ _)); exact BK101.out) hg (Kd.R_ne HO_103002.out BK101.out (by decide))); have n1_ := Aside0.mk (blk_grown (g := gb102) (o := .cells #[.bool false, .bool x103001_7, u103002] 38 (0, 0)) (by (with_reducible repeat (first | refine blk_drewN ?_ _ | refine blk_drew ?_ | refine blk_alloc ?_ _)); exact BK102.out) hg (Kd.R_ne HO_103002.out BK102.out (by decide))); have n2_ := Aside0.mk (hb); have n3_ := Aside0.mk (ho); clear BK101; clear BK102; clear HB; clear HO_103002; have BK101 := n0_; have BK102 := n1_; have HB := n2_; have HO111 := n3_; clear n0_ n1_ n2_ n3_; clear ho hb hg hat; obtain ⟨Ao60, co60, eo60⟩ := Kd.R_slice HO111.out; subst eo60; have hcz61_0 : w59.cell? ⟨gb102, 0, none⟩ = some (.bool false) := (blk_cell BK102.out 0).trans rfl; have hcz61_1 : w59.cell? ⟨gb102, 1, none⟩ = some (.bool x103001_7) := (blk_cell BK102.out 1).trans rfl; have hcz61_2 : w59.cell? ⟨gb102, 2, none⟩ = some (u103002) := (blk_cell BK102.out 2).trans rfl; have hfz61_0 := blk_frozen BK102.out 0; have hfz61_1 := blk_frozen BK102.out 1; have hfz61_2 := blk_frozen BK102.out 2))
                                                go_roundg kj36
                                                case measure => have := HJ1.out; have := HJ7.out; have := HK3.out; have := HJ12.out; have := HJ18.out; have := HJ31.out; have := HJ36.out; omega
                                                case rel => exact ⟨(t107), (false), (x102000_3), (x102001_3), (y109), (.slice Ao60 y109.length co60), (by first | rfl | (simp; done) | (simp [*]; done)), (by first | rfl | (simp; done) | (simp [*]; done)), H', ⟨by have := HJ1.out; have := HJ7.out; have := HK3.out; have := HJ12.out; have := HJ18.out; have := HJ31.out; have := HJ36.out; omega⟩, ⟨by (with_reducible repeat (first | apply Kd.R_alloc | apply Kd.R_drewN | apply Kd.R_drew)); exact Kd.R_mono (Kd.R_far (p := ⟨gb102, 2, none⟩) (Kd.R_types HO111.out BK102.out (by decide)) (fun _ hk => hk.2) (.slice Ao60 y109.length co60)) (fun _ hk => trivial)⟩, ⟨by (with_reducible repeat (first | refine blk_drewN ?_ _ | refine blk_drew ?_ | refine blk_alloc ?_ _)); refine blk_far ?_ NB101_102.out _; (with_reducible repeat (first | refine blk_drewN ?_ _ | refine blk_drew ?_ | refine blk_alloc ?_ _)); exact BK101.out⟩, ⟨by (with_reducible repeat (first | refine blk_drewN ?_ _ | refine blk_drew ?_ | refine blk_alloc ?_ _)); refine blk_put (cs := #[.bool false, .bool x103001_7, u103002]) ?_ 2 _ rfl; (with_reducible repeat (first | refine blk_drewN ?_ _ | refine blk_drew ?_ | refine blk_alloc ?_ _)); exact BK102.out⟩, ⟨by repeat (first | (with_reducible first | exact HB.out | apply below_alloc | apply pw_below_drewN | apply below_drew1 | refine below_set ?_ GE101.out | refine below_set ?_ GE102.out) | exact HB.out)⟩⟩
                                              · rw [if_neg c56] at H
                                                exact absurd H (by simp)
                                          · replace c50 := Bool.eq_false_iff.mpr c50
                                            subst c50
                                            have H1 : (some (false, x103001_7, x103002_3, (⟨#[]⟩ : ByteArray), false)) = some (r1, r2, r3, r4, r5) := by rw [if_neg (show ¬ (false = true) by decide)] at H; exact H
                                            clear H
                                            have H := H1
                                            clear H1
                                            simp only [Option.some.injEq, Prod.mk.injEq] at H
                                            obtain ⟨rfl, rfl, rfl, rfl, rfl⟩ := H
                                            repeat (first | (first | ((with_reducible refine gate_callee (f := 13) rfl ?_); refine goesL_ (some 78) rfl rfl Try.func13 (by kernel_rfl) rfl #[.string (t104.extract 1 t104.size)] rfl (by (try simp only [List.map_toArray, List.map_cons, List.map_nil]); first | done | rfl | (simp only [List.length_drop, List.length_take]; rfl)) ?_; (with_reducible refine (glob_one.calls (t104.extract 1 t104.size) t106 t107 false _ A49.out).mono ?_); rintro e w' ⟨rfl, ⟨nd, rfl⟩⟩; refine ⟨_, rfl, ?_⟩; (try (rw [drewN_self wc]; generalize hq_ : World.drewN wc _ = wc; have n0_ : Aside0 (Kd.R k43 43 wc w.heap.size (fun _ => True) u103002 x103002_3) := ⟨by rw [← hq_]; exact (by (with_reducible repeat (first | apply Kd.R_alloc | apply Kd.R_drewN | apply Kd.R_drew)); exact HO_103002.out)⟩; have n1_ : Aside0 (wc.heap[gb101]? = some (.cells #[.bool x102000_3, .bool x102001_3, .slice none 0 0] 38 (0, 0))) := ⟨by rw [← hq_]; exact (by (with_reducible repeat (first | refine blk_drewN ?_ _ | refine blk_drew ?_ | refine blk_alloc ?_ _)); exact BK101.out)⟩; have n2_ : Aside0 (wc.heap[gb102]? = some (.cells #[.bool false, .bool x103001_7, u103002] 38 (0, 0))) := ⟨by rw [← hq_]; exact (by (with_reducible repeat (first | refine blk_drewN ?_ _ | refine blk_drew ?_ | refine blk_alloc ?_ _)); exact BK102.out)⟩; have n3_ : Aside0 (Below w.heap.size w wc) := ⟨by rw [← hq_]; exact (by repeat (first | (with_reducible first | exact HB.out | apply below_alloc | apply pw_below_drewN | apply below_drew1 | refine below_set ?_ GE101.out | refine below_set ?_ GE102.out) | exact HB.out))⟩; clear HO_103002 BK101 BK102 HB hq_; have HO_103002 := n0_; have BK101 := n1_; have BK102 := n2_; have HB := n3_; clear n0_ n1_ n2_ n3_)); have hnb62 := NB102_101.out; have hnc62 := NB101_102.out; have hcz63_0 : wc.cell? ⟨gb102, 0, none⟩ = some (.bool false) := (blk_cell BK102.out 0).trans rfl; have hcz63_1 : wc.cell? ⟨gb102, 1, none⟩ = some (.bool x103001_7) := (blk_cell BK102.out 1).trans rfl; have hcz63_2 : wc.cell? ⟨gb102, 2, none⟩ = some (u103002) := (blk_cell BK102.out 2).trans rfl; have hfz63_0 := blk_frozen BK102.out 0; have hfz63_1 := blk_frozen BK102.out 1; have hfz63_2 := blk_frozen BK102.out 2; have hcz64_0 : wc.cell? ⟨gb101, 0, none⟩ = some (.bool x102000_3) := (blk_cell BK101.out 0).trans rfl; have hcz64_1 : wc.cell? ⟨gb101, 1, none⟩ = some (.bool x102001_3) := (blk_cell BK101.out 1).trans rfl; have hcz64_2 : wc.cell? ⟨gb101, 2, none⟩ = some (.slice none 0 0) := (blk_cell BK101.out 2).trans rfl; have hfz64_0 := blk_frozen BK101.out 0; have hfz64_1 := blk_frozen BK101.out 1; have hfz64_2 := blk_frozen BK101.out 2; obtain ⟨Ao65, co65, eo65⟩ := Kd.R_slice HO_103002.out; subst eo65)) | go_values | go_skip | go_guarded | go_step | go_upon | go_in | (simp only [Int.not_lt, Int.not_le] at *; go_simp))
                                            refine bodyPost_ret (results_ctt rfl _ _ gb101 38 #[.bool false, .bool x103001_7, .slice Ao65 x103002_3.length co65] (0, 0) _ rfl (by (with_reducible repeat (first | refine blk_drewN ?_ _ | refine blk_drew ?_ | refine blk_alloc ?_ _)); refine blk_put (cs := #[.bool false, .bool x103001_7, .slice none 0 0]) ?_ 2 _ rfl; (with_reducible repeat (first | refine blk_drewN ?_ _ | refine blk_drew ?_ | refine blk_alloc ?_ _)); refine blk_put (cs := #[.bool false, .bool x102001_3, .slice none 0 0]) ?_ 1 _ rfl; (with_reducible repeat (first | refine blk_drewN ?_ _ | refine blk_drew ?_ | refine blk_alloc ?_ _)); refine blk_put (cs := #[.bool x102000_3, .bool x102001_3, .slice none 0 0]) ?_ 0 _ rfl; (with_reducible repeat (first | refine blk_drewN ?_ _ | refine blk_drew ?_ | refine blk_alloc ?_ _)); exact BK101.out) Try.underlying38 rfl (by kernel_rfl)) rfl ?_
                                            exact ⟨_, by first | rfl | (simp [errW_none, errW_some] <;> rfl) | (simp [*, errW_none, errW_some] <;> rfl), by (with_reducible repeat (first | apply Kd.R_alloc | apply Kd.R_drewN | apply Kd.R_drew)); exact Kd.R_mono (Kd.R_far (p := ⟨gb101, 2, none⟩) (Kd.R_far (p := ⟨gb101, 1, none⟩) (Kd.R_far (p := ⟨gb101, 0, none⟩) (Kd.R_types HO_103002.out BK101.out (by decide)) (fun _ hk => hk.2) (.bool false)) (fun _ hk => hk.2) (.bool x103001_7)) (fun _ hk => hk.2) (.slice Ao65 x103002_3.length co65)) (fun _ hk => trivial), by repeat (first | (with_reducible first | exact HB.out | apply below_alloc | apply pw_below_drewN | apply below_drew1 | refine below_set ?_ GE101.out | refine below_set ?_ GE102.out) | exact HB.out)⟩
                                        · rw [if_neg c48] at H
                                          exact absurd H (by simp)
                                · replace c36 := Bool.eq_false_iff.mpr c36
                                  subst c36
                                  have H1 : (if t103 < t103 then (some (false, x103001_7, x103002_3, (⟨#[]⟩ : ByteArray), false)) else (if x103002_3.length < 70368744177664 then (glob_class.l0 kj31 t104 false false x103001_7 (x103002_3 ++ [(⟨t103, t103⟩ : S43)])) else (none))) = some (r1, r2, r3, r4, r5) := by rw [if_neg (show ¬ (false = true) by decide)] at H; exact H
                                  clear H
                                  have H := H1
                                  clear H1
                                  by_cases c66 : t103 < t103
                                  · exact absurd c66 (Int.lt_irrefl _)
                                  · rw [if_neg c66] at H
                                    have c66b0 : decide (t103 < t103) = false := decide_eq_false c66
                                    clear c66
                                    by_cases c71 : x103002_3.length < 70368744177664
                                    · rw [if_pos c71] at H
                                      have LMc71 := Aside0.mk c71
                                      clear c71
                                      obtain ⟨y112, hy112⟩ : ∃ y_ : List (S43), y_ = (x103002_3 ++ [(⟨t103, t103⟩ : S43)]) := ⟨_, rfl⟩
                                      replace H : (glob_class.l0 kj31 t104 false false x103001_7 y112) = some (r1, r2, r3, r4, r5) := by first | (rw [hy112]; with_reducible exact H) | (have H2_ := (Option.bind_some _ _).symm.trans H; rw [hy112]; with_reducible exact H2_) | (have H2_ := (Option.bind_some _ _).symm.trans H; with_reducible exact H2_) | with_reducible exact H | (rw [hy112]; exact H) | exact H
                                      have Ny112 := Aside0.mk hy112
                                      clear hy112
                                      have H' := Aside0.mk H
                                      clear H
                                      have hnb72 := NB102_101.out
                                      have hnc72 := NB101_102.out
                                      have hcz73_0 : wc.cell? ⟨gb102, 0, none⟩ = some (.bool false) := (blk_cell BK102.out 0).trans rfl
                                      have hcz73_1 : wc.cell? ⟨gb102, 1, none⟩ = some (.bool x103001_7) := (blk_cell BK102.out 1).trans rfl
                                      have hcz73_2 : wc.cell? ⟨gb102, 2, none⟩ = some (u103002) := (blk_cell BK102.out 2).trans rfl
                                      have hfz73_0 := blk_frozen BK102.out 0
                                      have hfz73_1 := blk_frozen BK102.out 1
                                      have hfz73_2 := blk_frozen BK102.out 2
                                      go_wp2_with (first | ((with_reducible refine gate_builtin (b := .append) (xs := #[.tmp 90, .tmp 94]) rfl ?_); at_builtin; refine Kd.R_append k43 (w0 := w) w.heap.size rfl (.tmp 90) (.tmp 94) 36 43 (.agg #[(.int .u8 0), (.int .u8 0)]) 2 rfl Try.underlying36 info43 rfl (by decide) (by omega) u103002 x103002_3 (⟨t103, t103⟩ : S43) [.int .u8 t103, .int .u8 t103] (fun _ => True) (fun _ => False) rfl rfl ?aP (fun _ hk => hk.elim) ?aF ?aO ?aB ?aS ?aL ?_; (case aP => exact k43_mkM _ _ _ (⟨t103, t103⟩ : S43)); (case aB => exact (by repeat (first | (with_reducible first | exact HB.out | apply below_alloc | apply pw_below_drewN | apply below_drew1 | refine below_set ?_ GE101.out | refine below_set ?_ GE102.out) | exact HB.out))); (case aF => exact (fun _ _ => trivial)); (case aO => exact (by (with_reducible repeat (first | apply Kd.R_alloc | apply Kd.R_drewN | apply Kd.R_drew)); exact HO_103002.out)); (case aS => exact (below_size (by repeat (first | (with_reducible first | exact HB.out | apply below_alloc | apply pw_below_drewN | apply below_drew1 | refine below_set ?_ GE101.out | refine below_set ?_ GE102.out) | exact HB.out)))); (case aL => have := LMc71.out; omega); intro v113 w74 ho hb hg hat; rw [← Ny112.out] at ho; have n0_ := Aside0.mk (blk_grown (g := gb101) (o := .cells #[.bool x102000_3, .bool x102001_3, .slice none 0 0] 38 (0, 0)) (by (with_reducible repeat (first | refine blk_drewN ?_ _ | refine blk_drew ?_ | refine blk_alloc ?_ _)); exact BK101.out) hg (Kd.R_ne HO_103002.out BK101.out (by decide))); have n1_ := Aside0.mk (blk_grown (g := gb102) (o := .cells #[.bool false, .bool x103001_7, u103002] 38 (0, 0)) (by (with_reducible repeat (first | refine blk_drewN ?_ _ | refine blk_drew ?_ | refine blk_alloc ?_ _)); exact BK102.out) hg (Kd.R_ne HO_103002.out BK102.out (by decide))); have n2_ := Aside0.mk (hb); have n3_ := Aside0.mk (ho); clear BK101; clear BK102; clear HB; clear HO_103002; have BK101 := n0_; have BK102 := n1_; have HB := n2_; have HO114 := n3_; clear n0_ n1_ n2_ n3_; clear ho hb hg hat; obtain ⟨Ao75, co75, eo75⟩ := Kd.R_slice HO114.out; subst eo75; have hcz76_0 : w74.cell? ⟨gb102, 0, none⟩ = some (.bool false) := (blk_cell BK102.out 0).trans rfl; have hcz76_1 : w74.cell? ⟨gb102, 1, none⟩ = some (.bool x103001_7) := (blk_cell BK102.out 1).trans rfl; have hcz76_2 : w74.cell? ⟨gb102, 2, none⟩ = some (u103002) := (blk_cell BK102.out 2).trans rfl; have hfz76_0 := blk_frozen BK102.out 0; have hfz76_1 := blk_frozen BK102.out 1; have hfz76_2 := blk_frozen BK102.out 2))
                                      go_roundg kj31
                                      case measure => have := HJ1.out; have := HJ7.out; have := HK3.out; have := HJ12.out; have := HJ18.out; have := HJ31.out; omega
                                      case rel => exact ⟨(t104), (false), (x102000_3), (x102001_3), (y112), (.slice Ao75 y112.length co75), (by first | rfl | (simp; done) | (simp [*]; done)), (by first | rfl | (simp; done) | (simp [*]; done)), H', ⟨by have := HJ1.out; have := HJ7.out; have := HK3.out; have := HJ12.out; have := HJ18.out; have := HJ31.out; omega⟩, ⟨by (with_reducible repeat (first | apply Kd.R_alloc | apply Kd.R_drewN | apply Kd.R_drew)); exact Kd.R_mono (Kd.R_far (p := ⟨gb102, 2, none⟩) (Kd.R_types HO114.out BK102.out (by decide)) (fun _ hk => hk.2) (.slice Ao75 y112.length co75)) (fun _ hk => trivial)⟩, ⟨by (with_reducible repeat (first | refine blk_drewN ?_ _ | refine blk_drew ?_ | refine blk_alloc ?_ _)); refine blk_far ?_ NB101_102.out _; (with_reducible repeat (first | refine blk_drewN ?_ _ | refine blk_drew ?_ | refine blk_alloc ?_ _)); exact BK101.out⟩, ⟨by (with_reducible repeat (first | refine blk_drewN ?_ _ | refine blk_drew ?_ | refine blk_alloc ?_ _)); refine blk_put (cs := #[.bool false, .bool x103001_7, u103002]) ?_ 2 _ rfl; (with_reducible repeat (first | refine blk_drewN ?_ _ | refine blk_drew ?_ | refine blk_alloc ?_ _)); exact BK102.out⟩, ⟨by repeat (first | (with_reducible first | exact HB.out | apply below_alloc | apply pw_below_drewN | apply below_drew1 | refine below_set ?_ GE101.out | refine below_set ?_ GE102.out) | exact HB.out)⟩⟩
                                    · rw [if_neg c71] at H
                                      exact absurd H (by simp)
                          · replace c31 := Bool.eq_false_iff.mpr c31
                            subst c31
                            have H1 : (some (false, x103001_7, x103002_3, (⟨#[]⟩ : ByteArray), false)) = some (r1, r2, r3, r4, r5) := by rw [if_neg (show ¬ (false = true) by decide)] at H; exact H
                            clear H
                            have H := H1
                            clear H1
                            simp only [Option.some.injEq, Prod.mk.injEq] at H
                            obtain ⟨rfl, rfl, rfl, rfl, rfl⟩ := H
                            repeat (first | (first | ((with_reducible refine gate_callee (f := 13) rfl ?_); refine goesL_ (some 46) rfl rfl Try.func13 (by kernel_rfl) rfl #[.string x0_3] rfl (by (try simp only [List.map_toArray, List.map_cons, List.map_nil]); first | done | rfl | (simp only [List.length_drop, List.length_take]; rfl)) ?_; (with_reducible refine (glob_one.calls x0_3 t103 t104 false _ A30.out).mono ?_); rintro e w' ⟨rfl, ⟨nd, rfl⟩⟩; refine ⟨_, rfl, ?_⟩; (try (rw [drewN_self wc]; generalize hq_ : World.drewN wc _ = wc; have n0_ : Aside0 (Kd.R k43 43 wc w.heap.size (fun _ => True) u103002 x103002_3) := ⟨by rw [← hq_]; exact (by (with_reducible repeat (first | apply Kd.R_alloc | apply Kd.R_drewN | apply Kd.R_drew)); exact HO_103002.out)⟩; have n1_ : Aside0 (wc.heap[gb101]? = some (.cells #[.bool x102000_3, .bool x102001_3, .slice none 0 0] 38 (0, 0))) := ⟨by rw [← hq_]; exact (by (with_reducible repeat (first | refine blk_drewN ?_ _ | refine blk_drew ?_ | refine blk_alloc ?_ _)); exact BK101.out)⟩; have n2_ : Aside0 (wc.heap[gb102]? = some (.cells #[.bool false, .bool x103001_7, u103002] 38 (0, 0))) := ⟨by rw [← hq_]; exact (by (with_reducible repeat (first | refine blk_drewN ?_ _ | refine blk_drew ?_ | refine blk_alloc ?_ _)); exact BK102.out)⟩; have n3_ : Aside0 (Below w.heap.size w wc) := ⟨by rw [← hq_]; exact (by repeat (first | (with_reducible first | exact HB.out | apply below_alloc | apply pw_below_drewN | apply below_drew1 | refine below_set ?_ GE101.out | refine below_set ?_ GE102.out) | exact HB.out))⟩; clear HO_103002 BK101 BK102 HB hq_; have HO_103002 := n0_; have BK101 := n1_; have BK102 := n2_; have HB := n3_; clear n0_ n1_ n2_ n3_)); have hnb77 := NB102_101.out; have hnc77 := NB101_102.out; have hcz78_0 : wc.cell? ⟨gb102, 0, none⟩ = some (.bool false) := (blk_cell BK102.out 0).trans rfl; have hcz78_1 : wc.cell? ⟨gb102, 1, none⟩ = some (.bool x103001_7) := (blk_cell BK102.out 1).trans rfl; have hcz78_2 : wc.cell? ⟨gb102, 2, none⟩ = some (u103002) := (blk_cell BK102.out 2).trans rfl; have hfz78_0 := blk_frozen BK102.out 0; have hfz78_1 := blk_frozen BK102.out 1; have hfz78_2 := blk_frozen BK102.out 2; have hcz79_0 : wc.cell? ⟨gb101, 0, none⟩ = some (.bool x102000_3) := (blk_cell BK101.out 0).trans rfl; have hcz79_1 : wc.cell? ⟨gb101, 1, none⟩ = some (.bool x102001_3) := (blk_cell BK101.out 1).trans rfl; have hcz79_2 : wc.cell? ⟨gb101, 2, none⟩ = some (.slice none 0 0) := (blk_cell BK101.out 2).trans rfl; have hfz79_0 := blk_frozen BK101.out 0; have hfz79_1 := blk_frozen BK101.out 1; have hfz79_2 := blk_frozen BK101.out 2; obtain ⟨Ao80, co80, eo80⟩ := Kd.R_slice HO_103002.out; subst eo80)) | go_values | go_skip | go_guarded | go_step | go_upon | go_in | (simp only [Int.not_lt, Int.not_le] at *; go_simp))
                            refine bodyPost_ret (results_ctt rfl _ _ gb101 38 #[.bool false, .bool x103001_7, .slice Ao80 x103002_3.length co80] (0, 0) _ rfl (by (with_reducible repeat (first | refine blk_drewN ?_ _ | refine blk_drew ?_ | refine blk_alloc ?_ _)); refine blk_put (cs := #[.bool false, .bool x103001_7, .slice none 0 0]) ?_ 2 _ rfl; (with_reducible repeat (first | refine blk_drewN ?_ _ | refine blk_drew ?_ | refine blk_alloc ?_ _)); refine blk_put (cs := #[.bool false, .bool x102001_3, .slice none 0 0]) ?_ 1 _ rfl; (with_reducible repeat (first | refine blk_drewN ?_ _ | refine blk_drew ?_ | refine blk_alloc ?_ _)); refine blk_put (cs := #[.bool x102000_3, .bool x102001_3, .slice none 0 0]) ?_ 0 _ rfl; (with_reducible repeat (first | refine blk_drewN ?_ _ | refine blk_drew ?_ | refine blk_alloc ?_ _)); exact BK101.out) Try.underlying38 rfl (by kernel_rfl)) rfl ?_
                            exact ⟨_, by first | rfl | (simp [errW_none, errW_some] <;> rfl) | (simp [*, errW_none, errW_some] <;> rfl), by (with_reducible repeat (first | apply Kd.R_alloc | apply Kd.R_drewN | apply Kd.R_drew)); exact Kd.R_mono (Kd.R_far (p := ⟨gb101, 2, none⟩) (Kd.R_far (p := ⟨gb101, 1, none⟩) (Kd.R_far (p := ⟨gb101, 0, none⟩) (Kd.R_types HO_103002.out BK101.out (by decide)) (fun _ hk => hk.2) (.bool false)) (fun _ hk => hk.2) (.bool x103001_7)) (fun _ hk => hk.2) (.slice Ao80 x103002_3.length co80)) (fun _ hk => trivial), by repeat (first | (with_reducible first | exact HB.out | apply below_alloc | apply pw_below_drewN | apply below_drew1 | refine below_set ?_ GE101.out | refine below_set ?_ GE102.out) | exact HB.out)⟩
                  · replace c18 := Bool.eq_false_iff.mpr c18
                    subst c18
                    have H1 : (if 1 ≤ (x0_3.size : Int) then (some (false, x103001_7, x103002_3, x0_3.extract 1 x0_3.size, true)) else (none)) = some (r1, r2, r3, r4, r5) := by rw [if_neg (show ¬ (false = true) by decide)] at H; exact H
                    clear H
                    have H := H1
                    clear H1
                    by_cases c81 : 1 ≤ (x0_3.size : Int)
                    · rw [if_pos c81] at H
                      have c81b0 := eq_true c81
                      have c81b1 : decide (1 ≤ (x0_3.size : Int)) = true := decide_eq_true c81
                      clear c81
                      simp only [Option.some.injEq, Prod.mk.injEq] at H
                      obtain ⟨rfl, rfl, rfl, rfl, rfl⟩ := H
                      try go_wp2
                      have n0_ := Aside0.mk (Kd.R_drew HO_103002.out)
                      have n1_ := Aside0.mk (blk_drew BK101.out)
                      have n2_ := Aside0.mk (blk_drew BK102.out)
                      have n3_ := Aside0.mk (below_drew1 HB.out)
                      clear HO_103002
                      clear BK101
                      clear BK102
                      clear HB
                      have HO_103002 := n0_
                      have BK101 := n1_
                      have BK102 := n2_
                      have HB := n3_
                      clear n0_ n1_ n2_ n3_
                      obtain ⟨Ao85, co85, eo85⟩ := Kd.R_slice HO_103002.out
                      (first | subst eo85 | (injection eo85 with f1_ f2_ f3_; have f4_ := f1_.symm; have f5_ := f3_.symm; clear f1_ f2_ f3_; subst f4_; subst f5_))
                      refine start_ (n := 6) (S := fun w' => w'.cell? ⟨gb102, 0, none⟩ = some (.bool false) ∧ w'.cell? ⟨gb102, 1, none⟩ = some (.bool x103001_7) ∧ w'.cell? ⟨gb102, 2, none⟩ = some (.slice Ao85 x103002_3.length co85)) (ds := []) #[false, false, false, false, false, false] (by kernel_rfl) rfl rfl ⟨(blk_cell BK102.out 0).trans rfl, (blk_cell BK102.out 1).trans rfl, (blk_cell BK102.out 2).trans rfl⟩ (fun hHeld => ?_)
                      generalize wc.drew = w82 at HO_103002 BK101 BK102 HB hHeld ⊢
                      refine pure_ (i := 1) (N := some 99) (v := ?_) (a' := ?_) #[false, true, false, false, false, false] rfl rfl (by kernel_rfl) (fun _ _ _ h => h) (Or.inl ⟨by rfl, ?_⟩) ?_ ?_
                      rotate_left
                      · intro w'
                        go_simp
                        with_reducible rfl
                      rotate_left
                      · simp only [Act.put, List.setIfInBounds_toArray, List.set_cons_zero, List.set_cons_succ, i64_w, i32_w]
                        rfl
                      refine pure_ (i := 2) (N := some 100) (v := ?_) (a' := ?_) #[false, true, true, false, false, false] rfl rfl (by kernel_rfl) (fun _ _ _ h => h) (Or.inl ⟨by rfl, ?_⟩) ?_ ?_
                      rotate_left
                      · intro w'
                        go_simp
                        with_reducible rfl
                      rotate_left
                      · simp only [Act.put, List.setIfInBounds_toArray, List.set_cons_zero, List.set_cons_succ, i64_w, i32_w]
                        rfl
                      refine take_ (i := 0) (N := some 98) (v := ?_) (a' := ?_) #[true, true, true, false, false, false] rfl rfl (by kernel_rfl) (fun _ _ _ h => h) (Or.inl ⟨by rfl, ?_⟩) hHeld ?_ ?_
                      rotate_left
                      · rintro w' ⟨s0, s1, s2⟩
                        go_simp
                        with_reducible rfl
                      rotate_left
                      · simp only [Act.put, List.setIfInBounds_toArray, List.set_cons_zero, List.set_cons_succ, i64_w, i32_w]
                        rfl
                      refine one_ (i := 3) (N := none) #[true, true, true, true, false, false] rfl rfl (by kernel_rfl) (by decide) (fun K hK => ?_)
                      have hs83 : w82.cell? ⟨gb101, 0, none⟩ = some (.bool x102000_3) := (blk_cell BK101.out 0).trans rfl
                      have hfs83 := blk_frozen BK101.out 0
                      have hns83_1 := NB102_101.out
                      have hms83_1 := NB101_102.out
                      have hs84 : w82.cell? ⟨gb101, 1, none⟩ = some (.bool x102001_3) := (blk_cell BK101.out 1).trans rfl
                      have hfs84 := blk_frozen BK101.out 1
                      have hns84_1 := NB102_101.out
                      have hms84_1 := NB101_102.out
                      have hs86 : w82.cell? ⟨gb101, 2, none⟩ = some (.slice none 0 0) := (blk_cell BK101.out 2).trans rfl
                      have hfs86 := blk_frozen BK101.out 2
                      have hns86_1 := NB102_101.out
                      have hms86_1 := NB101_102.out
                      refine skip_ (w1 := ?_) (by rfl) rfl ?_ ?_
                      rotate_left
                      · go_simp
                        rfl
                      refine hK.out _ _ ⟨((cell_far (p := ⟨gb101, _, none⟩) NB102_101.out _).trans (((cell_far (p := ⟨gb101, _, none⟩) NB102_101.out _).trans (((cell_far (p := ⟨gb101, _, none⟩) NB102_101.out _).trans (hHeld.1)))))), ((cell_far (p := ⟨gb101, _, none⟩) NB102_101.out _).trans (((cell_far (p := ⟨gb101, _, none⟩) NB102_101.out _).trans (((cell_far (p := ⟨gb101, _, none⟩) NB102_101.out _).trans (hHeld.2.1)))))), ((cell_far (p := ⟨gb101, _, none⟩) NB102_101.out _).trans (((cell_far (p := ⟨gb101, _, none⟩) NB102_101.out _).trans (((cell_far (p := ⟨gb101, _, none⟩) NB102_101.out _).trans (hHeld.2.2))))))⟩ (fun hHeld => ?_)
                      clear hK K
                      refine pure_ (i := 4) (N := some 3) (v := ?_) (a' := ?_) #[true, true, true, true, true, false] rfl rfl (by kernel_rfl) (fun _ _ _ h => h) (Or.inl ⟨by rfl, ?_⟩) ?_ ?_
                      rotate_left
                      · intro w'
                        go_simp
                        with_reducible rfl
                      rotate_left
                      · simp only [Act.put, List.setIfInBounds_toArray, List.set_cons_zero, List.set_cons_succ, i64_w, i32_w]
                        rfl
                      refine pure_ (i := 5) (N := some 4) (v := ?_) (a' := ?_) #[true, true, true, true, true, true] rfl rfl (by kernel_rfl) (fun _ _ _ h => h) (Or.inl ⟨by rfl, ?_⟩) ?_ ?_
                      rotate_left
                      · intro w'
                        go_simp
                        with_reducible rfl
                      rotate_left
                      · simp only [Act.put, List.setIfInBounds_toArray, List.set_cons_zero, List.set_cons_succ, i64_w, i32_w]
                        rfl
                      refine done_ (by kernel_rfl) ?_
                      repeat (first | go_values | go_skip | go_guarded | go_step | go_upon | go_in | (simp only [Int.not_lt, Int.not_le] at *; go_simp))
                      refine bodyPost_ret (results_ctt rfl _ _ gb101 38 #[.bool false, .bool x103001_7, .slice Ao85 x103002_3.length co85] (0, 0) _ rfl (by (with_reducible repeat (first | refine blk_drewN ?_ _ | refine blk_drew ?_ | refine blk_alloc ?_ _)); refine blk_put (cs := #[.bool false, .bool x103001_7, .slice none 0 0]) ?_ 2 _ rfl; (with_reducible repeat (first | refine blk_drewN ?_ _ | refine blk_drew ?_ | refine blk_alloc ?_ _)); refine blk_put (cs := #[.bool false, .bool x102001_3, .slice none 0 0]) ?_ 1 _ rfl; (with_reducible repeat (first | refine blk_drewN ?_ _ | refine blk_drew ?_ | refine blk_alloc ?_ _)); refine blk_put (cs := #[.bool x102000_3, .bool x102001_3, .slice none 0 0]) ?_ 0 _ rfl; (with_reducible repeat (first | refine blk_drewN ?_ _ | refine blk_drew ?_ | refine blk_alloc ?_ _)); exact BK101.out) Try.underlying38 rfl (by kernel_rfl)) rfl ?_
                      exact ⟨_, by first | rfl | (simp [errW_none, errW_some] <;> rfl) | (simp [*, errW_none, errW_some] <;> rfl), by (with_reducible repeat (first | apply Kd.R_alloc | apply Kd.R_drewN | apply Kd.R_drew)); exact Kd.R_mono (Kd.R_far (p := ⟨gb101, 2, none⟩) (Kd.R_far (p := ⟨gb101, 1, none⟩) (Kd.R_far (p := ⟨gb101, 0, none⟩) (Kd.R_types HO_103002.out BK101.out (by decide)) (fun _ hk => hk.2) (.bool false)) (fun _ hk => hk.2) (.bool x103001_7)) (fun _ hk => hk.2) (.slice Ao85 x103002_3.length co85)) (fun _ hk => trivial), by repeat (first | (with_reducible first | exact HB.out | apply below_alloc | apply pw_below_drewN | apply below_drew1 | refine below_set ?_ GE101.out | refine below_set ?_ GE102.out) | exact HB.out)⟩
                    · rw [if_neg c81] at H
                      exact absurd H (by simp)

end Go.Proofs.Ytdcbmpjofacbhaa.PAll
