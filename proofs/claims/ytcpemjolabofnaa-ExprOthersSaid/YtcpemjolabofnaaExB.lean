/- The parser's blanks and takes: printed. -/
import Derived.Test.YtcpemjolabofnaaExA
namespace Go.Proofs.Ytcpemjolabofnaa.PAll
open Go Go.RowKit Go.Proofs.YtcpemjolabofnaaW.PrintWords Go.Proofs.YtcpemjolabofnaaW.PrintLast Go.Proofs.YtcpemjolabofnaaW.PrintMore Go.Proofs.YtcpemjolabofnaaMy Go.Proofs.Ytcpemjolabofnaa
attribute [local go_sem] max2_int min2_int max_two min_two max_three min_three max_four min_four
set_option linter.unusedVariables false
set_option linter.unusedSimpArgs false
/-! ### expr_parser_blanks: function 20 -/
def expr_parser_blanks.l0 : Nat → ByteArray → Int → List ByteArray → Int → Option (ByteArray × Int × List ByteArray × Int)
  | 0, _, _, _, _ => none
  | k + 1, x1000, x1001, x1002, x1003 => if x1001 < (x1000.size : Int) then (if 0 ≤ x1001 then (if (bt x1000 x1001) = 32 then (expr_parser_blanks.l0 k x1000 (wrap64 (x1001 + 1)) x1002 x1003) else (if (bt x1000 x1001) = 9 then (expr_parser_blanks.l0 k x1000 (wrap64 (x1001 + 1)) x1002 x1003) else (some (x1000, x1001, x1002, x1003)))) else (none)) else (some (x1000, x1001, x1002, x1003))
def expr_parser_blanks.f (k : Nat) (s0_0 : ByteArray) (s0_1 : Int) (s0_2 : List ByteArray) (s0_3 : Int) : Option (ByteArray × Int × List ByteArray × Int) := expr_parser_blanks.l0 k s0_0 s0_1 s0_2 s0_3
theorem expr_parser_blanks.mono_l : ∀ k, (∀ y0 y1 y2 y3, LeO (expr_parser_blanks.l0 k y0 y1 y2 y3) (expr_parser_blanks.l0 (k + 1) y0 y1 y2 y3))
  | 0 => fun _ _ _ _ r h => by simp [expr_parser_blanks.l0] at h
  | k + 1 => by
    have ih0 := expr_parser_blanks.mono_l k
    · intro y0 y1 y2 y3
      unfold expr_parser_blanks.l0
      repeat' first
      | (with_reducible exact ih0 _ _ _ _)
      | (with_reducible exact LeO.refl _)
      | (with_reducible exact LeO.none _)
      | (with_reducible refine LeO.ite ?_ ?_)
      | (with_reducible refine LeO.bind ?_ (fun _ => ?_))
      | exact ih0 _ _ _ _
      | exact LeO.none _
      | refine LeO.ite ?_ ?_
      | refine LeO.bind ?_ (fun _ => ?_)
theorem expr_parser_blanks.mono : ∀ a0 a1 a2 a3 k, LeO (expr_parser_blanks.f k a0 a1 a2 a3) (expr_parser_blanks.f (k + 1) a0 a1 a2 a3) := by
  intro a0 a1 a2 a3 k
  have ih0 := expr_parser_blanks.mono_l k
  unfold expr_parser_blanks.f
  repeat' first
      | (with_reducible exact ih0 _ _ _ _)
      | (with_reducible exact LeO.refl _)
      | (with_reducible exact LeO.none _)
      | (with_reducible refine LeO.ite ?_ ?_)
      | (with_reducible refine LeO.bind ?_ (fun _ => ?_))
      | exact ih0 _ _ _ _
      | exact LeO.none _
      | refine LeO.ite ?_ ?_
      | refine LeO.bind ?_ (fun _ => ?_)
set_option maxHeartbeats 8000000 in
set_option maxRecDepth 100000 in
theorem expr_parser_blanks.calls (k : Nat) (g : Nat) (s0_0 : ByteArray) (s0_1 : Int) (s0_2 : List ByteArray) (s0_3 : Int) (r1 : ByteArray) (r2 : Int) (r3 : List ByteArray) (r4 : Int) (w0 w : World) (hI : IsS42 w0 w g s0_0 s0_1 s0_2 s0_3) (hB : Below w0.heap.size w0 w) (h : expr_parser_blanks.f k s0_0 s0_1 s0_2 s0_3 = some (r1, r2, r3, r4)) :
    Calls Try.prog 20 #[.pointer (some ⟨g, 0, none⟩)] w fun e w' => e = .returned (.tuple #[]) ∧ IsS42 w0 w' g r1 r2 r3 r4 ∧ Below w0.heap.size w0 w' ∧ Kq w w' g none := by
  have HI0 := Aside0.mk hI
  have HK := Aside0.mk (Kq.refl w g none)
  have HL := Aside0.mk hB.size
  clear hI
  have HW0 := Aside0.mk hB.size
  have HB := Aside0.mk hB
  clear hB
  have H : (expr_parser_blanks.l0 k s0_0 s0_1 s0_2 s0_3) = some (r1, r2, r3, r4) := h
  clear h
  have H' := Aside0.mk H
  clear H
  go_enter Try.func20, Try.ntmps20
  go_wp2
  repeat (go_quiet (fail); try go_wp2)
  go_loopg [] k (fun kq w' => ∃ (x1001_1 : Int), Aside0 (expr_parser_blanks.l0 kq s0_0 x1001_1 s0_2 s0_3 = some (r1, r2, r3, r4)) ∧ Aside0 (kq ≤ k) ∧ Aside0 (IsS42 w0 w' g s0_0 x1001_1 s0_2 s0_3) ∧ Aside0 (Kq w w' g none) ∧ Aside0 (Below w0.heap.size w0 w'))
  case atStart => exact ⟨(s0_1), H', ⟨Nat.le_refl _⟩, ⟨by repeat (first | (with_reducible first | exact HI0.out | apply IsS42.alloc | apply IsS42.drewN | apply IsS42.drew | apply IsS42.set_0 | apply IsS42.set_1 | apply IsS42.set_2 | apply IsS42.set_3) | exact HI0.out)⟩, ⟨by repeat (first | (with_reducible first | exact HK.out | apply Kq.set_ | apply kq_drewN | apply kq_drew | apply kq_alloc) | exact HK.out)⟩, ⟨by repeat (first | (with_reducible first | exact HB.out | apply below_alloc | apply pw_below_drewN | apply below_drew1 | refine below_set ?_ (IsS42.ge HI0.out)) | exact HB.out)⟩⟩
  case round =>
    clear H'
    obtain ⟨x1001_1, HA, HK1, HI0, HK, HB⟩ := hrel
    cases gk with
    | zero => exact absurd HA.out (by simp [expr_parser_blanks.l0])
    | succ k1 =>
      have H := HA.out
      clear HA
      simp only [expr_parser_blanks.l0] at H
      by_cases c2 : x1001_1 < (s0_0.size : Int)
      · rw [if_pos c2] at H
        have c2b0 : decide (x1001_1 < (s0_0.size : Int)) = true := decide_eq_true c2
        clear c2
        by_cases c3 : 0 ≤ x1001_1
        · rw [if_pos c3] at H
          have c3b0 : decide (0 ≤ x1001_1) = true := decide_eq_true c3
          clear c3
          by_cases c5 : (bt s0_0 x1001_1) = 32
          · rw [if_pos c5] at H
            have c5b0 : ((bt s0_0 x1001_1) == 32) = true := beq_iff_eq.mpr c5
            have c5b1 : ((bt s0_0 x1001_1) != 32) = false := bne_eq_false_iff_eq.mpr c5
            clear c5
            have H' := Aside0.mk H
            clear H
            obtain ⟨ovz6, HGz6, hgz6, hRz6⟩ := HI0.out
            have hcz6_0 := cellS42_0 HGz6
            have hcz6_1 := cellS42_1 HGz6
            have hcz6_2 := cellS42_2 HGz6
            have hcz6_3 := cellS42_3 HGz6
            have hfz6_0 := blk_frozen HGz6 0
            have hfz6_1 := blk_frozen HGz6 1
            have hfz6_2 := blk_frozen HGz6 2
            have hfz6_3 := blk_frozen HGz6 3
            clear HGz6 hgz6
            have p4 : 0 ≤ (x1001_1 : Int) := of_decide_eq_true (by first | (with_reducible assumption) | assumption)
            have q4 : x1001_1 < (s0_0.size : Int) := of_decide_eq_true (by first | (with_reducible assumption) | assumption)
            have hx4 := bt_at s0_0 x1001_1
            replace p4 := eq_true p4
            replace q4 := eq_true q4
            go_wp2
            repeat (go_quiet (fail); try go_wp2)
            go_roundg k1
            case measure => have := HK1.out; omega
            case rel => exact ⟨(wrap64 (x1001_1 + 1)), H', ⟨by have := HK1.out; omega⟩, ⟨by repeat (first | (with_reducible first | exact HI0.out | apply IsS42.alloc | apply IsS42.drewN | apply IsS42.drew | apply IsS42.set_0 | apply IsS42.set_1 | apply IsS42.set_2 | apply IsS42.set_3) | exact HI0.out)⟩, ⟨by repeat (first | (with_reducible first | exact HK.out | apply Kq.set_ | apply kq_drewN | apply kq_drew | apply kq_alloc) | exact HK.out)⟩, ⟨by repeat (first | (with_reducible first | exact HB.out | apply below_alloc | apply pw_below_drewN | apply below_drew1 | refine below_set ?_ (IsS42.ge HI0.out)) | exact HB.out)⟩⟩
          · rw [if_neg c5] at H
            have c5b0 : ((bt s0_0 x1001_1) == 32) = false := beq_eq_false_iff_ne.mpr c5
            have c5b1 : ((bt s0_0 x1001_1) != 32) = true := bne_iff_ne.mpr c5
            by_cases c8 : (bt s0_0 x1001_1) = 9
            · rw [if_pos c8] at H
              have c8b0 : ((bt s0_0 x1001_1) == 9) = true := beq_iff_eq.mpr c8
              have c8b1 : ((bt s0_0 x1001_1) != 9) = false := bne_eq_false_iff_eq.mpr c8
              clear c8
              have H' := Aside0.mk H
              clear H
              obtain ⟨ovz9, HGz9, hgz9, hRz9⟩ := HI0.out
              have hcz9_0 := cellS42_0 HGz9
              have hcz9_1 := cellS42_1 HGz9
              have hcz9_2 := cellS42_2 HGz9
              have hcz9_3 := cellS42_3 HGz9
              have hfz9_0 := blk_frozen HGz9 0
              have hfz9_1 := blk_frozen HGz9 1
              have hfz9_2 := blk_frozen HGz9 2
              have hfz9_3 := blk_frozen HGz9 3
              clear HGz9 hgz9
              have p4 : 0 ≤ (x1001_1 : Int) := of_decide_eq_true (by first | (with_reducible assumption) | assumption)
              have q4 : x1001_1 < (s0_0.size : Int) := of_decide_eq_true (by first | (with_reducible assumption) | assumption)
              have hx4 := bt_at s0_0 x1001_1
              replace p4 := eq_true p4
              replace q4 := eq_true q4
              have p7 : 0 ≤ (x1001_1 : Int) := of_decide_eq_true (by first | (with_reducible assumption) | assumption)
              have q7 : x1001_1 < (s0_0.size : Int) := of_decide_eq_true (by first | (with_reducible assumption) | assumption)
              have hx7 := bt_at s0_0 x1001_1
              replace p7 := eq_true p7
              replace q7 := eq_true q7
              go_wp2
              repeat (go_quiet (fail); try go_wp2)
              go_roundg k1
              case measure => have := HK1.out; omega
              case rel => exact ⟨(wrap64 (x1001_1 + 1)), H', ⟨by have := HK1.out; omega⟩, ⟨by repeat (first | (with_reducible first | exact HI0.out | apply IsS42.alloc | apply IsS42.drewN | apply IsS42.drew | apply IsS42.set_0 | apply IsS42.set_1 | apply IsS42.set_2 | apply IsS42.set_3) | exact HI0.out)⟩, ⟨by repeat (first | (with_reducible first | exact HK.out | apply Kq.set_ | apply kq_drewN | apply kq_drew | apply kq_alloc) | exact HK.out)⟩, ⟨by repeat (first | (with_reducible first | exact HB.out | apply below_alloc | apply pw_below_drewN | apply below_drew1 | refine below_set ?_ (IsS42.ge HI0.out)) | exact HB.out)⟩⟩
            · rw [if_neg c8] at H
              have c8b0 : ((bt s0_0 x1001_1) == 9) = false := beq_eq_false_iff_ne.mpr c8
              have c8b1 : ((bt s0_0 x1001_1) != 9) = true := bne_iff_ne.mpr c8
              simp only [Option.some.injEq, Prod.mk.injEq] at H
              obtain ⟨rfl, rfl, rfl, rfl⟩ := H
              obtain ⟨ovz10, HGz10, hgz10, hRz10⟩ := HI0.out
              have hcz10_0 := cellS42_0 HGz10
              have hcz10_1 := cellS42_1 HGz10
              have hcz10_2 := cellS42_2 HGz10
              have hcz10_3 := cellS42_3 HGz10
              have hfz10_0 := blk_frozen HGz10 0
              have hfz10_1 := blk_frozen HGz10 1
              have hfz10_2 := blk_frozen HGz10 2
              have hfz10_3 := blk_frozen HGz10 3
              clear HGz10 hgz10
              have p4 : 0 ≤ (x1001_1 : Int) := of_decide_eq_true (by first | (with_reducible assumption) | assumption)
              have q4 : x1001_1 < (s0_0.size : Int) := of_decide_eq_true (by first | (with_reducible assumption) | assumption)
              have hx4 := bt_at s0_0 x1001_1
              replace p4 := eq_true p4
              replace q4 := eq_true q4
              have p7 : 0 ≤ (x1001_1 : Int) := of_decide_eq_true (by first | (with_reducible assumption) | assumption)
              have q7 : x1001_1 < (s0_0.size : Int) := of_decide_eq_true (by first | (with_reducible assumption) | assumption)
              have hx7 := bt_at s0_0 x1001_1
              replace p7 := eq_true p7
              replace q7 := eq_true q7
              go_wp2
              repeat (go_quiet (fail); try go_wp2)
              first | go_end0 | ((try simp only [Exit.inBlock, Exit.then]); refine bodyPost_ret (results_none rfl _ _ _) rfl ?_)
              exact ⟨by first | rfl | (simp [errW_none, errW_some] <;> rfl) | (simp [*, errW_none, errW_some] <;> rfl), by repeat (first | (with_reducible first | exact HI0.out | apply IsS42.alloc | apply IsS42.drewN | apply IsS42.drew | apply IsS42.set_0 | apply IsS42.set_1 | apply IsS42.set_2 | apply IsS42.set_3) | exact HI0.out), by repeat (first | (with_reducible first | exact HB.out | apply below_alloc | apply pw_below_drewN | apply below_drew1 | refine below_set ?_ (IsS42.ge HI0.out)) | exact HB.out), by repeat (first | (with_reducible first | exact HK.out | apply Kq.set_ | apply kq_drewN | apply kq_drew | apply kq_alloc) | exact HK.out)⟩
        · rw [if_neg c3] at H
          exact absurd H (by simp)
      · rw [if_neg c2] at H
        have c2b0 : decide (x1001_1 < (s0_0.size : Int)) = false := decide_eq_false c2
        clear c2
        simp only [Option.some.injEq, Prod.mk.injEq] at H
        obtain ⟨rfl, rfl, rfl, rfl⟩ := H
        obtain ⟨ovz11, HGz11, hgz11, hRz11⟩ := HI0.out
        have hcz11_0 := cellS42_0 HGz11
        have hcz11_1 := cellS42_1 HGz11
        have hcz11_2 := cellS42_2 HGz11
        have hcz11_3 := cellS42_3 HGz11
        have hfz11_0 := blk_frozen HGz11 0
        have hfz11_1 := blk_frozen HGz11 1
        have hfz11_2 := blk_frozen HGz11 2
        have hfz11_3 := blk_frozen HGz11 3
        clear HGz11 hgz11
        go_wp2
        repeat (go_quiet (fail); try go_wp2)
        first | go_end0 | ((try simp only [Exit.inBlock, Exit.then]); refine bodyPost_ret (results_none rfl _ _ _) rfl ?_)
        exact ⟨by first | rfl | (simp [errW_none, errW_some] <;> rfl) | (simp [*, errW_none, errW_some] <;> rfl), by repeat (first | (with_reducible first | exact HI0.out | apply IsS42.alloc | apply IsS42.drewN | apply IsS42.drew | apply IsS42.set_0 | apply IsS42.set_1 | apply IsS42.set_2 | apply IsS42.set_3) | exact HI0.out), by repeat (first | (with_reducible first | exact HB.out | apply below_alloc | apply pw_below_drewN | apply below_drew1 | refine below_set ?_ (IsS42.ge HI0.out)) | exact HB.out), by repeat (first | (with_reducible first | exact HK.out | apply Kq.set_ | apply kq_drewN | apply kq_drew | apply kq_alloc) | exact HK.out)⟩

/-! ### expr_parser_takes: function 34 -/
def expr_parser_takes.f (k : Nat) (s0_0 : ByteArray) (s0_1 : Int) (s0_2 : List ByteArray) (s0_3 : Int) (a1 : ByteArray) : Option (Bool × ByteArray × Int × List ByteArray × Int) := (expr_parser_blanks.f k s0_0 s0_1 s0_2 s0_3).bind fun bt101 => (if (wrap64 ((bt101.1.size : Int) - bt101.2.1)) < (a1.size : Int) then (some (false, bt101.1, bt101.2.1, bt101.2.2.1, bt101.2.2.2)) else (if 0 ≤ bt101.2.1 then (if bt101.2.1 ≤ (wrap64 (bt101.2.1 + (a1.size : Int))) then (if (wrap64 (bt101.2.1 + (a1.size : Int))) ≤ (bt101.1.size : Int) then (if (bt101.1.extract (bt101.2.1 : Int).toNat ((wrap64 (bt101.2.1 + (a1.size : Int))) : Int).toNat).toList = a1.toList then (some (true, bt101.1, wrap64 (bt101.2.1 + (a1.size : Int)), bt101.2.2.1, bt101.2.2.2)) else (some (false, bt101.1, bt101.2.1, bt101.2.2.1, bt101.2.2.2))) else (none)) else (none)) else (none)))
theorem expr_parser_takes.mono : ∀ a0 a1 a2 a3 a4 k, LeO (expr_parser_takes.f k a0 a1 a2 a3 a4) (expr_parser_takes.f (k + 1) a0 a1 a2 a3 a4) := by
  intro a0 a1 a2 a3 a4 k
  unfold expr_parser_takes.f
  repeat' first
      | (with_reducible exact expr_parser_blanks.mono _ _ _ _ _)
      | (with_reducible exact LeO.refl _)
      | (with_reducible exact LeO.none _)
      | (with_reducible refine LeO.ite ?_ ?_)
      | (with_reducible refine LeO.bind ?_ (fun _ => ?_))
      | exact expr_parser_blanks.mono _ _ _ _ _
      | exact LeO.none _
      | refine LeO.ite ?_ ?_
      | refine LeO.bind ?_ (fun _ => ?_)
set_option maxHeartbeats 8000000 in
set_option maxRecDepth 100000 in
theorem expr_parser_takes.calls (k : Nat) (g : Nat) (s0_0 : ByteArray) (s0_1 : Int) (s0_2 : List ByteArray) (s0_3 : Int) (a1 : ByteArray) (r1 : Bool) (r2 : ByteArray) (r3 : Int) (r4 : List ByteArray) (r5 : Int) (w0 w : World) (hI : IsS42 w0 w g s0_0 s0_1 s0_2 s0_3) (hB : Below w0.heap.size w0 w) (h : expr_parser_takes.f k s0_0 s0_1 s0_2 s0_3 a1 = some (r1, r2, r3, r4, r5)) :
    Calls Try.prog 34 #[.pointer (some ⟨g, 0, none⟩), .string a1] w fun e w' => e = .returned (.bool r1) ∧ IsS42 w0 w' g r2 r3 r4 r5 ∧ Below w0.heap.size w0 w' ∧ Kq w w' g none := by
  have HI0 := Aside0.mk hI
  have HK := Aside0.mk (Kq.refl w g none)
  have HL := Aside0.mk hB.size
  clear hI
  have HW0 := Aside0.mk hB.size
  have HB := Aside0.mk hB
  clear hB
  have H : ((expr_parser_blanks.f k s0_0 s0_1 s0_2 s0_3).bind fun bt101 => (if (wrap64 ((bt101.1.size : Int) - bt101.2.1)) < (a1.size : Int) then (some (false, bt101.1, bt101.2.1, bt101.2.2.1, bt101.2.2.2)) else (if 0 ≤ bt101.2.1 then (if bt101.2.1 ≤ (wrap64 (bt101.2.1 + (a1.size : Int))) then (if (wrap64 (bt101.2.1 + (a1.size : Int))) ≤ (bt101.1.size : Int) then (if (bt101.1.extract (bt101.2.1 : Int).toNat ((wrap64 (bt101.2.1 + (a1.size : Int))) : Int).toNat).toList = a1.toList then (some (true, bt101.1, wrap64 (bt101.2.1 + (a1.size : Int)), bt101.2.2.1, bt101.2.2.2)) else (some (false, bt101.1, bt101.2.1, bt101.2.2.1, bt101.2.2.2))) else (none)) else (none)) else (none)))) = some (r1, r2, r3, r4, r5) := h
  clear h
  replace H := Option.bind_eq_some_iff.mp H
  obtain ⟨⟨t101, t102, t103, t104⟩, A30, H⟩ := H
  replace H : (if (wrap64 ((t101.size : Int) - t102)) < (a1.size : Int) then (some (false, t101, t102, t103, t104)) else (if 0 ≤ t102 then (if t102 ≤ (wrap64 (t102 + (a1.size : Int))) then (if (wrap64 (t102 + (a1.size : Int))) ≤ (t101.size : Int) then (if (t101.extract (t102 : Int).toNat ((wrap64 (t102 + (a1.size : Int))) : Int).toNat).toList = a1.toList then (some (true, t101, wrap64 (t102 + (a1.size : Int)), t103, t104)) else (some (false, t101, t102, t103, t104))) else (none)) else (none)) else (none))) = some (r1, r2, r3, r4, r5) := H
  have A3 := Aside0.mk A30
  clear A30
  by_cases c4 : (wrap64 ((t101.size : Int) - t102)) < (a1.size : Int)
  · rw [if_pos c4] at H
    have c4b0 : decide ((wrap64 ((t101.size : Int) - t102)) < (a1.size : Int)) = true := decide_eq_true c4
    clear c4
    simp only [Option.some.injEq, Prod.mk.injEq] at H
    obtain ⟨rfl, rfl, rfl, rfl, rfl⟩ := H
    go_enter Try.func34, Try.ntmps34
    go_wp2_with (first | (go_at_call 20; (with_reducible refine (expr_parser_blanks.calls k g s0_0 s0_1 s0_2 s0_3 t101 t102 t103 t104 w0 _ ?side1 ?side2 A3.out).mono ?_); (case side1 => repeat (first | (with_reducible first | exact HI0.out | apply IsS42.alloc | apply IsS42.drewN | apply IsS42.drew | apply IsS42.set_0 | apply IsS42.set_1 | apply IsS42.set_2 | apply IsS42.set_3) | exact HI0.out)); (case side2 => repeat (first | (with_reducible first | exact HB.out | apply below_alloc | apply pw_below_drewN | apply below_drew1 | refine below_set ?_ (IsS42.ge HI0.out)) | exact HB.out)); rintro e w5 ⟨rfl, hi, hb, hk⟩; have n0_ := Aside0.mk (Kq.trans (by repeat (first | (with_reducible first | exact HK.out | apply Kq.set_ | apply kq_drewN | apply kq_drew | apply kq_alloc) | exact HK.out)) hk (.inl rfl)); have n1_ := Aside0.mk (hb); have n2_ := Aside0.mk (hi); clear HK; clear HB; clear HI0; have HK := n0_; have HB := n1_; have HI0 := n2_; clear n0_ n1_ n2_; (try clear hb); (try clear hb2); (try clear hk); (try clear hi); obtain ⟨ovz6, HGz6, hgz6, hRz6⟩ := HI0.out; have hcz6_0 := cellS42_0 HGz6; have hcz6_1 := cellS42_1 HGz6; have hcz6_2 := cellS42_2 HGz6; have hcz6_3 := cellS42_3 HGz6; have hfz6_0 := blk_frozen HGz6 0; have hfz6_1 := blk_frozen HGz6 1; have hfz6_2 := blk_frozen HGz6 2; have hfz6_3 := blk_frozen HGz6 3; clear HGz6 hgz6))
    repeat (go_quiet (first | (go_at_call 20; (with_reducible refine (expr_parser_blanks.calls k g s0_0 s0_1 s0_2 s0_3 t101 t102 t103 t104 w0 _ ?side1 ?side2 A3.out).mono ?_); (case side1 => repeat (first | (with_reducible first | exact HI0.out | apply IsS42.alloc | apply IsS42.drewN | apply IsS42.drew | apply IsS42.set_0 | apply IsS42.set_1 | apply IsS42.set_2 | apply IsS42.set_3) | exact HI0.out)); (case side2 => repeat (first | (with_reducible first | exact HB.out | apply below_alloc | apply pw_below_drewN | apply below_drew1 | refine below_set ?_ (IsS42.ge HI0.out)) | exact HB.out)); rintro e w5 ⟨rfl, hi, hb, hk⟩; have n0_ := Aside0.mk (Kq.trans (by repeat (first | (with_reducible first | exact HK.out | apply Kq.set_ | apply kq_drewN | apply kq_drew | apply kq_alloc) | exact HK.out)) hk (.inl rfl)); have n1_ := Aside0.mk (hb); have n2_ := Aside0.mk (hi); clear HK; clear HB; clear HI0; have HK := n0_; have HB := n1_; have HI0 := n2_; clear n0_ n1_ n2_; (try clear hb); (try clear hb2); (try clear hk); (try clear hi); obtain ⟨ovz6, HGz6, hgz6, hRz6⟩ := HI0.out; have hcz6_0 := cellS42_0 HGz6; have hcz6_1 := cellS42_1 HGz6; have hcz6_2 := cellS42_2 HGz6; have hcz6_3 := cellS42_3 HGz6; have hfz6_0 := blk_frozen HGz6 0; have hfz6_1 := blk_frozen HGz6 1; have hfz6_2 := blk_frozen HGz6 2; have hfz6_3 := blk_frozen HGz6 3; clear HGz6 hgz6)); try go_wp2_with (first | (go_at_call 20; (with_reducible refine (expr_parser_blanks.calls k g s0_0 s0_1 s0_2 s0_3 t101 t102 t103 t104 w0 _ ?side1 ?side2 A3.out).mono ?_); (case side1 => repeat (first | (with_reducible first | exact HI0.out | apply IsS42.alloc | apply IsS42.drewN | apply IsS42.drew | apply IsS42.set_0 | apply IsS42.set_1 | apply IsS42.set_2 | apply IsS42.set_3) | exact HI0.out)); (case side2 => repeat (first | (with_reducible first | exact HB.out | apply below_alloc | apply pw_below_drewN | apply below_drew1 | refine below_set ?_ (IsS42.ge HI0.out)) | exact HB.out)); rintro e w5 ⟨rfl, hi, hb, hk⟩; have n0_ := Aside0.mk (Kq.trans (by repeat (first | (with_reducible first | exact HK.out | apply Kq.set_ | apply kq_drewN | apply kq_drew | apply kq_alloc) | exact HK.out)) hk (.inl rfl)); have n1_ := Aside0.mk (hb); have n2_ := Aside0.mk (hi); clear HK; clear HB; clear HI0; have HK := n0_; have HB := n1_; have HI0 := n2_; clear n0_ n1_ n2_; (try clear hb); (try clear hb2); (try clear hk); (try clear hi); obtain ⟨ovz6, HGz6, hgz6, hRz6⟩ := HI0.out; have hcz6_0 := cellS42_0 HGz6; have hcz6_1 := cellS42_1 HGz6; have hcz6_2 := cellS42_2 HGz6; have hcz6_3 := cellS42_3 HGz6; have hfz6_0 := blk_frozen HGz6 0; have hfz6_1 := blk_frozen HGz6 1; have hfz6_2 := blk_frozen HGz6 2; have hfz6_3 := blk_frozen HGz6 3; clear HGz6 hgz6)))
    go_ret
    exact ⟨by first | rfl | (simp [errW_none, errW_some] <;> rfl) | (simp [*, errW_none, errW_some] <;> rfl), by repeat (first | (with_reducible first | exact HI0.out | apply IsS42.alloc | apply IsS42.drewN | apply IsS42.drew | apply IsS42.set_0 | apply IsS42.set_1 | apply IsS42.set_2 | apply IsS42.set_3) | exact HI0.out), by repeat (first | (with_reducible first | exact HB.out | apply below_alloc | apply pw_below_drewN | apply below_drew1 | refine below_set ?_ (IsS42.ge HI0.out)) | exact HB.out), by repeat (first | (with_reducible first | exact HK.out | apply Kq.set_ | apply kq_drewN | apply kq_drew | apply kq_alloc) | exact HK.out)⟩
  · rw [if_neg c4] at H
    have c4b0 : decide ((wrap64 ((t101.size : Int) - t102)) < (a1.size : Int)) = false := decide_eq_false c4
    clear c4
    by_cases c7 : 0 ≤ t102
    · rw [if_pos c7] at H
      have c7b0 := eq_true c7
      have c7b1 : decide (0 ≤ t102) = true := decide_eq_true c7
      clear c7
      by_cases c8 : t102 ≤ (wrap64 (t102 + (a1.size : Int)))
      · rw [if_pos c8] at H
        have c8b0 := eq_true c8
        have c8b1 : decide (t102 ≤ (wrap64 (t102 + (a1.size : Int)))) = true := decide_eq_true c8
        by_cases c9 : (wrap64 (t102 + (a1.size : Int))) ≤ (t101.size : Int)
        · rw [if_pos c9] at H
          have c9b0 := eq_true c9
          have c9b1 : decide ((wrap64 (t102 + (a1.size : Int))) ≤ (t101.size : Int)) = true := decide_eq_true c9
          by_cases c10 : (t101.extract (t102 : Int).toNat ((wrap64 (t102 + (a1.size : Int))) : Int).toNat).toList = a1.toList
          · rw [if_pos c10] at H
            have c10b0 : ((t101.extract (t102 : Int).toNat ((wrap64 (t102 + (a1.size : Int))) : Int).toNat).toList == a1.toList) = true := beq_iff_eq.mpr c10
            have c10b1 : ((t101.extract (t102 : Int).toNat ((wrap64 (t102 + (a1.size : Int))) : Int).toNat).toList != a1.toList) = false := bne_eq_false_iff_eq.mpr c10
            clear c10
            simp only [Option.some.injEq, Prod.mk.injEq] at H
            obtain ⟨rfl, rfl, rfl, rfl, rfl⟩ := H
            go_enter Try.func34, Try.ntmps34
            go_wp2_with (first | (go_at_call 20; (with_reducible refine (expr_parser_blanks.calls k g s0_0 s0_1 s0_2 s0_3 t101 t102 t103 t104 w0 _ ?side1 ?side2 A3.out).mono ?_); (case side1 => repeat (first | (with_reducible first | exact HI0.out | apply IsS42.alloc | apply IsS42.drewN | apply IsS42.drew | apply IsS42.set_0 | apply IsS42.set_1 | apply IsS42.set_2 | apply IsS42.set_3) | exact HI0.out)); (case side2 => repeat (first | (with_reducible first | exact HB.out | apply below_alloc | apply pw_below_drewN | apply below_drew1 | refine below_set ?_ (IsS42.ge HI0.out)) | exact HB.out)); rintro e w11 ⟨rfl, hi, hb, hk⟩; have n0_ := Aside0.mk (Kq.trans (by repeat (first | (with_reducible first | exact HK.out | apply Kq.set_ | apply kq_drewN | apply kq_drew | apply kq_alloc) | exact HK.out)) hk (.inl rfl)); have n1_ := Aside0.mk (hb); have n2_ := Aside0.mk (hi); clear HK; clear HB; clear HI0; have HK := n0_; have HB := n1_; have HI0 := n2_; clear n0_ n1_ n2_; (try clear hb); (try clear hb2); (try clear hk); (try clear hi); obtain ⟨ovz12, HGz12, hgz12, hRz12⟩ := HI0.out; have hcz12_0 := cellS42_0 HGz12; have hcz12_1 := cellS42_1 HGz12; have hcz12_2 := cellS42_2 HGz12; have hcz12_3 := cellS42_3 HGz12; have hfz12_0 := blk_frozen HGz12 0; have hfz12_1 := blk_frozen HGz12 1; have hfz12_2 := blk_frozen HGz12 2; have hfz12_3 := blk_frozen HGz12 3; clear HGz12 hgz12))
            repeat (go_quiet (first | (go_at_call 20; (with_reducible refine (expr_parser_blanks.calls k g s0_0 s0_1 s0_2 s0_3 t101 t102 t103 t104 w0 _ ?side1 ?side2 A3.out).mono ?_); (case side1 => repeat (first | (with_reducible first | exact HI0.out | apply IsS42.alloc | apply IsS42.drewN | apply IsS42.drew | apply IsS42.set_0 | apply IsS42.set_1 | apply IsS42.set_2 | apply IsS42.set_3) | exact HI0.out)); (case side2 => repeat (first | (with_reducible first | exact HB.out | apply below_alloc | apply pw_below_drewN | apply below_drew1 | refine below_set ?_ (IsS42.ge HI0.out)) | exact HB.out)); rintro e w11 ⟨rfl, hi, hb, hk⟩; have n0_ := Aside0.mk (Kq.trans (by repeat (first | (with_reducible first | exact HK.out | apply Kq.set_ | apply kq_drewN | apply kq_drew | apply kq_alloc) | exact HK.out)) hk (.inl rfl)); have n1_ := Aside0.mk (hb); have n2_ := Aside0.mk (hi); clear HK; clear HB; clear HI0; have HK := n0_; have HB := n1_; have HI0 := n2_; clear n0_ n1_ n2_; (try clear hb); (try clear hb2); (try clear hk); (try clear hi); obtain ⟨ovz12, HGz12, hgz12, hRz12⟩ := HI0.out; have hcz12_0 := cellS42_0 HGz12; have hcz12_1 := cellS42_1 HGz12; have hcz12_2 := cellS42_2 HGz12; have hcz12_3 := cellS42_3 HGz12; have hfz12_0 := blk_frozen HGz12 0; have hfz12_1 := blk_frozen HGz12 1; have hfz12_2 := blk_frozen HGz12 2; have hfz12_3 := blk_frozen HGz12 3; clear HGz12 hgz12)); try go_wp2_with (first | (go_at_call 20; (with_reducible refine (expr_parser_blanks.calls k g s0_0 s0_1 s0_2 s0_3 t101 t102 t103 t104 w0 _ ?side1 ?side2 A3.out).mono ?_); (case side1 => repeat (first | (with_reducible first | exact HI0.out | apply IsS42.alloc | apply IsS42.drewN | apply IsS42.drew | apply IsS42.set_0 | apply IsS42.set_1 | apply IsS42.set_2 | apply IsS42.set_3) | exact HI0.out)); (case side2 => repeat (first | (with_reducible first | exact HB.out | apply below_alloc | apply pw_below_drewN | apply below_drew1 | refine below_set ?_ (IsS42.ge HI0.out)) | exact HB.out)); rintro e w11 ⟨rfl, hi, hb, hk⟩; have n0_ := Aside0.mk (Kq.trans (by repeat (first | (with_reducible first | exact HK.out | apply Kq.set_ | apply kq_drewN | apply kq_drew | apply kq_alloc) | exact HK.out)) hk (.inl rfl)); have n1_ := Aside0.mk (hb); have n2_ := Aside0.mk (hi); clear HK; clear HB; clear HI0; have HK := n0_; have HB := n1_; have HI0 := n2_; clear n0_ n1_ n2_; (try clear hb); (try clear hb2); (try clear hk); (try clear hi); obtain ⟨ovz12, HGz12, hgz12, hRz12⟩ := HI0.out; have hcz12_0 := cellS42_0 HGz12; have hcz12_1 := cellS42_1 HGz12; have hcz12_2 := cellS42_2 HGz12; have hcz12_3 := cellS42_3 HGz12; have hfz12_0 := blk_frozen HGz12 0; have hfz12_1 := blk_frozen HGz12 1; have hfz12_2 := blk_frozen HGz12 2; have hfz12_3 := blk_frozen HGz12 3; clear HGz12 hgz12)))
            go_ret
            exact ⟨by first | rfl | (simp [errW_none, errW_some] <;> rfl) | (simp [*, errW_none, errW_some] <;> rfl), by repeat (first | (with_reducible first | exact HI0.out | apply IsS42.alloc | apply IsS42.drewN | apply IsS42.drew | apply IsS42.set_0 | apply IsS42.set_1 | apply IsS42.set_2 | apply IsS42.set_3) | exact HI0.out), by repeat (first | (with_reducible first | exact HB.out | apply below_alloc | apply pw_below_drewN | apply below_drew1 | refine below_set ?_ (IsS42.ge HI0.out)) | exact HB.out), by repeat (first | (with_reducible first | exact HK.out | apply Kq.set_ | apply kq_drewN | apply kq_drew | apply kq_alloc) | exact HK.out)⟩
          · rw [if_neg c10] at H
            have c10b0 : ((t101.extract (t102 : Int).toNat ((wrap64 (t102 + (a1.size : Int))) : Int).toNat).toList == a1.toList) = false := beq_eq_false_iff_ne.mpr c10
            have c10b1 : ((t101.extract (t102 : Int).toNat ((wrap64 (t102 + (a1.size : Int))) : Int).toNat).toList != a1.toList) = true := bne_iff_ne.mpr c10
            simp only [Option.some.injEq, Prod.mk.injEq] at H
            obtain ⟨rfl, rfl, rfl, rfl, rfl⟩ := H
            go_enter Try.func34, Try.ntmps34
            go_wp2_with (first | (go_at_call 20; (with_reducible refine (expr_parser_blanks.calls k g s0_0 s0_1 s0_2 s0_3 t101 t102 t103 t104 w0 _ ?side1 ?side2 A3.out).mono ?_); (case side1 => repeat (first | (with_reducible first | exact HI0.out | apply IsS42.alloc | apply IsS42.drewN | apply IsS42.drew | apply IsS42.set_0 | apply IsS42.set_1 | apply IsS42.set_2 | apply IsS42.set_3) | exact HI0.out)); (case side2 => repeat (first | (with_reducible first | exact HB.out | apply below_alloc | apply pw_below_drewN | apply below_drew1 | refine below_set ?_ (IsS42.ge HI0.out)) | exact HB.out)); rintro e w13 ⟨rfl, hi, hb, hk⟩; have n0_ := Aside0.mk (Kq.trans (by repeat (first | (with_reducible first | exact HK.out | apply Kq.set_ | apply kq_drewN | apply kq_drew | apply kq_alloc) | exact HK.out)) hk (.inl rfl)); have n1_ := Aside0.mk (hb); have n2_ := Aside0.mk (hi); clear HK; clear HB; clear HI0; have HK := n0_; have HB := n1_; have HI0 := n2_; clear n0_ n1_ n2_; (try clear hb); (try clear hb2); (try clear hk); (try clear hi); obtain ⟨ovz14, HGz14, hgz14, hRz14⟩ := HI0.out; have hcz14_0 := cellS42_0 HGz14; have hcz14_1 := cellS42_1 HGz14; have hcz14_2 := cellS42_2 HGz14; have hcz14_3 := cellS42_3 HGz14; have hfz14_0 := blk_frozen HGz14 0; have hfz14_1 := blk_frozen HGz14 1; have hfz14_2 := blk_frozen HGz14 2; have hfz14_3 := blk_frozen HGz14 3; clear HGz14 hgz14))
            repeat (go_quiet (first | (go_at_call 20; (with_reducible refine (expr_parser_blanks.calls k g s0_0 s0_1 s0_2 s0_3 t101 t102 t103 t104 w0 _ ?side1 ?side2 A3.out).mono ?_); (case side1 => repeat (first | (with_reducible first | exact HI0.out | apply IsS42.alloc | apply IsS42.drewN | apply IsS42.drew | apply IsS42.set_0 | apply IsS42.set_1 | apply IsS42.set_2 | apply IsS42.set_3) | exact HI0.out)); (case side2 => repeat (first | (with_reducible first | exact HB.out | apply below_alloc | apply pw_below_drewN | apply below_drew1 | refine below_set ?_ (IsS42.ge HI0.out)) | exact HB.out)); rintro e w13 ⟨rfl, hi, hb, hk⟩; have n0_ := Aside0.mk (Kq.trans (by repeat (first | (with_reducible first | exact HK.out | apply Kq.set_ | apply kq_drewN | apply kq_drew | apply kq_alloc) | exact HK.out)) hk (.inl rfl)); have n1_ := Aside0.mk (hb); have n2_ := Aside0.mk (hi); clear HK; clear HB; clear HI0; have HK := n0_; have HB := n1_; have HI0 := n2_; clear n0_ n1_ n2_; (try clear hb); (try clear hb2); (try clear hk); (try clear hi); obtain ⟨ovz14, HGz14, hgz14, hRz14⟩ := HI0.out; have hcz14_0 := cellS42_0 HGz14; have hcz14_1 := cellS42_1 HGz14; have hcz14_2 := cellS42_2 HGz14; have hcz14_3 := cellS42_3 HGz14; have hfz14_0 := blk_frozen HGz14 0; have hfz14_1 := blk_frozen HGz14 1; have hfz14_2 := blk_frozen HGz14 2; have hfz14_3 := blk_frozen HGz14 3; clear HGz14 hgz14)); try go_wp2_with (first | (go_at_call 20; (with_reducible refine (expr_parser_blanks.calls k g s0_0 s0_1 s0_2 s0_3 t101 t102 t103 t104 w0 _ ?side1 ?side2 A3.out).mono ?_); (case side1 => repeat (first | (with_reducible first | exact HI0.out | apply IsS42.alloc | apply IsS42.drewN | apply IsS42.drew | apply IsS42.set_0 | apply IsS42.set_1 | apply IsS42.set_2 | apply IsS42.set_3) | exact HI0.out)); (case side2 => repeat (first | (with_reducible first | exact HB.out | apply below_alloc | apply pw_below_drewN | apply below_drew1 | refine below_set ?_ (IsS42.ge HI0.out)) | exact HB.out)); rintro e w13 ⟨rfl, hi, hb, hk⟩; have n0_ := Aside0.mk (Kq.trans (by repeat (first | (with_reducible first | exact HK.out | apply Kq.set_ | apply kq_drewN | apply kq_drew | apply kq_alloc) | exact HK.out)) hk (.inl rfl)); have n1_ := Aside0.mk (hb); have n2_ := Aside0.mk (hi); clear HK; clear HB; clear HI0; have HK := n0_; have HB := n1_; have HI0 := n2_; clear n0_ n1_ n2_; (try clear hb); (try clear hb2); (try clear hk); (try clear hi); obtain ⟨ovz14, HGz14, hgz14, hRz14⟩ := HI0.out; have hcz14_0 := cellS42_0 HGz14; have hcz14_1 := cellS42_1 HGz14; have hcz14_2 := cellS42_2 HGz14; have hcz14_3 := cellS42_3 HGz14; have hfz14_0 := blk_frozen HGz14 0; have hfz14_1 := blk_frozen HGz14 1; have hfz14_2 := blk_frozen HGz14 2; have hfz14_3 := blk_frozen HGz14 3; clear HGz14 hgz14)))
            go_ret
            exact ⟨by first | rfl | (simp [errW_none, errW_some] <;> rfl) | (simp [*, errW_none, errW_some] <;> rfl), by repeat (first | (with_reducible first | exact HI0.out | apply IsS42.alloc | apply IsS42.drewN | apply IsS42.drew | apply IsS42.set_0 | apply IsS42.set_1 | apply IsS42.set_2 | apply IsS42.set_3) | exact HI0.out), by repeat (first | (with_reducible first | exact HB.out | apply below_alloc | apply pw_below_drewN | apply below_drew1 | refine below_set ?_ (IsS42.ge HI0.out)) | exact HB.out), by repeat (first | (with_reducible first | exact HK.out | apply Kq.set_ | apply kq_drewN | apply kq_drew | apply kq_alloc) | exact HK.out)⟩
        · rw [if_neg c9] at H
          exact absurd H (by simp)
      · rw [if_neg c8] at H
        exact absurd H (by simp)
    · rw [if_neg c7] at H
      exact absurd H (by simp)


end Go.Proofs.Ytcpemjolabofnaa.PAll
