-- Written by a program of this session (a changed scratch copy of a tool of the kit); not a print of the kit's own.
import Derived.Test.YtfolmcfcmonkhaaDoorPAllx0
import Derived.Test.YtfolmcfcmonkhaaDoorPAllx8
namespace Go.Proofs.YtfolmcfcmonkhaaDoor.PAll
open Go.RowKit Go.Proofs.YtfolmcfcmonkhaaDoorW.PrintWords Go.Proofs.YtfolmcfcmonkhaaDoorW.PrintLast Go.Proofs.YtfolmcfcmonkhaaDoorW.PrintMore Go.Proofs.YtfolmcfcmonkhaaDoorMy Go.Proofs.YtfolmcfcmonkhaaDoor
attribute [local go_sem] max2_int min2_int max_two min_two max_three min_three max_four min_four   -- for this text's walks alone
set_option linter.unusedVariables false
set_option linter.unusedSimpArgs false

mutual
def seicheref11_quoted.l0 : Nat → ByteArray → Int → Int → Int → Bool → Int → Option (Int × Int × Int)
  | 0, _, _, _, _, _, _ => none
  | k + 1, x0, x1, x2, x7, x8, x9 => if x9 < (x0.size : Int) then (if 0 ≤ x9 then (if (bt x0 x9) = x7 then (if x2 = 3 then (if x9 = (wrap64 (x1 + 1)) then (some (7, 0, x1)) else (some (x2, wrap64 ((wrap64 (x9 + 1)) - x1), 0))) else (some (x2, wrap64 ((wrap64 (x9 + 1)) - x1), 0))) else (if (bt x0 x9) = 10 then (seicheref11_quoted.j1 k x0 x1 x2 x7 x8 x9 (!x8)) else (seicheref11_quoted.j1 k x0 x1 x2 x7 x8 x9 false))) else (none)) else (some (7, 0, x1))
def seicheref11_quoted.j1 : Nat → ByteArray → Int → Int → Int → Bool → Int → Bool → Option (Int × Int × Int)
  | 0, _, _, _, _, _, _, _ => none
  | k + 1, x0, x1, x2, x7, x8, x9, x51 => if x51 = true then (some (7, 0, x1)) else ((seicheref10_Rune.f k x0 x9).bind fun bt247 => (if bt247.1 < 0 then (some (7, 0, x9)) else (if bt247.1 = 92 then (seicheref11_quoted.j2 k x0 x1 x2 x7 x8 (wrap64 (x9 + bt247.2)) (!x8)) else (seicheref11_quoted.j2 k x0 x1 x2 x7 x8 (wrap64 (x9 + bt247.2)) false))))
def seicheref11_quoted.j2 : Nat → ByteArray → Int → Int → Int → Bool → Int → Bool → Option (Int × Int × Int)
  | 0, _, _, _, _, _, _, _ => none
  | k + 1, x0, x1, x2, x7, x8, x9, x72 => if x72 = true then ((seicheref10_Rune.f k x0 x9).bind fun bt249 => (if bt249.2 = 0 then (seicheref11_quoted.j3 k x0 x1 x2 x7 x8 x9 bt249.1 bt249.2 true) else (seicheref11_quoted.j3 k x0 x1 x2 x7 x8 x9 bt249.1 bt249.2 (bt249.1 == 10)))) else (seicheref11_quoted.l0 k x0 x1 x2 x7 x8 x9)
def seicheref11_quoted.j3 : Nat → ByteArray → Int → Int → Int → Bool → Int → Int → Int → Bool → Option (Int × Int × Int)
  | 0, _, _, _, _, _, _, _, _, _ => none
  | k + 1, x0, x1, x2, x7, x8, x9, x10, x11, x84 => if x84 = true then (some (7, 0, x1)) else (if x10 < 0 then (some (7, 0, x9)) else (seicheref11_quoted.l0 k x0 x1 x2 x7 x8 (wrap64 (x9 + x11))))
end
def seicheref11_quoted.f (k : Nat) (a0 : ByteArray) (a1 : Int) (a2 : Int) : Option (Int × Int × Int) := if 0 ≤ a1 then (if a1 < (a0.size : Int) then (seicheref11_quoted.l0 k a0 a1 a2 (bt a0 a1) ((bt a0 a1) == 96) (wrap64 (a1 + 1))) else (none)) else (none)
set_option maxHeartbeats 8000000 in
set_option maxRecDepth 100000 in
theorem seicheref11_quoted.calls (k : Nat) (a0 : ByteArray) (a1 : Int) (a2 : Int) (r1 : Int) (r2 : Int) (r3 : Int) (w : World) (h : seicheref11_quoted.f k a0 a1 a2 = some (r1, r2, r3)) :
    Calls Tryd.prog 33 #[.string a0, .int .i64 a1, .int .i64 a2] w fun e w' => e = .returned (.agg #[.int .i64 r1, .int .i64 r2, .int .i64 r3]) ∧ Below w.heap.size w w' := by
  have hu41 := Tryd.underlying41
  have HB := Aside0.mk (Below.refl w.heap.size w)
  have H : (if 0 ≤ a1 then (if a1 < (a0.size : Int) then (seicheref11_quoted.l0 k a0 a1 a2 (bt a0 a1) ((bt a0 a1) == 96) (wrap64 (a1 + 1))) else (none)) else (none)) = some (r1, r2, r3) := h
  clear h
  by_cases c4 : 0 ≤ a1
  · rw [if_pos c4] at H
    have c4b0 : decide (0 ≤ a1) = true := decide_eq_true c4
    clear c4
    by_cases c5 : a1 < (a0.size : Int)
    · rw [if_pos c5] at H
      have c5b0 : decide (a1 < (a0.size : Int)) = true := decide_eq_true c5
      clear c5
      have H' := Aside0.mk H
      clear H
      go_enter Tryd.func33, Tryd.ntmps33
      go_wp2_with (first | ((with_reducible refine gate_dst (N := 6) rfl ?_); refine box_event ?hg (N := 6) ?hd (cs := #[.int .i64 0, .int .i64 0, .int .i64 0]) (t := 41) ?hr ?_; (case hd => rfl); (case hg => rfl); (case hr => first | (go_simp; done) | (go_simp; rfl)); intro gb246 hg w7 hbox hb; have n0_ := Aside0.mk (below_step (by repeat (first | (with_reducible first | exact HB.out | apply below_alloc | apply pw_below_drewN | apply below_drew1) | exact HB.out)) hb); have n1_ := Aside0.mk (hbox); have n2_ := Aside0.mk ((by rw [hg]; exact (below_size (by repeat (first | (with_reducible first | exact HB.out | apply below_alloc | apply pw_below_drewN | apply below_drew1) | exact HB.out))) : w.heap.size ≤ gb246)); have n3_ := Aside0.mk ((by rw [hg]; exact (below_size (by repeat (first | (with_reducible first | exact HB.out | apply below_alloc | apply pw_below_drewN | apply below_drew1) | exact HB.out))) : w.heap.size ≤ gb246)); clear HB; have HB := n0_; have BK246 := n1_; have GW246 := n2_; have GE246 := n3_; clear n0_ n1_ n2_ n3_; clear hb hbox hg; have p6 : 0 ≤ (a1 : Int) := of_decide_eq_true (by first | (with_reducible assumption) | assumption); have q6 : a1 < (a0.size : Int) := of_decide_eq_true (by first | (with_reducible assumption) | assumption); have hx6 := bt_at a0 a1; replace p6 := eq_true p6; replace q6 := eq_true q6))
      go_loopg [9] k (fun kq v9 w' => ∃ (x9_1 : Int) (x247000_1 : Int) (x247001_1 : Int) (x247002_1 : Int), v9 = .int .i64 x9_1 ∧ Aside0 (seicheref11_quoted.l0 kq a0 a1 a2 (bt a0 a1) ((bt a0 a1) == 96) x9_1 = some (r1, r2, r3)) ∧ Aside0 (kq ≤ k) ∧ Aside0 (w'.heap[gb246]? = some (.cells #[.int .i64 x247000_1, .int .i64 x247001_1, .int .i64 x247002_1] 41 (0, 0))) ∧ Aside0 (Below w.heap.size w w'))
      case atStart => exact ⟨(wrap64 (a1 + 1)), (0), (0), (0), (by first | rfl | (simp; done) | (simp [*]; done)), H', ⟨Nat.le_refl _⟩, ⟨by (with_reducible repeat (first | refine blk_drewN ?_ _ | refine blk_drew ?_ | refine blk_alloc ?_ _)); exact BK246.out⟩, ⟨by repeat (first | (with_reducible first | exact HB.out | apply below_alloc | apply pw_below_drewN | apply below_drew1 | refine below_set ?_ GE246.out) | exact HB.out)⟩⟩
      case round =>
        clear H'
        (try clear p2); (try clear c3); (try clear c4); (try clear c4b0); (try clear c5); (try clear c5b0); (try clear p6); (try clear q6); (try clear hx6); (try clear p6); (try clear q6); obtain ⟨x9_1, x247000_1, x247001_1, x247002_1, rfl, HA, HK1, BK246, HB⟩ := hrel
        cases gk with
        | zero => exact absurd HA.out (by simp [seicheref11_quoted.l0])
        | succ k1 =>
          have H := HA.out
          clear HA
          simp only [seicheref11_quoted.l0] at H
          by_cases c8 : x9_1 < (a0.size : Int)
          · rw [if_pos c8] at H
            have c8b0 : decide (x9_1 < (a0.size : Int)) = true := decide_eq_true c8
            clear c8
            by_cases c9 : 0 ≤ x9_1
            · rw [if_pos c9] at H
              have c9b0 : decide (0 ≤ x9_1) = true := decide_eq_true c9
              clear c9
              by_cases c11 : (bt a0 x9_1) = (bt a0 a1)
              · rw [if_pos c11] at H
                have c11b0 : ((bt a0 x9_1) == (bt a0 a1)) = true := beq_iff_eq.mpr c11
                have c11b1 : ((bt a0 x9_1) != (bt a0 a1)) = false := bne_eq_false_iff_eq.mpr c11
                clear c11
                by_cases c12 : a2 = 3
                · rw [if_pos c12] at H
                  have c12b0 : (a2 == 3) = true := beq_iff_eq.mpr c12
                  have c12b1 : (a2 != 3) = false := bne_eq_false_iff_eq.mpr c12
                  clear c12
                  by_cases c13 : x9_1 = (wrap64 (a1 + 1))
                  · rw [if_pos c13] at H
                    have c13b0 : (x9_1 == (wrap64 (a1 + 1))) = true := beq_iff_eq.mpr c13
                    have c13b1 : (x9_1 != (wrap64 (a1 + 1))) = false := bne_eq_false_iff_eq.mpr c13
                    clear c13
                    simp only [Option.some.injEq, Prod.mk.injEq] at H
                    obtain ⟨rfl, rfl, rfl⟩ := H
                    have p10 : 0 ≤ (x9_1 : Int) := of_decide_eq_true (by first | (with_reducible assumption) | assumption)
                    have q10 : x9_1 < (a0.size : Int) := of_decide_eq_true (by first | (with_reducible assumption) | assumption)
                    have hx10 := bt_at a0 x9_1
                    replace p10 := eq_true p10; replace q10 := eq_true q10
                    have hcz14_0 : wr.cell? ⟨gb246, 0, none⟩ = some (.int .i64 x247000_1) := (blk_cell BK246.out 0).trans rfl
                    have hcz14_1 : wr.cell? ⟨gb246, 1, none⟩ = some (.int .i64 x247001_1) := (blk_cell BK246.out 1).trans rfl
                    have hcz14_2 : wr.cell? ⟨gb246, 2, none⟩ = some (.int .i64 x247002_1) := (blk_cell BK246.out 2).trans rfl
                    have hfz14_0 := blk_frozen BK246.out 0; have hfz14_1 := blk_frozen BK246.out 1; have hfz14_2 := blk_frozen BK246.out 2
                    repeat (first | go_values | go_skip | go_guarded | go_step | go_upon | go_in | (simp only [Int.not_lt, Int.not_le] at *; go_simp))
                    refine bodyPost_ret (results_cell_row rfl _ _ gb246 41 #[.int .i64 7, .int .i64 0, .int .i64 a1] (0, 0) _ rfl (by (with_reducible repeat (first | refine blk_drewN ?_ _ | refine blk_drew ?_ | refine blk_alloc ?_ _)); refine blk_put (cs := #[.int .i64 7, .int .i64 0, .int .i64 x247002_1]) ?_ 2 _ rfl; (with_reducible repeat (first | refine blk_drewN ?_ _ | refine blk_drew ?_ | refine blk_alloc ?_ _)); refine blk_put (cs := #[.int .i64 7, .int .i64 x247001_1, .int .i64 x247002_1]) ?_ 1 _ rfl; (with_reducible repeat (first | refine blk_drewN ?_ _ | refine blk_drew ?_ | refine blk_alloc ?_ _)); refine blk_put (cs := #[.int .i64 x247000_1, .int .i64 x247001_1, .int .i64 x247002_1]) ?_ 0 _ rfl; (with_reducible repeat (first | refine blk_drewN ?_ _ | refine blk_drew ?_ | refine blk_alloc ?_ _)); exact BK246.out) Tryd.underlying41 rfl (by kernel_rfl)) rfl ?_
                    exact ⟨by first | rfl | (simp [errW_none, errW_some] <;> rfl) | (simp [*, errW_none, errW_some] <;> rfl), by repeat (first | (with_reducible first | exact HB.out | apply below_alloc | apply pw_below_drewN | apply below_drew1 | refine below_set ?_ GE246.out) | exact HB.out)⟩
                  · rw [if_neg c13] at H
                    have c13b0 : (x9_1 == (wrap64 (a1 + 1))) = false := beq_eq_false_iff_ne.mpr c13
                    have c13b1 : (x9_1 != (wrap64 (a1 + 1))) = true := bne_iff_ne.mpr c13
                    simp only [Option.some.injEq, Prod.mk.injEq] at H
                    obtain ⟨rfl, rfl, rfl⟩ := H
                    have p10 : 0 ≤ (x9_1 : Int) := of_decide_eq_true (by first | (with_reducible assumption) | assumption)
                    have q10 : x9_1 < (a0.size : Int) := of_decide_eq_true (by first | (with_reducible assumption) | assumption)
                    have hx10 := bt_at a0 x9_1
                    replace p10 := eq_true p10; replace q10 := eq_true q10
                    have hcz15_0 : wr.cell? ⟨gb246, 0, none⟩ = some (.int .i64 x247000_1) := (blk_cell BK246.out 0).trans rfl
                    have hcz15_1 : wr.cell? ⟨gb246, 1, none⟩ = some (.int .i64 x247001_1) := (blk_cell BK246.out 1).trans rfl
                    have hcz15_2 : wr.cell? ⟨gb246, 2, none⟩ = some (.int .i64 x247002_1) := (blk_cell BK246.out 2).trans rfl
                    have hfz15_0 := blk_frozen BK246.out 0; have hfz15_1 := blk_frozen BK246.out 1; have hfz15_2 := blk_frozen BK246.out 2
                    repeat (first | go_values | go_skip | go_guarded | go_step | go_upon | go_in | (simp only [Int.not_lt, Int.not_le] at *; go_simp))
                    refine bodyPost_ret (results_cell_row rfl _ _ gb246 41 #[.int .i64 a2, .int .i64 (wrap64 ((wrap64 (x9_1 + 1)) - a1)), .int .i64 0] (0, 0) _ rfl (by (with_reducible repeat (first | refine blk_drewN ?_ _ | refine blk_drew ?_ | refine blk_alloc ?_ _)); refine blk_put (cs := #[.int .i64 a2, .int .i64 (wrap64 ((wrap64 (x9_1 + 1)) - a1)), .int .i64 x247002_1]) ?_ 2 _ rfl; (with_reducible repeat (first | refine blk_drewN ?_ _ | refine blk_drew ?_ | refine blk_alloc ?_ _)); refine blk_put (cs := #[.int .i64 a2, .int .i64 x247001_1, .int .i64 x247002_1]) ?_ 1 _ rfl; (with_reducible repeat (first | refine blk_drewN ?_ _ | refine blk_drew ?_ | refine blk_alloc ?_ _)); refine blk_put (cs := #[.int .i64 x247000_1, .int .i64 x247001_1, .int .i64 x247002_1]) ?_ 0 _ rfl; (with_reducible repeat (first | refine blk_drewN ?_ _ | refine blk_drew ?_ | refine blk_alloc ?_ _)); exact BK246.out) Tryd.underlying41 rfl (by kernel_rfl)) rfl ?_
                    exact ⟨by first | rfl | (simp [errW_none, errW_some] <;> rfl) | (simp [*, errW_none, errW_some] <;> rfl), by repeat (first | (with_reducible first | exact HB.out | apply below_alloc | apply pw_below_drewN | apply below_drew1 | refine below_set ?_ GE246.out) | exact HB.out)⟩
                · rw [if_neg c12] at H
                  have c12b0 : (a2 == 3) = false := beq_eq_false_iff_ne.mpr c12
                  have c12b1 : (a2 != 3) = true := bne_iff_ne.mpr c12
                  simp only [Option.some.injEq, Prod.mk.injEq] at H
                  obtain ⟨rfl, rfl, rfl⟩ := H
                  have p10 : 0 ≤ (x9_1 : Int) := of_decide_eq_true (by first | (with_reducible assumption) | assumption)
                  have q10 : x9_1 < (a0.size : Int) := of_decide_eq_true (by first | (with_reducible assumption) | assumption)
                  have hx10 := bt_at a0 x9_1
                  replace p10 := eq_true p10; replace q10 := eq_true q10
                  have hcz16_0 : wr.cell? ⟨gb246, 0, none⟩ = some (.int .i64 x247000_1) := (blk_cell BK246.out 0).trans rfl
                  have hcz16_1 : wr.cell? ⟨gb246, 1, none⟩ = some (.int .i64 x247001_1) := (blk_cell BK246.out 1).trans rfl
                  have hcz16_2 : wr.cell? ⟨gb246, 2, none⟩ = some (.int .i64 x247002_1) := (blk_cell BK246.out 2).trans rfl
                  have hfz16_0 := blk_frozen BK246.out 0; have hfz16_1 := blk_frozen BK246.out 1; have hfz16_2 := blk_frozen BK246.out 2
                  repeat (first | go_values | go_skip | go_guarded | go_step | go_upon | go_in | (simp only [Int.not_lt, Int.not_le] at *; go_simp))
                  refine bodyPost_ret (results_cell_row rfl _ _ gb246 41 #[.int .i64 a2, .int .i64 (wrap64 ((wrap64 (x9_1 + 1)) - a1)), .int .i64 0] (0, 0) _ rfl (by (with_reducible repeat (first | refine blk_drewN ?_ _ | refine blk_drew ?_ | refine blk_alloc ?_ _)); refine blk_put (cs := #[.int .i64 a2, .int .i64 (wrap64 ((wrap64 (x9_1 + 1)) - a1)), .int .i64 x247002_1]) ?_ 2 _ rfl; (with_reducible repeat (first | refine blk_drewN ?_ _ | refine blk_drew ?_ | refine blk_alloc ?_ _)); refine blk_put (cs := #[.int .i64 a2, .int .i64 x247001_1, .int .i64 x247002_1]) ?_ 1 _ rfl; (with_reducible repeat (first | refine blk_drewN ?_ _ | refine blk_drew ?_ | refine blk_alloc ?_ _)); refine blk_put (cs := #[.int .i64 x247000_1, .int .i64 x247001_1, .int .i64 x247002_1]) ?_ 0 _ rfl; (with_reducible repeat (first | refine blk_drewN ?_ _ | refine blk_drew ?_ | refine blk_alloc ?_ _)); exact BK246.out) Tryd.underlying41 rfl (by kernel_rfl)) rfl ?_
                  exact ⟨by first | rfl | (simp [errW_none, errW_some] <;> rfl) | (simp [*, errW_none, errW_some] <;> rfl), by repeat (first | (with_reducible first | exact HB.out | apply below_alloc | apply pw_below_drewN | apply below_drew1 | refine below_set ?_ GE246.out) | exact HB.out)⟩
              · rw [if_neg c11] at H
                have c11b0 : ((bt a0 x9_1) == (bt a0 a1)) = false := beq_eq_false_iff_ne.mpr c11
                have c11b1 : ((bt a0 x9_1) != (bt a0 a1)) = true := bne_iff_ne.mpr c11
                have HC17 := Aside0.mk H; clear H
                have p10 : 0 ≤ (x9_1 : Int) := of_decide_eq_true (by first | (with_reducible assumption) | assumption)
                have q10 : x9_1 < (a0.size : Int) := of_decide_eq_true (by first | (with_reducible assumption) | assumption)
                have hx10 := bt_at a0 x9_1
                replace p10 := eq_true p10; replace q10 := eq_true q10
                go_upto_region 9 with (fail)
                go_cut [51] (fun v51 wc => ∃ (kq : Nat) (x51_16 : Bool), v51 = .bool x51_16 ∧ Aside0 (seicheref11_quoted.j1 kq a0 a1 a2 (bt a0 a1) ((bt a0 a1) == 96) x9_1 x51_16 = some (r1, r2, r3)) ∧ Aside0 (kq ≤ k1) ∧ Aside0 (wc.heap[gb246]? = some (.cells #[.int .i64 x247000_1, .int .i64 x247001_1, .int .i64 x247002_1] 41 (0, 0))) ∧ Aside0 (Below w.heap.size w wc))
                case first =>
                  have H := HC17.out
                  clear HC17
                  by_cases c19 : (bt a0 x9_1) = 10
                  · rw [if_pos c19] at H
                    have c19b0 : ((bt a0 x9_1) == 10) = true := beq_iff_eq.mpr c19
                    have c19b1 : ((bt a0 x9_1) != 10) = false := bne_eq_false_iff_eq.mpr c19
                    clear c19
                    (first | rw [c19b0] | (simp only [i64_w, i32_w]; rw [c19b0]) | skip)
                    have H' := Aside0.mk H
                    clear H
                    have p18 : 0 ≤ (x9_1 : Int) := of_decide_eq_true (by first | (with_reducible assumption) | assumption)
                    have q18 : x9_1 < (a0.size : Int) := of_decide_eq_true (by first | (with_reducible assumption) | assumption)
                    have hx18 := bt_at a0 x9_1
                    replace p18 := eq_true p18; replace q18 := eq_true q18
                    go_wp2
                    go_meet
                    case rel => exact ⟨_, (!((bt a0 a1) == 96)), (by first | rfl | (simp; done) | (simp [*]; done)), H', ⟨by have := HK1.out; first | omega | exact Nat.le_refl _⟩, ⟨by (with_reducible repeat (first | refine blk_drewN ?_ _ | refine blk_drew ?_ | refine blk_alloc ?_ _)); exact BK246.out⟩, ⟨by repeat (first | (with_reducible first | exact HB.out | apply below_alloc | apply pw_below_drewN | apply below_drew1 | refine below_set ?_ GE246.out) | exact HB.out)⟩⟩
                  · rw [if_neg c19] at H
                    have c19b0 : ((bt a0 x9_1) == 10) = false := beq_eq_false_iff_ne.mpr c19
                    have c19b1 : ((bt a0 x9_1) != 10) = true := bne_iff_ne.mpr c19
                    (first | rw [c19b0] | (simp only [i64_w, i32_w]; rw [c19b0]) | skip)
                    have H' := Aside0.mk H
                    clear H
                    have p18 : 0 ≤ (x9_1 : Int) := of_decide_eq_true (by first | (with_reducible assumption) | assumption)
                    have q18 : x9_1 < (a0.size : Int) := of_decide_eq_true (by first | (with_reducible assumption) | assumption)
                    have hx18 := bt_at a0 x9_1
                    replace p18 := eq_true p18; replace q18 := eq_true q18
                    go_wp2
                    go_meet
                    case rel => exact ⟨_, (false), (by first | rfl | (simp; done) | (simp [*]; done)), H', ⟨by have := HK1.out; first | omega | exact Nat.le_refl _⟩, ⟨by (with_reducible repeat (first | refine blk_drewN ?_ _ | refine blk_drew ?_ | refine blk_alloc ?_ _)); exact BK246.out⟩, ⟨by repeat (first | (with_reducible first | exact HB.out | apply below_alloc | apply pw_below_drewN | apply below_drew1 | refine below_set ?_ GE246.out) | exact HB.out)⟩⟩
                case rest =>
                  clear HC17; (try clear c1); (try clear p1); (try clear q1); (try clear hx1); (try clear p2); (try clear c3); (try clear c4); (try clear c4b0); (try clear c5); (try clear c5b0); (try clear p6); (try clear q6); (try clear hx6); (try clear c8); (try clear c8b0); (try clear c9); (try clear c9b0); (try clear p10); (try clear q10); (try clear hx10); (try clear c11); (try clear c11b0); (try clear c11b1); (try clear c12); (try clear c12b0); (try clear c12b1); (try clear c13); (try clear c13b0); (try clear c13b1); (try clear p18); (try clear q18); (try clear hx18); (try clear c19); (try clear c19b0); (try clear c19b1); (try clear hcz14_0); (try clear hcz14_1)
                  (try clear hcz14_2); (try clear hcz15_0); (try clear hcz15_1); (try clear hcz15_2); (try clear hcz16_0); (try clear hcz16_1); (try clear hcz16_2); (try clear hfz14_0); (try clear hfz14_1); (try clear hfz14_2); (try clear hfz15_0); (try clear hfz15_1); (try clear hfz15_2); (try clear hfz16_0); (try clear hfz16_1); (try clear hfz16_2); (try clear p10); (try clear p18); (try clear p2); (try clear p6); (try clear q10); (try clear q18); (try clear q6); obtain ⟨kq, x51_16, rfl, HA, HJ16, BK246, HB⟩ := hcut
                  cases kq with
                  | zero => exact absurd HA.out (by simp [seicheref11_quoted.j1])
                  | succ kj16 =>
                    have H := HA.out
                    clear HA
                    simp only [seicheref11_quoted.j1] at H
                    by_cases c20 : x51_16 = true
                    · subst c20
                      have H1 : (some (7, 0, a1)) = some (r1, r2, r3) := by rw [if_pos rfl] at H; exact H
                      clear H
                      have H := H1
                      clear H1
                      simp only [Option.some.injEq, Prod.mk.injEq] at H
                      obtain ⟨rfl, rfl, rfl⟩ := H
                      have hcz21_0 : wc.cell? ⟨gb246, 0, none⟩ = some (.int .i64 x247000_1) := (blk_cell BK246.out 0).trans rfl
                      have hcz21_1 : wc.cell? ⟨gb246, 1, none⟩ = some (.int .i64 x247001_1) := (blk_cell BK246.out 1).trans rfl
                      have hcz21_2 : wc.cell? ⟨gb246, 2, none⟩ = some (.int .i64 x247002_1) := (blk_cell BK246.out 2).trans rfl
                      have hfz21_0 := blk_frozen BK246.out 0; have hfz21_1 := blk_frozen BK246.out 1; have hfz21_2 := blk_frozen BK246.out 2
                      repeat (first | go_values | go_skip | go_guarded | go_step | go_upon | go_in | (simp only [Int.not_lt, Int.not_le] at *; go_simp))
                      refine bodyPost_ret (results_cell_row rfl _ _ gb246 41 #[.int .i64 7, .int .i64 0, .int .i64 a1] (0, 0) _ rfl (by (with_reducible repeat (first | refine blk_drewN ?_ _ | refine blk_drew ?_ | refine blk_alloc ?_ _)); refine blk_put (cs := #[.int .i64 7, .int .i64 0, .int .i64 x247002_1]) ?_ 2 _ rfl; (with_reducible repeat (first | refine blk_drewN ?_ _ | refine blk_drew ?_ | refine blk_alloc ?_ _)); refine blk_put (cs := #[.int .i64 7, .int .i64 x247001_1, .int .i64 x247002_1]) ?_ 1 _ rfl; (with_reducible repeat (first | refine blk_drewN ?_ _ | refine blk_drew ?_ | refine blk_alloc ?_ _)); refine blk_put (cs := #[.int .i64 x247000_1, .int .i64 x247001_1, .int .i64 x247002_1]) ?_ 0 _ rfl; (with_reducible repeat (first | refine blk_drewN ?_ _ | refine blk_drew ?_ | refine blk_alloc ?_ _)); exact BK246.out) Tryd.underlying41 rfl (by kernel_rfl)) rfl ?_
                      exact ⟨by first | rfl | (simp [errW_none, errW_some] <;> rfl) | (simp [*, errW_none, errW_some] <;> rfl), by repeat (first | (with_reducible first | exact HB.out | apply below_alloc | apply pw_below_drewN | apply below_drew1 | refine below_set ?_ GE246.out) | exact HB.out)⟩
                    · replace c20 := Bool.eq_false_iff.mpr c20
                      subst c20
                      have H1 : ((seicheref10_Rune.f kj16 a0 x9_1).bind fun bt247 => (if bt247.1 < 0 then (some (7, 0, x9_1)) else (if bt247.1 = 92 then (seicheref11_quoted.j2 kj16 a0 a1 a2 (bt a0 a1) ((bt a0 a1) == 96) (wrap64 (x9_1 + bt247.2)) (!((bt a0 a1) == 96))) else (seicheref11_quoted.j2 kj16 a0 a1 a2 (bt a0 a1) ((bt a0 a1) == 96) (wrap64 (x9_1 + bt247.2)) false)))) = some (r1, r2, r3) := by rw [if_neg (show ¬ (false = true) by decide)] at H; exact H
                      clear H
                      have H := H1
                      clear H1
                      replace H := Option.bind_eq_some_iff.mp H
                      obtain ⟨⟨t247, t248⟩, A220, H⟩ := H
                      replace H : (if t247 < 0 then (some (7, 0, x9_1)) else (if t247 = 92 then (seicheref11_quoted.j2 kj16 a0 a1 a2 (bt a0 a1) ((bt a0 a1) == 96) (wrap64 (x9_1 + t248)) (!((bt a0 a1) == 96))) else (seicheref11_quoted.j2 kj16 a0 a1 a2 (bt a0 a1) ((bt a0 a1) == 96) (wrap64 (x9_1 + t248)) false))) = some (r1, r2, r3) := H
                      have A22 := Aside0.mk A220; clear A220
                      by_cases c23 : t247 < 0
                      · rw [if_pos c23] at H
                        have c23b0 : decide (t247 < 0) = true := decide_eq_true c23
                        clear c23
                        simp only [Option.some.injEq, Prod.mk.injEq] at H
                        obtain ⟨rfl, rfl, rfl⟩ := H
                        repeat (first | (first | ((with_reducible refine gate_callee (f := 26) rfl ?_); refine goesL_ (some 57) rfl rfl Tryd.func26 (by kernel_rfl) rfl #[.string a0, .int .i64 x9_1] rfl (by (try simp only [List.map_toArray, List.map_cons, List.map_nil]); first | done | rfl | (simp only [List.length_drop, List.length_take]; rfl)) ?_; (with_reducible refine (seicheref10_Rune.calls kj16 a0 x9_1 t247 t248 _ A22.out).mono ?_); rintro e w24 ⟨rfl, hb⟩; refine ⟨_, rfl, ?_⟩; have n0_ := Aside0.mk (blk_below (g := gb246) (o := .cells #[.int .i64 x247000_1, .int .i64 x247001_1, .int .i64 x247002_1] 41 (0, 0)) (by (with_reducible repeat (first | refine blk_drewN ?_ _ | refine blk_drew ?_ | refine blk_alloc ?_ _)); exact BK246.out) hb); have n1_ := Aside0.mk (below_step (by repeat (first | (with_reducible first | exact HB.out | apply below_alloc | apply pw_below_drewN | apply below_drew1 | refine below_set ?_ GE246.out) | exact HB.out)) hb); clear BK246; clear HB; have BK246 := n0_; have HB := n1_; clear n0_ n1_; (try clear hb); (try clear hb2); (try clear hk); (try clear hi); have hcz25_0 : w24.cell? ⟨gb246, 0, none⟩ = some (.int .i64 x247000_1) := (blk_cell BK246.out 0).trans rfl; have hcz25_1 : w24.cell? ⟨gb246, 1, none⟩ = some (.int .i64 x247001_1) := (blk_cell BK246.out 1).trans rfl; have hcz25_2 : w24.cell? ⟨gb246, 2, none⟩ = some (.int .i64 x247002_1) := (blk_cell BK246.out 2).trans rfl; have hfz25_0 := blk_frozen BK246.out 0; have hfz25_1 := blk_frozen BK246.out 1; have hfz25_2 := blk_frozen BK246.out 2)) | go_values | go_skip | go_guarded | go_step | go_upon | go_in | (simp only [Int.not_lt, Int.not_le] at *; go_simp))
                        refine bodyPost_ret (results_cell_row rfl _ _ gb246 41 #[.int .i64 7, .int .i64 0, .int .i64 x9_1] (0, 0) _ rfl (by (with_reducible repeat (first | refine blk_drewN ?_ _ | refine blk_drew ?_ | refine blk_alloc ?_ _)); refine blk_put (cs := #[.int .i64 7, .int .i64 0, .int .i64 x247002_1]) ?_ 2 _ rfl; (with_reducible repeat (first | refine blk_drewN ?_ _ | refine blk_drew ?_ | refine blk_alloc ?_ _)); refine blk_put (cs := #[.int .i64 7, .int .i64 x247001_1, .int .i64 x247002_1]) ?_ 1 _ rfl; (with_reducible repeat (first | refine blk_drewN ?_ _ | refine blk_drew ?_ | refine blk_alloc ?_ _)); refine blk_put (cs := #[.int .i64 x247000_1, .int .i64 x247001_1, .int .i64 x247002_1]) ?_ 0 _ rfl; (with_reducible repeat (first | refine blk_drewN ?_ _ | refine blk_drew ?_ | refine blk_alloc ?_ _)); exact BK246.out) Tryd.underlying41 rfl (by kernel_rfl)) rfl ?_
                        exact ⟨by first | rfl | (simp [errW_none, errW_some] <;> rfl) | (simp [*, errW_none, errW_some] <;> rfl), by repeat (first | (with_reducible first | exact HB.out | apply below_alloc | apply pw_below_drewN | apply below_drew1 | refine below_set ?_ GE246.out) | exact HB.out)⟩
                      · rw [if_neg c23] at H
                        have c23b0 : decide (t247 < 0) = false := decide_eq_false c23
                        clear c23; have HC26 := Aside0.mk H; clear H
                        go_upto_region 15 with (first | ((with_reducible refine gate_callee (f := 26) rfl ?_); refine goesL_ (some 57) rfl rfl Tryd.func26 (by kernel_rfl) rfl #[.string a0, .int .i64 x9_1] rfl (by (try simp only [List.map_toArray, List.map_cons, List.map_nil]); first | done | rfl | (simp only [List.length_drop, List.length_take]; rfl)) ?_; (with_reducible refine (seicheref10_Rune.calls kj16 a0 x9_1 t247 t248 _ A22.out).mono ?_); rintro e w27 ⟨rfl, hb⟩; refine ⟨_, rfl, ?_⟩; have n0_ := Aside0.mk (blk_below (g := gb246) (o := .cells #[.int .i64 x247000_1, .int .i64 x247001_1, .int .i64 x247002_1] 41 (0, 0)) (by (with_reducible repeat (first | refine blk_drewN ?_ _ | refine blk_drew ?_ | refine blk_alloc ?_ _)); exact BK246.out) hb); have n1_ := Aside0.mk (below_step (by repeat (first | (with_reducible first | exact HB.out | apply below_alloc | apply pw_below_drewN | apply below_drew1 | refine below_set ?_ GE246.out) | exact HB.out)) hb); clear BK246; clear HB; have BK246 := n0_; have HB := n1_; clear n0_ n1_; (try clear hb); (try clear hb2); (try clear hk); (try clear hi)))
                        (try simp only [Act.put, List.setIfInBounds_toArray, List.set_cons_zero, List.set_cons_succ])
                        go_cut [72] (fun v72 wc => ∃ (kq : Nat) (x72_25 : Bool), v72 = .bool x72_25 ∧ Aside0 (seicheref11_quoted.j2 kq a0 a1 a2 (bt a0 a1) ((bt a0 a1) == 96) (wrap64 (x9_1 + t248)) x72_25 = some (r1, r2, r3)) ∧ Aside0 (kq ≤ kj16) ∧ Aside0 (wc.heap[gb246]? = some (.cells #[.int .i64 x247000_1, .int .i64 x247001_1, .int .i64 x247002_1] 41 (0, 0))) ∧ Aside0 (Below w.heap.size w wc))
                        case first =>
                          have H := HC26.out
                          clear HC26
                          by_cases c28 : t247 = 92
                          · rw [if_pos c28] at H
                            have c28b0 : (t247 == 92) = true := beq_iff_eq.mpr c28
                            have c28b1 : (t247 != 92) = false := bne_eq_false_iff_eq.mpr c28
                            clear c28
                            (first | rw [c28b0] | (simp only [i64_w, i32_w]; rw [c28b0]) | skip)
                            have H' := Aside0.mk H
                            clear H
                            go_wp2
                            go_meet
                            case rel => exact ⟨_, (!((bt a0 a1) == 96)), (by first | rfl | (simp; done) | (simp [*]; done)), H', ⟨by have := HK1.out; have := HJ16.out; first | omega | exact Nat.le_refl _⟩, ⟨by (with_reducible repeat (first | refine blk_drewN ?_ _ | refine blk_drew ?_ | refine blk_alloc ?_ _)); exact BK246.out⟩, ⟨by repeat (first | (with_reducible first | exact HB.out | apply below_alloc | apply pw_below_drewN | apply below_drew1 | refine below_set ?_ GE246.out) | exact HB.out)⟩⟩
                          · rw [if_neg c28] at H
                            have c28b0 : (t247 == 92) = false := beq_eq_false_iff_ne.mpr c28
                            have c28b1 : (t247 != 92) = true := bne_iff_ne.mpr c28
                            (first | rw [c28b0] | (simp only [i64_w, i32_w]; rw [c28b0]) | skip)
                            have H' := Aside0.mk H
                            clear H
                            go_wp2
                            go_meet
                            case rel => exact ⟨_, (false), (by first | rfl | (simp; done) | (simp [*]; done)), H', ⟨by have := HK1.out; have := HJ16.out; first | omega | exact Nat.le_refl _⟩, ⟨by (with_reducible repeat (first | refine blk_drewN ?_ _ | refine blk_drew ?_ | refine blk_alloc ?_ _)); exact BK246.out⟩, ⟨by repeat (first | (with_reducible first | exact HB.out | apply below_alloc | apply pw_below_drewN | apply below_drew1 | refine below_set ?_ GE246.out) | exact HB.out)⟩⟩
                        case rest =>
                          clear HC26; (try clear c1); (try clear p1); (try clear q1); (try clear hx1); (try clear c2); (try clear p2); (try clear c3); (try clear c4); (try clear c4b0); (try clear c5); (try clear c5b0); (try clear p6); (try clear q6); (try clear hx6); (try clear c8); (try clear c8b0); (try clear c9); (try clear c9b0); (try clear p10); (try clear q10); (try clear hx10); (try clear c11); (try clear c11b0); (try clear c11b1); (try clear c12); (try clear c12b0); (try clear c12b1); (try clear c13); (try clear c13b0); (try clear c13b1); (try clear p18); (try clear q18); (try clear hx18); (try clear c19); (try clear c19b0); (try clear c19b1); (try clear c20)
                          (try clear c23); (try clear c23b0); (try clear c26); (try clear c28); (try clear c28b0); (try clear c28b1); (try clear hcz14_0); (try clear hcz14_1); (try clear hcz14_2); (try clear hcz15_0); (try clear hcz15_1); (try clear hcz15_2); (try clear hcz16_0); (try clear hcz16_1); (try clear hcz16_2); (try clear hcz21_0); (try clear hcz21_1); (try clear hcz21_2); (try clear hcz25_0); (try clear hcz25_1); (try clear hcz25_2); (try clear hfz14_0); (try clear hfz14_1); (try clear hfz14_2); (try clear hfz15_0); (try clear hfz15_1); (try clear hfz15_2); (try clear hfz16_0); (try clear hfz16_1); (try clear hfz16_2); (try clear hfz21_0); (try clear hfz21_1)
                          (try clear hfz21_2); (try clear hfz25_0); (try clear hfz25_1); (try clear hfz25_2); (try clear p1); (try clear p10); (try clear p18); (try clear p2); (try clear p6); (try clear q1); (try clear q10); (try clear q18); (try clear q6); obtain ⟨kq, x72_25, rfl, HA, HJ25, BK246, HB⟩ := hcut
                          cases kq with
                          | zero => exact absurd HA.out (by simp [seicheref11_quoted.j2])
                          | succ kj25 =>
                            have H := HA.out
                            clear HA
                            simp only [seicheref11_quoted.j2] at H
                            by_cases c29 : x72_25 = true
                            · subst c29
                              have H1 : ((seicheref10_Rune.f kj25 a0 (wrap64 (x9_1 + t248))).bind fun bt249 => (if bt249.2 = 0 then (seicheref11_quoted.j3 kj25 a0 a1 a2 (bt a0 a1) ((bt a0 a1) == 96) (wrap64 (x9_1 + t248)) bt249.1 bt249.2 true) else (seicheref11_quoted.j3 kj25 a0 a1 a2 (bt a0 a1) ((bt a0 a1) == 96) (wrap64 (x9_1 + t248)) bt249.1 bt249.2 (bt249.1 == 10)))) = some (r1, r2, r3) := by rw [if_pos rfl] at H; exact H
                              clear H
                              have H := H1
                              clear H1
                              replace H := Option.bind_eq_some_iff.mp H
                              obtain ⟨⟨t249, t250⟩, A300, H⟩ := H
                              replace H : (if t250 = 0 then (seicheref11_quoted.j3 kj25 a0 a1 a2 (bt a0 a1) ((bt a0 a1) == 96) (wrap64 (x9_1 + t248)) t249 t250 true) else (seicheref11_quoted.j3 kj25 a0 a1 a2 (bt a0 a1) ((bt a0 a1) == 96) (wrap64 (x9_1 + t248)) t249 t250 (t249 == 10))) = some (r1, r2, r3) := H
                              have A30 := Aside0.mk A300; clear A300; have HC31 := Aside0.mk H; clear H
                              go_upto_region 17 with (first | ((with_reducible refine gate_callee (f := 26) rfl ?_); refine goesL_ (some 76) rfl rfl Tryd.func26 (by kernel_rfl) rfl #[.string a0, .int .i64 (wrap64 (x9_1 + t248))] rfl (by (try simp only [List.map_toArray, List.map_cons, List.map_nil]); first | done | rfl | (simp only [List.length_drop, List.length_take]; rfl)) ?_; (with_reducible refine (seicheref10_Rune.calls kj25 a0 (wrap64 (x9_1 + t248)) t249 t250 _ A30.out).mono ?_); rintro e w32 ⟨rfl, hb⟩; refine ⟨_, rfl, ?_⟩; have n0_ := Aside0.mk (blk_below (g := gb246) (o := .cells #[.int .i64 x247000_1, .int .i64 x247001_1, .int .i64 x247002_1] 41 (0, 0)) (by (with_reducible repeat (first | refine blk_drewN ?_ _ | refine blk_drew ?_ | refine blk_alloc ?_ _)); exact BK246.out) hb); have n1_ := Aside0.mk (below_step (by repeat (first | (with_reducible first | exact HB.out | apply below_alloc | apply pw_below_drewN | apply below_drew1 | refine below_set ?_ GE246.out) | exact HB.out)) hb); clear BK246; clear HB; have BK246 := n0_; have HB := n1_; clear n0_ n1_; (try clear hb); (try clear hb2); (try clear hk); (try clear hi)))
                              (try simp only [Act.put, List.setIfInBounds_toArray, List.set_cons_zero, List.set_cons_succ])
                              go_cut [84] (fun v84 wc => ∃ (kq : Nat) (x84_30 : Bool), v84 = .bool x84_30 ∧ Aside0 (seicheref11_quoted.j3 kq a0 a1 a2 (bt a0 a1) ((bt a0 a1) == 96) (wrap64 (x9_1 + t248)) t249 t250 x84_30 = some (r1, r2, r3)) ∧ Aside0 (kq ≤ kj25) ∧ Aside0 (wc.heap[gb246]? = some (.cells #[.int .i64 x247000_1, .int .i64 x247001_1, .int .i64 x247002_1] 41 (0, 0))) ∧ Aside0 (Below w.heap.size w wc))
                              case first =>
                                have H := HC31.out
                                clear HC31
                                by_cases c33 : t250 = 0
                                · rw [if_pos c33] at H
                                  have c33b0 : (t250 == 0) = true := beq_iff_eq.mpr c33
                                  have c33b1 : (t250 != 0) = false := bne_eq_false_iff_eq.mpr c33
                                  clear c33
                                  (first | rw [c33b0] | (simp only [i64_w, i32_w]; rw [c33b0]) | skip)
                                  have H' := Aside0.mk H
                                  clear H
                                  go_wp2
                                  go_meet
                                  case rel => exact ⟨_, (true), (by first | rfl | (simp; done) | (simp [*]; done)), H', ⟨by have := HK1.out; have := HJ16.out; have := HJ25.out; first | omega | exact Nat.le_refl _⟩, ⟨by (with_reducible repeat (first | refine blk_drewN ?_ _ | refine blk_drew ?_ | refine blk_alloc ?_ _)); exact BK246.out⟩, ⟨by repeat (first | (with_reducible first | exact HB.out | apply below_alloc | apply pw_below_drewN | apply below_drew1 | refine below_set ?_ GE246.out) | exact HB.out)⟩⟩
                                · rw [if_neg c33] at H
                                  have c33b0 : (t250 == 0) = false := beq_eq_false_iff_ne.mpr c33
                                  have c33b1 : (t250 != 0) = true := bne_iff_ne.mpr c33
                                  (first | rw [c33b0] | (simp only [i64_w, i32_w]; rw [c33b0]) | skip)
                                  have H' := Aside0.mk H
                                  clear H
                                  go_wp2
                                  go_meet
                                  case rel => exact ⟨_, ((t249 == 10)), (by first | rfl | (simp; done) | (simp [*]; done)), H', ⟨by have := HK1.out; have := HJ16.out; have := HJ25.out; first | omega | exact Nat.le_refl _⟩, ⟨by (with_reducible repeat (first | refine blk_drewN ?_ _ | refine blk_drew ?_ | refine blk_alloc ?_ _)); exact BK246.out⟩, ⟨by repeat (first | (with_reducible first | exact HB.out | apply below_alloc | apply pw_below_drewN | apply below_drew1 | refine below_set ?_ GE246.out) | exact HB.out)⟩⟩
                              case rest =>
                                clear HC31; (try clear c1); (try clear p1); (try clear q1); (try clear hx1); (try clear c2); (try clear p2); (try clear c3); (try clear c4); (try clear c4b0); (try clear c5); (try clear c5b0); (try clear p6); (try clear q6); (try clear hx6); (try clear c8); (try clear c8b0); (try clear c9); (try clear c9b0); (try clear p10); (try clear q10); (try clear hx10); (try clear c11); (try clear c11b0); (try clear c11b1); (try clear c12); (try clear c12b0); (try clear c12b1); (try clear c13); (try clear c13b0); (try clear c13b1); (try clear p18); (try clear q18); (try clear hx18); (try clear c19); (try clear c19b0); (try clear c19b1); (try clear c20)
                                (try clear c23); (try clear c23b0); (try clear c26); (try clear c28); (try clear c28b0); (try clear c28b1); (try clear c29); (try clear c33); (try clear c33b0); (try clear c33b1); (try clear hcz14_0); (try clear hcz14_1); (try clear hcz14_2); (try clear hcz15_0); (try clear hcz15_1); (try clear hcz15_2); (try clear hcz16_0); (try clear hcz16_1); (try clear hcz16_2); (try clear hcz21_0); (try clear hcz21_1); (try clear hcz21_2); (try clear hcz25_0); (try clear hcz25_1); (try clear hcz25_2); (try clear hfz14_0); (try clear hfz14_1); (try clear hfz14_2); (try clear hfz15_0); (try clear hfz15_1); (try clear hfz15_2); (try clear hfz16_0)
                                (try clear hfz16_1); (try clear hfz16_2); (try clear hfz21_0); (try clear hfz21_1); (try clear hfz21_2); (try clear hfz25_0); (try clear hfz25_1); (try clear hfz25_2); (try clear p1); (try clear p10); (try clear p18); (try clear p2); (try clear p6); (try clear q1); (try clear q10); (try clear q18); (try clear q6); obtain ⟨kq, x84_30, rfl, HA, HJ30, BK246, HB⟩ := hcut
                                cases kq with
                                | zero => exact absurd HA.out (by simp [seicheref11_quoted.j3])
                                | succ kj30 =>
                                  have H := HA.out
                                  clear HA
                                  simp only [seicheref11_quoted.j3] at H
                                  by_cases c34 : x84_30 = true
                                  · subst c34
                                    have H1 : (some (7, 0, a1)) = some (r1, r2, r3) := by rw [if_pos rfl] at H; exact H
                                    clear H
                                    have H := H1
                                    clear H1
                                    simp only [Option.some.injEq, Prod.mk.injEq] at H
                                    obtain ⟨rfl, rfl, rfl⟩ := H
                                    have hcz35_0 : wc.cell? ⟨gb246, 0, none⟩ = some (.int .i64 x247000_1) := (blk_cell BK246.out 0).trans rfl
                                    have hcz35_1 : wc.cell? ⟨gb246, 1, none⟩ = some (.int .i64 x247001_1) := (blk_cell BK246.out 1).trans rfl
                                    have hcz35_2 : wc.cell? ⟨gb246, 2, none⟩ = some (.int .i64 x247002_1) := (blk_cell BK246.out 2).trans rfl
                                    have hfz35_0 := blk_frozen BK246.out 0; have hfz35_1 := blk_frozen BK246.out 1; have hfz35_2 := blk_frozen BK246.out 2
                                    repeat (first | go_values | go_skip | go_guarded | go_step | go_upon | go_in | (simp only [Int.not_lt, Int.not_le] at *; go_simp))
                                    refine bodyPost_ret (results_cell_row rfl _ _ gb246 41 #[.int .i64 7, .int .i64 0, .int .i64 a1] (0, 0) _ rfl (by (with_reducible repeat (first | refine blk_drewN ?_ _ | refine blk_drew ?_ | refine blk_alloc ?_ _)); refine blk_put (cs := #[.int .i64 7, .int .i64 0, .int .i64 x247002_1]) ?_ 2 _ rfl; (with_reducible repeat (first | refine blk_drewN ?_ _ | refine blk_drew ?_ | refine blk_alloc ?_ _)); refine blk_put (cs := #[.int .i64 7, .int .i64 x247001_1, .int .i64 x247002_1]) ?_ 1 _ rfl; (with_reducible repeat (first | refine blk_drewN ?_ _ | refine blk_drew ?_ | refine blk_alloc ?_ _)); refine blk_put (cs := #[.int .i64 x247000_1, .int .i64 x247001_1, .int .i64 x247002_1]) ?_ 0 _ rfl; (with_reducible repeat (first | refine blk_drewN ?_ _ | refine blk_drew ?_ | refine blk_alloc ?_ _)); exact BK246.out) Tryd.underlying41 rfl (by kernel_rfl)) rfl ?_
                                    exact ⟨by first | rfl | (simp [errW_none, errW_some] <;> rfl) | (simp [*, errW_none, errW_some] <;> rfl), by repeat (first | (with_reducible first | exact HB.out | apply below_alloc | apply pw_below_drewN | apply below_drew1 | refine below_set ?_ GE246.out) | exact HB.out)⟩
                                  · replace c34 := Bool.eq_false_iff.mpr c34
                                    subst c34
                                    have H1 : (if t249 < 0 then (some (7, 0, (wrap64 (x9_1 + t248)))) else (seicheref11_quoted.l0 kj30 a0 a1 a2 (bt a0 a1) ((bt a0 a1) == 96) (wrap64 ((wrap64 (x9_1 + t248)) + t250)))) = some (r1, r2, r3) := by rw [if_neg (show ¬ (false = true) by decide)] at H; exact H
                                    clear H
                                    have H := H1
                                    clear H1
                                    by_cases c36 : t249 < 0
                                    · rw [if_pos c36] at H
                                      have c36b0 : decide (t249 < 0) = true := decide_eq_true c36
                                      clear c36
                                      simp only [Option.some.injEq, Prod.mk.injEq] at H
                                      obtain ⟨rfl, rfl, rfl⟩ := H
                                      have hcz37_0 : wc.cell? ⟨gb246, 0, none⟩ = some (.int .i64 x247000_1) := (blk_cell BK246.out 0).trans rfl
                                      have hcz37_1 : wc.cell? ⟨gb246, 1, none⟩ = some (.int .i64 x247001_1) := (blk_cell BK246.out 1).trans rfl
                                      have hcz37_2 : wc.cell? ⟨gb246, 2, none⟩ = some (.int .i64 x247002_1) := (blk_cell BK246.out 2).trans rfl
                                      have hfz37_0 := blk_frozen BK246.out 0; have hfz37_1 := blk_frozen BK246.out 1; have hfz37_2 := blk_frozen BK246.out 2
                                      repeat (first | go_values | go_skip | go_guarded | go_step | go_upon | go_in | (simp only [Int.not_lt, Int.not_le] at *; go_simp))
                                      refine bodyPost_ret (results_cell_row rfl _ _ gb246 41 #[.int .i64 7, .int .i64 0, .int .i64 (wrap64 (x9_1 + t248))] (0, 0) _ rfl (by (with_reducible repeat (first | refine blk_drewN ?_ _ | refine blk_drew ?_ | refine blk_alloc ?_ _)); refine blk_put (cs := #[.int .i64 7, .int .i64 0, .int .i64 x247002_1]) ?_ 2 _ rfl; (with_reducible repeat (first | refine blk_drewN ?_ _ | refine blk_drew ?_ | refine blk_alloc ?_ _)); refine blk_put (cs := #[.int .i64 7, .int .i64 x247001_1, .int .i64 x247002_1]) ?_ 1 _ rfl; (with_reducible repeat (first | refine blk_drewN ?_ _ | refine blk_drew ?_ | refine blk_alloc ?_ _)); refine blk_put (cs := #[.int .i64 x247000_1, .int .i64 x247001_1, .int .i64 x247002_1]) ?_ 0 _ rfl; (with_reducible repeat (first | refine blk_drewN ?_ _ | refine blk_drew ?_ | refine blk_alloc ?_ _)); exact BK246.out) Tryd.underlying41 rfl (by kernel_rfl)) rfl ?_
                                      exact ⟨by first | rfl | (simp [errW_none, errW_some] <;> rfl) | (simp [*, errW_none, errW_some] <;> rfl), by repeat (first | (with_reducible first | exact HB.out | apply below_alloc | apply pw_below_drewN | apply below_drew1 | refine below_set ?_ GE246.out) | exact HB.out)⟩
                                    · rw [if_neg c36] at H
                                      have c36b0 : decide (t249 < 0) = false := decide_eq_false c36
                                      clear c36
                                      have H' := Aside0.mk H
                                      clear H
                                      go_wp2
                                      go_roundg kj30
                                      case measure => have := HK1.out; have := HJ16.out; have := HJ25.out; have := HJ30.out; omega
                                      case rel => exact ⟨(wrap64 ((wrap64 (x9_1 + t248)) + t250)), (x247000_1), (x247001_1), (x247002_1), (by first | rfl | (simp; done) | (simp [*]; done)), H', ⟨by have := HK1.out; have := HJ16.out; have := HJ25.out; have := HJ30.out; omega⟩, ⟨by (with_reducible repeat (first | refine blk_drewN ?_ _ | refine blk_drew ?_ | refine blk_alloc ?_ _)); exact BK246.out⟩, ⟨by repeat (first | (with_reducible first | exact HB.out | apply below_alloc | apply pw_below_drewN | apply below_drew1 | refine below_set ?_ GE246.out) | exact HB.out)⟩⟩
                            · replace c29 := Bool.eq_false_iff.mpr c29
                              subst c29
                              have H1 : (seicheref11_quoted.l0 kj25 a0 a1 a2 (bt a0 a1) ((bt a0 a1) == 96) (wrap64 (x9_1 + t248))) = some (r1, r2, r3) := by rw [if_neg (show ¬ (false = true) by decide)] at H; exact H
                              clear H
                              have H := H1
                              clear H1
                              have H' := Aside0.mk H
                              clear H
                              go_wp2
                              go_roundg kj25
                              case measure => have := HK1.out; have := HJ16.out; have := HJ25.out; omega
                              case rel => exact ⟨((wrap64 (x9_1 + t248))), (x247000_1), (x247001_1), (x247002_1), (by first | rfl | (simp; done) | (simp [*]; done)), H', ⟨by have := HK1.out; have := HJ16.out; have := HJ25.out; omega⟩, ⟨by (with_reducible repeat (first | refine blk_drewN ?_ _ | refine blk_drew ?_ | refine blk_alloc ?_ _)); exact BK246.out⟩, ⟨by repeat (first | (with_reducible first | exact HB.out | apply below_alloc | apply pw_below_drewN | apply below_drew1 | refine below_set ?_ GE246.out) | exact HB.out)⟩⟩
            · rw [if_neg c9] at H
              exact absurd H (by simp)
          · rw [if_neg c8] at H
            have c8b0 : decide (x9_1 < (a0.size : Int)) = false := decide_eq_false c8
            clear c8
            simp only [Option.some.injEq, Prod.mk.injEq] at H
            obtain ⟨rfl, rfl, rfl⟩ := H
            have hcz38_0 : wr.cell? ⟨gb246, 0, none⟩ = some (.int .i64 x247000_1) := (blk_cell BK246.out 0).trans rfl
            have hcz38_1 : wr.cell? ⟨gb246, 1, none⟩ = some (.int .i64 x247001_1) := (blk_cell BK246.out 1).trans rfl
            have hcz38_2 : wr.cell? ⟨gb246, 2, none⟩ = some (.int .i64 x247002_1) := (blk_cell BK246.out 2).trans rfl
            have hfz38_0 := blk_frozen BK246.out 0; have hfz38_1 := blk_frozen BK246.out 1; have hfz38_2 := blk_frozen BK246.out 2
            repeat (first | go_values | go_skip | go_guarded | go_step | go_upon | go_in | (simp only [Int.not_lt, Int.not_le] at *; go_simp))
            refine bodyPost_ret (results_cell_row rfl _ _ gb246 41 #[.int .i64 7, .int .i64 0, .int .i64 a1] (0, 0) _ rfl (by (with_reducible repeat (first | refine blk_drewN ?_ _ | refine blk_drew ?_ | refine blk_alloc ?_ _)); refine blk_put (cs := #[.int .i64 7, .int .i64 0, .int .i64 x247002_1]) ?_ 2 _ rfl; (with_reducible repeat (first | refine blk_drewN ?_ _ | refine blk_drew ?_ | refine blk_alloc ?_ _)); refine blk_put (cs := #[.int .i64 7, .int .i64 x247001_1, .int .i64 x247002_1]) ?_ 1 _ rfl; (with_reducible repeat (first | refine blk_drewN ?_ _ | refine blk_drew ?_ | refine blk_alloc ?_ _)); refine blk_put (cs := #[.int .i64 x247000_1, .int .i64 x247001_1, .int .i64 x247002_1]) ?_ 0 _ rfl; (with_reducible repeat (first | refine blk_drewN ?_ _ | refine blk_drew ?_ | refine blk_alloc ?_ _)); exact BK246.out) Tryd.underlying41 rfl (by kernel_rfl)) rfl ?_
            exact ⟨by first | rfl | (simp [errW_none, errW_some] <;> rfl) | (simp [*, errW_none, errW_some] <;> rfl), by repeat (first | (with_reducible first | exact HB.out | apply below_alloc | apply pw_below_drewN | apply below_drew1 | refine below_set ?_ GE246.out) | exact HB.out)⟩
    · rw [if_neg c5] at H
      exact absurd H (by simp)
  · rw [if_neg c4] at H
    exact absurd H (by simp)
def seicheref11_Signs.f  : Option (List ByteArray) := some (([(⟨#[43]⟩ : ByteArray), (⟨#[45]⟩ : ByteArray), (⟨#[42]⟩ : ByteArray), (⟨#[47]⟩ : ByteArray), (⟨#[37]⟩ : ByteArray), (⟨#[38]⟩ : ByteArray), (⟨#[124]⟩ : ByteArray), (⟨#[94]⟩ : ByteArray), (⟨#[60, 60]⟩ : ByteArray), (⟨#[62, 62]⟩ : ByteArray), (⟨#[38, 94]⟩ : ByteArray), (⟨#[43, 61]⟩ : ByteArray), (⟨#[45, 61]⟩ : ByteArray), (⟨#[42, 61]⟩ : ByteArray), (⟨#[47, 61]⟩ : ByteArray), (⟨#[37, 61]⟩ : ByteArray), (⟨#[38, 61]⟩ : ByteArray), (⟨#[124, 61]⟩ : ByteArray), (⟨#[94, 61]⟩ : ByteArray), (⟨#[60, 60, 61]⟩ : ByteArray), (⟨#[62, 62, 61]⟩ : ByteArray), (⟨#[38, 94, 61]⟩ : ByteArray), (⟨#[38, 38]⟩ : ByteArray), (⟨#[124, 124]⟩ : ByteArray), (⟨#[60, 45]⟩ : ByteArray), (⟨#[43, 43]⟩ : ByteArray), (⟨#[45, 45]⟩ : ByteArray), (⟨#[61, 61]⟩ : ByteArray), (⟨#[60]⟩ : ByteArray), (⟨#[62]⟩ : ByteArray), (⟨#[61]⟩ : ByteArray), (⟨#[33]⟩ : ByteArray), (⟨#[126]⟩ : ByteArray), (⟨#[33, 61]⟩ : ByteArray), (⟨#[60, 61]⟩ : ByteArray), (⟨#[62, 61]⟩ : ByteArray), (⟨#[58, 61]⟩ : ByteArray), (⟨#[46, 46, 46]⟩ : ByteArray), (⟨#[40]⟩ : ByteArray), (⟨#[41]⟩ : ByteArray), (⟨#[91]⟩ : ByteArray), (⟨#[93]⟩ : ByteArray), (⟨#[123]⟩ : ByteArray), (⟨#[125]⟩ : ByteArray), (⟨#[44]⟩ : ByteArray), (⟨#[46]⟩ : ByteArray), (⟨#[58]⟩ : ByteArray)] : List ByteArray))
set_option maxHeartbeats 8000000 in
set_option maxRecDepth 100000 in
theorem seicheref11_Signs.calls  (r : List ByteArray) (w : World) (h : seicheref11_Signs.f  = some r) :
    Calls Tryd.prog 34 #[] w fun e w' => ∃ v0_ : Value, e = .returned (v0_) ∧ Kd.R Kd.string 9 w' w.heap.size (fun _ => True) v0_ r ∧ Below w.heap.size w w' := by
  have HB := Aside0.mk (Below.refl w.heap.size w)
  have H : (some (([(⟨#[43]⟩ : ByteArray), (⟨#[45]⟩ : ByteArray), (⟨#[42]⟩ : ByteArray), (⟨#[47]⟩ : ByteArray), (⟨#[37]⟩ : ByteArray), (⟨#[38]⟩ : ByteArray), (⟨#[124]⟩ : ByteArray), (⟨#[94]⟩ : ByteArray), (⟨#[60, 60]⟩ : ByteArray), (⟨#[62, 62]⟩ : ByteArray), (⟨#[38, 94]⟩ : ByteArray), (⟨#[43, 61]⟩ : ByteArray), (⟨#[45, 61]⟩ : ByteArray), (⟨#[42, 61]⟩ : ByteArray), (⟨#[47, 61]⟩ : ByteArray), (⟨#[37, 61]⟩ : ByteArray), (⟨#[38, 61]⟩ : ByteArray), (⟨#[124, 61]⟩ : ByteArray), (⟨#[94, 61]⟩ : ByteArray), (⟨#[60, 60, 61]⟩ : ByteArray), (⟨#[62, 62, 61]⟩ : ByteArray), (⟨#[38, 94, 61]⟩ : ByteArray), (⟨#[38, 38]⟩ : ByteArray), (⟨#[124, 124]⟩ : ByteArray), (⟨#[60, 45]⟩ : ByteArray), (⟨#[43, 43]⟩ : ByteArray), (⟨#[45, 45]⟩ : ByteArray), (⟨#[61, 61]⟩ : ByteArray), (⟨#[60]⟩ : ByteArray), (⟨#[62]⟩ : ByteArray), (⟨#[61]⟩ : ByteArray), (⟨#[33]⟩ : ByteArray), (⟨#[126]⟩ : ByteArray), (⟨#[33, 61]⟩ : ByteArray), (⟨#[60, 61]⟩ : ByteArray), (⟨#[62, 61]⟩ : ByteArray), (⟨#[58, 61]⟩ : ByteArray), (⟨#[46, 46, 46]⟩ : ByteArray), (⟨#[40]⟩ : ByteArray), (⟨#[41]⟩ : ByteArray), (⟨#[91]⟩ : ByteArray), (⟨#[93]⟩ : ByteArray), (⟨#[123]⟩ : ByteArray), (⟨#[125]⟩ : ByteArray), (⟨#[44]⟩ : ByteArray), (⟨#[46]⟩ : ByteArray), (⟨#[58]⟩ : ByteArray)] : List ByteArray))) = some r := h
  clear h
  obtain ⟨y251, hy251⟩ : ∃ y_ : List ByteArray, y_ = (([(⟨#[43]⟩ : ByteArray), (⟨#[45]⟩ : ByteArray), (⟨#[42]⟩ : ByteArray), (⟨#[47]⟩ : ByteArray), (⟨#[37]⟩ : ByteArray), (⟨#[38]⟩ : ByteArray), (⟨#[124]⟩ : ByteArray), (⟨#[94]⟩ : ByteArray), (⟨#[60, 60]⟩ : ByteArray), (⟨#[62, 62]⟩ : ByteArray), (⟨#[38, 94]⟩ : ByteArray), (⟨#[43, 61]⟩ : ByteArray), (⟨#[45, 61]⟩ : ByteArray), (⟨#[42, 61]⟩ : ByteArray), (⟨#[47, 61]⟩ : ByteArray), (⟨#[37, 61]⟩ : ByteArray), (⟨#[38, 61]⟩ : ByteArray), (⟨#[124, 61]⟩ : ByteArray), (⟨#[94, 61]⟩ : ByteArray), (⟨#[60, 60, 61]⟩ : ByteArray), (⟨#[62, 62, 61]⟩ : ByteArray), (⟨#[38, 94, 61]⟩ : ByteArray), (⟨#[38, 38]⟩ : ByteArray), (⟨#[124, 124]⟩ : ByteArray), (⟨#[60, 45]⟩ : ByteArray), (⟨#[43, 43]⟩ : ByteArray), (⟨#[45, 45]⟩ : ByteArray), (⟨#[61, 61]⟩ : ByteArray), (⟨#[60]⟩ : ByteArray), (⟨#[62]⟩ : ByteArray), (⟨#[61]⟩ : ByteArray), (⟨#[33]⟩ : ByteArray), (⟨#[126]⟩ : ByteArray), (⟨#[33, 61]⟩ : ByteArray), (⟨#[60, 61]⟩ : ByteArray), (⟨#[62, 61]⟩ : ByteArray), (⟨#[58, 61]⟩ : ByteArray), (⟨#[46, 46, 46]⟩ : ByteArray), (⟨#[40]⟩ : ByteArray), (⟨#[41]⟩ : ByteArray), (⟨#[91]⟩ : ByteArray), (⟨#[93]⟩ : ByteArray), (⟨#[123]⟩ : ByteArray), (⟨#[125]⟩ : ByteArray), (⟨#[44]⟩ : ByteArray), (⟨#[46]⟩ : ByteArray), (⟨#[58]⟩ : ByteArray)] : List ByteArray)) := ⟨_, rfl⟩
  replace H : (some y251) = some r := by first | (rw [hy251]; with_reducible exact H) | (have H2_ := (Option.bind_some _ _).symm.trans H; rw [hy251]; with_reducible exact H2_) | (have H2_ := (Option.bind_some _ _).symm.trans H; with_reducible exact H2_) | with_reducible exact H | (rw [hy251]; exact H) | exact H
  have Ny251 := Aside0.mk hy251; clear hy251
  obtain rfl := Option.some.inj H
  go_enter Tryd.func34, Tryd.ntmps34
  go_wp2_with (first | ((with_reducible refine gate_dst (N := 1) rfl ?_); refine Kd.R_lit Kd.string _ 9 ?hg (N := 1) ?hd (xs := ([(⟨#[43]⟩ : ByteArray), (⟨#[45]⟩ : ByteArray), (⟨#[42]⟩ : ByteArray), (⟨#[47]⟩ : ByteArray), (⟨#[37]⟩ : ByteArray), (⟨#[38]⟩ : ByteArray), (⟨#[124]⟩ : ByteArray), (⟨#[94]⟩ : ByteArray), (⟨#[60, 60]⟩ : ByteArray), (⟨#[62, 62]⟩ : ByteArray), (⟨#[38, 94]⟩ : ByteArray), (⟨#[43, 61]⟩ : ByteArray), (⟨#[45, 61]⟩ : ByteArray), (⟨#[42, 61]⟩ : ByteArray), (⟨#[47, 61]⟩ : ByteArray), (⟨#[37, 61]⟩ : ByteArray), (⟨#[38, 61]⟩ : ByteArray), (⟨#[124, 61]⟩ : ByteArray), (⟨#[94, 61]⟩ : ByteArray), (⟨#[60, 60, 61]⟩ : ByteArray), (⟨#[62, 62, 61]⟩ : ByteArray), (⟨#[38, 94, 61]⟩ : ByteArray), (⟨#[38, 38]⟩ : ByteArray), (⟨#[124, 124]⟩ : ByteArray), (⟨#[60, 45]⟩ : ByteArray), (⟨#[43, 43]⟩ : ByteArray), (⟨#[45, 45]⟩ : ByteArray), (⟨#[61, 61]⟩ : ByteArray), (⟨#[60]⟩ : ByteArray), (⟨#[62]⟩ : ByteArray), (⟨#[61]⟩ : ByteArray), (⟨#[33]⟩ : ByteArray), (⟨#[126]⟩ : ByteArray), (⟨#[33, 61]⟩ : ByteArray), (⟨#[60, 61]⟩ : ByteArray), (⟨#[62, 61]⟩ : ByteArray), (⟨#[58, 61]⟩ : ByteArray), (⟨#[46, 46, 46]⟩ : ByteArray), (⟨#[40]⟩ : ByteArray), (⟨#[41]⟩ : ByteArray), (⟨#[91]⟩ : ByteArray), (⟨#[93]⟩ : ByteArray), (⟨#[123]⟩ : ByteArray), (⟨#[125]⟩ : ByteArray), (⟨#[44]⟩ : ByteArray), (⟨#[46]⟩ : ByteArray), (⟨#[58]⟩ : ByteArray)] : List ByteArray)) (inner := [.string (⟨#[43]⟩ : ByteArray), .string (⟨#[45]⟩ : ByteArray), .string (⟨#[42]⟩ : ByteArray), .string (⟨#[47]⟩ : ByteArray), .string (⟨#[37]⟩ : ByteArray), .string (⟨#[38]⟩ : ByteArray), .string (⟨#[124]⟩ : ByteArray), .string (⟨#[94]⟩ : ByteArray), .string (⟨#[60, 60]⟩ : ByteArray), .string (⟨#[62, 62]⟩ : ByteArray), .string (⟨#[38, 94]⟩ : ByteArray), .string (⟨#[43, 61]⟩ : ByteArray), .string (⟨#[45, 61]⟩ : ByteArray), .string (⟨#[42, 61]⟩ : ByteArray), .string (⟨#[47, 61]⟩ : ByteArray), .string (⟨#[37, 61]⟩ : ByteArray), .string (⟨#[38, 61]⟩ : ByteArray), .string (⟨#[124, 61]⟩ : ByteArray), .string (⟨#[94, 61]⟩ : ByteArray), .string (⟨#[60, 60, 61]⟩ : ByteArray), .string (⟨#[62, 62, 61]⟩ : ByteArray), .string (⟨#[38, 94, 61]⟩ : ByteArray), .string (⟨#[38, 38]⟩ : ByteArray), .string (⟨#[124, 124]⟩ : ByteArray), .string (⟨#[60, 45]⟩ : ByteArray), .string (⟨#[43, 43]⟩ : ByteArray), .string (⟨#[45, 45]⟩ : ByteArray), .string (⟨#[61, 61]⟩ : ByteArray), .string (⟨#[60]⟩ : ByteArray), .string (⟨#[62]⟩ : ByteArray), .string (⟨#[61]⟩ : ByteArray), .string (⟨#[33]⟩ : ByteArray), .string (⟨#[126]⟩ : ByteArray), .string (⟨#[33, 61]⟩ : ByteArray), .string (⟨#[60, 61]⟩ : ByteArray), .string (⟨#[62, 61]⟩ : ByteArray), .string (⟨#[58, 61]⟩ : ByteArray), .string (⟨#[46, 46, 46]⟩ : ByteArray), .string (⟨#[40]⟩ : ByteArray), .string (⟨#[41]⟩ : ByteArray), .string (⟨#[91]⟩ : ByteArray), .string (⟨#[93]⟩ : ByteArray), .string (⟨#[123]⟩ : ByteArray), .string (⟨#[125]⟩ : ByteArray), .string (⟨#[44]⟩ : ByteArray), .string (⟨#[46]⟩ : ByteArray), .string (⟨#[58]⟩ : ByteArray)]) (ok := fun _ => True) (okp := fun _ => True) ?hr ?hp (fun _ hk => hk) trivial (Below.refl _ _) (Nat.le_refl _) (by simp) ?_; (case hd => rfl); (case hg => rfl); (case hr => first | (go_simp; done) | (go_simp; rfl)); (case hp => exact (Reps.one (show Kd.M Kd.string _ _ _ (⟨#[43]⟩ : ByteArray) [.string (⟨#[43]⟩ : ByteArray)] from rfl) (Reps.one (show Kd.M Kd.string _ _ _ (⟨#[45]⟩ : ByteArray) [.string (⟨#[45]⟩ : ByteArray)] from rfl) (Reps.one (show Kd.M Kd.string _ _ _ (⟨#[42]⟩ : ByteArray) [.string (⟨#[42]⟩ : ByteArray)] from rfl) (Reps.one (show Kd.M Kd.string _ _ _ (⟨#[47]⟩ : ByteArray) [.string (⟨#[47]⟩ : ByteArray)] from rfl) (Reps.one (show Kd.M Kd.string _ _ _ (⟨#[37]⟩ : ByteArray) [.string (⟨#[37]⟩ : ByteArray)] from rfl) (Reps.one (show Kd.M Kd.string _ _ _ (⟨#[38]⟩ : ByteArray) [.string (⟨#[38]⟩ : ByteArray)] from rfl) (Reps.one (show Kd.M Kd.string _ _ _ (⟨#[124]⟩ : ByteArray) [.string (⟨#[124]⟩ : ByteArray)] from rfl) (Reps.one (show Kd.M Kd.string _ _ _ (⟨#[94]⟩ : ByteArray) [.string (⟨#[94]⟩ : ByteArray)] from rfl) (Reps.one (show Kd.M Kd.string _ _ _ (⟨#[60, 60]⟩ : ByteArray) [.string (⟨#[60, 60]⟩ : ByteArray)] from rfl) (Reps.one (show Kd.M Kd.string _ _ _ (⟨#[62, 62]⟩ : ByteArray) [.string (⟨#[62, 62]⟩ : ByteArray)] from rfl) (Reps.one (show Kd.M Kd.string _ _ _ (⟨#[38, 94]⟩ : ByteArray) [.string (⟨#[38, 94]⟩ : ByteArray)] from rfl) (Reps.one (show Kd.M Kd.string _ _ _ (⟨#[43, 61]⟩ : ByteArray) [.string (⟨#[43, 61]⟩ : ByteArray)] from rfl) (Reps.one (show Kd.M Kd.string _ _ _ (⟨#[45, 61]⟩ : ByteArray) [.string (⟨#[45, 61]⟩ : ByteArray)] from rfl) (Reps.one (show Kd.M Kd.string _ _ _ (⟨#[42, 61]⟩ : ByteArray) [.string (⟨#[42, 61]⟩ : ByteArray)] from rfl) (Reps.one (show Kd.M Kd.string _ _ _ (⟨#[47, 61]⟩ : ByteArray) [.string (⟨#[47, 61]⟩ : ByteArray)] from rfl) (Reps.one (show Kd.M Kd.string _ _ _ (⟨#[37, 61]⟩ : ByteArray) [.string (⟨#[37, 61]⟩ : ByteArray)] from rfl) (Reps.one (show Kd.M Kd.string _ _ _ (⟨#[38, 61]⟩ : ByteArray) [.string (⟨#[38, 61]⟩ : ByteArray)] from rfl) (Reps.one (show Kd.M Kd.string _ _ _ (⟨#[124, 61]⟩ : ByteArray) [.string (⟨#[124, 61]⟩ : ByteArray)] from rfl) (Reps.one (show Kd.M Kd.string _ _ _ (⟨#[94, 61]⟩ : ByteArray) [.string (⟨#[94, 61]⟩ : ByteArray)] from rfl) (Reps.one (show Kd.M Kd.string _ _ _ (⟨#[60, 60, 61]⟩ : ByteArray) [.string (⟨#[60, 60, 61]⟩ : ByteArray)] from rfl) (Reps.one (show Kd.M Kd.string _ _ _ (⟨#[62, 62, 61]⟩ : ByteArray) [.string (⟨#[62, 62, 61]⟩ : ByteArray)] from rfl) (Reps.one (show Kd.M Kd.string _ _ _ (⟨#[38, 94, 61]⟩ : ByteArray) [.string (⟨#[38, 94, 61]⟩ : ByteArray)] from rfl) (Reps.one (show Kd.M Kd.string _ _ _ (⟨#[38, 38]⟩ : ByteArray) [.string (⟨#[38, 38]⟩ : ByteArray)] from rfl) (Reps.one (show Kd.M Kd.string _ _ _ (⟨#[124, 124]⟩ : ByteArray) [.string (⟨#[124, 124]⟩ : ByteArray)] from rfl) (Reps.one (show Kd.M Kd.string _ _ _ (⟨#[60, 45]⟩ : ByteArray) [.string (⟨#[60, 45]⟩ : ByteArray)] from rfl) (Reps.one (show Kd.M Kd.string _ _ _ (⟨#[43, 43]⟩ : ByteArray) [.string (⟨#[43, 43]⟩ : ByteArray)] from rfl) (Reps.one (show Kd.M Kd.string _ _ _ (⟨#[45, 45]⟩ : ByteArray) [.string (⟨#[45, 45]⟩ : ByteArray)] from rfl) (Reps.one (show Kd.M Kd.string _ _ _ (⟨#[61, 61]⟩ : ByteArray) [.string (⟨#[61, 61]⟩ : ByteArray)] from rfl) (Reps.one (show Kd.M Kd.string _ _ _ (⟨#[60]⟩ : ByteArray) [.string (⟨#[60]⟩ : ByteArray)] from rfl) (Reps.one (show Kd.M Kd.string _ _ _ (⟨#[62]⟩ : ByteArray) [.string (⟨#[62]⟩ : ByteArray)] from rfl) (Reps.one (show Kd.M Kd.string _ _ _ (⟨#[61]⟩ : ByteArray) [.string (⟨#[61]⟩ : ByteArray)] from rfl) (Reps.one (show Kd.M Kd.string _ _ _ (⟨#[33]⟩ : ByteArray) [.string (⟨#[33]⟩ : ByteArray)] from rfl) (Reps.one (show Kd.M Kd.string _ _ _ (⟨#[126]⟩ : ByteArray) [.string (⟨#[126]⟩ : ByteArray)] from rfl) (Reps.one (show Kd.M Kd.string _ _ _ (⟨#[33, 61]⟩ : ByteArray) [.string (⟨#[33, 61]⟩ : ByteArray)] from rfl) (Reps.one (show Kd.M Kd.string _ _ _ (⟨#[60, 61]⟩ : ByteArray) [.string (⟨#[60, 61]⟩ : ByteArray)] from rfl) (Reps.one (show Kd.M Kd.string _ _ _ (⟨#[62, 61]⟩ : ByteArray) [.string (⟨#[62, 61]⟩ : ByteArray)] from rfl) (Reps.one (show Kd.M Kd.string _ _ _ (⟨#[58, 61]⟩ : ByteArray) [.string (⟨#[58, 61]⟩ : ByteArray)] from rfl) (Reps.one (show Kd.M Kd.string _ _ _ (⟨#[46, 46, 46]⟩ : ByteArray) [.string (⟨#[46, 46, 46]⟩ : ByteArray)] from rfl) (Reps.one (show Kd.M Kd.string _ _ _ (⟨#[40]⟩ : ByteArray) [.string (⟨#[40]⟩ : ByteArray)] from rfl) (Reps.one (show Kd.M Kd.string _ _ _ (⟨#[41]⟩ : ByteArray) [.string (⟨#[41]⟩ : ByteArray)] from rfl) (Reps.one (show Kd.M Kd.string _ _ _ (⟨#[91]⟩ : ByteArray) [.string (⟨#[91]⟩ : ByteArray)] from rfl) (Reps.one (show Kd.M Kd.string _ _ _ (⟨#[93]⟩ : ByteArray) [.string (⟨#[93]⟩ : ByteArray)] from rfl) (Reps.one (show Kd.M Kd.string _ _ _ (⟨#[123]⟩ : ByteArray) [.string (⟨#[123]⟩ : ByteArray)] from rfl) (Reps.one (show Kd.M Kd.string _ _ _ (⟨#[125]⟩ : ByteArray) [.string (⟨#[125]⟩ : ByteArray)] from rfl) (Reps.one (show Kd.M Kd.string _ _ _ (⟨#[44]⟩ : ByteArray) [.string (⟨#[44]⟩ : ByteArray)] from rfl) (Reps.one (show Kd.M Kd.string _ _ _ (⟨#[46]⟩ : ByteArray) [.string (⟨#[46]⟩ : ByteArray)] from rfl) (Reps.one (show Kd.M Kd.string _ _ _ (⟨#[58]⟩ : ByteArray) [.string (⟨#[58]⟩ : ByteArray)] from rfl) (Reps.none _ _))))))))))))))))))))))))))))))))))))))))))))))))); intro v252 w1 ho2 hb hg_ hnew_; clear hg_ hnew_; (first | rw [← Ny251.out] at ho2 | (simp only [Int.reduceToNat] at ho2; rw [← Ny251.out] at ho2)); have n0_ := Aside0.mk (Kd.R_lower ho2 (below_size (by repeat (first | (with_reducible first | exact HB.out | apply below_alloc | apply pw_below_drewN | apply below_drew1) | exact HB.out)))); have n1_ := Aside0.mk (below_step (by repeat (first | (with_reducible first | exact HB.out | apply below_alloc | apply pw_below_drewN | apply below_drew1) | exact HB.out)) hb); clear HB; have HO253 := n0_; have HB := n1_; clear n0_ n1_; clear hb ho2))
  go_ret
  exact ⟨_, by first | rfl | (simp [errW_none, errW_some] <;> rfl) | (simp [*, errW_none, errW_some] <;> rfl), by (with_reducible repeat (first | apply Kd.R_alloc | apply Kd.R_drewN | apply Kd.R_drew)); exact HO253.out, by repeat (first | (with_reducible first | exact HB.out | apply below_alloc | apply pw_below_drewN | apply below_drew1) | exact HB.out)⟩
end Go.Proofs.YtfolmcfcmonkhaaDoor.PAll

