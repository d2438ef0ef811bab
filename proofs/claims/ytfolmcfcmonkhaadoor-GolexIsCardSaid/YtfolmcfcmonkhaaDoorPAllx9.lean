-- Written by a program of this session (a changed scratch copy of a tool of the kit); not a print of the kit's own.
import Derived.Test.YtfolmcfcmonkhaaDoorPAllx0
import Derived.Test.YtfolmcfcmonkhaaDoorPAllx8
namespace Go.Proofs.YtfolmcfcmonkhaaDoor.PAll
open Go.RowKit Go.Proofs.YtfolmcfcmonkhaaDoorW.PrintWords Go.Proofs.YtfolmcfcmonkhaaDoorW.PrintLast Go.Proofs.YtfolmcfcmonkhaaDoorW.PrintMore Go.Proofs.YtfolmcfcmonkhaaDoorMy Go.Proofs.YtfolmcfcmonkhaaDoor
attribute [local go_sem] max2_int min2_int max_two min_two max_three min_three max_four min_four   -- for this text's walks alone
set_option linter.unusedVariables false
set_option linter.unusedSimpArgs false

def seicheref11_begins.f (a0 : ByteArray) (a1 : Int) (a2 : ByteArray) : Option (Bool) := if a1 ≥ 0 then (if a1 ≤ (wrap64 ((a0.size : Int) - (a2.size : Int))) then (if 0 ≤ a1 then (if a1 ≤ (wrap64 (a1 + (a2.size : Int))) then (if (wrap64 (a1 + (a2.size : Int))) ≤ (a0.size : Int) then (some ((a0.extract (a1 : Int).toNat ((wrap64 (a1 + (a2.size : Int))) : Int).toNat).toList == a2.toList)) else (none)) else (none)) else (none)) else (some false)) else (some false)
set_option maxHeartbeats 8000000 in
set_option maxRecDepth 100000 in
theorem seicheref11_begins.calls (a0 : ByteArray) (a1 : Int) (a2 : ByteArray) (r : Bool) (w : World) (h : seicheref11_begins.f a0 a1 a2 = some r) :
    Calls Tryd.prog 27 #[.string a0, .int .i64 a1, .string a2] w fun e w' => e = .returned (.bool r) ∧ Drawn0 w w' := by
  have H : (if a1 ≥ 0 then (if a1 ≤ (wrap64 ((a0.size : Int) - (a2.size : Int))) then (if 0 ≤ a1 then (if a1 ≤ (wrap64 (a1 + (a2.size : Int))) then (if (wrap64 (a1 + (a2.size : Int))) ≤ (a0.size : Int) then (some ((a0.extract (a1 : Int).toNat ((wrap64 (a1 + (a2.size : Int))) : Int).toNat).toList == a2.toList)) else (none)) else (none)) else (none)) else (some false)) else (some false)) = some r := h
  clear h
  by_cases c4 : a1 ≥ 0
  · rw [if_pos c4] at H
    have c4b0 : decide (0 ≤ a1) = true := decide_eq_true c4
    clear c4
    by_cases c5 : a1 ≤ (wrap64 ((a0.size : Int) - (a2.size : Int)))
    · rw [if_pos c5] at H
      have c5b0 : decide (a1 ≤ (wrap64 ((a0.size : Int) - (a2.size : Int)))) = true := decide_eq_true c5
      clear c5
      by_cases c6 : 0 ≤ a1
      · rw [if_pos c6] at H
        have c6b0 := eq_true c6
        have c6b1 : decide (0 ≤ a1) = true := decide_eq_true c6
        clear c6
        by_cases c7 : a1 ≤ (wrap64 (a1 + (a2.size : Int)))
        · rw [if_pos c7] at H
          have c7b0 := eq_true c7
          have c7b1 : decide (a1 ≤ (wrap64 (a1 + (a2.size : Int)))) = true := decide_eq_true c7
          by_cases c8 : (wrap64 (a1 + (a2.size : Int))) ≤ (a0.size : Int)
          · rw [if_pos c8] at H
            have c8b0 := eq_true c8
            have c8b1 : decide ((wrap64 (a1 + (a2.size : Int))) ≤ (a0.size : Int)) = true := decide_eq_true c8
            obtain rfl := Option.some.inj H
            go_enter Tryd.func27, Tryd.ntmps27
            go_wp2
            go_ret
            exact ⟨by first | rfl | (simp; done) | (simp [*]; done), by repeat (first | exact Drawn0.refl _ | apply Drawn0.step)⟩
          · rw [if_neg c8] at H
            exact absurd H (by simp)
        · rw [if_neg c7] at H
          exact absurd H (by simp)
      · rw [if_neg c6] at H
        exact absurd H (by simp)
    · rw [if_neg c5] at H
      have c5b0 : decide (a1 ≤ (wrap64 ((a0.size : Int) - (a2.size : Int)))) = false := decide_eq_false c5
      clear c5
      obtain rfl := Option.some.inj H
      go_enter Tryd.func27, Tryd.ntmps27
      go_wp2
      go_ret
      exact ⟨by first | rfl | (simp; done) | (simp [*]; done), by repeat (first | exact Drawn0.refl _ | apply Drawn0.step)⟩
  · rw [if_neg c4] at H
    have c4b0 : decide (0 ≤ a1) = false := decide_eq_false c4
    clear c4
    obtain rfl := Option.some.inj H
    go_enter Tryd.func27, Tryd.ntmps27
    go_wp2
    go_ret
    exact ⟨by first | rfl | (simp; done) | (simp [*]; done), by repeat (first | exact Drawn0.refl _ | apply Drawn0.step)⟩
mutual
def seicheref11_comment.l0 : Nat → ByteArray → Int → Bool → Bool → Int → Option (Int × Int × Int)
  | 0, _, _, _, _, _ => none
  | k + 1, x0, x1, x5, x6, x7 => if x7 < (x0.size : Int) then (if x5 = true then (if 0 ≤ x7 then (seicheref11_comment.j1 k x0 x1 x5 x6 x7 ((bt x0 x7) == 10)) else (none)) else (seicheref11_comment.j1 k x0 x1 x5 x6 x7 false)) else (if x5 = true then (some ((-3), wrap64 (x7 - x1), 0)) else (some (7, 0, x1)))
def seicheref11_comment.j1 : Nat → ByteArray → Int → Bool → Bool → Int → Bool → Option (Int × Int × Int)
  | 0, _, _, _, _, _, _ => none
  | k + 1, x0, x1, x5, x6, x7, x27 => if x27 = true then (if x5 = true then (some ((-3), wrap64 (x7 - x1), 0)) else (some (7, 0, x1))) else (if x5 = true then (seicheref11_comment.j2 k x0 x1 x5 x6 x7 false) else (if x7 ≥ (wrap64 (x1 + 2)) then ((seicheref11_begins.f x0 x7 (⟨#[42, 47]⟩ : ByteArray)).bind fun t235 => (seicheref11_comment.j2 k x0 x1 x5 x6 x7 t235)) else (seicheref11_comment.j2 k x0 x1 x5 x6 x7 false)))
def seicheref11_comment.j2 : Nat → ByteArray → Int → Bool → Bool → Int → Bool → Option (Int × Int × Int)
  | 0, _, _, _, _, _, _ => none
  | k + 1, x0, x1, x5, x6, x7, x40 => if x40 = true then (if x6 = true then (some ((-4), wrap64 ((wrap64 (x7 + 2)) - x1), 0)) else (some ((-3), wrap64 ((wrap64 (x7 + 2)) - x1), 0))) else ((seicheref10_Rune.f k x0 x7).bind fun bt236 => (if bt236.1 < 0 then (some (7, 0, x7)) else (if x6 = true then (seicheref11_comment.l0 k x0 x1 x5 true (wrap64 (x7 + bt236.2))) else (seicheref11_comment.l0 k x0 x1 x5 (bt236.1 == 10) (wrap64 (x7 + bt236.2))))))
end
def seicheref11_comment.f (k : Nat) (a0 : ByteArray) (a1 : Int) : Option (Int × Int × Int) := if 0 ≤ (wrap64 (a1 + 1)) then (if (wrap64 (a1 + 1)) < (a0.size : Int) then (seicheref11_comment.l0 k a0 a1 ((bt a0 (wrap64 (a1 + 1))) == 47) false a1) else (none)) else (none)
set_option maxHeartbeats 8000000 in
set_option maxRecDepth 100000 in
theorem seicheref11_comment.calls (k : Nat) (a0 : ByteArray) (a1 : Int) (r1 : Int) (r2 : Int) (r3 : Int) (w : World) (h : seicheref11_comment.f k a0 a1 = some (r1, r2, r3)) :
    Calls Tryd.prog 28 #[.string a0, .int .i64 a1] w fun e w' => e = .returned (.agg #[.int .i64 r1, .int .i64 r2, .int .i64 r3]) ∧ Below w.heap.size w w' := by
  have hu41 := Tryd.underlying41
  have HB := Aside0.mk (Below.refl w.heap.size w)
  have H : (if 0 ≤ (wrap64 (a1 + 1)) then (if (wrap64 (a1 + 1)) < (a0.size : Int) then (seicheref11_comment.l0 k a0 a1 ((bt a0 (wrap64 (a1 + 1))) == 47) false a1) else (none)) else (none)) = some (r1, r2, r3) := h
  clear h
  obtain ⟨ji3, hji3⟩ : ∃ j_ : Int, (wrap64 (a1 + 1)) = j_ := ⟨_, rfl⟩
  replace H : (if 0 ≤ (ji3) then (if (ji3) < (a0.size : Int) then (seicheref11_comment.l0 k a0 a1 ((bt a0 (ji3)) == 47) false a1) else (none)) else (none)) = some (r1, r2, r3) := by first | (rw [hji3] at H; exact H) | (simp only [hji3] at H ⊢; exact H)
  have hji3w : (IntKind.i64.wrap (a1 + 1)) = ji3 := (i64_w _).trans hji3
  by_cases c4 : 0 ≤ (ji3)
  · rw [if_pos c4] at H
    have c4b0 : decide (0 ≤ (ji3)) = true := decide_eq_true c4
    clear c4
    by_cases c5 : (ji3) < (a0.size : Int)
    · rw [if_pos c5] at H
      have c5b0 : decide ((ji3) < (a0.size : Int)) = true := decide_eq_true c5
      clear c5
      have H' := Aside0.mk H
      clear H
      go_enter Tryd.func28, Tryd.ntmps28
      go_wp2_with (first | ((with_reducible refine gate_dst (N := 4) rfl ?_); refine box_event ?hg (N := 4) ?hd (cs := #[.int .i64 0, .int .i64 0, .int .i64 0]) (t := 41) ?hr ?_; (case hd => rfl); (case hg => rfl); (case hr => first | (go_simp; done) | (go_simp; rfl)); intro gb234 hg w7 hbox hb; have n0_ := Aside0.mk (below_step (by repeat (first | (with_reducible first | exact HB.out | apply below_alloc | apply pw_below_drewN | apply below_drew1) | exact HB.out)) hb); have n1_ := Aside0.mk (hbox); have n2_ := Aside0.mk ((by rw [hg]; exact (below_size (by repeat (first | (with_reducible first | exact HB.out | apply below_alloc | apply pw_below_drewN | apply below_drew1) | exact HB.out))) : w.heap.size ≤ gb234)); have n3_ := Aside0.mk ((by rw [hg]; exact (below_size (by repeat (first | (with_reducible first | exact HB.out | apply below_alloc | apply pw_below_drewN | apply below_drew1) | exact HB.out))) : w.heap.size ≤ gb234)); clear HB; have HB := n0_; have BK234 := n1_; have GW234 := n2_; have GE234 := n3_; clear n0_ n1_ n2_ n3_; clear hb hbox hg; have p6 : 0 ≤ ((ji3) : Int) := of_decide_eq_true (by first | (with_reducible assumption) | assumption); have q6 : (ji3) < (a0.size : Int) := of_decide_eq_true (by first | (with_reducible assumption) | assumption); have hx6 := bt_at a0 (ji3); replace p6 := eq_true p6; replace q6 := eq_true q6))
      generalize hlb_ : ((bt a0 (ji3)) == 47) = lb_ at H' ⊢
      go_loopg [6, 7] k (fun kq v6 v7 w' => ∃ (x6_1 : Bool) (x7_1 : Int) (x235000_1 : Int) (x235001_1 : Int) (x235002_1 : Int), v6 = .bool x6_1 ∧ v7 = .int .i64 x7_1 ∧ Aside0 (seicheref11_comment.l0 kq a0 a1 lb_ x6_1 x7_1 = some (r1, r2, r3)) ∧ Aside0 (kq ≤ k) ∧ Aside0 (w'.heap[gb234]? = some (.cells #[.int .i64 x235000_1, .int .i64 x235001_1, .int .i64 x235002_1] 41 (0, 0))) ∧ Aside0 (Below w.heap.size w w'))
      case atStart => exact ⟨(false), (a1), (0), (0), (0), (by first | rfl | (simp; done) | (simp [*]; done)), (by first | rfl | (simp; done) | (simp [*]; done)), H', ⟨Nat.le_refl _⟩, ⟨by (with_reducible repeat (first | refine blk_drewN ?_ _ | refine blk_drew ?_ | refine blk_alloc ?_ _)); exact BK234.out⟩, ⟨by repeat (first | (with_reducible first | exact HB.out | apply below_alloc | apply pw_below_drewN | apply below_drew1 | refine below_set ?_ GE234.out) | exact HB.out)⟩⟩
      case round =>
        clear H'
        (try clear c2); (try clear p2); (try clear c4); (try clear c4b0); (try clear c5); (try clear c5b0); (try clear p6); (try clear q6); (try clear hx6); (try clear p6); (try clear q6); obtain ⟨x6_1, x7_1, x235000_1, x235001_1, x235002_1, rfl, rfl, HA, HK1, BK234, HB⟩ := hrel
        cases gk with
        | zero => exact absurd HA.out (by simp [seicheref11_comment.l0])
        | succ k1 =>
          have H := HA.out
          clear HA
          simp only [seicheref11_comment.l0] at H
          by_cases c8 : x7_1 < (a0.size : Int)
          · rw [if_pos c8] at H
            have c8b0 : decide (x7_1 < (a0.size : Int)) = true := decide_eq_true c8
            clear c8; have HC9 := Aside0.mk H; clear H
            go_upto_region 5 with (fail)
            go_cut [27] (fun v27 wc => ∃ (kq : Nat) (x27_8 : Bool), v27 = .bool x27_8 ∧ Aside0 (seicheref11_comment.j1 kq a0 a1 lb_ x6_1 x7_1 x27_8 = some (r1, r2, r3)) ∧ Aside0 (kq ≤ k1) ∧ Aside0 (wc.heap[gb234]? = some (.cells #[.int .i64 x235000_1, .int .i64 x235001_1, .int .i64 x235002_1] 41 (0, 0))) ∧ Aside0 (Below w.heap.size w wc))
            case first =>
              have H := HC9.out
              clear HC9
              by_cases c10 : lb_ = true
              · subst c10
                rw [if_pos rfl] at H
                
                by_cases c11 : 0 ≤ x7_1
                · rw [if_pos c11] at H
                  have c11b0 : decide (0 ≤ x7_1) = true := decide_eq_true c11
                  clear c11
                  have H' := Aside0.mk H
                  clear H
                  have p12 : 0 ≤ (x7_1 : Int) := of_decide_eq_true (by first | (with_reducible assumption) | assumption)
                  have q12 : x7_1 < (a0.size : Int) := of_decide_eq_true (by first | (with_reducible assumption) | assumption)
                  have hx12 := bt_at a0 x7_1
                  replace p12 := eq_true p12; replace q12 := eq_true q12
                  go_wp2
                  go_meet
                  case rel => exact ⟨_, (((bt a0 x7_1) == 10)), (by first | rfl | (simp; done) | (simp [*]; done)), H', ⟨by have := HK1.out; first | omega | exact Nat.le_refl _⟩, ⟨by (with_reducible repeat (first | refine blk_drewN ?_ _ | refine blk_drew ?_ | refine blk_alloc ?_ _)); exact BK234.out⟩, ⟨by repeat (first | (with_reducible first | exact HB.out | apply below_alloc | apply pw_below_drewN | apply below_drew1 | refine below_set ?_ GE234.out) | exact HB.out)⟩⟩
                · rw [if_neg c11] at H
                  exact absurd H (by simp)
              · replace c10 := Bool.eq_false_iff.mpr c10
                subst c10
                rw [if_neg (show ¬ (false = true) by decide)] at H
                
                have H' := Aside0.mk H
                clear H
                go_wp2
                go_meet
                case rel => exact ⟨_, (false), (by first | rfl | (simp; done) | (simp [*]; done)), H', ⟨by have := HK1.out; first | omega | exact Nat.le_refl _⟩, ⟨by (with_reducible repeat (first | refine blk_drewN ?_ _ | refine blk_drew ?_ | refine blk_alloc ?_ _)); exact BK234.out⟩, ⟨by repeat (first | (with_reducible first | exact HB.out | apply below_alloc | apply pw_below_drewN | apply below_drew1 | refine below_set ?_ GE234.out) | exact HB.out)⟩⟩
            case rest =>
              clear HC9; (try clear c1); (try clear p1); (try clear q1); (try clear hx1); (try clear c2); (try clear p2); (try clear c4); (try clear c4b0); (try clear c5); (try clear c5b0); (try clear p6); (try clear q6); (try clear hx6); (try clear c8); (try clear c8b0); (try clear c10); (try clear c10b0); (try clear c10b1); (try clear c10b2); (try clear c11); (try clear c11b0); (try clear p12); (try clear q12); (try clear hx12); (try clear p12); (try clear p2); (try clear p6); (try clear q12); (try clear q6); obtain ⟨kq, x27_8, rfl, HA, HJ8, BK234, HB⟩ := hcut
              cases kq with
              | zero => exact absurd HA.out (by simp [seicheref11_comment.j1])
              | succ kj8 =>
                have H := HA.out
                clear HA
                simp only [seicheref11_comment.j1] at H
                by_cases c13 : x27_8 = true
                · subst c13
                  have H1 : (if lb_ = true then (some ((-3), wrap64 (x7_1 - a1), 0)) else (some (7, 0, a1))) = some (r1, r2, r3) := by rw [if_pos rfl] at H; exact H
                  clear H
                  have H := H1
                  clear H1
                  by_cases c14 : lb_ = true
                  · subst c14
                    rw [if_pos rfl] at H
                    
                    simp only [Option.some.injEq, Prod.mk.injEq] at H
                    obtain ⟨rfl, rfl, rfl⟩ := H
                    have hcz15_0 : wc.cell? ⟨gb234, 0, none⟩ = some (.int .i64 x235000_1) := (blk_cell BK234.out 0).trans rfl
                    have hcz15_1 : wc.cell? ⟨gb234, 1, none⟩ = some (.int .i64 x235001_1) := (blk_cell BK234.out 1).trans rfl
                    have hcz15_2 : wc.cell? ⟨gb234, 2, none⟩ = some (.int .i64 x235002_1) := (blk_cell BK234.out 2).trans rfl
                    have hfz15_0 := blk_frozen BK234.out 0; have hfz15_1 := blk_frozen BK234.out 1; have hfz15_2 := blk_frozen BK234.out 2
                    repeat (first | go_values | go_skip | go_guarded | go_step | go_upon | go_in | (simp only [Int.not_lt, Int.not_le] at *; go_simp))
                    refine bodyPost_ret (results_cell_row rfl _ _ gb234 41 #[.int .i64 (-3), .int .i64 (wrap64 (x7_1 - a1)), .int .i64 0] (0, 0) _ rfl (by (with_reducible repeat (first | refine blk_drewN ?_ _ | refine blk_drew ?_ | refine blk_alloc ?_ _)); refine blk_put (cs := #[.int .i64 (-3), .int .i64 (wrap64 (x7_1 - a1)), .int .i64 x235002_1]) ?_ 2 _ rfl; (with_reducible repeat (first | refine blk_drewN ?_ _ | refine blk_drew ?_ | refine blk_alloc ?_ _)); refine blk_put (cs := #[.int .i64 (-3), .int .i64 x235001_1, .int .i64 x235002_1]) ?_ 1 _ rfl; (with_reducible repeat (first | refine blk_drewN ?_ _ | refine blk_drew ?_ | refine blk_alloc ?_ _)); refine blk_put (cs := #[.int .i64 x235000_1, .int .i64 x235001_1, .int .i64 x235002_1]) ?_ 0 _ rfl; (with_reducible repeat (first | refine blk_drewN ?_ _ | refine blk_drew ?_ | refine blk_alloc ?_ _)); exact BK234.out) Tryd.underlying41 rfl (by kernel_rfl)) rfl ?_
                    exact ⟨by first | rfl | (simp [errW_none, errW_some] <;> rfl) | (simp only [← hji3]; first | rfl | (simp [errW_none, errW_some] <;> rfl)) | (simp [*, errW_none, errW_some] <;> rfl), by repeat (first | (with_reducible first | exact HB.out | apply below_alloc | apply pw_below_drewN | apply below_drew1 | refine below_set ?_ GE234.out) | exact HB.out)⟩
                  · replace c14 := Bool.eq_false_iff.mpr c14
                    subst c14
                    rw [if_neg (show ¬ (false = true) by decide)] at H
                    
                    simp only [Option.some.injEq, Prod.mk.injEq] at H
                    obtain ⟨rfl, rfl, rfl⟩ := H
                    have hcz16_0 : wc.cell? ⟨gb234, 0, none⟩ = some (.int .i64 x235000_1) := (blk_cell BK234.out 0).trans rfl
                    have hcz16_1 : wc.cell? ⟨gb234, 1, none⟩ = some (.int .i64 x235001_1) := (blk_cell BK234.out 1).trans rfl
                    have hcz16_2 : wc.cell? ⟨gb234, 2, none⟩ = some (.int .i64 x235002_1) := (blk_cell BK234.out 2).trans rfl
                    have hfz16_0 := blk_frozen BK234.out 0; have hfz16_1 := blk_frozen BK234.out 1; have hfz16_2 := blk_frozen BK234.out 2
                    repeat (first | go_values | go_skip | go_guarded | go_step | go_upon | go_in | (simp only [Int.not_lt, Int.not_le] at *; go_simp))
                    refine bodyPost_ret (results_cell_row rfl _ _ gb234 41 #[.int .i64 7, .int .i64 0, .int .i64 a1] (0, 0) _ rfl (by (with_reducible repeat (first | refine blk_drewN ?_ _ | refine blk_drew ?_ | refine blk_alloc ?_ _)); refine blk_put (cs := #[.int .i64 7, .int .i64 0, .int .i64 x235002_1]) ?_ 2 _ rfl; (with_reducible repeat (first | refine blk_drewN ?_ _ | refine blk_drew ?_ | refine blk_alloc ?_ _)); refine blk_put (cs := #[.int .i64 7, .int .i64 x235001_1, .int .i64 x235002_1]) ?_ 1 _ rfl; (with_reducible repeat (first | refine blk_drewN ?_ _ | refine blk_drew ?_ | refine blk_alloc ?_ _)); refine blk_put (cs := #[.int .i64 x235000_1, .int .i64 x235001_1, .int .i64 x235002_1]) ?_ 0 _ rfl; (with_reducible repeat (first | refine blk_drewN ?_ _ | refine blk_drew ?_ | refine blk_alloc ?_ _)); exact BK234.out) Tryd.underlying41 rfl (by kernel_rfl)) rfl ?_
                    exact ⟨by first | rfl | (simp [errW_none, errW_some] <;> rfl) | (simp only [← hji3]; first | rfl | (simp [errW_none, errW_some] <;> rfl)) | (simp [*, errW_none, errW_some] <;> rfl), by repeat (first | (with_reducible first | exact HB.out | apply below_alloc | apply pw_below_drewN | apply below_drew1 | refine below_set ?_ GE234.out) | exact HB.out)⟩
                · replace c13 := Bool.eq_false_iff.mpr c13
                  subst c13
                  have H1 : (if lb_ = true then (seicheref11_comment.j2 kj8 a0 a1 lb_ x6_1 x7_1 false) else (if x7_1 ≥ (wrap64 (a1 + 2)) then ((seicheref11_begins.f a0 x7_1 (⟨#[42, 47]⟩ : ByteArray)).bind fun t235 => (seicheref11_comment.j2 kj8 a0 a1 lb_ x6_1 x7_1 t235)) else (seicheref11_comment.j2 kj8 a0 a1 lb_ x6_1 x7_1 false))) = some (r1, r2, r3) := by rw [if_neg (show ¬ (false = true) by decide)] at H; exact H
                  clear H
                  have H := H1
                  clear H1; have HC17 := Aside0.mk H; clear H
                  go_upto_region 6 with (fail)
                  go_cut [40] (fun v40 wc => ∃ (kq : Nat) (x40_16 : Bool), v40 = .bool x40_16 ∧ Aside0 (seicheref11_comment.j2 kq a0 a1 lb_ x6_1 x7_1 x40_16 = some (r1, r2, r3)) ∧ Aside0 (kq ≤ kj8) ∧ Aside0 (wc.heap[gb234]? = some (.cells #[.int .i64 x235000_1, .int .i64 x235001_1, .int .i64 x235002_1] 41 (0, 0))) ∧ Aside0 (Below w.heap.size w wc))
                  case first =>
                    have H := HC17.out
                    clear HC17
                    by_cases c18 : lb_ = true
                    · subst c18
                      rw [if_pos rfl] at H
                      
                      have H' := Aside0.mk H
                      clear H
                      go_wp2
                      go_meet
                      case rel => exact ⟨_, (false), (by first | rfl | (simp; done) | (simp [*]; done)), H', ⟨by have := HK1.out; have := HJ8.out; first | omega | exact Nat.le_refl _⟩, ⟨by (with_reducible repeat (first | refine blk_drewN ?_ _ | refine blk_drew ?_ | refine blk_alloc ?_ _)); exact BK234.out⟩, ⟨by repeat (first | (with_reducible first | exact HB.out | apply below_alloc | apply pw_below_drewN | apply below_drew1 | refine below_set ?_ GE234.out) | exact HB.out)⟩⟩
                    · replace c18 := Bool.eq_false_iff.mpr c18
                      subst c18
                      rw [if_neg (show ¬ (false = true) by decide)] at H
                      
                      by_cases c19 : x7_1 ≥ (wrap64 (a1 + 2))
                      · rw [if_pos c19] at H
                        have c19b0 : decide ((wrap64 (a1 + 2)) ≤ x7_1) = true := decide_eq_true c19
                        clear c19
                        replace H := Option.bind_eq_some_iff.mp H
                        obtain ⟨t235, A200, H⟩ := H
                        replace H : (seicheref11_comment.j2 kj8 a0 a1 false x6_1 x7_1 t235) = some (r1, r2, r3) := H
                        have A20 := Aside0.mk A200; clear A200
                        have H' := Aside0.mk H
                        clear H
                        go_wp2_with (first | (go_at_call 27; (with_reducible refine (seicheref11_begins.calls a0 x7_1 (⟨#[42, 47]⟩ : ByteArray) t235 _ A20.out).mono ?_); rintro e w' ⟨rfl, ⟨nd, rfl⟩⟩))
                        go_meet
                        case rel => exact ⟨_, (t235), (by first | rfl | (simp; done) | (simp [*]; done)), H', ⟨by have := HK1.out; have := HJ8.out; first | omega | exact Nat.le_refl _⟩, ⟨by (with_reducible repeat (first | refine blk_drewN ?_ _ | refine blk_drew ?_ | refine blk_alloc ?_ _)); exact BK234.out⟩, ⟨by repeat (first | (with_reducible first | exact HB.out | apply below_alloc | apply pw_below_drewN | apply below_drew1 | refine below_set ?_ GE234.out) | exact HB.out)⟩⟩
                      · rw [if_neg c19] at H
                        have c19b0 : decide ((wrap64 (a1 + 2)) ≤ x7_1) = false := decide_eq_false c19
                        clear c19
                        have H' := Aside0.mk H
                        clear H
                        go_wp2
                        go_meet
                        case rel => exact ⟨_, (false), (by first | rfl | (simp; done) | (simp [*]; done)), H', ⟨by have := HK1.out; have := HJ8.out; first | omega | exact Nat.le_refl _⟩, ⟨by (with_reducible repeat (first | refine blk_drewN ?_ _ | refine blk_drew ?_ | refine blk_alloc ?_ _)); exact BK234.out⟩, ⟨by repeat (first | (with_reducible first | exact HB.out | apply below_alloc | apply pw_below_drewN | apply below_drew1 | refine below_set ?_ GE234.out) | exact HB.out)⟩⟩
                  case rest =>
                    clear HC17; (try clear c1); (try clear p1); (try clear q1); (try clear hx1); (try clear c2); (try clear p2); (try clear c4); (try clear c4b0); (try clear c5); (try clear c5b0); (try clear p6); (try clear q6); (try clear hx6); (try clear c8); (try clear c8b0); (try clear c10); (try clear c10b0); (try clear c10b1); (try clear c10b2); (try clear c11); (try clear c11b0); (try clear p12); (try clear q12); (try clear hx12); (try clear c13); (try clear c14); (try clear c14b0); (try clear c14b1); (try clear c14b2); (try clear c18); (try clear c18b0); (try clear c18b1); (try clear c18b2); (try clear c19); (try clear c19b0); (try clear hcz15_0); (try clear hcz15_1)
                    (try clear hcz15_2); (try clear hcz16_0); (try clear hcz16_1); (try clear hcz16_2); (try clear hfz15_0); (try clear hfz15_1); (try clear hfz15_2); (try clear hfz16_0); (try clear hfz16_1); (try clear hfz16_2); (try clear p1); (try clear p12); (try clear p2); (try clear p6); (try clear q1); (try clear q12); (try clear q6); obtain ⟨kq, x40_16, rfl, HA, HJ16, BK234, HB⟩ := hcut
                    cases kq with
                    | zero => exact absurd HA.out (by simp [seicheref11_comment.j2])
                    | succ kj16 =>
                      have H := HA.out
                      clear HA
                      simp only [seicheref11_comment.j2] at H
                      by_cases c21 : x40_16 = true
                      · subst c21
                        have H1 : (if x6_1 = true then (some ((-4), wrap64 ((wrap64 (x7_1 + 2)) - a1), 0)) else (some ((-3), wrap64 ((wrap64 (x7_1 + 2)) - a1), 0))) = some (r1, r2, r3) := by rw [if_pos rfl] at H; exact H
                        clear H
                        have H := H1
                        clear H1
                        by_cases c22 : x6_1 = true
                        · subst c22
                          have H1 : (some ((-4), wrap64 ((wrap64 (x7_1 + 2)) - a1), 0)) = some (r1, r2, r3) := by rw [if_pos rfl] at H; exact H
                          clear H
                          have H := H1
                          clear H1
                          simp only [Option.some.injEq, Prod.mk.injEq] at H
                          obtain ⟨rfl, rfl, rfl⟩ := H
                          have hcz23_0 : wc.cell? ⟨gb234, 0, none⟩ = some (.int .i64 x235000_1) := (blk_cell BK234.out 0).trans rfl
                          have hcz23_1 : wc.cell? ⟨gb234, 1, none⟩ = some (.int .i64 x235001_1) := (blk_cell BK234.out 1).trans rfl
                          have hcz23_2 : wc.cell? ⟨gb234, 2, none⟩ = some (.int .i64 x235002_1) := (blk_cell BK234.out 2).trans rfl
                          have hfz23_0 := blk_frozen BK234.out 0; have hfz23_1 := blk_frozen BK234.out 1; have hfz23_2 := blk_frozen BK234.out 2
                          repeat (first | go_values | go_skip | go_guarded | go_step | go_upon | go_in | (simp only [Int.not_lt, Int.not_le] at *; go_simp))
                          refine bodyPost_ret (results_cell_row rfl _ _ gb234 41 #[.int .i64 (-4), .int .i64 (wrap64 ((wrap64 (x7_1 + 2)) - a1)), .int .i64 0] (0, 0) _ rfl (by (with_reducible repeat (first | refine blk_drewN ?_ _ | refine blk_drew ?_ | refine blk_alloc ?_ _)); refine blk_put (cs := #[.int .i64 (-4), .int .i64 (wrap64 ((wrap64 (x7_1 + 2)) - a1)), .int .i64 x235002_1]) ?_ 2 _ rfl; (with_reducible repeat (first | refine blk_drewN ?_ _ | refine blk_drew ?_ | refine blk_alloc ?_ _)); refine blk_put (cs := #[.int .i64 (-4), .int .i64 x235001_1, .int .i64 x235002_1]) ?_ 1 _ rfl; (with_reducible repeat (first | refine blk_drewN ?_ _ | refine blk_drew ?_ | refine blk_alloc ?_ _)); refine blk_put (cs := #[.int .i64 x235000_1, .int .i64 x235001_1, .int .i64 x235002_1]) ?_ 0 _ rfl; (with_reducible repeat (first | refine blk_drewN ?_ _ | refine blk_drew ?_ | refine blk_alloc ?_ _)); exact BK234.out) Tryd.underlying41 rfl (by kernel_rfl)) rfl ?_
                          exact ⟨by first | rfl | (simp [errW_none, errW_some] <;> rfl) | (simp only [← hji3]; first | rfl | (simp [errW_none, errW_some] <;> rfl)) | (simp [*, errW_none, errW_some] <;> rfl), by repeat (first | (with_reducible first | exact HB.out | apply below_alloc | apply pw_below_drewN | apply below_drew1 | refine below_set ?_ GE234.out) | exact HB.out)⟩
                        · replace c22 := Bool.eq_false_iff.mpr c22
                          subst c22
                          have H1 : (some ((-3), wrap64 ((wrap64 (x7_1 + 2)) - a1), 0)) = some (r1, r2, r3) := by rw [if_neg (show ¬ (false = true) by decide)] at H; exact H
                          clear H
                          have H := H1
                          clear H1
                          simp only [Option.some.injEq, Prod.mk.injEq] at H
                          obtain ⟨rfl, rfl, rfl⟩ := H
                          have hcz24_0 : wc.cell? ⟨gb234, 0, none⟩ = some (.int .i64 x235000_1) := (blk_cell BK234.out 0).trans rfl
                          have hcz24_1 : wc.cell? ⟨gb234, 1, none⟩ = some (.int .i64 x235001_1) := (blk_cell BK234.out 1).trans rfl
                          have hcz24_2 : wc.cell? ⟨gb234, 2, none⟩ = some (.int .i64 x235002_1) := (blk_cell BK234.out 2).trans rfl
                          have hfz24_0 := blk_frozen BK234.out 0; have hfz24_1 := blk_frozen BK234.out 1; have hfz24_2 := blk_frozen BK234.out 2
                          repeat (first | go_values | go_skip | go_guarded | go_step | go_upon | go_in | (simp only [Int.not_lt, Int.not_le] at *; go_simp))
                          refine bodyPost_ret (results_cell_row rfl _ _ gb234 41 #[.int .i64 (-3), .int .i64 (wrap64 ((wrap64 (x7_1 + 2)) - a1)), .int .i64 0] (0, 0) _ rfl (by (with_reducible repeat (first | refine blk_drewN ?_ _ | refine blk_drew ?_ | refine blk_alloc ?_ _)); refine blk_put (cs := #[.int .i64 (-3), .int .i64 (wrap64 ((wrap64 (x7_1 + 2)) - a1)), .int .i64 x235002_1]) ?_ 2 _ rfl; (with_reducible repeat (first | refine blk_drewN ?_ _ | refine blk_drew ?_ | refine blk_alloc ?_ _)); refine blk_put (cs := #[.int .i64 (-3), .int .i64 x235001_1, .int .i64 x235002_1]) ?_ 1 _ rfl; (with_reducible repeat (first | refine blk_drewN ?_ _ | refine blk_drew ?_ | refine blk_alloc ?_ _)); refine blk_put (cs := #[.int .i64 x235000_1, .int .i64 x235001_1, .int .i64 x235002_1]) ?_ 0 _ rfl; (with_reducible repeat (first | refine blk_drewN ?_ _ | refine blk_drew ?_ | refine blk_alloc ?_ _)); exact BK234.out) Tryd.underlying41 rfl (by kernel_rfl)) rfl ?_
                          exact ⟨by first | rfl | (simp [errW_none, errW_some] <;> rfl) | (simp only [← hji3]; first | rfl | (simp [errW_none, errW_some] <;> rfl)) | (simp [*, errW_none, errW_some] <;> rfl), by repeat (first | (with_reducible first | exact HB.out | apply below_alloc | apply pw_below_drewN | apply below_drew1 | refine below_set ?_ GE234.out) | exact HB.out)⟩
                      · replace c21 := Bool.eq_false_iff.mpr c21
                        subst c21
                        have H1 : ((seicheref10_Rune.f kj16 a0 x7_1).bind fun bt236 => (if bt236.1 < 0 then (some (7, 0, x7_1)) else (if x6_1 = true then (seicheref11_comment.l0 kj16 a0 a1 lb_ true (wrap64 (x7_1 + bt236.2))) else (seicheref11_comment.l0 kj16 a0 a1 lb_ (bt236.1 == 10) (wrap64 (x7_1 + bt236.2)))))) = some (r1, r2, r3) := by rw [if_neg (show ¬ (false = true) by decide)] at H; exact H
                        clear H
                        have H := H1
                        clear H1
                        replace H := Option.bind_eq_some_iff.mp H
                        obtain ⟨⟨t236, t237⟩, A250, H⟩ := H
                        replace H : (if t236 < 0 then (some (7, 0, x7_1)) else (if x6_1 = true then (seicheref11_comment.l0 kj16 a0 a1 lb_ true (wrap64 (x7_1 + t237))) else (seicheref11_comment.l0 kj16 a0 a1 lb_ (t236 == 10) (wrap64 (x7_1 + t237))))) = some (r1, r2, r3) := H
                        have A25 := Aside0.mk A250; clear A250
                        by_cases c26 : t236 < 0
                        · rw [if_pos c26] at H
                          have c26b0 : decide (t236 < 0) = true := decide_eq_true c26
                          clear c26
                          simp only [Option.some.injEq, Prod.mk.injEq] at H
                          obtain ⟨rfl, rfl, rfl⟩ := H
                          repeat (first | (first | ((with_reducible refine gate_callee (f := 26) rfl ?_); refine goesL_ (some 51) rfl rfl Tryd.func26 (by kernel_rfl) rfl #[.string a0, .int .i64 x7_1] rfl (by (try simp only [List.map_toArray, List.map_cons, List.map_nil]); first | done | rfl | (simp only [List.length_drop, List.length_take]; rfl)) ?_; (with_reducible refine (seicheref10_Rune.calls kj16 a0 x7_1 t236 t237 _ A25.out).mono ?_); rintro e w27 ⟨rfl, hb⟩; refine ⟨_, rfl, ?_⟩; have n0_ := Aside0.mk (blk_below (g := gb234) (o := .cells #[.int .i64 x235000_1, .int .i64 x235001_1, .int .i64 x235002_1] 41 (0, 0)) (by (with_reducible repeat (first | refine blk_drewN ?_ _ | refine blk_drew ?_ | refine blk_alloc ?_ _)); exact BK234.out) hb); have n1_ := Aside0.mk (below_step (by repeat (first | (with_reducible first | exact HB.out | apply below_alloc | apply pw_below_drewN | apply below_drew1 | refine below_set ?_ GE234.out) | exact HB.out)) hb); clear BK234; clear HB; have BK234 := n0_; have HB := n1_; clear n0_ n1_; (try clear hb); (try clear hb2); (try clear hk); (try clear hi); have hcz28_0 : w27.cell? ⟨gb234, 0, none⟩ = some (.int .i64 x235000_1) := (blk_cell BK234.out 0).trans rfl; have hcz28_1 : w27.cell? ⟨gb234, 1, none⟩ = some (.int .i64 x235001_1) := (blk_cell BK234.out 1).trans rfl; have hcz28_2 : w27.cell? ⟨gb234, 2, none⟩ = some (.int .i64 x235002_1) := (blk_cell BK234.out 2).trans rfl; have hfz28_0 := blk_frozen BK234.out 0; have hfz28_1 := blk_frozen BK234.out 1; have hfz28_2 := blk_frozen BK234.out 2)) | go_values | go_skip | go_guarded | go_step | go_upon | go_in | (simp only [Int.not_lt, Int.not_le] at *; go_simp))
                          refine bodyPost_ret (results_cell_row rfl _ _ gb234 41 #[.int .i64 7, .int .i64 0, .int .i64 x7_1] (0, 0) _ rfl (by (with_reducible repeat (first | refine blk_drewN ?_ _ | refine blk_drew ?_ | refine blk_alloc ?_ _)); refine blk_put (cs := #[.int .i64 7, .int .i64 0, .int .i64 x235002_1]) ?_ 2 _ rfl; (with_reducible repeat (first | refine blk_drewN ?_ _ | refine blk_drew ?_ | refine blk_alloc ?_ _)); refine blk_put (cs := #[.int .i64 7, .int .i64 x235001_1, .int .i64 x235002_1]) ?_ 1 _ rfl; (with_reducible repeat (first | refine blk_drewN ?_ _ | refine blk_drew ?_ | refine blk_alloc ?_ _)); refine blk_put (cs := #[.int .i64 x235000_1, .int .i64 x235001_1, .int .i64 x235002_1]) ?_ 0 _ rfl; (with_reducible repeat (first | refine blk_drewN ?_ _ | refine blk_drew ?_ | refine blk_alloc ?_ _)); exact BK234.out) Tryd.underlying41 rfl (by kernel_rfl)) rfl ?_
                          exact ⟨by first | rfl | (simp [errW_none, errW_some] <;> rfl) | (simp only [← hji3]; first | rfl | (simp [errW_none, errW_some] <;> rfl)) | (simp [*, errW_none, errW_some] <;> rfl), by repeat (first | (with_reducible first | exact HB.out | apply below_alloc | apply pw_below_drewN | apply below_drew1 | refine below_set ?_ GE234.out) | exact HB.out)⟩
                        · rw [if_neg c26] at H
                          have c26b0 : decide (t236 < 0) = false := decide_eq_false c26
                          clear c26
                          by_cases c29 : x6_1 = true
                          · subst c29
                            have H1 : (seicheref11_comment.l0 kj16 a0 a1 lb_ true (wrap64 (x7_1 + t237))) = some (r1, r2, r3) := by rw [if_pos rfl] at H; exact H
                            clear H
                            have H := H1
                            clear H1
                            have H' := Aside0.mk H
                            clear H
                            go_wp2_with (first | ((with_reducible refine gate_callee (f := 26) rfl ?_); refine goesL_ (some 51) rfl rfl Tryd.func26 (by kernel_rfl) rfl #[.string a0, .int .i64 x7_1] rfl (by (try simp only [List.map_toArray, List.map_cons, List.map_nil]); first | done | rfl | (simp only [List.length_drop, List.length_take]; rfl)) ?_; (with_reducible refine (seicheref10_Rune.calls kj16 a0 x7_1 t236 t237 _ A25.out).mono ?_); rintro e w30 ⟨rfl, hb⟩; refine ⟨_, rfl, ?_⟩; have n0_ := Aside0.mk (blk_below (g := gb234) (o := .cells #[.int .i64 x235000_1, .int .i64 x235001_1, .int .i64 x235002_1] 41 (0, 0)) (by (with_reducible repeat (first | refine blk_drewN ?_ _ | refine blk_drew ?_ | refine blk_alloc ?_ _)); exact BK234.out) hb); have n1_ := Aside0.mk (below_step (by repeat (first | (with_reducible first | exact HB.out | apply below_alloc | apply pw_below_drewN | apply below_drew1 | refine below_set ?_ GE234.out) | exact HB.out)) hb); clear BK234; clear HB; have BK234 := n0_; have HB := n1_; clear n0_ n1_; (try clear hb); (try clear hb2); (try clear hk); (try clear hi)))
                            go_roundg kj16
                            case measure => have := HK1.out; have := HJ8.out; have := HJ16.out; omega
                            case rel => exact ⟨(true), (wrap64 (x7_1 + t237)), (x235000_1), (x235001_1), (x235002_1), (by first | rfl | (simp; done) | (simp [*]; done)), (by first | rfl | (simp; done) | (simp [*]; done)), H', ⟨by have := HK1.out; have := HJ8.out; have := HJ16.out; omega⟩, ⟨by (with_reducible repeat (first | refine blk_drewN ?_ _ | refine blk_drew ?_ | refine blk_alloc ?_ _)); exact BK234.out⟩, ⟨by repeat (first | (with_reducible first | exact HB.out | apply below_alloc | apply pw_below_drewN | apply below_drew1 | refine below_set ?_ GE234.out) | exact HB.out)⟩⟩
                          · replace c29 := Bool.eq_false_iff.mpr c29
                            subst c29
                            have H1 : (seicheref11_comment.l0 kj16 a0 a1 lb_ (t236 == 10) (wrap64 (x7_1 + t237))) = some (r1, r2, r3) := by rw [if_neg (show ¬ (false = true) by decide)] at H; exact H
                            clear H
                            have H := H1
                            clear H1
                            have H' := Aside0.mk H
                            clear H
                            go_wp2_with (first | ((with_reducible refine gate_callee (f := 26) rfl ?_); refine goesL_ (some 51) rfl rfl Tryd.func26 (by kernel_rfl) rfl #[.string a0, .int .i64 x7_1] rfl (by (try simp only [List.map_toArray, List.map_cons, List.map_nil]); first | done | rfl | (simp only [List.length_drop, List.length_take]; rfl)) ?_; (with_reducible refine (seicheref10_Rune.calls kj16 a0 x7_1 t236 t237 _ A25.out).mono ?_); rintro e w31 ⟨rfl, hb⟩; refine ⟨_, rfl, ?_⟩; have n0_ := Aside0.mk (blk_below (g := gb234) (o := .cells #[.int .i64 x235000_1, .int .i64 x235001_1, .int .i64 x235002_1] 41 (0, 0)) (by (with_reducible repeat (first | refine blk_drewN ?_ _ | refine blk_drew ?_ | refine blk_alloc ?_ _)); exact BK234.out) hb); have n1_ := Aside0.mk (below_step (by repeat (first | (with_reducible first | exact HB.out | apply below_alloc | apply pw_below_drewN | apply below_drew1 | refine below_set ?_ GE234.out) | exact HB.out)) hb); clear BK234; clear HB; have BK234 := n0_; have HB := n1_; clear n0_ n1_; (try clear hb); (try clear hb2); (try clear hk); (try clear hi)))
                            go_roundg kj16
                            case measure => have := HK1.out; have := HJ8.out; have := HJ16.out; omega
                            case rel => exact ⟨((t236 == 10)), (wrap64 (x7_1 + t237)), (x235000_1), (x235001_1), (x235002_1), (by first | rfl | (simp; done) | (simp [*]; done)), (by first | rfl | (simp; done) | (simp [*]; done)), H', ⟨by have := HK1.out; have := HJ8.out; have := HJ16.out; omega⟩, ⟨by (with_reducible repeat (first | refine blk_drewN ?_ _ | refine blk_drew ?_ | refine blk_alloc ?_ _)); exact BK234.out⟩, ⟨by repeat (first | (with_reducible first | exact HB.out | apply below_alloc | apply pw_below_drewN | apply below_drew1 | refine below_set ?_ GE234.out) | exact HB.out)⟩⟩
          · rw [if_neg c8] at H
            have c8b0 : decide (x7_1 < (a0.size : Int)) = false := decide_eq_false c8
            clear c8
            by_cases c32 : lb_ = true
            · subst c32
              rw [if_pos rfl] at H
              
              simp only [Option.some.injEq, Prod.mk.injEq] at H
              obtain ⟨rfl, rfl, rfl⟩ := H
              have hcz33_0 : wr.cell? ⟨gb234, 0, none⟩ = some (.int .i64 x235000_1) := (blk_cell BK234.out 0).trans rfl
              have hcz33_1 : wr.cell? ⟨gb234, 1, none⟩ = some (.int .i64 x235001_1) := (blk_cell BK234.out 1).trans rfl
              have hcz33_2 : wr.cell? ⟨gb234, 2, none⟩ = some (.int .i64 x235002_1) := (blk_cell BK234.out 2).trans rfl
              have hfz33_0 := blk_frozen BK234.out 0; have hfz33_1 := blk_frozen BK234.out 1; have hfz33_2 := blk_frozen BK234.out 2
              repeat (first | go_values | go_skip | go_guarded | go_step | go_upon | go_in | (simp only [Int.not_lt, Int.not_le] at *; go_simp))
              refine bodyPost_ret (results_cell_row rfl _ _ gb234 41 #[.int .i64 (-3), .int .i64 (wrap64 (x7_1 - a1)), .int .i64 0] (0, 0) _ rfl (by (with_reducible repeat (first | refine blk_drewN ?_ _ | refine blk_drew ?_ | refine blk_alloc ?_ _)); refine blk_put (cs := #[.int .i64 (-3), .int .i64 (wrap64 (x7_1 - a1)), .int .i64 x235002_1]) ?_ 2 _ rfl; (with_reducible repeat (first | refine blk_drewN ?_ _ | refine blk_drew ?_ | refine blk_alloc ?_ _)); refine blk_put (cs := #[.int .i64 (-3), .int .i64 x235001_1, .int .i64 x235002_1]) ?_ 1 _ rfl; (with_reducible repeat (first | refine blk_drewN ?_ _ | refine blk_drew ?_ | refine blk_alloc ?_ _)); refine blk_put (cs := #[.int .i64 x235000_1, .int .i64 x235001_1, .int .i64 x235002_1]) ?_ 0 _ rfl; (with_reducible repeat (first | refine blk_drewN ?_ _ | refine blk_drew ?_ | refine blk_alloc ?_ _)); exact BK234.out) Tryd.underlying41 rfl (by kernel_rfl)) rfl ?_
              exact ⟨by first | rfl | (simp [errW_none, errW_some] <;> rfl) | (simp only [← hji3]; first | rfl | (simp [errW_none, errW_some] <;> rfl)) | (simp [*, errW_none, errW_some] <;> rfl), by repeat (first | (with_reducible first | exact HB.out | apply below_alloc | apply pw_below_drewN | apply below_drew1 | refine below_set ?_ GE234.out) | exact HB.out)⟩
            · replace c32 := Bool.eq_false_iff.mpr c32
              subst c32
              rw [if_neg (show ¬ (false = true) by decide)] at H
              
              simp only [Option.some.injEq, Prod.mk.injEq] at H
              obtain ⟨rfl, rfl, rfl⟩ := H
              have hcz34_0 : wr.cell? ⟨gb234, 0, none⟩ = some (.int .i64 x235000_1) := (blk_cell BK234.out 0).trans rfl
              have hcz34_1 : wr.cell? ⟨gb234, 1, none⟩ = some (.int .i64 x235001_1) := (blk_cell BK234.out 1).trans rfl
              have hcz34_2 : wr.cell? ⟨gb234, 2, none⟩ = some (.int .i64 x235002_1) := (blk_cell BK234.out 2).trans rfl
              have hfz34_0 := blk_frozen BK234.out 0; have hfz34_1 := blk_frozen BK234.out 1; have hfz34_2 := blk_frozen BK234.out 2
              repeat (first | go_values | go_skip | go_guarded | go_step | go_upon | go_in | (simp only [Int.not_lt, Int.not_le] at *; go_simp))
              refine bodyPost_ret (results_cell_row rfl _ _ gb234 41 #[.int .i64 7, .int .i64 0, .int .i64 a1] (0, 0) _ rfl (by (with_reducible repeat (first | refine blk_drewN ?_ _ | refine blk_drew ?_ | refine blk_alloc ?_ _)); refine blk_put (cs := #[.int .i64 7, .int .i64 0, .int .i64 x235002_1]) ?_ 2 _ rfl; (with_reducible repeat (first | refine blk_drewN ?_ _ | refine blk_drew ?_ | refine blk_alloc ?_ _)); refine blk_put (cs := #[.int .i64 7, .int .i64 x235001_1, .int .i64 x235002_1]) ?_ 1 _ rfl; (with_reducible repeat (first | refine blk_drewN ?_ _ | refine blk_drew ?_ | refine blk_alloc ?_ _)); refine blk_put (cs := #[.int .i64 x235000_1, .int .i64 x235001_1, .int .i64 x235002_1]) ?_ 0 _ rfl; (with_reducible repeat (first | refine blk_drewN ?_ _ | refine blk_drew ?_ | refine blk_alloc ?_ _)); exact BK234.out) Tryd.underlying41 rfl (by kernel_rfl)) rfl ?_
              exact ⟨by first | rfl | (simp [errW_none, errW_some] <;> rfl) | (simp only [← hji3]; first | rfl | (simp [errW_none, errW_some] <;> rfl)) | (simp [*, errW_none, errW_some] <;> rfl), by repeat (first | (with_reducible first | exact HB.out | apply below_alloc | apply pw_below_drewN | apply below_drew1 | refine below_set ?_ GE234.out) | exact HB.out)⟩
    · rw [if_neg c5] at H
      exact absurd H (by simp)
  · rw [if_neg c4] at H
    exact absurd H (by simp)
def seicheref10_Letter.f (a0 : Int) : Option (Bool) := if a0 ≥ 128 then (some true) else (if a0 = 95 then (some true) else (if a0 ≥ 65 then (if a0 ≤ 90 then (some true) else (if a0 ≥ 97 then (some (decide (a0 ≤ 122))) else (some false))) else (if a0 ≥ 97 then (some (decide (a0 ≤ 122))) else (some false))))
set_option maxHeartbeats 8000000 in
set_option maxRecDepth 100000 in
theorem seicheref10_Letter.calls (a0 : Int) (r : Bool) (w : World) (h : seicheref10_Letter.f a0 = some r) :
    Calls Tryd.prog 29 #[.int .i64 a0] w fun e w' => e = .returned (.bool r) ∧ Drawn0 w w' := by
  have H : (if a0 ≥ 128 then (some true) else (if a0 = 95 then (some true) else (if a0 ≥ 65 then (if a0 ≤ 90 then (some true) else (if a0 ≥ 97 then (some (decide (a0 ≤ 122))) else (some false))) else (if a0 ≥ 97 then (some (decide (a0 ≤ 122))) else (some false))))) = some r := h
  clear h
  by_cases c2 : a0 ≥ 128
  · rw [if_pos c2] at H
    have c2b0 : decide (128 ≤ a0) = true := decide_eq_true c2
    clear c2
    obtain rfl := Option.some.inj H
    go_enter Tryd.func29, Tryd.ntmps29
    go_wp2
    go_ret
    exact ⟨by first | rfl | (simp; done) | (simp [*]; done), by repeat (first | exact Drawn0.refl _ | apply Drawn0.step)⟩
  · rw [if_neg c2] at H
    have c2b0 : decide (128 ≤ a0) = false := decide_eq_false c2
    clear c2
    by_cases c3 : a0 = 95
    · rw [if_pos c3] at H
      have c3b0 : (a0 == 95) = true := beq_iff_eq.mpr c3
      have c3b1 : (a0 != 95) = false := bne_eq_false_iff_eq.mpr c3
      clear c3
      obtain rfl := Option.some.inj H
      go_enter Tryd.func29, Tryd.ntmps29
      go_wp2
      go_ret
      exact ⟨by first | rfl | (simp; done) | (simp [*]; done), by repeat (first | exact Drawn0.refl _ | apply Drawn0.step)⟩
    · rw [if_neg c3] at H
      have c3b0 : (a0 == 95) = false := beq_eq_false_iff_ne.mpr c3
      have c3b1 : (a0 != 95) = true := bne_iff_ne.mpr c3
      by_cases c4 : a0 ≥ 65
      · rw [if_pos c4] at H
        have c4b0 : decide (65 ≤ a0) = true := decide_eq_true c4
        clear c4
        by_cases c5 : a0 ≤ 90
        · rw [if_pos c5] at H
          have c5b0 : decide (a0 ≤ 90) = true := decide_eq_true c5
          clear c5
          obtain rfl := Option.some.inj H
          go_enter Tryd.func29, Tryd.ntmps29
          go_wp2
          go_ret
          exact ⟨by first | rfl | (simp; done) | (simp [*]; done), by repeat (first | exact Drawn0.refl _ | apply Drawn0.step)⟩
        · rw [if_neg c5] at H
          have c5b0 : decide (a0 ≤ 90) = false := decide_eq_false c5
          clear c5
          by_cases c6 : a0 ≥ 97
          · rw [if_pos c6] at H
            have c6b0 : decide (97 ≤ a0) = true := decide_eq_true c6
            clear c6
            obtain rfl := Option.some.inj H
            go_enter Tryd.func29, Tryd.ntmps29
            go_wp2
            go_ret
            exact ⟨by first | rfl | (simp; done) | (simp [*]; done), by repeat (first | exact Drawn0.refl _ | apply Drawn0.step)⟩
          · rw [if_neg c6] at H
            have c6b0 : decide (97 ≤ a0) = false := decide_eq_false c6
            clear c6
            obtain rfl := Option.some.inj H
            go_enter Tryd.func29, Tryd.ntmps29
            go_wp2
            go_ret
            exact ⟨by first | rfl | (simp; done) | (simp [*]; done), by repeat (first | exact Drawn0.refl _ | apply Drawn0.step)⟩
      · rw [if_neg c4] at H
        have c4b0 : decide (65 ≤ a0) = false := decide_eq_false c4
        clear c4
        by_cases c7 : a0 ≥ 97
        · rw [if_pos c7] at H
          have c7b0 : decide (97 ≤ a0) = true := decide_eq_true c7
          clear c7
          obtain rfl := Option.some.inj H
          go_enter Tryd.func29, Tryd.ntmps29
          go_wp2
          go_ret
          exact ⟨by first | rfl | (simp; done) | (simp [*]; done), by repeat (first | exact Drawn0.refl _ | apply Drawn0.step)⟩
        · rw [if_neg c7] at H
          have c7b0 : decide (97 ≤ a0) = false := decide_eq_false c7
          clear c7
          obtain rfl := Option.some.inj H
          go_enter Tryd.func29, Tryd.ntmps29
          go_wp2
          go_ret
          exact ⟨by first | rfl | (simp; done) | (simp [*]; done), by repeat (first | exact Drawn0.refl _ | apply Drawn0.step)⟩
def seicheref10_Digit.f (a0 : Int) : Option (Bool) := if a0 ≥ 48 then (some (decide (a0 ≤ 57))) else (some false)
set_option maxHeartbeats 8000000 in
set_option maxRecDepth 100000 in
theorem seicheref10_Digit.calls (a0 : Int) (r : Bool) (w : World) (h : seicheref10_Digit.f a0 = some r) :
    Calls Tryd.prog 31 #[.int .i64 a0] w fun e w' => e = .returned (.bool r) ∧ Drawn0 w w' := by
  have H : (if a0 ≥ 48 then (some (decide (a0 ≤ 57))) else (some false)) = some r := h
  clear h
  by_cases c2 : a0 ≥ 48
  · rw [if_pos c2] at H
    have c2b0 : decide (48 ≤ a0) = true := decide_eq_true c2
    clear c2
    obtain rfl := Option.some.inj H
    go_enter Tryd.func31, Tryd.ntmps31
    go_wp2
    go_ret
    exact ⟨by first | rfl | (simp; done) | (simp [*]; done), by repeat (first | exact Drawn0.refl _ | apply Drawn0.step)⟩
  · rw [if_neg c2] at H
    have c2b0 : decide (48 ≤ a0) = false := decide_eq_false c2
    clear c2
    obtain rfl := Option.some.inj H
    go_enter Tryd.func31, Tryd.ntmps31
    go_wp2
    go_ret
    exact ⟨by first | rfl | (simp; done) | (simp [*]; done), by repeat (first | exact Drawn0.refl _ | apply Drawn0.step)⟩
def seicheref11_name.l0 : Nat → ByteArray → Int → Int → Option (Int)
  | 0, _, _, _ => none
  | k + 1, x0, x1, x5 => (seicheref10_Rune.f k x0 (wrap64 (x1 + x5))).bind fun bt238 => (if bt238.1 < 0 then (some x5) else ((seicheref10_Letter.f bt238.1).bind fun t240 => (if t240 = true then (seicheref11_name.l0 k x0 x1 (wrap64 (x5 + bt238.2))) else ((seicheref10_Digit.f bt238.1).bind fun t241 => (if t241 = true then (seicheref11_name.l0 k x0 x1 (wrap64 (x5 + bt238.2))) else (some x5))))))
def seicheref11_name.f (k : Nat) (a0 : ByteArray) (a1 : Int) : Option (Int) := seicheref11_name.l0 k a0 a1 0
set_option maxHeartbeats 8000000 in
set_option maxRecDepth 100000 in
theorem seicheref11_name.calls (k : Nat) (a0 : ByteArray) (a1 : Int) (r : Int) (w : World) (h : seicheref11_name.f k a0 a1 = some r) :
    Calls Tryd.prog 30 #[.string a0, .int .i64 a1] w fun e w' => e = .returned (.int .i64 r) ∧ Below w.heap.size w w' := by
  have HB := Aside0.mk (Below.refl w.heap.size w)
  have H : (seicheref11_name.l0 k a0 a1 0) = some r := h
  clear h
  have H' := Aside0.mk H
  clear H
  go_enter Tryd.func30, Tryd.ntmps30
  go_wp2
  go_loopg [5] k (fun kq v5 w' => ∃ (x5_1 : Int), v5 = .int .i64 x5_1 ∧ Aside0 (seicheref11_name.l0 kq a0 a1 x5_1 = some r) ∧ Aside0 (kq ≤ k) ∧ Aside0 (Below w.heap.size w w'))
  case atStart => exact ⟨(0), (by first | rfl | (simp; done) | (simp [*]; done)), H', ⟨Nat.le_refl _⟩, ⟨by repeat (first | (with_reducible first | exact HB.out | apply below_alloc | apply pw_below_drewN | apply below_drew1) | exact HB.out)⟩⟩
  case round =>
    clear H'
    (try clear p2); obtain ⟨x5_1, rfl, HA, HK1, HB⟩ := hrel
    cases gk with
    | zero => exact absurd HA.out (by simp [seicheref11_name.l0])
    | succ k1 =>
      have H := HA.out
      clear HA
      simp only [seicheref11_name.l0] at H
      replace H := Option.bind_eq_some_iff.mp H
      obtain ⟨⟨t238, t239⟩, A30, H⟩ := H
      replace H : (if t238 < 0 then (some x5_1) else ((seicheref10_Letter.f t238).bind fun t240 => (if t240 = true then (seicheref11_name.l0 k1 a0 a1 (wrap64 (x5_1 + t239))) else ((seicheref10_Digit.f t238).bind fun t241 => (if t241 = true then (seicheref11_name.l0 k1 a0 a1 (wrap64 (x5_1 + t239))) else (some x5_1)))))) = some r := H
      have A3 := Aside0.mk A30; clear A30
      by_cases c4 : t238 < 0
      · rw [if_pos c4] at H
        have c4b0 : decide (t238 < 0) = true := decide_eq_true c4
        clear c4
        obtain rfl := Option.some.inj H
        go_wp2_with (first | ((with_reducible refine gate_callee (f := 26) rfl ?_); refine goesL_ (some 13) rfl rfl Tryd.func26 (by kernel_rfl) rfl #[.string a0, .int .i64 (wrap64 (a1 + x5_1))] rfl (by (try simp only [List.map_toArray, List.map_cons, List.map_nil]); first | done | rfl | (simp only [List.length_drop, List.length_take]; rfl)) ?_; (with_reducible refine (seicheref10_Rune.calls k1 a0 (wrap64 (a1 + x5_1)) t238 t239 _ A3.out).mono ?_); rintro e w5 ⟨rfl, hb⟩; refine ⟨_, rfl, ?_⟩; have n0_ := Aside0.mk (below_step (by repeat (first | (with_reducible first | exact HB.out | apply below_alloc | apply pw_below_drewN | apply below_drew1) | exact HB.out)) hb); clear HB; have HB := n0_; clear n0_; (try clear hb); (try clear hb2); (try clear hk); (try clear hi)))
        go_ret
        exact ⟨by first | rfl | (simp [errW_none, errW_some] <;> rfl) | (simp [*, errW_none, errW_some] <;> rfl), by repeat (first | (with_reducible first | exact HB.out | apply below_alloc | apply pw_below_drewN | apply below_drew1) | exact HB.out)⟩
      · rw [if_neg c4] at H
        have c4b0 : decide (t238 < 0) = false := decide_eq_false c4
        clear c4
        replace H := Option.bind_eq_some_iff.mp H
        obtain ⟨t240, A60, H⟩ := H
        replace H : (if t240 = true then (seicheref11_name.l0 k1 a0 a1 (wrap64 (x5_1 + t239))) else ((seicheref10_Digit.f t238).bind fun t241 => (if t241 = true then (seicheref11_name.l0 k1 a0 a1 (wrap64 (x5_1 + t239))) else (some x5_1)))) = some r := H
        have A6 := Aside0.mk A60; clear A60
        by_cases c7 : t240 = true
        · subst c7
          have H1 : (seicheref11_name.l0 k1 a0 a1 (wrap64 (x5_1 + t239))) = some r := by rw [if_pos rfl] at H; exact H
          clear H
          have H := H1
          clear H1
          have H' := Aside0.mk H
          clear H
          go_wp2_with (first | ((with_reducible refine gate_callee (f := 26) rfl ?_); refine goesL_ (some 13) rfl rfl Tryd.func26 (by kernel_rfl) rfl #[.string a0, .int .i64 (wrap64 (a1 + x5_1))] rfl (by (try simp only [List.map_toArray, List.map_cons, List.map_nil]); first | done | rfl | (simp only [List.length_drop, List.length_take]; rfl)) ?_; (with_reducible refine (seicheref10_Rune.calls k1 a0 (wrap64 (a1 + x5_1)) t238 t239 _ A3.out).mono ?_); rintro e w8 ⟨rfl, hb⟩; refine ⟨_, rfl, ?_⟩; have n0_ := Aside0.mk (below_step (by repeat (first | (with_reducible first | exact HB.out | apply below_alloc | apply pw_below_drewN | apply below_drew1) | exact HB.out)) hb); clear HB; have HB := n0_; clear n0_; (try clear hb); (try clear hb2); (try clear hk); (try clear hi)) | (go_at_call 29; (with_reducible refine (seicheref10_Letter.calls t238 true _ A6.out).mono ?_); rintro e w' ⟨rfl, ⟨nd, rfl⟩⟩))
          go_roundg k1
          case measure => have := HK1.out; omega
          case rel => exact ⟨(wrap64 (x5_1 + t239)), (by first | rfl | (simp; done) | (simp [*]; done)), H', ⟨by have := HK1.out; omega⟩, ⟨by repeat (first | (with_reducible first | exact HB.out | apply below_alloc | apply pw_below_drewN | apply below_drew1) | exact HB.out)⟩⟩
        · replace c7 := Bool.eq_false_iff.mpr c7
          subst c7
          have H1 : ((seicheref10_Digit.f t238).bind fun t241 => (if t241 = true then (seicheref11_name.l0 k1 a0 a1 (wrap64 (x5_1 + t239))) else (some x5_1))) = some r := by rw [if_neg (show ¬ (false = true) by decide)] at H; exact H
          clear H
          have H := H1
          clear H1
          replace H := Option.bind_eq_some_iff.mp H
          obtain ⟨t241, A90, H⟩ := H
          replace H : (if t241 = true then (seicheref11_name.l0 k1 a0 a1 (wrap64 (x5_1 + t239))) else (some x5_1)) = some r := H
          have A9 := Aside0.mk A90; clear A90
          by_cases c10 : t241 = true
          · subst c10
            have H1 : (seicheref11_name.l0 k1 a0 a1 (wrap64 (x5_1 + t239))) = some r := by rw [if_pos rfl] at H; exact H
            clear H
            have H := H1
            clear H1
            have H' := Aside0.mk H
            clear H
            go_wp2_with (first | ((with_reducible refine gate_callee (f := 26) rfl ?_); refine goesL_ (some 13) rfl rfl Tryd.func26 (by kernel_rfl) rfl #[.string a0, .int .i64 (wrap64 (a1 + x5_1))] rfl (by (try simp only [List.map_toArray, List.map_cons, List.map_nil]); first | done | rfl | (simp only [List.length_drop, List.length_take]; rfl)) ?_; (with_reducible refine (seicheref10_Rune.calls k1 a0 (wrap64 (a1 + x5_1)) t238 t239 _ A3.out).mono ?_); rintro e w11 ⟨rfl, hb⟩; refine ⟨_, rfl, ?_⟩; have n0_ := Aside0.mk (below_step (by repeat (first | (with_reducible first | exact HB.out | apply below_alloc | apply pw_below_drewN | apply below_drew1) | exact HB.out)) hb); clear HB; have HB := n0_; clear n0_; (try clear hb); (try clear hb2); (try clear hk); (try clear hi)) | (go_at_call 29; (with_reducible refine (seicheref10_Letter.calls t238 false _ A6.out).mono ?_); rintro e w' ⟨rfl, ⟨nd, rfl⟩⟩) | (go_at_call 31; (with_reducible refine (seicheref10_Digit.calls t238 true _ A9.out).mono ?_); rintro e w' ⟨rfl, ⟨nd, rfl⟩⟩))
            go_roundg k1
            case measure => have := HK1.out; omega
            case rel => exact ⟨(wrap64 (x5_1 + t239)), (by first | rfl | (simp; done) | (simp [*]; done)), H', ⟨by have := HK1.out; omega⟩, ⟨by repeat (first | (with_reducible first | exact HB.out | apply below_alloc | apply pw_below_drewN | apply below_drew1) | exact HB.out)⟩⟩
          · replace c10 := Bool.eq_false_iff.mpr c10
            subst c10
            have H1 : (some x5_1) = some r := by rw [if_neg (show ¬ (false = true) by decide)] at H; exact H
            clear H
            have H := H1
            clear H1
            obtain rfl := Option.some.inj H
            go_wp2_with (first | ((with_reducible refine gate_callee (f := 26) rfl ?_); refine goesL_ (some 13) rfl rfl Tryd.func26 (by kernel_rfl) rfl #[.string a0, .int .i64 (wrap64 (a1 + x5_1))] rfl (by (try simp only [List.map_toArray, List.map_cons, List.map_nil]); first | done | rfl | (simp only [List.length_drop, List.length_take]; rfl)) ?_; (with_reducible refine (seicheref10_Rune.calls k1 a0 (wrap64 (a1 + x5_1)) t238 t239 _ A3.out).mono ?_); rintro e w12 ⟨rfl, hb⟩; refine ⟨_, rfl, ?_⟩; have n0_ := Aside0.mk (below_step (by repeat (first | (with_reducible first | exact HB.out | apply below_alloc | apply pw_below_drewN | apply below_drew1) | exact HB.out)) hb); clear HB; have HB := n0_; clear n0_; (try clear hb); (try clear hb2); (try clear hk); (try clear hi)) | (go_at_call 29; (with_reducible refine (seicheref10_Letter.calls t238 false _ A6.out).mono ?_); rintro e w' ⟨rfl, ⟨nd, rfl⟩⟩) | (go_at_call 31; (with_reducible refine (seicheref10_Digit.calls t238 false _ A9.out).mono ?_); rintro e w' ⟨rfl, ⟨nd, rfl⟩⟩))
            go_ret
            exact ⟨by first | rfl | (simp [errW_none, errW_some] <;> rfl) | (simp [*, errW_none, errW_some] <;> rfl), by repeat (first | (with_reducible first | exact HB.out | apply below_alloc | apply pw_below_drewN | apply below_drew1) | exact HB.out)⟩
end Go.Proofs.YtfolmcfcmonkhaaDoor.PAll

