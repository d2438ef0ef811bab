-- Written by a program of this session (a changed scratch copy of a tool of the kit); not a print of the kit's own.
import Derived.Test.YtfolmcfcmonkhaaDoorPAllx0
import Derived.Test.YtfolmcfcmonkhaaDoorPAllx1
namespace Go.Proofs.YtfolmcfcmonkhaaDoor.PAll
open Go.RowKit Go.Proofs.YtfolmcfcmonkhaaDoorW.PrintWords Go.Proofs.YtfolmcfcmonkhaaDoorW.PrintLast Go.Proofs.YtfolmcfcmonkhaaDoorW.PrintMore Go.Proofs.YtfolmcfcmonkhaaDoorMy Go.Proofs.YtfolmcfcmonkhaaDoor
attribute [local go_sem] max2_int min2_int max_two min_two max_three min_three max_four min_four   -- for this text's walks alone
set_option linter.unusedVariables false
set_option linter.unusedSimpArgs false

attribute [local go_sem high] eqA27
def seicheref10_Skip.f (a0 : ByteArray) : Option (Int) := if (a0.size : Int) ≥ 3 then (if 0 ≤ 3 then (if 3 ≤ (a0.size : Int) then (if (a0.extract 0 3).toList = ([239, 187, 191] : List UInt8) then (some 3) else (some 0)) else (none)) else (none)) else (some 0)
set_option maxHeartbeats 8000000 in
set_option maxRecDepth 100000 in
theorem seicheref10_Skip.calls (a0 : ByteArray) (r : Int) (w : World) (h : seicheref10_Skip.f a0 = some r) :
    Calls Tryd.prog 10 #[.string a0] w fun e w' => e = .returned (.int .i64 r) ∧ Drawn0 w w' := by
  have H : (if (a0.size : Int) ≥ 3 then (if 0 ≤ 3 then (if 3 ≤ (a0.size : Int) then (if (a0.extract 0 3).toList = ([239, 187, 191] : List UInt8) then (some 3) else (some 0)) else (none)) else (none)) else (some 0)) = some r := h
  clear h
  by_cases c2 : (a0.size : Int) ≥ 3
  · rw [if_pos c2] at H
    have c2b0 : decide (3 ≤ (a0.size : Int)) = true := decide_eq_true c2
    have c2b1 : decide (3 ≤ a0.size) = true := decide_eq_true (by omega)
    clear c2
    by_cases c3 : 0 ≤ 3
    · rw [if_pos c3] at H
      have c3b0 := eq_true c3
      have c3b1 : decide (0 ≤ 3) = true := decide_eq_true c3
      clear c3
      by_cases c4 : 3 ≤ (a0.size : Int)
      · rw [if_pos c4] at H
        have c4b0 := eq_true c4
        have c4b1 : decide (3 ≤ (a0.size : Int)) = true := decide_eq_true c4
        clear c4
        by_cases c5 : (a0.extract 0 3).toList = ([239, 187, 191] : List UInt8)
        · rw [if_pos c5] at H
          have c5b0 : ((a0.extract 0 3).toList == ([239, 187, 191] : List UInt8)) = true := beq_iff_eq.mpr c5
          have c5b1 : ((a0.extract 0 3).toList != ([239, 187, 191] : List UInt8)) = false := bne_eq_false_iff_eq.mpr c5
          clear c5
          obtain rfl := Option.some.inj H
          go_enter Tryd.func10, Tryd.ntmps10
          go_wp2
          go_ret
          exact ⟨by first | rfl | (simp; done) | (simp [*]; done), by repeat (first | exact Drawn0.refl _ | apply Drawn0.step)⟩
        · rw [if_neg c5] at H
          have c5b0 : ((a0.extract 0 3).toList == ([239, 187, 191] : List UInt8)) = false := beq_eq_false_iff_ne.mpr c5
          have c5b1 : ((a0.extract 0 3).toList != ([239, 187, 191] : List UInt8)) = true := bne_iff_ne.mpr c5
          obtain rfl := Option.some.inj H
          go_enter Tryd.func10, Tryd.ntmps10
          go_wp2
          go_ret
          exact ⟨by first | rfl | (simp; done) | (simp [*]; done), by repeat (first | exact Drawn0.refl _ | apply Drawn0.step)⟩
      · rw [if_neg c4] at H
        exact absurd H (by simp)
    · rw [if_neg c3] at H
      exact absurd H (by simp)
  · rw [if_neg c2] at H
    have c2b0 : decide (3 ≤ (a0.size : Int)) = false := decide_eq_false c2
    have c2b1 : decide (3 ≤ a0.size) = false := decide_eq_false (by omega)
    clear c2
    obtain rfl := Option.some.inj H
    go_enter Tryd.func10, Tryd.ntmps10
    go_wp2
    go_ret
    exact ⟨by first | rfl | (simp; done) | (simp [*]; done), by repeat (first | exact Drawn0.refl _ | apply Drawn0.step)⟩
def seicheref11_Same.l0 : Nat → List (S27) → List (S27) → Int → Int → Option (Bool)
  | 0, _, _, _, _ => none
  | k + 1, x0, x1, x12, x13 => if x13 < x12 then (if 0 ≤ x13 then (if x13 < (x0.length : Int) then (if x13 < (x1.length : Int) then (if (!(((rd_T27 x0 x13).f0) == ((rd_T27 x1 x13).f0)) || (!((((rd_T27 x0 x13).f1).toList) == (((rd_T27 x1 x13).f1).toList)) || (!(((rd_T27 x0 x13).f2) == ((rd_T27 x1 x13).f2))))) = true then (some false) else (seicheref11_Same.l0 k x0 x1 x12 (wrap64 (x13 + 1)))) else (none)) else (none)) else (none)) else (some true)
def seicheref11_Same.f (k : Nat) (l0 : List (S27)) (l1 : List (S27)) : Option (Bool) := if (l0.length : Int) = (l1.length : Int) then (seicheref11_Same.l0 k l0 l1 (l0.length : Int) 0) else (some false)
set_option maxHeartbeats 8000000 in
set_option maxRecDepth 100000 in
theorem seicheref11_Same.calls (k : Nat) (A0 : Option Addr) (c0 : Nat) (l0 : List (S27)) (A1 : Option Addr) (c1 : Nat) (l1 : List (S27)) (r : Bool) (w : World) (hr0 : Kd.C k27 w A0 l0.length l0) (hc0 : l0.length ≤ c0) (hr1 : Kd.C k27 w A1 l1.length l1) (hc1 : l1.length ≤ c1) (h : seicheref11_Same.f k l0 l1 = some r) :
    Calls Tryd.prog 12 #[.slice A0 l0.length c0, .slice A1 l1.length c1] w fun e w' => e = .returned (.bool r) ∧ Drawn0 w w' := by
  have hu27 := Tryd.underlying27
  have HR0 := Aside0.mk hr0; have HC0 := Aside0.mk hc0; clear hr0 hc0; have HR1 := Aside0.mk hr1; have HC1 := Aside0.mk hc1; clear hr1 hc1
  have H : (if (l0.length : Int) = (l1.length : Int) then (seicheref11_Same.l0 k l0 l1 (l0.length : Int) 0) else (some false)) = some r := h
  clear h
  by_cases c3 : (l0.length : Int) = (l1.length : Int)
  · rw [if_pos c3] at H
    have c3b0 : ((l0.length : Int) == (l1.length : Int)) = true := beq_iff_eq.mpr c3
    have c3b1 : ((l0.length : Int) != (l1.length : Int)) = false := bne_eq_false_iff_eq.mpr c3
    have c3b2 : (l0.length == l1.length) = true := by first | simpa using c3 | (simp at c3 ⊢; omega)
    clear c3
    have H' := Aside0.mk H
    clear H
    go_enter Tryd.func12, Tryd.ntmps12
    go_wp2
    repeat (go_quiet (fail); try go_wp2)
    go_loopg [13] k (fun kq v13 w' => ∃ (x13_1 : Int), v13 = .int .i64 x13_1 ∧ Aside0 (seicheref11_Same.l0 kq l0 l1 (l0.length : Int) x13_1 = some r) ∧ Aside0 (kq ≤ k) ∧ Drawn0 w w')
    case atStart => exact ⟨(0), (by first | rfl | (simp; done) | (simp [*]; done)), H', ⟨Nat.le_refl _⟩, by repeat (first | exact Drawn0.refl _ | apply Drawn0.step)⟩
    case round =>
      clear H'
      (try clear c1); (try clear p2); (try clear c3); (try clear c3b0); (try clear c3b1); (try clear c3b2)
      obtain ⟨x13_1, rfl, HA, HK1, ⟨m1, rfl⟩⟩ := hrel
      cases gk with
      | zero => exact absurd HA.out (by simp [seicheref11_Same.l0])
      | succ k1 =>
        have H := HA.out
        clear HA
        simp only [seicheref11_Same.l0] at H
        by_cases c4 : x13_1 < (l0.length : Int)
        · rw [if_pos c4] at H
          have c4b0 : decide (x13_1 < (l0.length : Int)) = true := decide_eq_true c4
          clear c4
          by_cases c5 : 0 ≤ x13_1
          · rw [if_pos c5] at H
            have c5b0 : decide (0 ≤ x13_1) = true := decide_eq_true c5
            clear c5
            by_cases c6 : x13_1 < (l0.length : Int)
            · rw [if_pos c6] at H
              have c6b0 : decide (x13_1 < (l0.length : Int)) = true := decide_eq_true c6
              clear c6
              by_cases c7 : x13_1 < (l1.length : Int)
              · rw [if_pos c7] at H
                have c7b0 : decide (x13_1 < (l1.length : Int)) = true := decide_eq_true c7
                clear c7
                by_cases c8 : (!(((rd_T27 l0 x13_1).f0) == ((rd_T27 l1 x13_1).f0)) || (!((((rd_T27 l0 x13_1).f1).toList) == (((rd_T27 l1 x13_1).f1).toList)) || (!(((rd_T27 l0 x13_1).f2) == ((rd_T27 l1 x13_1).f2))))) = true
                · rw [if_pos c8] at H
                  have c8b0 : (!(((rd_T27 l0 x13_1).f0) == ((rd_T27 l1 x13_1).f0)) || (!((((rd_T27 l0 x13_1).f1).toList) == (((rd_T27 l1 x13_1).f1).toList)) || (!(((rd_T27 l0 x13_1).f2) == ((rd_T27 l1 x13_1).f2))))) = true := c8
                  clear c8
                  obtain rfl := Option.some.inj H
                  have p118 : 0 ≤ (x13_1 : Int) := of_decide_eq_true (by first | (with_reducible assumption) | assumption)
                  have q118 : x13_1 < (l0.length : Int) := of_decide_eq_true (by first | (with_reducible assumption) | assumption)
                  obtain ⟨ad118, e118, hx118_0, hx118_1, hx118_2⟩ := at_T27 HR0.out x13_1 p118 q118
                  cases e118
                  replace p118 := eq_true p118; replace q118 := eq_true q118
                  have p119 : 0 ≤ (x13_1 : Int) := of_decide_eq_true (by first | (with_reducible assumption) | assumption)
                  have q119 : x13_1 < (l1.length : Int) := of_decide_eq_true (by first | (with_reducible assumption) | assumption)
                  obtain ⟨ad119, e119, hx119_0, hx119_1, hx119_2⟩ := at_T27 HR1.out x13_1 p119 q119
                  cases e119
                  replace p119 := eq_true p119; replace q119 := eq_true q119
                  go_wp2
                  repeat (go_quiet (fail); try go_wp2)
                  go_ret
                  exact ⟨by first | rfl | (simp; done) | (simp [*]; done), by repeat (first | exact Drawn0.refl _ | apply Drawn0.step)⟩
                · rw [if_neg c8] at H
                  have c8b0 : (!(((rd_T27 l0 x13_1).f0) == ((rd_T27 l1 x13_1).f0)) || (!((((rd_T27 l0 x13_1).f1).toList) == (((rd_T27 l1 x13_1).f1).toList)) || (!(((rd_T27 l0 x13_1).f2) == ((rd_T27 l1 x13_1).f2))))) = false := by simpa using c8
                  clear c8
                  have H' := Aside0.mk H
                  clear H
                  have p118 : 0 ≤ (x13_1 : Int) := of_decide_eq_true (by first | (with_reducible assumption) | assumption)
                  have q118 : x13_1 < (l0.length : Int) := of_decide_eq_true (by first | (with_reducible assumption) | assumption)
                  obtain ⟨ad118, e118, hx118_0, hx118_1, hx118_2⟩ := at_T27 HR0.out x13_1 p118 q118
                  cases e118
                  replace p118 := eq_true p118; replace q118 := eq_true q118
                  have p119 : 0 ≤ (x13_1 : Int) := of_decide_eq_true (by first | (with_reducible assumption) | assumption)
                  have q119 : x13_1 < (l1.length : Int) := of_decide_eq_true (by first | (with_reducible assumption) | assumption)
                  obtain ⟨ad119, e119, hx119_0, hx119_1, hx119_2⟩ := at_T27 HR1.out x13_1 p119 q119
                  cases e119
                  replace p119 := eq_true p119; replace q119 := eq_true q119
                  go_wp2
                  repeat (go_quiet (fail); try go_wp2)
                  go_roundg k1
                  case measure => have := HK1.out; omega
                  case rel => exact ⟨(wrap64 (x13_1 + 1)), (by first | rfl | (simp; done) | (simp [*]; done)), H', ⟨by have := HK1.out; omega⟩, by repeat (first | exact Drawn0.refl _ | apply Drawn0.step)⟩
              · rw [if_neg c7] at H
                exact absurd H (by simp)
            · rw [if_neg c6] at H
              exact absurd H (by simp)
          · rw [if_neg c5] at H
            exact absurd H (by simp)
        · rw [if_neg c4] at H
          have c4b0 : decide (x13_1 < (l0.length : Int)) = false := decide_eq_false c4
          clear c4
          obtain rfl := Option.some.inj H
          go_wp2
          repeat (go_quiet (fail); try go_wp2)
          go_ret
          exact ⟨by first | rfl | (simp; done) | (simp [*]; done), by repeat (first | exact Drawn0.refl _ | apply Drawn0.step)⟩
  · rw [if_neg c3] at H
    have c3b0 : ((l0.length : Int) == (l1.length : Int)) = false := beq_eq_false_iff_ne.mpr c3
    have c3b1 : ((l0.length : Int) != (l1.length : Int)) = true := bne_iff_ne.mpr c3
    have c3b2 : (l0.length == l1.length) = false := by first | simpa using c3 | (simp at c3 ⊢; omega)
    obtain rfl := Option.some.inj H
    go_enter Tryd.func12, Tryd.ntmps12
    go_wp2
    repeat (go_quiet (fail); try go_wp2)
    go_ret
    exact ⟨by first | rfl | (simp; done) | (simp [*]; done), by repeat (first | exact Drawn0.refl _ | apply Drawn0.step)⟩
end Go.Proofs.YtfolmcfcmonkhaaDoor.PAll

