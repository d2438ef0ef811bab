-- Written by a program of this session (a changed scratch copy of a tool of the kit); not a print of the kit's own.
import Derived.Test.YtfolmcfcmonkhaaDoorPAllx0
import Derived.Test.YtfolmcfcmonkhaaDoorPAllx9
namespace Go.Proofs.YtfolmcfcmonkhaaDoor.PAll
open Go.RowKit Go.Proofs.YtfolmcfcmonkhaaDoorW.PrintWords Go.Proofs.YtfolmcfcmonkhaaDoorW.PrintLast Go.Proofs.YtfolmcfcmonkhaaDoorW.PrintMore Go.Proofs.YtfolmcfcmonkhaaDoorMy Go.Proofs.YtfolmcfcmonkhaaDoor
attribute [local go_sem] max2_int min2_int max_two min_two max_three min_three max_four min_four   -- for this text's walks alone
set_option linter.unusedVariables false
set_option linter.unusedSimpArgs false

mutual
def seicheref11_number.j0 : Nat → ByteArray → Int → Bool → Option (Int)
  | 0, _, _, _ => none
  | k + 1, x0, x1, x5 => seicheref11_number.l0 k x0 x1 x5 0
def seicheref11_number.l0 : Nat → ByteArray → Int → Bool → Int → Option (Int)
  | 0, _, _, _, _ => none
  | k + 1, x0, x1, x5, x6 => if (wrap64 (x1 + x6)) < (x0.size : Int) then (if 0 ≤ (wrap64 (x1 + x6)) then (if (wrap64 (bt x0 (wrap64 (x1 + x6)))) = 46 then (seicheref11_number.j2 k x0 x1 x5 x6 (wrap64 (bt x0 (wrap64 (x1 + x6)))) true) else (if (wrap64 (bt x0 (wrap64 (x1 + x6)))) < 128 then ((seicheref10_Letter.f (wrap64 (bt x0 (wrap64 (x1 + x6))))).bind fun t244 => (if t244 = true then (seicheref11_number.j2 k x0 x1 x5 x6 (wrap64 (bt x0 (wrap64 (x1 + x6)))) true) else ((seicheref10_Digit.f (wrap64 (bt x0 (wrap64 (x1 + x6))))).bind fun t245 => (seicheref11_number.j2 k x0 x1 x5 x6 (wrap64 (bt x0 (wrap64 (x1 + x6)))) t245)))) else (seicheref11_number.j2 k x0 x1 x5 x6 (wrap64 (bt x0 (wrap64 (x1 + x6)))) false))) else (none)) else (some x6)
def seicheref11_number.j2 : Nat → ByteArray → Int → Bool → Int → Int → Bool → Option (Int)
  | 0, _, _, _, _, _, _ => none
  | k + 1, x0, x1, x5, x6, x7, x8 => if x6 > 0 then (if x7 = 43 then (seicheref11_number.j3 k x0 x1 x5 x6 x8 true) else (seicheref11_number.j3 k x0 x1 x5 x6 x8 (x7 == 45))) else (seicheref11_number.j3 k x0 x1 x5 x6 x8 false)
def seicheref11_number.j3 : Nat → ByteArray → Int → Bool → Int → Bool → Bool → Option (Int)
  | 0, _, _, _, _, _, _ => none
  | k + 1, x0, x1, x5, x6, x8, x53 => if x53 = true then (if 0 ≤ (wrap64 ((wrap64 (x1 + x6)) - 1)) then (if (wrap64 ((wrap64 (x1 + x6)) - 1)) < (x0.size : Int) then (if (bt x0 (wrap64 ((wrap64 (x1 + x6)) - 1))) = 112 then (seicheref11_number.l0 k x0 x1 x5 (wrap64 (x6 + 1))) else (if (bt x0 (wrap64 ((wrap64 (x1 + x6)) - 1))) = 80 then (seicheref11_number.l0 k x0 x1 x5 (wrap64 (x6 + 1))) else (if x5 = true then (some x6) else (if (bt x0 (wrap64 ((wrap64 (x1 + x6)) - 1))) = 101 then (seicheref11_number.l0 k x0 x1 x5 (wrap64 (x6 + 1))) else (if ((bt x0 (wrap64 ((wrap64 (x1 + x6)) - 1))) = 69) then (seicheref11_number.l0 k x0 x1 x5 (wrap64 (x6 + 1))) else (some x6)))))) else (none)) else (none)) else (if x8 = true then (seicheref11_number.l0 k x0 x1 x5 (wrap64 (x6 + 1))) else (some x6))
end
def seicheref11_number.f (k : Nat) (a0 : ByteArray) (a1 : Int) : Option (Int) := (seicheref11_begins.f a0 a1 (⟨#[48, 120]⟩ : ByteArray)).bind fun t242 => (if t242 = true then (seicheref11_number.j0 k a0 a1 true) else ((seicheref11_begins.f a0 a1 (⟨#[48, 88]⟩ : ByteArray)).bind fun t243 => (seicheref11_number.j0 k a0 a1 t243)))
set_option maxHeartbeats 8000000 in
set_option maxRecDepth 100000 in
theorem seicheref11_number.calls (k : Nat) (a0 : ByteArray) (a1 : Int) (r : Int) (w : World) (h : seicheref11_number.f k a0 a1 = some r) :
    Calls Tryd.prog 32 #[.string a0, .int .i64 a1] w fun e w' => e = .returned (.int .i64 r) ∧ Drawn0 w w' := by
  have H : ((seicheref11_begins.f a0 a1 (⟨#[48, 120]⟩ : ByteArray)).bind fun t242 => (if t242 = true then (seicheref11_number.j0 k a0 a1 true) else ((seicheref11_begins.f a0 a1 (⟨#[48, 88]⟩ : ByteArray)).bind fun t243 => (seicheref11_number.j0 k a0 a1 t243)))) = some r := h
  clear h; have HC3 := Aside0.mk H; clear H
  go_enter Tryd.func32, Tryd.ntmps32
  go_upto_region 1 with (fail)
  go_cut [5] (fun v5 wc => ∃ (kq : Nat) (x5_2 : Bool), v5 = .bool x5_2 ∧ Aside0 (seicheref11_number.j0 kq a0 a1 x5_2 = some r) ∧ Aside0 (kq ≤ k) ∧ Drawn0 w wc)
  case first =>
    have H := HC3.out
    clear HC3
    replace H := Option.bind_eq_some_iff.mp H
    obtain ⟨t242, A40, H⟩ := H
    replace H : (if t242 = true then (seicheref11_number.j0 k a0 a1 true) else ((seicheref11_begins.f a0 a1 (⟨#[48, 88]⟩ : ByteArray)).bind fun t243 => (seicheref11_number.j0 k a0 a1 t243))) = some r := H
    have A4 := Aside0.mk A40; clear A40
    by_cases c5 : t242 = true
    · subst c5
      have H1 : (seicheref11_number.j0 k a0 a1 true) = some r := by rw [if_pos rfl] at H; exact H
      clear H
      have H := H1
      clear H1
      have H' := Aside0.mk H
      clear H
      go_wp2_with (first | ((with_reducible refine gate_callee (f := 27) rfl ?_); refine goesL_ (some 12) rfl rfl Tryd.func27 (by kernel_rfl) rfl #[.string a0, .int .i64 a1, .string (⟨#[48, 120]⟩ : ByteArray)] rfl (by (try simp only [List.map_toArray, List.map_cons, List.map_nil]); first | done | rfl | (simp only [List.length_drop, List.length_take]; rfl)) ?_; (with_reducible refine (seicheref11_begins.calls a0 a1 (⟨#[48, 120]⟩ : ByteArray) true _ A4.out).mono ?_); rintro e w' ⟨rfl, ⟨nd, rfl⟩⟩; refine ⟨_, rfl, ?_⟩))
      go_meet
      case rel => exact ⟨_, (true), (by first | rfl | (simp; done) | (simp [*]; done)), H', ⟨by first | omega | exact Nat.le_refl _⟩, by repeat (first | exact Drawn0.refl _ | apply Drawn0.step)⟩
    · replace c5 := Bool.eq_false_iff.mpr c5
      subst c5
      have H1 : ((seicheref11_begins.f a0 a1 (⟨#[48, 88]⟩ : ByteArray)).bind fun t243 => (seicheref11_number.j0 k a0 a1 t243)) = some r := by rw [if_neg (show ¬ (false = true) by decide)] at H; exact H
      clear H
      have H := H1
      clear H1
      replace H := Option.bind_eq_some_iff.mp H
      obtain ⟨t243, A60, H⟩ := H
      replace H : (seicheref11_number.j0 k a0 a1 t243) = some r := H
      have A6 := Aside0.mk A60; clear A60
      have H' := Aside0.mk H
      clear H
      go_wp2_with (first | ((with_reducible refine gate_callee (f := 27) rfl ?_); refine goesL_ (some 12) rfl rfl Tryd.func27 (by kernel_rfl) rfl #[.string a0, .int .i64 a1, .string (⟨#[48, 120]⟩ : ByteArray)] rfl (by (try simp only [List.map_toArray, List.map_cons, List.map_nil]); first | done | rfl | (simp only [List.length_drop, List.length_take]; rfl)) ?_; (with_reducible refine (seicheref11_begins.calls a0 a1 (⟨#[48, 120]⟩ : ByteArray) false _ A4.out).mono ?_); rintro e w' ⟨rfl, ⟨nd, rfl⟩⟩; refine ⟨_, rfl, ?_⟩) | (go_at_call 27; (with_reducible refine (seicheref11_begins.calls a0 a1 (⟨#[48, 88]⟩ : ByteArray) t243 _ A6.out).mono ?_); rintro e w' ⟨rfl, ⟨nd, rfl⟩⟩))
      go_meet
      case rel => exact ⟨_, (t243), (by first | rfl | (simp; done) | (simp [*]; done)), H', ⟨by first | omega | exact Nat.le_refl _⟩, by repeat (first | exact Drawn0.refl _ | apply Drawn0.step)⟩
  case rest =>
    clear HC3; (try clear c2); (try clear p2); (try clear c3); (try clear c5)
    obtain ⟨kq, x5_2, rfl, HA, HJ2, ⟨mc2, rfl⟩⟩ := hcut
    cases kq with
    | zero => exact absurd HA.out (by simp [seicheref11_number.j0])
    | succ kj2 =>
      have H := HA.out
      clear HA
      simp only [seicheref11_number.j0] at H
      have H' := Aside0.mk H
      clear H
      go_wp2
      go_loopg [6] kj2 (fun kq v6 w' => ∃ (x6_2 : Int), v6 = .int .i64 x6_2 ∧ Aside0 (seicheref11_number.l0 kq a0 a1 x5_2 x6_2 = some r) ∧ Aside0 (kq ≤ kj2) ∧ Drawn0 w w')
      case atStart => exact ⟨(0), (by first | rfl | (simp; done) | (simp [*]; done)), H', ⟨Nat.le_refl _⟩, by repeat (first | exact Drawn0.refl _ | apply Drawn0.step)⟩
      case round =>
        clear H'
        (try clear c2); (try clear p2); (try clear c3); (try clear c5); (try clear p2)
        obtain ⟨x6_2, rfl, HA, HK2, ⟨m2, rfl⟩⟩ := hrel
        cases gk with
        | zero => exact absurd HA.out (by simp [seicheref11_number.l0])
        | succ k2 =>
          have H := HA.out
          clear HA
          simp only [seicheref11_number.l0] at H
          by_cases c7 : (wrap64 (a1 + x6_2)) < (a0.size : Int)
          · rw [if_pos c7] at H
            have c7b0 : decide ((wrap64 (a1 + x6_2)) < (a0.size : Int)) = true := decide_eq_true c7
            clear c7
            obtain ⟨ji8, hji8⟩ : ∃ j_ : Int, (wrap64 (a1 + x6_2)) = j_ := ⟨_, rfl⟩
            replace H : (if 0 ≤ (ji8) then (if (wrap64 (bt a0 (ji8))) = 46 then (seicheref11_number.j2 k2 a0 a1 x5_2 x6_2 (wrap64 (bt a0 (ji8))) true) else (if (wrap64 (bt a0 (ji8))) < 128 then ((seicheref10_Letter.f (wrap64 (bt a0 (ji8)))).bind fun t244 => (if t244 = true then (seicheref11_number.j2 k2 a0 a1 x5_2 x6_2 (wrap64 (bt a0 (ji8))) true) else ((seicheref10_Digit.f (wrap64 (bt a0 (ji8)))).bind fun t245 => (seicheref11_number.j2 k2 a0 a1 x5_2 x6_2 (wrap64 (bt a0 (ji8))) t245)))) else (seicheref11_number.j2 k2 a0 a1 x5_2 x6_2 (wrap64 (bt a0 (ji8))) false))) else (none)) = some r := by first | (rw [hji8] at H; exact H) | (simp only [hji8] at H ⊢; exact H)
            (try rw [hji8] at c7b0)
            have hji8w : (IntKind.i64.wrap (a1 + x6_2)) = ji8 := (i64_w _).trans hji8
            by_cases c9 : 0 ≤ (ji8)
            · rw [if_pos c9] at H
              have c9b0 : decide (0 ≤ (ji8)) = true := decide_eq_true c9
              clear c9; have HC11 := Aside0.mk H; clear H
              have p10 : 0 ≤ ((ji8) : Int) := of_decide_eq_true (by first | (with_reducible assumption) | assumption)
              have q10 : (ji8) < (a0.size : Int) := of_decide_eq_true (by first | (with_reducible assumption) | assumption)
              have hx10 := bt_at a0 (ji8)
              replace p10 := eq_true p10; replace q10 := eq_true q10
              go_upto_region 5 with (fail)
              go_cut [8] (fun v8 wc => ∃ (kq : Nat) (x8_10 : Bool), v8 = .bool x8_10 ∧ Aside0 (seicheref11_number.j2 kq a0 a1 x5_2 x6_2 (wrap64 (bt a0 (ji8))) x8_10 = some r) ∧ Aside0 (kq ≤ k2) ∧ Drawn0 w wc)
              case first =>
                have H := HC11.out
                clear HC11
                by_cases c12 : (wrap64 (bt a0 (ji8))) = 46
                · rw [if_pos c12] at H
                  have c12b0 : ((wrap64 (bt a0 (ji8))) == 46) = true := beq_iff_eq.mpr c12
                  have c12b1 : ((wrap64 (bt a0 (ji8))) != 46) = false := bne_eq_false_iff_eq.mpr c12
                  clear c12
                  (first | rw [c12b0] | (simp only [i64_w, i32_w]; rw [c12b0]) | skip)
                  have H' := Aside0.mk H
                  clear H
                  go_wp2
                  go_meet
                  case rel => exact ⟨_, (true), (by first | rfl | (simp; done) | (simp [*]; done)), H', ⟨by have := HJ2.out; have := HK2.out; first | omega | exact Nat.le_refl _⟩, by repeat (first | exact Drawn0.refl _ | apply Drawn0.step)⟩
                · rw [if_neg c12] at H
                  have c12b0 : ((wrap64 (bt a0 (ji8))) == 46) = false := beq_eq_false_iff_ne.mpr c12
                  have c12b1 : ((wrap64 (bt a0 (ji8))) != 46) = true := bne_iff_ne.mpr c12
                  (first | rw [c12b0] | (simp only [i64_w, i32_w]; rw [c12b0]) | skip)
                  by_cases c13 : (wrap64 (bt a0 (ji8))) < 128
                  · rw [if_pos c13] at H
                    have c13b0 : decide ((wrap64 (bt a0 (ji8))) < 128) = true := decide_eq_true c13
                    clear c13
                    replace H := Option.bind_eq_some_iff.mp H
                    obtain ⟨t244, A140, H⟩ := H
                    replace H : (if t244 = true then (seicheref11_number.j2 k2 a0 a1 x5_2 x6_2 (wrap64 (bt a0 (ji8))) true) else ((seicheref10_Digit.f (wrap64 (bt a0 (ji8)))).bind fun t245 => (seicheref11_number.j2 k2 a0 a1 x5_2 x6_2 (wrap64 (bt a0 (ji8))) t245))) = some r := H
                    have A14 := Aside0.mk A140; clear A140
                    by_cases c15 : t244 = true
                    · subst c15
                      have H1 : (seicheref11_number.j2 k2 a0 a1 x5_2 x6_2 (wrap64 (bt a0 (ji8))) true) = some r := by rw [if_pos rfl] at H; exact H
                      clear H
                      have H := H1
                      clear H1
                      have H' := Aside0.mk H
                      clear H
                      go_wp2_with (first | (go_at_call 29; (with_reducible refine (seicheref10_Letter.calls (wrap64 (bt a0 (ji8))) true _ A14.out).mono ?_); rintro e w' ⟨rfl, ⟨nd, rfl⟩⟩))
                      go_meet
                      case rel => exact ⟨_, (true), (by first | rfl | (simp; done) | (simp [*]; done)), H', ⟨by have := HJ2.out; have := HK2.out; first | omega | exact Nat.le_refl _⟩, by repeat (first | exact Drawn0.refl _ | apply Drawn0.step)⟩
                    · replace c15 := Bool.eq_false_iff.mpr c15
                      subst c15
                      have H1 : ((seicheref10_Digit.f (wrap64 (bt a0 (ji8)))).bind fun t245 => (seicheref11_number.j2 k2 a0 a1 x5_2 x6_2 (wrap64 (bt a0 (ji8))) t245)) = some r := by rw [if_neg (show ¬ (false = true) by decide)] at H; exact H
                      clear H
                      have H := H1
                      clear H1
                      replace H := Option.bind_eq_some_iff.mp H
                      obtain ⟨t245, A160, H⟩ := H
                      replace H : (seicheref11_number.j2 k2 a0 a1 x5_2 x6_2 (wrap64 (bt a0 (ji8))) t245) = some r := H
                      have A16 := Aside0.mk A160; clear A160
                      have H' := Aside0.mk H
                      clear H
                      go_wp2_with (first | (go_at_call 29; (with_reducible refine (seicheref10_Letter.calls (wrap64 (bt a0 (ji8))) false _ A14.out).mono ?_); rintro e w' ⟨rfl, ⟨nd, rfl⟩⟩) | (go_at_call 31; (with_reducible refine (seicheref10_Digit.calls (wrap64 (bt a0 (ji8))) t245 _ A16.out).mono ?_); rintro e w' ⟨rfl, ⟨nd, rfl⟩⟩))
                      go_meet
                      case rel => exact ⟨_, (t245), (by first | rfl | (simp; done) | (simp [*]; done)), H', ⟨by have := HJ2.out; have := HK2.out; first | omega | exact Nat.le_refl _⟩, by repeat (first | exact Drawn0.refl _ | apply Drawn0.step)⟩
                  · rw [if_neg c13] at H
                    have c13b0 : decide ((wrap64 (bt a0 (ji8))) < 128) = false := decide_eq_false c13
                    clear c13
                    have H' := Aside0.mk H
                    clear H
                    go_wp2
                    go_meet
                    case rel => exact ⟨_, (false), (by first | rfl | (simp; done) | (simp [*]; done)), H', ⟨by have := HJ2.out; have := HK2.out; first | omega | exact Nat.le_refl _⟩, by repeat (first | exact Drawn0.refl _ | apply Drawn0.step)⟩
              case rest =>
                clear HC11; (try clear c1); (try clear p1); (try clear q1); (try clear hx1); (try clear c2); (try clear p2); (try clear c3); (try clear c5); (try clear p6); (try clear c7); (try clear c7b0); (try clear c9); (try clear c9b0); (try clear p10); (try clear q10); (try clear hx10); (try clear c12); (try clear c12b0); (try clear c12b1); (try clear c13); (try clear c13b0); (try clear c15); (try clear p10); (try clear p2); (try clear q10)
                obtain ⟨kq, x8_10, rfl, HA, HJ10, ⟨mc10, rfl⟩⟩ := hcut
                cases kq with
                | zero => exact absurd HA.out (by simp [seicheref11_number.j2])
                | succ kj10 =>
                  have H := HA.out
                  clear HA
                  simp only [seicheref11_number.j2] at H
                  have HC17 := Aside0.mk H; clear H
                  go_upto_region 6 with (fail)
                  go_cut [53] (fun v53 wc => ∃ (kq : Nat) (x53_16 : Bool), v53 = .bool x53_16 ∧ Aside0 (seicheref11_number.j3 kq a0 a1 x5_2 x6_2 x8_10 x53_16 = some r) ∧ Aside0 (kq ≤ kj10) ∧ Drawn0 w wc)
                  case first =>
                    have H := HC17.out
                    clear HC17
                    by_cases c18 : x6_2 > 0
                    · rw [if_pos c18] at H
                      have c18b0 : decide (0 < x6_2) = true := decide_eq_true c18
                      clear c18
                      (first | rw [c18b0] | (simp only [i64_w, i32_w]; rw [c18b0]) | skip)
                      by_cases c19 : (wrap64 (bt a0 (ji8))) = 43
                      · rw [if_pos c19] at H
                        have c19b0 : ((wrap64 (bt a0 (ji8))) == 43) = true := beq_iff_eq.mpr c19
                        have c19b1 : ((wrap64 (bt a0 (ji8))) != 43) = false := bne_eq_false_iff_eq.mpr c19
                        clear c19
                        have H' := Aside0.mk H
                        clear H
                        go_wp2
                        go_meet
                        case rel => exact ⟨_, (true), (by first | rfl | (simp; done) | (simp [*]; done)), H', ⟨by have := HJ2.out; have := HK2.out; have := HJ10.out; first | omega | exact Nat.le_refl _⟩, by repeat (first | exact Drawn0.refl _ | apply Drawn0.step)⟩
                      · rw [if_neg c19] at H
                        have c19b0 : ((wrap64 (bt a0 (ji8))) == 43) = false := beq_eq_false_iff_ne.mpr c19
                        have c19b1 : ((wrap64 (bt a0 (ji8))) != 43) = true := bne_iff_ne.mpr c19
                        have H' := Aside0.mk H
                        clear H
                        go_wp2
                        go_meet
                        case rel => exact ⟨_, (((wrap64 (bt a0 (ji8))) == 45)), (by first | rfl | (simp; done) | (simp only [← hji8] <;> (first | rfl | simp)) | (simp [*]; done)), H', ⟨by have := HJ2.out; have := HK2.out; have := HJ10.out; first | omega | exact Nat.le_refl _⟩, by repeat (first | exact Drawn0.refl _ | apply Drawn0.step)⟩
                    · rw [if_neg c18] at H
                      have c18b0 : decide (0 < x6_2) = false := decide_eq_false c18
                      clear c18
                      (first | rw [c18b0] | (simp only [i64_w, i32_w]; rw [c18b0]) | skip)
                      have H' := Aside0.mk H
                      clear H
                      go_wp2
                      go_meet
                      case rel => exact ⟨_, (false), (by first | rfl | (simp; done) | (simp [*]; done)), H', ⟨by have := HJ2.out; have := HK2.out; have := HJ10.out; first | omega | exact Nat.le_refl _⟩, by repeat (first | exact Drawn0.refl _ | apply Drawn0.step)⟩
                  case rest =>
                    clear HC17; (try clear c1); (try clear p1); (try clear q1); (try clear hx1); (try clear c2); (try clear p2); (try clear c3); (try clear c5); (try clear p6); (try clear c7); (try clear c7b0); (try clear c9); (try clear c9b0); (try clear c10); (try clear p10); (try clear q10); (try clear hx10); (try clear c12); (try clear c12b0); (try clear c12b1); (try clear c13); (try clear c13b0); (try clear c15); (try clear c18); (try clear c18b0); (try clear c19); (try clear c19b0); (try clear c19b1); (try clear p1); (try clear p10); (try clear p2); (try clear p6); (try clear q1); (try clear q10)
                    obtain ⟨kq, x53_16, rfl, HA, HJ16, ⟨mc16, rfl⟩⟩ := hcut
                    cases kq with
                    | zero => exact absurd HA.out (by simp [seicheref11_number.j3])
                    | succ kj16 =>
                      have H := HA.out
                      clear HA
                      simp only [seicheref11_number.j3] at H
                      by_cases c20 : x53_16 = true
                      · subst c20
                        have H1 : (if 0 ≤ (wrap64 ((wrap64 (a1 + x6_2)) - 1)) then (if (wrap64 ((wrap64 (a1 + x6_2)) - 1)) < (a0.size : Int) then (if (bt a0 (wrap64 ((wrap64 (a1 + x6_2)) - 1))) = 112 then (seicheref11_number.l0 kj16 a0 a1 x5_2 (wrap64 (x6_2 + 1))) else (if (bt a0 (wrap64 ((wrap64 (a1 + x6_2)) - 1))) = 80 then (seicheref11_number.l0 kj16 a0 a1 x5_2 (wrap64 (x6_2 + 1))) else (if x5_2 = true then (some x6_2) else (if (bt a0 (wrap64 ((wrap64 (a1 + x6_2)) - 1))) = 101 then (seicheref11_number.l0 kj16 a0 a1 x5_2 (wrap64 (x6_2 + 1))) else (if ((bt a0 (wrap64 ((wrap64 (a1 + x6_2)) - 1))) = 69) then (seicheref11_number.l0 kj16 a0 a1 x5_2 (wrap64 (x6_2 + 1))) else (some x6_2)))))) else (none)) else (none)) = some r := by rw [if_pos rfl] at H; exact H
                        clear H
                        have H := H1
                        clear H1
                        obtain ⟨ji21, hji21⟩ : ∃ j_ : Int, (wrap64 ((wrap64 (a1 + x6_2)) - 1)) = j_ := ⟨_, rfl⟩
                        replace H : (if 0 ≤ (ji21) then (if (ji21) < (a0.size : Int) then (if (bt a0 (ji21)) = 112 then (seicheref11_number.l0 kj16 a0 a1 x5_2 (wrap64 (x6_2 + 1))) else (if (bt a0 (ji21)) = 80 then (seicheref11_number.l0 kj16 a0 a1 x5_2 (wrap64 (x6_2 + 1))) else (if x5_2 = true then (some x6_2) else (if (bt a0 (ji21)) = 101 then (seicheref11_number.l0 kj16 a0 a1 x5_2 (wrap64 (x6_2 + 1))) else (if ((bt a0 (ji21)) = 69) then (seicheref11_number.l0 kj16 a0 a1 x5_2 (wrap64 (x6_2 + 1))) else (some x6_2)))))) else (none)) else (none)) = some r := by first | (rw [hji21] at H; exact H) | (simp only [hji21] at H ⊢; exact H)
                        have hji21w : (IntKind.i64.wrap ((wrap64 (a1 + x6_2)) - 1)) = ji21 := (i64_w _).trans hji21
                        (try rw [hji8] at hji21 hji21w)
                        by_cases c22 : 0 ≤ (ji21)
                        · rw [if_pos c22] at H
                          have c22b0 : decide (0 ≤ (ji21)) = true := decide_eq_true c22
                          clear c22
                          by_cases c23 : (ji21) < (a0.size : Int)
                          · rw [if_pos c23] at H
                            have c23b0 : decide ((ji21) < (a0.size : Int)) = true := decide_eq_true c23
                            clear c23
                            by_cases c25 : (bt a0 (ji21)) = 112
                            · rw [if_pos c25] at H
                              have c25b0 : ((bt a0 (ji21)) == 112) = true := beq_iff_eq.mpr c25
                              have c25b1 : ((bt a0 (ji21)) != 112) = false := bne_eq_false_iff_eq.mpr c25
                              clear c25
                              have H' := Aside0.mk H
                              clear H
                              have p24 : 0 ≤ ((ji21) : Int) := of_decide_eq_true (by first | (with_reducible assumption) | assumption)
                              have q24 : (ji21) < (a0.size : Int) := of_decide_eq_true (by first | (with_reducible assumption) | assumption)
                              have hx24 := bt_at a0 (ji21)
                              replace p24 := eq_true p24; replace q24 := eq_true q24
                              go_wp2
                              go_roundg kj16
                              case measure => have := HJ2.out; have := HK2.out; have := HJ10.out; have := HJ16.out; omega
                              case rel => exact ⟨(wrap64 (x6_2 + 1)), (by first | rfl | (simp; done) | (simp [*]; done)), H', ⟨by have := HJ2.out; have := HK2.out; have := HJ10.out; have := HJ16.out; omega⟩, by repeat (first | exact Drawn0.refl _ | apply Drawn0.step)⟩
                            · rw [if_neg c25] at H
                              have c25b0 : ((bt a0 (ji21)) == 112) = false := beq_eq_false_iff_ne.mpr c25
                              have c25b1 : ((bt a0 (ji21)) != 112) = true := bne_iff_ne.mpr c25
                              by_cases c26 : (bt a0 (ji21)) = 80
                              · rw [if_pos c26] at H
                                have c26b0 : ((bt a0 (ji21)) == 80) = true := beq_iff_eq.mpr c26
                                have c26b1 : ((bt a0 (ji21)) != 80) = false := bne_eq_false_iff_eq.mpr c26
                                clear c26
                                have H' := Aside0.mk H
                                clear H
                                have p24 : 0 ≤ ((ji21) : Int) := of_decide_eq_true (by first | (with_reducible assumption) | assumption)
                                have q24 : (ji21) < (a0.size : Int) := of_decide_eq_true (by first | (with_reducible assumption) | assumption)
                                have hx24 := bt_at a0 (ji21)
                                replace p24 := eq_true p24; replace q24 := eq_true q24
                                go_wp2
                                go_roundg kj16
                                case measure => have := HJ2.out; have := HK2.out; have := HJ10.out; have := HJ16.out; omega
                                case rel => exact ⟨(wrap64 (x6_2 + 1)), (by first | rfl | (simp; done) | (simp [*]; done)), H', ⟨by have := HJ2.out; have := HK2.out; have := HJ10.out; have := HJ16.out; omega⟩, by repeat (first | exact Drawn0.refl _ | apply Drawn0.step)⟩
                              · rw [if_neg c26] at H
                                have c26b0 : ((bt a0 (ji21)) == 80) = false := beq_eq_false_iff_ne.mpr c26
                                have c26b1 : ((bt a0 (ji21)) != 80) = true := bne_iff_ne.mpr c26
                                by_cases c27 : x5_2 = true
                                · subst c27
                                  have H1 : (some x6_2) = some r := by rw [if_pos rfl] at H; exact H
                                  clear H
                                  have H := H1
                                  clear H1
                                  obtain rfl := Option.some.inj H
                                  have p24 : 0 ≤ ((ji21) : Int) := of_decide_eq_true (by first | (with_reducible assumption) | assumption)
                                  have q24 : (ji21) < (a0.size : Int) := of_decide_eq_true (by first | (with_reducible assumption) | assumption)
                                  have hx24 := bt_at a0 (ji21)
                                  replace p24 := eq_true p24; replace q24 := eq_true q24
                                  go_wp2
                                  go_ret
                                  exact ⟨by first | rfl | (simp; done) | (simp only [← hji8, ← hji21] <;> (first | rfl | simp)) | (simp [*]; done), by repeat (first | exact Drawn0.refl _ | apply Drawn0.step)⟩
                                · replace c27 := Bool.eq_false_iff.mpr c27
                                  subst c27
                                  have H1 : (if (bt a0 (ji21)) = 101 then (seicheref11_number.l0 kj16 a0 a1 false (wrap64 (x6_2 + 1))) else (if ((bt a0 (ji21)) = 69) then (seicheref11_number.l0 kj16 a0 a1 false (wrap64 (x6_2 + 1))) else (some x6_2))) = some r := by rw [if_neg (show ¬ (false = true) by decide)] at H; exact H
                                  clear H
                                  have H := H1
                                  clear H1
                                  by_cases c28 : (bt a0 (ji21)) = 101
                                  · rw [if_pos c28] at H
                                    have c28b0 : ((bt a0 (ji21)) == 101) = true := beq_iff_eq.mpr c28
                                    have c28b1 : ((bt a0 (ji21)) != 101) = false := bne_eq_false_iff_eq.mpr c28
                                    clear c28
                                    have H' := Aside0.mk H
                                    clear H
                                    have p24 : 0 ≤ ((ji21) : Int) := of_decide_eq_true (by first | (with_reducible assumption) | assumption)
                                    have q24 : (ji21) < (a0.size : Int) := of_decide_eq_true (by first | (with_reducible assumption) | assumption)
                                    have hx24 := bt_at a0 (ji21)
                                    replace p24 := eq_true p24; replace q24 := eq_true q24
                                    go_wp2
                                    go_roundg kj16
                                    case measure => have := HJ2.out; have := HK2.out; have := HJ10.out; have := HJ16.out; omega
                                    case rel => exact ⟨(wrap64 (x6_2 + 1)), (by first | rfl | (simp; done) | (simp [*]; done)), H', ⟨by have := HJ2.out; have := HK2.out; have := HJ10.out; have := HJ16.out; omega⟩, by repeat (first | exact Drawn0.refl _ | apply Drawn0.step)⟩
                                  · rw [if_neg c28] at H
                                    have c28b0 : ((bt a0 (ji21)) == 101) = false := beq_eq_false_iff_ne.mpr c28
                                    have c28b1 : ((bt a0 (ji21)) != 101) = true := bne_iff_ne.mpr c28
                                    by_cases c29 : ((bt a0 (ji21)) = 69)
                                    · rw [if_pos c29] at H
                                      have c29b0 : ((bt a0 (ji21)) == 69) = true := beq_iff_eq.mpr c29
                                      have c29b1 : ((bt a0 (ji21)) != 69) = false := bne_eq_false_iff_eq.mpr c29
                                      clear c29
                                      have H' := Aside0.mk H
                                      clear H
                                      have p24 : 0 ≤ ((ji21) : Int) := of_decide_eq_true (by first | (with_reducible assumption) | assumption)
                                      have q24 : (ji21) < (a0.size : Int) := of_decide_eq_true (by first | (with_reducible assumption) | assumption)
                                      have hx24 := bt_at a0 (ji21)
                                      replace p24 := eq_true p24; replace q24 := eq_true q24
                                      go_wp2
                                      go_roundg kj16
                                      case measure => have := HJ2.out; have := HK2.out; have := HJ10.out; have := HJ16.out; omega
                                      case rel => exact ⟨(wrap64 (x6_2 + 1)), (by first | rfl | (simp; done) | (simp [*]; done)), H', ⟨by have := HJ2.out; have := HK2.out; have := HJ10.out; have := HJ16.out; omega⟩, by repeat (first | exact Drawn0.refl _ | apply Drawn0.step)⟩
                                    · rw [if_neg c29] at H
                                      have c29b0 : ((bt a0 (ji21)) == 69) = false := beq_eq_false_iff_ne.mpr c29
                                      have c29b1 : ((bt a0 (ji21)) != 69) = true := bne_iff_ne.mpr c29
                                      obtain rfl := Option.some.inj H
                                      have p24 : 0 ≤ ((ji21) : Int) := of_decide_eq_true (by first | (with_reducible assumption) | assumption)
                                      have q24 : (ji21) < (a0.size : Int) := of_decide_eq_true (by first | (with_reducible assumption) | assumption)
                                      have hx24 := bt_at a0 (ji21)
                                      replace p24 := eq_true p24; replace q24 := eq_true q24
                                      go_wp2
                                      go_ret
                                      exact ⟨by first | rfl | (simp; done) | (simp only [← hji8, ← hji21] <;> (first | rfl | simp)) | (simp [*]; done), by repeat (first | exact Drawn0.refl _ | apply Drawn0.step)⟩
                          · rw [if_neg c23] at H
                            exact absurd H (by simp)
                        · rw [if_neg c22] at H
                          exact absurd H (by simp)
                      · replace c20 := Bool.eq_false_iff.mpr c20
                        subst c20
                        have H1 : (if x8_10 = true then (seicheref11_number.l0 kj16 a0 a1 x5_2 (wrap64 (x6_2 + 1))) else (some x6_2)) = some r := by rw [if_neg (show ¬ (false = true) by decide)] at H; exact H
                        clear H
                        have H := H1
                        clear H1
                        by_cases c30 : x8_10 = true
                        · subst c30
                          have H1 : (seicheref11_number.l0 kj16 a0 a1 x5_2 (wrap64 (x6_2 + 1))) = some r := by rw [if_pos rfl] at H; exact H
                          clear H
                          have H := H1
                          clear H1
                          have H' := Aside0.mk H
                          clear H
                          go_wp2
                          go_roundg kj16
                          case measure => have := HJ2.out; have := HK2.out; have := HJ10.out; have := HJ16.out; omega
                          case rel => exact ⟨(wrap64 (x6_2 + 1)), (by first | rfl | (simp; done) | (simp [*]; done)), H', ⟨by have := HJ2.out; have := HK2.out; have := HJ10.out; have := HJ16.out; omega⟩, by repeat (first | exact Drawn0.refl _ | apply Drawn0.step)⟩
                        · replace c30 := Bool.eq_false_iff.mpr c30
                          subst c30
                          have H1 : (some x6_2) = some r := by rw [if_neg (show ¬ (false = true) by decide)] at H; exact H
                          clear H
                          have H := H1
                          clear H1
                          obtain rfl := Option.some.inj H
                          go_wp2
                          go_ret
                          exact ⟨by first | rfl | (simp; done) | (simp only [← hji8] <;> (first | rfl | simp)) | (simp [*]; done), by repeat (first | exact Drawn0.refl _ | apply Drawn0.step)⟩
            · rw [if_neg c9] at H
              exact absurd H (by simp)
          · rw [if_neg c7] at H
            have c7b0 : decide ((wrap64 (a1 + x6_2)) < (a0.size : Int)) = false := decide_eq_false c7
            clear c7
            obtain rfl := Option.some.inj H
            go_wp2
            go_ret
            exact ⟨by first | rfl | (simp; done) | (simp [*]; done), by repeat (first | exact Drawn0.refl _ | apply Drawn0.step)⟩
end Go.Proofs.YtfolmcfcmonkhaaDoor.PAll

