/- The scanner's text: printed. -/
import Derived.Test.YtfolmcfcmonkhaaDoorScU
namespace Go.Proofs.YtfolmcfcmonkhaaDoor.PAll
open Go Go.RowKit Go.Proofs.YtfolmcfcmonkhaaDoorW.PrintWords Go.Proofs.YtfolmcfcmonkhaaDoorW.PrintLast Go.Proofs.YtfolmcfcmonkhaaDoorW.PrintMore Go.Proofs.YtfolmcfcmonkhaaDoorMy Go.Proofs.YtfolmcfcmonkhaaDoor
attribute [local go_sem] max2_int min2_int max_two min_two max_three min_three max_four min_four
set_option linter.unusedVariables false
set_option linter.unusedSimpArgs false
mutual
def golex_scanner_text.j0 : Nat → Int → Int → ByteArray → ByteArray → ByteArray → Int → List (S27) → List (S27) → Option (Bool × ByteArray × Int × List (S27) × List (S27))
  | 0, _, _, _, _, _, _, _, _ => none
  | k + 1, x1, x5, x6, x7, x1000, x1001, x1002, x1003 => (golex_scanner_until.f k x1000 x1001 x1002 x1003 x5 (wrap64 (x5 + 1)) x6 (x7.toList != ([] : List UInt8)) x7).bind fun bt151 => (if bt151.2.1 = true then (if x1 = 3 then (golex_scanner_text.j1 k x1 x5 bt151.1 (bt151.1 == (wrap64 (x5 + 2))) bt151.2.2.1 bt151.2.2.2.1 bt151.2.2.2.2.1 bt151.2.2.2.2.2) else (golex_scanner_text.j1 k x1 x5 bt151.1 false bt151.2.2.1 bt151.2.2.2.1 bt151.2.2.2.2.1 bt151.2.2.2.2.2)) else (some (false, bt151.2.2.1, bt151.2.2.2.1, bt151.2.2.2.2.1, bt151.2.2.2.2.2)))
def golex_scanner_text.j1 : Nat → Int → Int → Int → Bool → ByteArray → Int → List (S27) → List (S27) → Option (Bool × ByteArray × Int × List (S27) × List (S27))
  | 0, _, _, _, _, _, _, _, _ => none
  | k + 1, x1, x5, x8, x51, x1000, x1001, x1002, x1003 => if x51 = true then ((golex_scanner_bad.f x1000 x1001 x1002 x1003 x5).bind fun bt157 => (some (bt157.1, bt157.2.1, bt157.2.2.1, bt157.2.2.2.1, bt157.2.2.2.2))) else ((golex_scanner_put.f x1000 x1001 x1002 x1003 x1 x5 x8).bind fun bt162 => (some (true, bt162.1, bt162.2.1, bt162.2.2.1, bt162.2.2.2)))
end
def golex_scanner_text.f (k : Nat) (s0_0 : ByteArray) (s0_1 : Int) (s0_2 : List (S27)) (s0_3 : List (S27)) (a1 : Int) : Option (Bool × ByteArray × Int × List (S27) × List (S27)) := if 0 ≤ s0_1 then (if s0_1 ≤ (wrap64 (s0_1 + 1)) then (if (wrap64 (s0_1 + 1)) ≤ (s0_0.size : Int) then (if (s0_0.extract (s0_1 : Int).toNat ((wrap64 (s0_1 + 1)) : Int).toNat).toList = ([96] : List UInt8) then (golex_scanner_text.j0 k a1 s0_1 (s0_0.extract (s0_1 : Int).toNat ((wrap64 (s0_1 + 1)) : Int).toNat) (⟨#[]⟩ : ByteArray) s0_0 s0_1 s0_2 s0_3) else (golex_scanner_text.j0 k a1 s0_1 (s0_0.extract (s0_1 : Int).toNat ((wrap64 (s0_1 + 1)) : Int).toNat) (⟨#[10]⟩ : ByteArray) s0_0 s0_1 s0_2 s0_3)) else (none)) else (none)) else (none)
set_option maxHeartbeats 8000000 in
set_option maxRecDepth 100000 in
theorem golex_scanner_text.calls (k : Nat) (g : Nat) (s0_0 : ByteArray) (s0_1 : Int) (s0_2 : List (S27)) (s0_3 : List (S27)) (a1 : Int) (r1 : Bool) (r2 : ByteArray) (r3 : Int) (r4 : List (S27)) (r5 : List (S27)) (w0 w : World) (hT : Tabs w0) (hI : IsS36 w0 w g s0_0 s0_1 s0_2 s0_3) (hB : Below w0.heap.size w0 w) (h : golex_scanner_text.f k s0_0 s0_1 s0_2 s0_3 a1 = some (r1, r2, r3, r4, r5)) :
    Calls Tryd.prog 47 #[.pointer (some ⟨g, 0, none⟩), .int .i64 a1] w fun e w' => e = .returned (.bool r1) ∧ IsS36 w0 w' g r2 r3 r4 r5 ∧ Below w0.heap.size w0 w' ∧ Kq w w' g none := by
  have HT := Aside0.mk hT; clear hT; have HI0 := Aside0.mk hI
  have HK := Aside0.mk (Kq.refl w g none)
  have HL := Aside0.mk hB.size
  clear hI
  have HW0 := Aside0.mk hB.size
  have HB := Aside0.mk hB; clear hB
  have H : (if 0 ≤ s0_1 then (if s0_1 ≤ (wrap64 (s0_1 + 1)) then (if (wrap64 (s0_1 + 1)) ≤ (s0_0.size : Int) then (if (s0_0.extract (s0_1 : Int).toNat ((wrap64 (s0_1 + 1)) : Int).toNat).toList = ([96] : List UInt8) then (golex_scanner_text.j0 k a1 s0_1 (s0_0.extract (s0_1 : Int).toNat ((wrap64 (s0_1 + 1)) : Int).toNat) (⟨#[]⟩ : ByteArray) s0_0 s0_1 s0_2 s0_3) else (golex_scanner_text.j0 k a1 s0_1 (s0_0.extract (s0_1 : Int).toNat ((wrap64 (s0_1 + 1)) : Int).toNat) (⟨#[10]⟩ : ByteArray) s0_0 s0_1 s0_2 s0_3)) else (none)) else (none)) else (none)) = some (r1, r2, r3, r4, r5) := h
  clear h
  by_cases c3 : 0 ≤ s0_1
  · rw [if_pos c3] at H
    have c3b0 := eq_true c3
    have c3b1 : decide (0 ≤ s0_1) = true := decide_eq_true c3
    clear c3
    by_cases c4 : s0_1 ≤ (wrap64 (s0_1 + 1))
    · rw [if_pos c4] at H
      have c4b0 := eq_true c4
      have c4b1 : decide (s0_1 ≤ (wrap64 (s0_1 + 1))) = true := decide_eq_true c4
      by_cases c5 : (wrap64 (s0_1 + 1)) ≤ (s0_0.size : Int)
      · rw [if_pos c5] at H
        have c5b0 := eq_true c5
        have c5b1 : decide ((wrap64 (s0_1 + 1)) ≤ (s0_0.size : Int)) = true := decide_eq_true c5
        have HC6 := Aside0.mk H; clear H; obtain ⟨tvz7, nvz7, HGz7, hgz7, hRz7, hNz7⟩ := HI0.out; have hcz7_0 := cellS36_0 HGz7; have hcz7_1 := cellS36_1 HGz7; have hcz7_2 := cellS36_2 HGz7; have hcz7_3 := cellS36_3 HGz7; have hfz7_0 := blk_frozen HGz7 0; have hfz7_1 := blk_frozen HGz7 1; have hfz7_2 := blk_frozen HGz7 2; have hfz7_3 := blk_frozen HGz7 3; clear HGz7 hgz7
        go_enter Tryd.func47, Tryd.ntmps47
        go_upto_if 29 with (fail)
        repeat (go_quiet (fail); go_upto_if 29 with (fail))
        go_cut [7] (fun v7 wc => ∃ (kq : Nat) (x7_5 : ByteArray), v7 = .string x7_5 ∧ Aside0 (golex_scanner_text.j0 kq a1 s0_1 (s0_0.extract (s0_1 : Int).toNat ((wrap64 (s0_1 + 1)) : Int).toNat) x7_5 s0_0 s0_1 s0_2 s0_3 = some (r1, r2, r3, r4, r5)) ∧ Aside0 (kq ≤ k) ∧ Aside0 (IsS36 w0 wc g s0_0 s0_1 s0_2 s0_3) ∧ Aside0 (Kq w wc g none) ∧ Aside0 (Below w0.heap.size w0 wc))
        case first =>
          have H := HC6.out
          clear HC6
          by_cases c8 : (s0_0.extract (s0_1 : Int).toNat ((wrap64 (s0_1 + 1)) : Int).toNat).toList = ([96] : List UInt8)
          · rw [if_pos c8] at H
            have c8b0 : ((s0_0.extract (s0_1 : Int).toNat ((wrap64 (s0_1 + 1)) : Int).toNat).toList == ([96] : List UInt8)) = true := beq_iff_eq.mpr c8
            have c8b1 : ((s0_0.extract (s0_1 : Int).toNat ((wrap64 (s0_1 + 1)) : Int).toNat).toList != ([96] : List UInt8)) = false := bne_eq_false_iff_eq.mpr c8
            clear c8
            (first | rw [c8b0] | (simp only [i64_w, i32_w]; rw [c8b0]) | skip)
            have H' := Aside0.mk H
            clear H
            go_wp2
            repeat (go_quiet (fail); try go_wp2)
            go_meet
            case rel => exact ⟨_, ((⟨#[]⟩ : ByteArray)), (by first | rfl | (simp; done) | (simp [*]; done)), H', ⟨by first | omega | exact Nat.le_refl _⟩, ⟨by repeat (first | (with_reducible first | exact HI0.out | apply IsS36.alloc | apply IsS36.drewN | apply IsS36.drew | apply IsS36.set_0 | apply IsS36.set_1 | apply IsS36.set_2 | apply IsS36.set_3) | exact HI0.out)⟩, ⟨by repeat (first | (with_reducible first | exact HK.out | apply Kq.set_ | apply kq_drewN | apply kq_drew | apply kq_alloc) | exact HK.out)⟩, ⟨by repeat (first | (with_reducible first | exact HB.out | apply below_alloc | apply pw_below_drewN | apply below_drew1 | refine below_set ?_ (IsS36.ge HI0.out)) | exact HB.out)⟩⟩
          · rw [if_neg c8] at H
            have c8b0 : ((s0_0.extract (s0_1 : Int).toNat ((wrap64 (s0_1 + 1)) : Int).toNat).toList == ([96] : List UInt8)) = false := beq_eq_false_iff_ne.mpr c8
            have c8b1 : ((s0_0.extract (s0_1 : Int).toNat ((wrap64 (s0_1 + 1)) : Int).toNat).toList != ([96] : List UInt8)) = true := bne_iff_ne.mpr c8
            (first | rw [c8b0] | (simp only [i64_w, i32_w]; rw [c8b0]) | skip)
            have H' := Aside0.mk H
            clear H
            go_wp2
            repeat (go_quiet (fail); try go_wp2)
            go_meet
            case rel => exact ⟨_, ((⟨#[10]⟩ : ByteArray)), (by first | rfl | (simp; done) | (simp [*]; done)), H', ⟨by first | omega | exact Nat.le_refl _⟩, ⟨by repeat (first | (with_reducible first | exact HI0.out | apply IsS36.alloc | apply IsS36.drewN | apply IsS36.drew | apply IsS36.set_0 | apply IsS36.set_1 | apply IsS36.set_2 | apply IsS36.set_3) | exact HI0.out)⟩, ⟨by repeat (first | (with_reducible first | exact HK.out | apply Kq.set_ | apply kq_drewN | apply kq_drew | apply kq_alloc) | exact HK.out)⟩, ⟨by repeat (first | (with_reducible first | exact HB.out | apply below_alloc | apply pw_below_drewN | apply below_drew1 | refine below_set ?_ (IsS36.ge HI0.out)) | exact HB.out)⟩⟩
        case rest =>
          clear HC6; (try clear p2); (try clear c3); (try clear c3b0); (try clear c3b1); (try clear c4); (try clear c4b0); (try clear c4b1); (try clear c5); (try clear c5b0); (try clear c5b1); (try clear p6); (try clear c8); (try clear c8b0); (try clear c8b1); (try clear hcz7_0); (try clear hcz7_1); (try clear hcz7_2); (try clear hcz7_3); (try clear hfz7_0); (try clear hfz7_1); (try clear hfz7_2); (try clear hfz7_3); obtain ⟨kq, x7_5, rfl, HA, HJ5, HI0, HK, HB⟩ := hcut
          cases kq with
          | zero => exact absurd HA.out (by simp [golex_scanner_text.j0])
          | succ kj5 =>
            have H := HA.out
            clear HA
            simp only [golex_scanner_text.j0] at H
            replace H := Option.bind_eq_some_iff.mp H
            obtain ⟨⟨t151, t152, t153, t154, t155, t156⟩, A90, H⟩ := H
            replace H : (if t152 = true then (if a1 = 3 then (golex_scanner_text.j1 kj5 a1 s0_1 t151 (t151 == (wrap64 (s0_1 + 2))) t153 t154 t155 t156) else (golex_scanner_text.j1 kj5 a1 s0_1 t151 false t153 t154 t155 t156)) else (some (false, t153, t154, t155, t156))) = some (r1, r2, r3, r4, r5) := H
            have hne_ : (x7_5.toList != ([] : List UInt8)) = (!x7_5.toList.isEmpty) := by cases x7_5.toList <;> rfl
            rw [hne_] at A90
            have A9 := Aside0.mk A90; clear A90
            by_cases c10 : t152 = true
            · subst c10
              have H1 : (if a1 = 3 then (golex_scanner_text.j1 kj5 a1 s0_1 t151 (t151 == (wrap64 (s0_1 + 2))) t153 t154 t155 t156) else (golex_scanner_text.j1 kj5 a1 s0_1 t151 false t153 t154 t155 t156)) = some (r1, r2, r3, r4, r5) := by rw [if_pos rfl] at H; exact H
              clear H
              have H := H1
              clear H1; have HC11 := Aside0.mk H; clear H
              go_upto_region 7 with (first | (go_at_call 54; (with_reducible refine (golex_scanner_until.calls kj5 g s0_0 s0_1 s0_2 s0_3 s0_1 (wrap64 (s0_1 + 1)) (s0_0.extract (s0_1 : Int).toNat ((wrap64 (s0_1 + 1)) : Int).toNat) (!x7_5.toList.isEmpty) x7_5 t151 true t153 t154 t155 t156 w0 _ ?side1 ?side2 ?side3 A9.out).mono ?_); (case side1 => first | exact HT.out | exact Tabs.below HT.out (by repeat (first | (with_reducible first | exact HB.out | apply below_alloc | apply pw_below_drewN | apply below_drew1 | refine below_set ?_ (IsS36.ge HI0.out)) | exact HB.out))); (case side2 => repeat (first | (with_reducible first | exact HI0.out | apply IsS36.alloc | apply IsS36.drewN | apply IsS36.drew | apply IsS36.set_0 | apply IsS36.set_1 | apply IsS36.set_2 | apply IsS36.set_3) | exact HI0.out)); (case side3 => repeat (first | (with_reducible first | exact HB.out | apply below_alloc | apply pw_below_drewN | apply below_drew1 | refine below_set ?_ (IsS36.ge HI0.out)) | exact HB.out)); rintro e w12 ⟨rfl, hi, hb, hk⟩; have n0_ := Aside0.mk (Kq.trans (by repeat (first | (with_reducible first | exact HK.out | apply Kq.set_ | apply kq_drewN | apply kq_drew | apply kq_alloc) | exact HK.out)) hk (.inl rfl)); have n1_ := Aside0.mk (hb); have n2_ := Aside0.mk (hi); clear HK; clear HB; clear HI0; have HK := n0_; have HB := n1_; have HI0 := n2_; clear n0_ n1_ n2_; (try clear hb); (try clear hb2); (try clear hk); (try clear hi)))
              repeat (go_quiet (first | (go_at_call 54; (with_reducible refine (golex_scanner_until.calls kj5 g s0_0 s0_1 s0_2 s0_3 s0_1 (wrap64 (s0_1 + 1)) (s0_0.extract (s0_1 : Int).toNat ((wrap64 (s0_1 + 1)) : Int).toNat) (!x7_5.toList.isEmpty) x7_5 t151 true t153 t154 t155 t156 w0 _ ?side1 ?side2 ?side3 A9.out).mono ?_); (case side1 => first | exact HT.out | exact Tabs.below HT.out (by repeat (first | (with_reducible first | exact HB.out | apply below_alloc | apply pw_below_drewN | apply below_drew1 | refine below_set ?_ (IsS36.ge HI0.out)) | exact HB.out))); (case side2 => repeat (first | (with_reducible first | exact HI0.out | apply IsS36.alloc | apply IsS36.drewN | apply IsS36.drew | apply IsS36.set_0 | apply IsS36.set_1 | apply IsS36.set_2 | apply IsS36.set_3) | exact HI0.out)); (case side3 => repeat (first | (with_reducible first | exact HB.out | apply below_alloc | apply pw_below_drewN | apply below_drew1 | refine below_set ?_ (IsS36.ge HI0.out)) | exact HB.out)); rintro e w12 ⟨rfl, hi, hb, hk⟩; have n0_ := Aside0.mk (Kq.trans (by repeat (first | (with_reducible first | exact HK.out | apply Kq.set_ | apply kq_drewN | apply kq_drew | apply kq_alloc) | exact HK.out)) hk (.inl rfl)); have n1_ := Aside0.mk (hb); have n2_ := Aside0.mk (hi); clear HK; clear HB; clear HI0; have HK := n0_; have HB := n1_; have HI0 := n2_; clear n0_ n1_ n2_; (try clear hb); (try clear hb2); (try clear hk); (try clear hi))); go_upto_region 7 with (first | (go_at_call 54; (with_reducible refine (golex_scanner_until.calls kj5 g s0_0 s0_1 s0_2 s0_3 s0_1 (wrap64 (s0_1 + 1)) (s0_0.extract (s0_1 : Int).toNat ((wrap64 (s0_1 + 1)) : Int).toNat) (!x7_5.toList.isEmpty) x7_5 t151 true t153 t154 t155 t156 w0 _ ?side1 ?side2 ?side3 A9.out).mono ?_); (case side1 => first | exact HT.out | exact Tabs.below HT.out (by repeat (first | (with_reducible first | exact HB.out | apply below_alloc | apply pw_below_drewN | apply below_drew1 | refine below_set ?_ (IsS36.ge HI0.out)) | exact HB.out))); (case side2 => repeat (first | (with_reducible first | exact HI0.out | apply IsS36.alloc | apply IsS36.drewN | apply IsS36.drew | apply IsS36.set_0 | apply IsS36.set_1 | apply IsS36.set_2 | apply IsS36.set_3) | exact HI0.out)); (case side3 => repeat (first | (with_reducible first | exact HB.out | apply below_alloc | apply pw_below_drewN | apply below_drew1 | refine below_set ?_ (IsS36.ge HI0.out)) | exact HB.out)); rintro e w12 ⟨rfl, hi, hb, hk⟩; have n0_ := Aside0.mk (Kq.trans (by repeat (first | (with_reducible first | exact HK.out | apply Kq.set_ | apply kq_drewN | apply kq_drew | apply kq_alloc) | exact HK.out)) hk (.inl rfl)); have n1_ := Aside0.mk (hb); have n2_ := Aside0.mk (hi); clear HK; clear HB; clear HI0; have HK := n0_; have HB := n1_; have HI0 := n2_; clear n0_ n1_ n2_; (try clear hb); (try clear hb2); (try clear hk); (try clear hi))))
              (try simp only [Act.put, List.setIfInBounds_toArray, List.set_cons_zero, List.set_cons_succ])
              go_cut [51] (fun v51 wc => ∃ (kq : Nat) (x51_10 : Bool), v51 = .bool x51_10 ∧ Aside0 (golex_scanner_text.j1 kq a1 s0_1 t151 x51_10 t153 t154 t155 t156 = some (r1, r2, r3, r4, r5)) ∧ Aside0 (kq ≤ kj5) ∧ Aside0 (IsS36 w0 wc g t153 t154 t155 t156) ∧ Aside0 (Kq w wc g none) ∧ Aside0 (Below w0.heap.size w0 wc))
              case first =>
                have H := HC11.out
                clear HC11
                by_cases c13 : a1 = 3
                · rw [if_pos c13] at H
                  have c13b0 : (a1 == 3) = true := beq_iff_eq.mpr c13
                  have c13b1 : (a1 != 3) = false := bne_eq_false_iff_eq.mpr c13
                  clear c13
                  (first | rw [c13b0] | (simp only [i64_w, i32_w]; rw [c13b0]) | skip)
                  have H' := Aside0.mk H
                  clear H
                  go_wp2
                  repeat (go_quiet (fail); try go_wp2)
                  go_meet
                  case rel => exact ⟨_, ((t151 == (wrap64 (s0_1 + 2)))), (by first | rfl | (simp; done) | (simp [*]; done)), H', ⟨by have := HJ5.out; first | omega | exact Nat.le_refl _⟩, ⟨by repeat (first | (with_reducible first | exact HI0.out | apply IsS36.alloc | apply IsS36.drewN | apply IsS36.drew | apply IsS36.set_0 | apply IsS36.set_1 | apply IsS36.set_2 | apply IsS36.set_3) | exact HI0.out)⟩, ⟨by repeat (first | (with_reducible first | exact HK.out | apply Kq.set_ | apply kq_drewN | apply kq_drew | apply kq_alloc) | exact HK.out)⟩, ⟨by repeat (first | (with_reducible first | exact HB.out | apply below_alloc | apply pw_below_drewN | apply below_drew1 | refine below_set ?_ (IsS36.ge HI0.out)) | exact HB.out)⟩⟩
                · rw [if_neg c13] at H
                  have c13b0 : (a1 == 3) = false := beq_eq_false_iff_ne.mpr c13
                  have c13b1 : (a1 != 3) = true := bne_iff_ne.mpr c13
                  (first | rw [c13b0] | (simp only [i64_w, i32_w]; rw [c13b0]) | skip)
                  have H' := Aside0.mk H
                  clear H
                  go_wp2
                  repeat (go_quiet (fail); try go_wp2)
                  go_meet
                  case rel => exact ⟨_, (false), (by first | rfl | (simp; done) | (simp [*]; done)), H', ⟨by have := HJ5.out; first | omega | exact Nat.le_refl _⟩, ⟨by repeat (first | (with_reducible first | exact HI0.out | apply IsS36.alloc | apply IsS36.drewN | apply IsS36.drew | apply IsS36.set_0 | apply IsS36.set_1 | apply IsS36.set_2 | apply IsS36.set_3) | exact HI0.out)⟩, ⟨by repeat (first | (with_reducible first | exact HK.out | apply Kq.set_ | apply kq_drewN | apply kq_drew | apply kq_alloc) | exact HK.out)⟩, ⟨by repeat (first | (with_reducible first | exact HB.out | apply below_alloc | apply pw_below_drewN | apply below_drew1 | refine below_set ?_ (IsS36.ge HI0.out)) | exact HB.out)⟩⟩
              case rest =>
                clear HC11; (try clear c1); (try clear p2); (try clear c3); (try clear c3b0); (try clear c3b1); (try clear c4); (try clear c4b0); (try clear c4b1); (try clear c5); (try clear c5b0); (try clear c5b1); (try clear p6); (try clear c8); (try clear c8b0); (try clear c8b1); (try clear c10); (try clear c13); (try clear c13b0); (try clear c13b1); (try clear hcz7_0); (try clear hcz7_1); (try clear hcz7_2); (try clear hcz7_3); (try clear hfz7_0); (try clear hfz7_1); (try clear hfz7_2); (try clear hfz7_3); (try clear p2); (try clear p6); obtain ⟨kq, x51_10, rfl, HA, HJ10, HI0, HK, HB⟩ := hcut
                cases kq with
                | zero => exact absurd HA.out (by simp [golex_scanner_text.j1])
                | succ kj10 =>
                  have H := HA.out
                  clear HA
                  simp only [golex_scanner_text.j1] at H
                  by_cases c14 : x51_10 = true
                  · subst c14
                    have H1 : ((golex_scanner_bad.f t153 t154 t155 t156 s0_1).bind fun bt157 => (some (bt157.1, bt157.2.1, bt157.2.2.1, bt157.2.2.2.1, bt157.2.2.2.2))) = some (r1, r2, r3, r4, r5) := by rw [if_pos rfl] at H; exact H
                    clear H
                    have H := H1
                    clear H1
                    replace H := Option.bind_eq_some_iff.mp H
                    obtain ⟨⟨t157, t158, t159, t160, t161⟩, A150, H⟩ := H
                    replace H : (some (t157, t158, t159, t160, t161)) = some (r1, r2, r3, r4, r5) := H
                    have A15 := Aside0.mk A150; clear A150
                    simp only [Option.some.injEq, Prod.mk.injEq] at H
                    obtain ⟨rfl, rfl, rfl, rfl, rfl⟩ := H
                    go_wp2_with (first | (go_at_call 39; (with_reducible refine (golex_scanner_bad.calls g t153 t154 t155 t156 s0_1 t157 t158 t159 t160 t161 w0 _ ?side1 ?side2 ?side3 A15.out).mono ?_); (case side1 => first | exact HT.out | exact Tabs.below HT.out (by repeat (first | (with_reducible first | exact HB.out | apply below_alloc | apply pw_below_drewN | apply below_drew1 | refine below_set ?_ (IsS36.ge HI0.out)) | exact HB.out))); (case side2 => repeat (first | (with_reducible first | exact HI0.out | apply IsS36.alloc | apply IsS36.drewN | apply IsS36.drew | apply IsS36.set_0 | apply IsS36.set_1 | apply IsS36.set_2 | apply IsS36.set_3) | exact HI0.out)); (case side3 => repeat (first | (with_reducible first | exact HB.out | apply below_alloc | apply pw_below_drewN | apply below_drew1 | refine below_set ?_ (IsS36.ge HI0.out)) | exact HB.out)); rintro e w16 ⟨rfl, hi, hb, hk⟩; have n0_ := Aside0.mk (Kq.trans (by repeat (first | (with_reducible first | exact HK.out | apply Kq.set_ | apply kq_drewN | apply kq_drew | apply kq_alloc) | exact HK.out)) hk (.inl rfl)); have n1_ := Aside0.mk (hb); have n2_ := Aside0.mk (hi); clear HK; clear HB; clear HI0; have HK := n0_; have HB := n1_; have HI0 := n2_; clear n0_ n1_ n2_; (try clear hb); (try clear hb2); (try clear hk); (try clear hi)))
                    repeat (go_quiet (first | (go_at_call 39; (with_reducible refine (golex_scanner_bad.calls g t153 t154 t155 t156 s0_1 t157 t158 t159 t160 t161 w0 _ ?side1 ?side2 ?side3 A15.out).mono ?_); (case side1 => first | exact HT.out | exact Tabs.below HT.out (by repeat (first | (with_reducible first | exact HB.out | apply below_alloc | apply pw_below_drewN | apply below_drew1 | refine below_set ?_ (IsS36.ge HI0.out)) | exact HB.out))); (case side2 => repeat (first | (with_reducible first | exact HI0.out | apply IsS36.alloc | apply IsS36.drewN | apply IsS36.drew | apply IsS36.set_0 | apply IsS36.set_1 | apply IsS36.set_2 | apply IsS36.set_3) | exact HI0.out)); (case side3 => repeat (first | (with_reducible first | exact HB.out | apply below_alloc | apply pw_below_drewN | apply below_drew1 | refine below_set ?_ (IsS36.ge HI0.out)) | exact HB.out)); rintro e w16 ⟨rfl, hi, hb, hk⟩; have n0_ := Aside0.mk (Kq.trans (by repeat (first | (with_reducible first | exact HK.out | apply Kq.set_ | apply kq_drewN | apply kq_drew | apply kq_alloc) | exact HK.out)) hk (.inl rfl)); have n1_ := Aside0.mk (hb); have n2_ := Aside0.mk (hi); clear HK; clear HB; clear HI0; have HK := n0_; have HB := n1_; have HI0 := n2_; clear n0_ n1_ n2_; (try clear hb); (try clear hb2); (try clear hk); (try clear hi))); try go_wp2_with (first | (go_at_call 39; (with_reducible refine (golex_scanner_bad.calls g t153 t154 t155 t156 s0_1 t157 t158 t159 t160 t161 w0 _ ?side1 ?side2 ?side3 A15.out).mono ?_); (case side1 => first | exact HT.out | exact Tabs.below HT.out (by repeat (first | (with_reducible first | exact HB.out | apply below_alloc | apply pw_below_drewN | apply below_drew1 | refine below_set ?_ (IsS36.ge HI0.out)) | exact HB.out))); (case side2 => repeat (first | (with_reducible first | exact HI0.out | apply IsS36.alloc | apply IsS36.drewN | apply IsS36.drew | apply IsS36.set_0 | apply IsS36.set_1 | apply IsS36.set_2 | apply IsS36.set_3) | exact HI0.out)); (case side3 => repeat (first | (with_reducible first | exact HB.out | apply below_alloc | apply pw_below_drewN | apply below_drew1 | refine below_set ?_ (IsS36.ge HI0.out)) | exact HB.out)); rintro e w16 ⟨rfl, hi, hb, hk⟩; have n0_ := Aside0.mk (Kq.trans (by repeat (first | (with_reducible first | exact HK.out | apply Kq.set_ | apply kq_drewN | apply kq_drew | apply kq_alloc) | exact HK.out)) hk (.inl rfl)); have n1_ := Aside0.mk (hb); have n2_ := Aside0.mk (hi); clear HK; clear HB; clear HI0; have HK := n0_; have HB := n1_; have HI0 := n2_; clear n0_ n1_ n2_; (try clear hb); (try clear hb2); (try clear hk); (try clear hi))))
                    go_ret
                    exact ⟨by first | rfl | (simp [errW_none, errW_some] <;> rfl) | (simp [*, errW_none, errW_some] <;> rfl), by repeat (first | (with_reducible first | exact HI0.out | apply IsS36.alloc | apply IsS36.drewN | apply IsS36.drew | apply IsS36.set_0 | apply IsS36.set_1 | apply IsS36.set_2 | apply IsS36.set_3) | exact HI0.out), by repeat (first | (with_reducible first | exact HB.out | apply below_alloc | apply pw_below_drewN | apply below_drew1 | refine below_set ?_ (IsS36.ge HI0.out)) | exact HB.out), by repeat (first | (with_reducible first | exact HK.out | apply Kq.set_ | apply kq_drewN | apply kq_drew | apply kq_alloc) | exact HK.out)⟩
                  · replace c14 := Bool.eq_false_iff.mpr c14
                    subst c14
                    have H1 : ((golex_scanner_put.f t153 t154 t155 t156 a1 s0_1 t151).bind fun bt162 => (some (true, bt162.1, bt162.2.1, bt162.2.2.1, bt162.2.2.2))) = some (r1, r2, r3, r4, r5) := by rw [if_neg (show ¬ (false = true) by decide)] at H; exact H
                    clear H
                    have H := H1
                    clear H1
                    replace H := Option.bind_eq_some_iff.mp H
                    obtain ⟨⟨t162, t163, t164, t165⟩, A170, H⟩ := H
                    replace H : (some (true, t162, t163, t164, t165)) = some (r1, r2, r3, r4, r5) := H
                    have A17 := Aside0.mk A170; clear A170
                    simp only [Option.some.injEq, Prod.mk.injEq] at H
                    obtain ⟨rfl, rfl, rfl, rfl, rfl⟩ := H
                    go_wp2_with (first | (go_at_call 38; (with_reducible refine (golex_scanner_put.calls g t153 t154 t155 t156 a1 s0_1 t151 t162 t163 t164 t165 w0 _ ?side1 ?side2 ?side3 A17.out).mono ?_); (case side1 => first | exact HT.out | exact Tabs.below HT.out (by repeat (first | (with_reducible first | exact HB.out | apply below_alloc | apply pw_below_drewN | apply below_drew1 | refine below_set ?_ (IsS36.ge HI0.out)) | exact HB.out))); (case side2 => repeat (first | (with_reducible first | exact HI0.out | apply IsS36.alloc | apply IsS36.drewN | apply IsS36.drew | apply IsS36.set_0 | apply IsS36.set_1 | apply IsS36.set_2 | apply IsS36.set_3) | exact HI0.out)); (case side3 => repeat (first | (with_reducible first | exact HB.out | apply below_alloc | apply pw_below_drewN | apply below_drew1 | refine below_set ?_ (IsS36.ge HI0.out)) | exact HB.out)); rintro e w18 ⟨rfl, hi, hb, hk⟩; have n0_ := Aside0.mk (Kq.trans (by repeat (first | (with_reducible first | exact HK.out | apply Kq.set_ | apply kq_drewN | apply kq_drew | apply kq_alloc) | exact HK.out)) hk (.inl rfl)); have n1_ := Aside0.mk (hb); have n2_ := Aside0.mk (hi); clear HK; clear HB; clear HI0; have HK := n0_; have HB := n1_; have HI0 := n2_; clear n0_ n1_ n2_; (try clear hb); (try clear hb2); (try clear hk); (try clear hi)))
                    repeat (go_quiet (first | (go_at_call 38; (with_reducible refine (golex_scanner_put.calls g t153 t154 t155 t156 a1 s0_1 t151 t162 t163 t164 t165 w0 _ ?side1 ?side2 ?side3 A17.out).mono ?_); (case side1 => first | exact HT.out | exact Tabs.below HT.out (by repeat (first | (with_reducible first | exact HB.out | apply below_alloc | apply pw_below_drewN | apply below_drew1 | refine below_set ?_ (IsS36.ge HI0.out)) | exact HB.out))); (case side2 => repeat (first | (with_reducible first | exact HI0.out | apply IsS36.alloc | apply IsS36.drewN | apply IsS36.drew | apply IsS36.set_0 | apply IsS36.set_1 | apply IsS36.set_2 | apply IsS36.set_3) | exact HI0.out)); (case side3 => repeat (first | (with_reducible first | exact HB.out | apply below_alloc | apply pw_below_drewN | apply below_drew1 | refine below_set ?_ (IsS36.ge HI0.out)) | exact HB.out)); rintro e w18 ⟨rfl, hi, hb, hk⟩; have n0_ := Aside0.mk (Kq.trans (by repeat (first | (with_reducible first | exact HK.out | apply Kq.set_ | apply kq_drewN | apply kq_drew | apply kq_alloc) | exact HK.out)) hk (.inl rfl)); have n1_ := Aside0.mk (hb); have n2_ := Aside0.mk (hi); clear HK; clear HB; clear HI0; have HK := n0_; have HB := n1_; have HI0 := n2_; clear n0_ n1_ n2_; (try clear hb); (try clear hb2); (try clear hk); (try clear hi))); try go_wp2_with (first | (go_at_call 38; (with_reducible refine (golex_scanner_put.calls g t153 t154 t155 t156 a1 s0_1 t151 t162 t163 t164 t165 w0 _ ?side1 ?side2 ?side3 A17.out).mono ?_); (case side1 => first | exact HT.out | exact Tabs.below HT.out (by repeat (first | (with_reducible first | exact HB.out | apply below_alloc | apply pw_below_drewN | apply below_drew1 | refine below_set ?_ (IsS36.ge HI0.out)) | exact HB.out))); (case side2 => repeat (first | (with_reducible first | exact HI0.out | apply IsS36.alloc | apply IsS36.drewN | apply IsS36.drew | apply IsS36.set_0 | apply IsS36.set_1 | apply IsS36.set_2 | apply IsS36.set_3) | exact HI0.out)); (case side3 => repeat (first | (with_reducible first | exact HB.out | apply below_alloc | apply pw_below_drewN | apply below_drew1 | refine below_set ?_ (IsS36.ge HI0.out)) | exact HB.out)); rintro e w18 ⟨rfl, hi, hb, hk⟩; have n0_ := Aside0.mk (Kq.trans (by repeat (first | (with_reducible first | exact HK.out | apply Kq.set_ | apply kq_drewN | apply kq_drew | apply kq_alloc) | exact HK.out)) hk (.inl rfl)); have n1_ := Aside0.mk (hb); have n2_ := Aside0.mk (hi); clear HK; clear HB; clear HI0; have HK := n0_; have HB := n1_; have HI0 := n2_; clear n0_ n1_ n2_; (try clear hb); (try clear hb2); (try clear hk); (try clear hi))))
                    go_ret
                    exact ⟨by first | rfl | (simp [errW_none, errW_some] <;> rfl) | (simp [*, errW_none, errW_some] <;> rfl), by repeat (first | (with_reducible first | exact HI0.out | apply IsS36.alloc | apply IsS36.drewN | apply IsS36.drew | apply IsS36.set_0 | apply IsS36.set_1 | apply IsS36.set_2 | apply IsS36.set_3) | exact HI0.out), by repeat (first | (with_reducible first | exact HB.out | apply below_alloc | apply pw_below_drewN | apply below_drew1 | refine below_set ?_ (IsS36.ge HI0.out)) | exact HB.out), by repeat (first | (with_reducible first | exact HK.out | apply Kq.set_ | apply kq_drewN | apply kq_drew | apply kq_alloc) | exact HK.out)⟩
            · replace c10 := Bool.eq_false_iff.mpr c10
              subst c10
              have H1 : (some (false, t153, t154, t155, t156)) = some (r1, r2, r3, r4, r5) := by rw [if_neg (show ¬ (false = true) by decide)] at H; exact H
              clear H
              have H := H1
              clear H1
              simp only [Option.some.injEq, Prod.mk.injEq] at H
              obtain ⟨rfl, rfl, rfl, rfl, rfl⟩ := H
              go_wp2_with (first | (go_at_call 54; (with_reducible refine (golex_scanner_until.calls kj5 g s0_0 s0_1 s0_2 s0_3 s0_1 (wrap64 (s0_1 + 1)) (s0_0.extract (s0_1 : Int).toNat ((wrap64 (s0_1 + 1)) : Int).toNat) (!x7_5.toList.isEmpty) x7_5 t151 false t153 t154 t155 t156 w0 _ ?side1 ?side2 ?side3 A9.out).mono ?_); (case side1 => first | exact HT.out | exact Tabs.below HT.out (by repeat (first | (with_reducible first | exact HB.out | apply below_alloc | apply pw_below_drewN | apply below_drew1 | refine below_set ?_ (IsS36.ge HI0.out)) | exact HB.out))); (case side2 => repeat (first | (with_reducible first | exact HI0.out | apply IsS36.alloc | apply IsS36.drewN | apply IsS36.drew | apply IsS36.set_0 | apply IsS36.set_1 | apply IsS36.set_2 | apply IsS36.set_3) | exact HI0.out)); (case side3 => repeat (first | (with_reducible first | exact HB.out | apply below_alloc | apply pw_below_drewN | apply below_drew1 | refine below_set ?_ (IsS36.ge HI0.out)) | exact HB.out)); rintro e w19 ⟨rfl, hi, hb, hk⟩; have n0_ := Aside0.mk (Kq.trans (by repeat (first | (with_reducible first | exact HK.out | apply Kq.set_ | apply kq_drewN | apply kq_drew | apply kq_alloc) | exact HK.out)) hk (.inl rfl)); have n1_ := Aside0.mk (hb); have n2_ := Aside0.mk (hi); clear HK; clear HB; clear HI0; have HK := n0_; have HB := n1_; have HI0 := n2_; clear n0_ n1_ n2_; (try clear hb); (try clear hb2); (try clear hk); (try clear hi)))
              repeat (go_quiet (first | (go_at_call 54; (with_reducible refine (golex_scanner_until.calls kj5 g s0_0 s0_1 s0_2 s0_3 s0_1 (wrap64 (s0_1 + 1)) (s0_0.extract (s0_1 : Int).toNat ((wrap64 (s0_1 + 1)) : Int).toNat) (!x7_5.toList.isEmpty) x7_5 t151 false t153 t154 t155 t156 w0 _ ?side1 ?side2 ?side3 A9.out).mono ?_); (case side1 => first | exact HT.out | exact Tabs.below HT.out (by repeat (first | (with_reducible first | exact HB.out | apply below_alloc | apply pw_below_drewN | apply below_drew1 | refine below_set ?_ (IsS36.ge HI0.out)) | exact HB.out))); (case side2 => repeat (first | (with_reducible first | exact HI0.out | apply IsS36.alloc | apply IsS36.drewN | apply IsS36.drew | apply IsS36.set_0 | apply IsS36.set_1 | apply IsS36.set_2 | apply IsS36.set_3) | exact HI0.out)); (case side3 => repeat (first | (with_reducible first | exact HB.out | apply below_alloc | apply pw_below_drewN | apply below_drew1 | refine below_set ?_ (IsS36.ge HI0.out)) | exact HB.out)); rintro e w19 ⟨rfl, hi, hb, hk⟩; have n0_ := Aside0.mk (Kq.trans (by repeat (first | (with_reducible first | exact HK.out | apply Kq.set_ | apply kq_drewN | apply kq_drew | apply kq_alloc) | exact HK.out)) hk (.inl rfl)); have n1_ := Aside0.mk (hb); have n2_ := Aside0.mk (hi); clear HK; clear HB; clear HI0; have HK := n0_; have HB := n1_; have HI0 := n2_; clear n0_ n1_ n2_; (try clear hb); (try clear hb2); (try clear hk); (try clear hi))); try go_wp2_with (first | (go_at_call 54; (with_reducible refine (golex_scanner_until.calls kj5 g s0_0 s0_1 s0_2 s0_3 s0_1 (wrap64 (s0_1 + 1)) (s0_0.extract (s0_1 : Int).toNat ((wrap64 (s0_1 + 1)) : Int).toNat) (!x7_5.toList.isEmpty) x7_5 t151 false t153 t154 t155 t156 w0 _ ?side1 ?side2 ?side3 A9.out).mono ?_); (case side1 => first | exact HT.out | exact Tabs.below HT.out (by repeat (first | (with_reducible first | exact HB.out | apply below_alloc | apply pw_below_drewN | apply below_drew1 | refine below_set ?_ (IsS36.ge HI0.out)) | exact HB.out))); (case side2 => repeat (first | (with_reducible first | exact HI0.out | apply IsS36.alloc | apply IsS36.drewN | apply IsS36.drew | apply IsS36.set_0 | apply IsS36.set_1 | apply IsS36.set_2 | apply IsS36.set_3) | exact HI0.out)); (case side3 => repeat (first | (with_reducible first | exact HB.out | apply below_alloc | apply pw_below_drewN | apply below_drew1 | refine below_set ?_ (IsS36.ge HI0.out)) | exact HB.out)); rintro e w19 ⟨rfl, hi, hb, hk⟩; have n0_ := Aside0.mk (Kq.trans (by repeat (first | (with_reducible first | exact HK.out | apply Kq.set_ | apply kq_drewN | apply kq_drew | apply kq_alloc) | exact HK.out)) hk (.inl rfl)); have n1_ := Aside0.mk (hb); have n2_ := Aside0.mk (hi); clear HK; clear HB; clear HI0; have HK := n0_; have HB := n1_; have HI0 := n2_; clear n0_ n1_ n2_; (try clear hb); (try clear hb2); (try clear hk); (try clear hi))))
              go_ret
              exact ⟨by first | rfl | (simp [errW_none, errW_some] <;> rfl) | (simp [*, errW_none, errW_some] <;> rfl), by repeat (first | (with_reducible first | exact HI0.out | apply IsS36.alloc | apply IsS36.drewN | apply IsS36.drew | apply IsS36.set_0 | apply IsS36.set_1 | apply IsS36.set_2 | apply IsS36.set_3) | exact HI0.out), by repeat (first | (with_reducible first | exact HB.out | apply below_alloc | apply pw_below_drewN | apply below_drew1 | refine below_set ?_ (IsS36.ge HI0.out)) | exact HB.out), by repeat (first | (with_reducible first | exact HK.out | apply Kq.set_ | apply kq_drewN | apply kq_drew | apply kq_alloc) | exact HK.out)⟩
      · rw [if_neg c5] at H
        exact absurd H (by simp)
    · rw [if_neg c4] at H
      exact absurd H (by simp)
  · rw [if_neg c3] at H
    exact absurd H (by simp)
end Go.Proofs.YtfolmcfcmonkhaaDoor.PAll

