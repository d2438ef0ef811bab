/- The scanner's until: printed. -/
import Derived.Test.YtfolmcfcmonkhaaDoorScC
namespace Go.Proofs.YtfolmcfcmonkhaaDoor.PAll
open Go Go.RowKit Go.Proofs.YtfolmcfcmonkhaaDoorW.PrintWords Go.Proofs.YtfolmcfcmonkhaaDoorW.PrintLast Go.Proofs.YtfolmcfcmonkhaaDoorW.PrintMore Go.Proofs.YtfolmcfcmonkhaaDoorMy Go.Proofs.YtfolmcfcmonkhaaDoor
attribute [local go_sem] max2_int min2_int max_two min_two max_three min_three max_four min_four
set_option linter.unusedVariables false
set_option linter.unusedSimpArgs false
mutual
def golex_scanner_until.l0 : Nat → Int → Int → ByteArray → Bool → ByteArray → ByteArray → Int → List (S27) → List (S27) → Option (Int × Bool × ByteArray × Int × List (S27) × List (S27))
  | 0, _, _, _, _, _, _, _, _, _ => none
  | k + 1, x1, x2, x3, x4, x5, x1000, x1001, x1002, x1003 => if x2 < (x1000.size : Int) then (if 0 ≤ x2 then (if x2 ≤ (x1000.size : Int) then ((strings_HasPrefix.f (x1000.extract (x2 : Int).toNat x1000.size) x3).bind fun t113 => (if t113 = true then (some (wrap64 (x2 + (x3.size : Int)), true, x1000, x1001, x1002, x1003)) else (if x5.toList = ([] : List UInt8) then (golex_scanner_until.j1 k x1 x2 x3 x4 x5 false x1000 x1001 x1002 x1003) else ((strings_HasPrefix.f (x1000.extract (x2 : Int).toNat x1000.size) x5).bind fun t114 => (golex_scanner_until.j1 k x1 x2 x3 x4 x5 t114 x1000 x1001 x1002 x1003))))) else (none)) else (none)) else ((golex_scanner_bad.f x1000 x1001 x1002 x1003 x1).bind fun bt108 => (some (0, bt108.1, bt108.2.1, bt108.2.2.1, bt108.2.2.2.1, bt108.2.2.2.2)))
def golex_scanner_until.j1 : Nat → Int → Int → ByteArray → Bool → ByteArray → Bool → ByteArray → Int → List (S27) → List (S27) → Option (Int × Bool × ByteArray × Int × List (S27) × List (S27))
  | 0, _, _, _, _, _, _, _, _, _, _ => none
  | k + 1, x1, x2, x3, x4, x5, x46, x1000, x1001, x1002, x1003 => if x46 = true then ((golex_scanner_bad.f x1000 x1001 x1002 x1003 x1).bind fun bt115 => (some (0, bt115.1, bt115.2.1, bt115.2.2.1, bt115.2.2.2.1, bt115.2.2.2.2))) else ((utf_Rune.f k x1000 x2).bind fun bt120 => (if bt120.1 < 0 then ((golex_scanner_bad.f x1000 x1001 x1002 x1003 x2).bind fun bt122 => (some (0, bt122.1, bt122.2.1, bt122.2.2.1, bt122.2.2.2.1, bt122.2.2.2.2))) else (if x4 = true then (golex_scanner_until.j2 k x1 (wrap64 (x2 + bt120.2)) x3 x4 x5 (bt120.1 == 92) x1000 x1001 x1002 x1003) else (golex_scanner_until.j2 k x1 (wrap64 (x2 + bt120.2)) x3 x4 x5 false x1000 x1001 x1002 x1003))))
def golex_scanner_until.j2 : Nat → Int → Int → ByteArray → Bool → ByteArray → Bool → ByteArray → Int → List (S27) → List (S27) → Option (Int × Bool × ByteArray × Int × List (S27) × List (S27))
  | 0, _, _, _, _, _, _, _, _, _, _ => none
  | k + 1, x1, x2, x3, x4, x5, x68, x1000, x1001, x1002, x1003 => if x68 = true then ((utf_Rune.f k x1000 x2).bind fun bt127 => (if bt127.2 = 0 then (golex_scanner_until.j3 k x1 x2 x3 x4 x5 bt127.1 bt127.2 true x1000 x1001 x1002 x1003) else (golex_scanner_until.j3 k x1 x2 x3 x4 x5 bt127.1 bt127.2 (bt127.1 == 10) x1000 x1001 x1002 x1003))) else (golex_scanner_until.l0 k x1 x2 x3 x4 x5 x1000 x1001 x1002 x1003)
def golex_scanner_until.j3 : Nat → Int → Int → ByteArray → Bool → ByteArray → Int → Int → Bool → ByteArray → Int → List (S27) → List (S27) → Option (Int × Bool × ByteArray × Int × List (S27) × List (S27))
  | 0, _, _, _, _, _, _, _, _, _, _, _, _ => none
  | k + 1, x1, x2, x3, x4, x5, x14, x15, x83, x1000, x1001, x1002, x1003 => if x83 = true then ((golex_scanner_bad.f x1000 x1001 x1002 x1003 x1).bind fun bt129 => (some (0, bt129.1, bt129.2.1, bt129.2.2.1, bt129.2.2.2.1, bt129.2.2.2.2))) else (if x14 < 0 then ((golex_scanner_bad.f x1000 x1001 x1002 x1003 x2).bind fun bt134 => (some (0, bt134.1, bt134.2.1, bt134.2.2.1, bt134.2.2.2.1, bt134.2.2.2.2))) else (golex_scanner_until.l0 k x1 (wrap64 (x2 + x15)) x3 x4 x5 x1000 x1001 x1002 x1003))
end
def golex_scanner_until.f (k : Nat) (s0_0 : ByteArray) (s0_1 : Int) (s0_2 : List (S27)) (s0_3 : List (S27)) (a1 : Int) (a2 : Int) (a3 : ByteArray) (a4 : Bool) (a5 : ByteArray) : Option (Int × Bool × ByteArray × Int × List (S27) × List (S27)) := golex_scanner_until.l0 k a1 a2 a3 a4 a5 s0_0 s0_1 s0_2 s0_3
set_option maxHeartbeats 8000000 in
set_option maxRecDepth 100000 in
theorem golex_scanner_until.calls (k : Nat) (g : Nat) (s0_0 : ByteArray) (s0_1 : Int) (s0_2 : List (S27)) (s0_3 : List (S27)) (a1 : Int) (a2 : Int) (a3 : ByteArray) (a4 : Bool) (a5 : ByteArray) (r1 : Int) (r2 : Bool) (r3 : ByteArray) (r4 : Int) (r5 : List (S27)) (r6 : List (S27)) (w0 w : World) (hT : Tabs w0) (hI : IsS36 w0 w g s0_0 s0_1 s0_2 s0_3) (hB : Below w0.heap.size w0 w) (h : golex_scanner_until.f k s0_0 s0_1 s0_2 s0_3 a1 a2 a3 a4 a5 = some (r1, r2, r3, r4, r5, r6)) :
    Calls Tryd.prog 54 #[.pointer (some ⟨g, 0, none⟩), .int .i64 a1, .int .i64 a2, .string a3, .bool a4, .string a5] w fun e w' => e = .returned (.tuple #[.int .i64 r1, .bool r2]) ∧ IsS36 w0 w' g r3 r4 r5 r6 ∧ Below w0.heap.size w0 w' ∧ Kq w w' g none := by
  have HT := Aside0.mk hT; clear hT; have HI0 := Aside0.mk hI
  have HK := Aside0.mk (Kq.refl w g none)
  have HL := Aside0.mk hB.size
  clear hI
  have HW0 := Aside0.mk hB.size
  have HB := Aside0.mk hB; clear hB
  have H : (golex_scanner_until.l0 k a1 a2 a3 a4 a5 s0_0 s0_1 s0_2 s0_3) = some (r1, r2, r3, r4, r5, r6) := h
  clear h
  have H' := Aside0.mk H
  clear H
  go_enter Tryd.func54, Tryd.ntmps54
  go_wp2
  go_loopg [2] k (fun kq v2 w' => ∃ (x2_1 : Int) (x1000_1 : ByteArray) (x1001_1 : Int) (x1002_1 : List (S27)) (x1003_1 : List (S27)), v2 = .int .i64 x2_1 ∧ Aside0 (golex_scanner_until.l0 kq a1 x2_1 a3 a4 a5 x1000_1 x1001_1 x1002_1 x1003_1 = some (r1, r2, r3, r4, r5, r6)) ∧ Aside0 (kq ≤ k) ∧ Aside0 (IsS36 w0 w' g x1000_1 x1001_1 x1002_1 x1003_1) ∧ Aside0 (Kq w w' g none) ∧ Aside0 (Below w0.heap.size w0 w'))
  case atStart => exact ⟨(a2), (s0_0), (s0_1), (s0_2), (s0_3), (by first | rfl | (simp; done) | (simp [*]; done)), H', ⟨Nat.le_refl _⟩, ⟨by repeat (first | (with_reducible first | exact HI0.out | apply IsS36.alloc | apply IsS36.drewN | apply IsS36.drew | apply IsS36.set_0 | apply IsS36.set_1 | apply IsS36.set_2 | apply IsS36.set_3) | exact HI0.out)⟩, ⟨by repeat (first | (with_reducible first | exact HK.out | apply Kq.set_ | apply kq_drewN | apply kq_drew | apply kq_alloc) | exact HK.out)⟩, ⟨by repeat (first | (with_reducible first | exact HB.out | apply below_alloc | apply pw_below_drewN | apply below_drew1 | refine below_set ?_ (IsS36.ge HI0.out)) | exact HB.out)⟩⟩
  case round =>
    clear H'
    (try clear p2); (try clear c5); obtain ⟨x2_1, x1000_1, x1001_1, x1002_1, x1003_1, rfl, HA, HK1, HI0, HK, HB⟩ := hrel
    cases gk with
    | zero => exact absurd HA.out (by simp [golex_scanner_until.l0])
    | succ k1 =>
      have H := HA.out
      clear HA
      simp only [golex_scanner_until.l0] at H
      by_cases c7 : x2_1 < (x1000_1.size : Int)
      · rw [if_pos c7] at H
        have c7b0 : decide (x2_1 < (x1000_1.size : Int)) = true := decide_eq_true c7
        clear c7
        by_cases c8 : 0 ≤ x2_1
        · rw [if_pos c8] at H
          have c8b0 := eq_true c8
          have c8b1 : decide (0 ≤ x2_1) = true := decide_eq_true c8
          clear c8
          by_cases c9 : x2_1 ≤ (x1000_1.size : Int)
          · rw [if_pos c9] at H
            have c9b0 := eq_true c9
            have c9b1 : decide (x2_1 ≤ (x1000_1.size : Int)) = true := decide_eq_true c9
            clear c9
            replace H := Option.bind_eq_some_iff.mp H
            obtain ⟨t113, A100, H⟩ := H
            replace H : (if t113 = true then (some (wrap64 (x2_1 + (a3.size : Int)), true, x1000_1, x1001_1, x1002_1, x1003_1)) else (if a5.toList = ([] : List UInt8) then (golex_scanner_until.j1 k1 a1 x2_1 a3 a4 a5 false x1000_1 x1001_1 x1002_1 x1003_1) else ((strings_HasPrefix.f (x1000_1.extract (x2_1 : Int).toNat x1000_1.size) a5).bind fun t114 => (golex_scanner_until.j1 k1 a1 x2_1 a3 a4 a5 t114 x1000_1 x1001_1 x1002_1 x1003_1)))) = some (r1, r2, r3, r4, r5, r6) := H
            have A10 := Aside0.mk A100; clear A100
            by_cases c11 : t113 = true
            · subst c11
              have H1 : (some (wrap64 (x2_1 + (a3.size : Int)), true, x1000_1, x1001_1, x1002_1, x1003_1)) = some (r1, r2, r3, r4, r5, r6) := by rw [if_pos rfl] at H; exact H
              clear H
              have H := H1
              clear H1
              simp only [Option.some.injEq, Prod.mk.injEq] at H
              obtain ⟨rfl, rfl, rfl, rfl, rfl, rfl⟩ := H; obtain ⟨tvz12, nvz12, HGz12, hgz12, hRz12, hNz12⟩ := HI0.out; have hcz12_0 := cellS36_0 HGz12; have hcz12_1 := cellS36_1 HGz12; have hcz12_2 := cellS36_2 HGz12; have hcz12_3 := cellS36_3 HGz12; have hfz12_0 := blk_frozen HGz12 0; have hfz12_1 := blk_frozen HGz12 1; have hfz12_2 := blk_frozen HGz12 2; have hfz12_3 := blk_frozen HGz12 3; clear HGz12 hgz12
              go_wp2_with (first | ((with_reducible refine gate_callee (f := 41) rfl ?_); refine goesL_ (some 30) rfl rfl Tryd.func41 (by kernel_rfl) rfl #[.string (x1000_1.extract (x2_1 : Int).toNat x1000_1.size), .string a3] rfl (by (try simp only [List.map_toArray, List.map_cons, List.map_nil]); first | done | rfl | (simp only [List.length_drop, List.length_take]; rfl)) ?_; (with_reducible refine (strings_HasPrefix.calls (x1000_1.extract (x2_1 : Int).toNat x1000_1.size) a3 true _ A10.out).mono ?_); rintro e w' ⟨rfl, ⟨nd, rfl⟩⟩; refine ⟨_, rfl, ?_⟩))
              go_ret2
              exact ⟨by first | rfl | (simp [errW_none, errW_some] <;> rfl) | (simp [*, errW_none, errW_some] <;> rfl), by repeat (first | (with_reducible first | exact HI0.out | apply IsS36.alloc | apply IsS36.drewN | apply IsS36.drew | apply IsS36.set_0 | apply IsS36.set_1 | apply IsS36.set_2 | apply IsS36.set_3) | exact HI0.out), by repeat (first | (with_reducible first | exact HB.out | apply below_alloc | apply pw_below_drewN | apply below_drew1 | refine below_set ?_ (IsS36.ge HI0.out)) | exact HB.out), by repeat (first | (with_reducible first | exact HK.out | apply Kq.set_ | apply kq_drewN | apply kq_drew | apply kq_alloc) | exact HK.out)⟩
            · replace c11 := Bool.eq_false_iff.mpr c11
              subst c11
              have H1 : (if a5.toList = ([] : List UInt8) then (golex_scanner_until.j1 k1 a1 x2_1 a3 a4 a5 false x1000_1 x1001_1 x1002_1 x1003_1) else ((strings_HasPrefix.f (x1000_1.extract (x2_1 : Int).toNat x1000_1.size) a5).bind fun t114 => (golex_scanner_until.j1 k1 a1 x2_1 a3 a4 a5 t114 x1000_1 x1001_1 x1002_1 x1003_1))) = some (r1, r2, r3, r4, r5, r6) := by rw [if_neg (show ¬ (false = true) by decide)] at H; exact H
              clear H
              have H := H1
              clear H1; have HC13 := Aside0.mk H; clear H; obtain ⟨tvz14, nvz14, HGz14, hgz14, hRz14, hNz14⟩ := HI0.out; have hcz14_0 := cellS36_0 HGz14; have hcz14_1 := cellS36_1 HGz14; have hcz14_2 := cellS36_2 HGz14; have hcz14_3 := cellS36_3 HGz14; have hfz14_0 := blk_frozen HGz14 0; have hfz14_1 := blk_frozen HGz14 1; have hfz14_2 := blk_frozen HGz14 2; have hfz14_3 := blk_frozen HGz14 3; clear HGz14 hgz14
              go_upto_region 4 with (first | ((with_reducible refine gate_callee (f := 41) rfl ?_); refine goesL_ (some 30) rfl rfl Tryd.func41 (by kernel_rfl) rfl #[.string (x1000_1.extract (x2_1 : Int).toNat x1000_1.size), .string a3] rfl (by (try simp only [List.map_toArray, List.map_cons, List.map_nil]); first | done | rfl | (simp only [List.length_drop, List.length_take]; rfl)) ?_; (with_reducible refine (strings_HasPrefix.calls (x1000_1.extract (x2_1 : Int).toNat x1000_1.size) a3 false _ A10.out).mono ?_); rintro e w' ⟨rfl, ⟨nd, rfl⟩⟩; refine ⟨_, rfl, ?_⟩))
              (try simp only [Act.put, List.setIfInBounds_toArray, List.set_cons_zero, List.set_cons_succ])
              go_cut [46] (fun v46 wc => ∃ (kq : Nat) (x46_12 : Bool), v46 = .bool x46_12 ∧ Aside0 (golex_scanner_until.j1 kq a1 x2_1 a3 a4 a5 x46_12 x1000_1 x1001_1 x1002_1 x1003_1 = some (r1, r2, r3, r4, r5, r6)) ∧ Aside0 (kq ≤ k1) ∧ Aside0 (IsS36 w0 wc g x1000_1 x1001_1 x1002_1 x1003_1) ∧ Aside0 (Kq w wc g none) ∧ Aside0 (Below w0.heap.size w0 wc))
              case first =>
                have H := HC13.out
                clear HC13
                by_cases c15 : a5.toList = ([] : List UInt8)
                · rw [if_pos c15] at H
                  have c15b0 : (a5.toList == ([] : List UInt8)) = true := beq_iff_eq.mpr c15
                  have c15b1 : (a5.toList != ([] : List UInt8)) = false := bne_eq_false_iff_eq.mpr c15
                  clear c15
                  (first | rw [c15b0] | (simp only [i64_w, i32_w]; rw [c15b0]) | skip)
                  have H' := Aside0.mk H
                  clear H
                  go_wp2
                  go_meet
                  case rel => exact ⟨_, (false), (by first | rfl | (simp; done) | (simp [*]; done)), H', ⟨by have := HK1.out; first | omega | exact Nat.le_refl _⟩, ⟨by repeat (first | (with_reducible first | exact HI0.out | apply IsS36.alloc | apply IsS36.drewN | apply IsS36.drew | apply IsS36.set_0 | apply IsS36.set_1 | apply IsS36.set_2 | apply IsS36.set_3) | exact HI0.out)⟩, ⟨by repeat (first | (with_reducible first | exact HK.out | apply Kq.set_ | apply kq_drewN | apply kq_drew | apply kq_alloc) | exact HK.out)⟩, ⟨by repeat (first | (with_reducible first | exact HB.out | apply below_alloc | apply pw_below_drewN | apply below_drew1 | refine below_set ?_ (IsS36.ge HI0.out)) | exact HB.out)⟩⟩
                · rw [if_neg c15] at H
                  have c15b0 : (a5.toList == ([] : List UInt8)) = false := beq_eq_false_iff_ne.mpr c15
                  have c15b1 : (a5.toList != ([] : List UInt8)) = true := bne_iff_ne.mpr c15
                  (first | rw [c15b0] | (simp only [i64_w, i32_w]; rw [c15b0]) | skip)
                  have c16b0 := eq_true (of_decide_eq_true (by first | (with_reducible assumption) | assumption) : 0 ≤ x2_1)
                  have c17b0 := eq_true (of_decide_eq_true (by first | (with_reducible assumption) | assumption) : x2_1 ≤ (x1000_1.size : Int))
                  replace H := Option.bind_eq_some_iff.mp H
                  obtain ⟨t114, A180, H⟩ := H
                  replace H : (golex_scanner_until.j1 k1 a1 x2_1 a3 a4 a5 t114 x1000_1 x1001_1 x1002_1 x1003_1) = some (r1, r2, r3, r4, r5, r6) := H
                  have A18 := Aside0.mk A180; clear A180
                  have H' := Aside0.mk H
                  clear H; obtain ⟨tvz19, nvz19, HGz19, hgz19, hRz19, hNz19⟩ := HI0.out; have hcz19_0 := cellS36_0 HGz19; have hcz19_1 := cellS36_1 HGz19; have hcz19_2 := cellS36_2 HGz19; have hcz19_3 := cellS36_3 HGz19; have hfz19_0 := blk_frozen HGz19 0; have hfz19_1 := blk_frozen HGz19 1; have hfz19_2 := blk_frozen HGz19 2; have hfz19_3 := blk_frozen HGz19 3; clear HGz19 hgz19
                  go_wp2_with (first | (go_at_call 41; (with_reducible refine (strings_HasPrefix.calls (x1000_1.extract (x2_1 : Int).toNat x1000_1.size) a5 t114 _ A18.out).mono ?_); rintro e w' ⟨rfl, ⟨nd, rfl⟩⟩))
                  go_meet
                  case rel => exact ⟨_, (t114), (by first | rfl | (simp; done) | (simp [*]; done)), H', ⟨by have := HK1.out; first | omega | exact Nat.le_refl _⟩, ⟨by repeat (first | (with_reducible first | exact HI0.out | apply IsS36.alloc | apply IsS36.drewN | apply IsS36.drew | apply IsS36.set_0 | apply IsS36.set_1 | apply IsS36.set_2 | apply IsS36.set_3) | exact HI0.out)⟩, ⟨by repeat (first | (with_reducible first | exact HK.out | apply Kq.set_ | apply kq_drewN | apply kq_drew | apply kq_alloc) | exact HK.out)⟩, ⟨by repeat (first | (with_reducible first | exact HB.out | apply below_alloc | apply pw_below_drewN | apply below_drew1 | refine below_set ?_ (IsS36.ge HI0.out)) | exact HB.out)⟩⟩
              case rest =>
                clear HC13; (try clear c1); (try clear p2); (try clear c4); (try clear c5); (try clear p6); (try clear c7); (try clear c7b0); (try clear c8); (try clear c8b0); (try clear c8b1); (try clear c9); (try clear c9b0); (try clear c9b1); (try clear c11); (try clear c15); (try clear c15b0); (try clear c15b1); (try clear c16); (try clear c16b0); (try clear c17); (try clear c17b0); (try clear hcz12_0); (try clear hcz12_1); (try clear hcz12_2); (try clear hcz12_3); (try clear hcz14_0); (try clear hcz14_1); (try clear hcz14_2); (try clear hcz14_3); (try clear hcz19_0); (try clear hcz19_1); (try clear hcz19_2); (try clear hcz19_3); (try clear hfz12_0); (try clear hfz12_1)
                (try clear hfz12_2); (try clear hfz12_3); (try clear hfz14_0); (try clear hfz14_1); (try clear hfz14_2); (try clear hfz14_3); (try clear hfz19_0); (try clear hfz19_1); (try clear hfz19_2); (try clear hfz19_3); (try clear p2); obtain ⟨kq, x46_12, rfl, HA, HJ12, HI0, HK, HB⟩ := hcut
                cases kq with
                | zero => exact absurd HA.out (by simp [golex_scanner_until.j1])
                | succ kj12 =>
                  have H := HA.out
                  clear HA
                  simp only [golex_scanner_until.j1] at H
                  by_cases c20 : x46_12 = true
                  · subst c20
                    have H1 : ((golex_scanner_bad.f x1000_1 x1001_1 x1002_1 x1003_1 a1).bind fun bt115 => (some (0, bt115.1, bt115.2.1, bt115.2.2.1, bt115.2.2.2.1, bt115.2.2.2.2))) = some (r1, r2, r3, r4, r5, r6) := by rw [if_pos rfl] at H; exact H
                    clear H
                    have H := H1
                    clear H1
                    replace H := Option.bind_eq_some_iff.mp H
                    obtain ⟨⟨t115, t116, t117, t118, t119⟩, A210, H⟩ := H
                    replace H : (some (0, t115, t116, t117, t118, t119)) = some (r1, r2, r3, r4, r5, r6) := H
                    have A21 := Aside0.mk A210; clear A210
                    simp only [Option.some.injEq, Prod.mk.injEq] at H
                    obtain ⟨rfl, rfl, rfl, rfl, rfl, rfl⟩ := H
                    go_wp2_with (first | ((with_reducible refine gate_callee (f := 39) rfl ?_); refine goesL_ (some 94) rfl rfl Tryd.func39 (by kernel_rfl) rfl #[.pointer (some ⟨g, 0, none⟩), .int .i64 a1] rfl (by (try simp only [List.map_toArray, List.map_cons, List.map_nil]); first | done | rfl | (simp only [List.length_drop, List.length_take]; rfl)) ?_; (with_reducible refine (golex_scanner_bad.calls g x1000_1 x1001_1 x1002_1 x1003_1 a1 t115 t116 t117 t118 t119 w0 _ ?side1 ?side2 ?side3 A21.out).mono ?_); (case side1 => first | exact HT.out | exact Tabs.below HT.out (by repeat (first | (with_reducible first | exact HB.out | apply below_alloc | apply pw_below_drewN | apply below_drew1 | refine below_set ?_ (IsS36.ge HI0.out)) | exact HB.out))); (case side2 => repeat (first | (with_reducible first | exact HI0.out | apply IsS36.alloc | apply IsS36.drewN | apply IsS36.drew | apply IsS36.set_0 | apply IsS36.set_1 | apply IsS36.set_2 | apply IsS36.set_3) | exact HI0.out)); (case side3 => repeat (first | (with_reducible first | exact HB.out | apply below_alloc | apply pw_below_drewN | apply below_drew1 | refine below_set ?_ (IsS36.ge HI0.out)) | exact HB.out)); rintro e w22 ⟨rfl, hi, hb, hk⟩; refine ⟨_, rfl, ?_⟩; have n0_ := Aside0.mk (Kq.trans (by repeat (first | (with_reducible first | exact HK.out | apply Kq.set_ | apply kq_drewN | apply kq_drew | apply kq_alloc) | exact HK.out)) hk (.inl rfl)); have n1_ := Aside0.mk (hb); have n2_ := Aside0.mk (hi); clear HK; clear HB; clear HI0; have HK := n0_; have HB := n1_; have HI0 := n2_; clear n0_ n1_ n2_; (try clear hb); (try clear hb2); (try clear hk); (try clear hi)))
                    go_ret2
                    exact ⟨by first | rfl | (simp [errW_none, errW_some] <;> rfl) | (simp [*, errW_none, errW_some] <;> rfl), by repeat (first | (with_reducible first | exact HI0.out | apply IsS36.alloc | apply IsS36.drewN | apply IsS36.drew | apply IsS36.set_0 | apply IsS36.set_1 | apply IsS36.set_2 | apply IsS36.set_3) | exact HI0.out), by repeat (first | (with_reducible first | exact HB.out | apply below_alloc | apply pw_below_drewN | apply below_drew1 | refine below_set ?_ (IsS36.ge HI0.out)) | exact HB.out), by repeat (first | (with_reducible first | exact HK.out | apply Kq.set_ | apply kq_drewN | apply kq_drew | apply kq_alloc) | exact HK.out)⟩
                  · replace c20 := Bool.eq_false_iff.mpr c20
                    subst c20
                    have H1 : ((utf_Rune.f kj12 x1000_1 x2_1).bind fun bt120 => (if bt120.1 < 0 then ((golex_scanner_bad.f x1000_1 x1001_1 x1002_1 x1003_1 x2_1).bind fun bt122 => (some (0, bt122.1, bt122.2.1, bt122.2.2.1, bt122.2.2.2.1, bt122.2.2.2.2))) else (if a4 = true then (golex_scanner_until.j2 kj12 a1 (wrap64 (x2_1 + bt120.2)) a3 a4 a5 (bt120.1 == 92) x1000_1 x1001_1 x1002_1 x1003_1) else (golex_scanner_until.j2 kj12 a1 (wrap64 (x2_1 + bt120.2)) a3 a4 a5 false x1000_1 x1001_1 x1002_1 x1003_1)))) = some (r1, r2, r3, r4, r5, r6) := by rw [if_neg (show ¬ (false = true) by decide)] at H; exact H
                    clear H
                    have H := H1
                    clear H1
                    replace H := Option.bind_eq_some_iff.mp H
                    obtain ⟨⟨t120, t121⟩, A230, H⟩ := H
                    replace H : (if t120 < 0 then ((golex_scanner_bad.f x1000_1 x1001_1 x1002_1 x1003_1 x2_1).bind fun bt122 => (some (0, bt122.1, bt122.2.1, bt122.2.2.1, bt122.2.2.2.1, bt122.2.2.2.2))) else (if a4 = true then (golex_scanner_until.j2 kj12 a1 (wrap64 (x2_1 + t121)) a3 a4 a5 (t120 == 92) x1000_1 x1001_1 x1002_1 x1003_1) else (golex_scanner_until.j2 kj12 a1 (wrap64 (x2_1 + t121)) a3 a4 a5 false x1000_1 x1001_1 x1002_1 x1003_1))) = some (r1, r2, r3, r4, r5, r6) := H
                    have A23 := Aside0.mk A230; clear A230
                    by_cases c24 : t120 < 0
                    · rw [if_pos c24] at H
                      have c24b0 : decide (t120 < 0) = true := decide_eq_true c24
                      clear c24
                      replace H := Option.bind_eq_some_iff.mp H
                      obtain ⟨⟨t122, t123, t124, t125, t126⟩, A250, H⟩ := H
                      replace H : (some (0, t122, t123, t124, t125, t126)) = some (r1, r2, r3, r4, r5, r6) := H
                      have A25 := Aside0.mk A250; clear A250
                      simp only [Option.some.injEq, Prod.mk.injEq] at H
                      obtain ⟨rfl, rfl, rfl, rfl, rfl, rfl⟩ := H; obtain ⟨tvz26, nvz26, HGz26, hgz26, hRz26, hNz26⟩ := HI0.out; have hcz26_0 := cellS36_0 HGz26; have hcz26_1 := cellS36_1 HGz26; have hcz26_2 := cellS36_2 HGz26; have hcz26_3 := cellS36_3 HGz26; have hfz26_0 := blk_frozen HGz26 0; have hfz26_1 := blk_frozen HGz26 1; have hfz26_2 := blk_frozen HGz26 2; have hfz26_3 := blk_frozen HGz26 3; clear HGz26 hgz26
                      go_wp2_with (first | ((with_reducible refine gate_callee (f := 36) rfl ?_); refine goesL_ (some 53) rfl rfl Tryd.func36 (by kernel_rfl) rfl #[.string x1000_1, .int .i64 x2_1] rfl (by (try simp only [List.map_toArray, List.map_cons, List.map_nil]); first | done | rfl | (simp only [List.length_drop, List.length_take]; rfl)) ?_; (with_reducible refine (utf_Rune.calls kj12 x1000_1 x2_1 t120 t121 _ ?side1 A23.out).mono ?_); (case side1 => first | exact HT.out | exact Tabs.below HT.out (by repeat (first | (with_reducible first | exact HB.out | apply below_alloc | apply pw_below_drewN | apply below_drew1 | refine below_set ?_ (IsS36.ge HI0.out)) | exact HB.out))); rintro e w27 ⟨rfl, hb⟩; refine ⟨_, rfl, ?_⟩; have n0_ := Aside0.mk (IsS36.below (by repeat (first | (with_reducible first | exact HI0.out | apply IsS36.alloc | apply IsS36.drewN | apply IsS36.drew | apply IsS36.set_0 | apply IsS36.set_1 | apply IsS36.set_2 | apply IsS36.set_3) | exact HI0.out)) hb); have n1_ := Aside0.mk (Kq.trans (by repeat (first | (with_reducible first | exact HK.out | apply Kq.set_ | apply kq_drewN | apply kq_drew | apply kq_alloc) | exact HK.out)) (Kq.of_below hb g none) (.inl rfl)); have n2_ := Aside0.mk (below_step (by repeat (first | (with_reducible first | exact HB.out | apply below_alloc | apply pw_below_drewN | apply below_drew1 | refine below_set ?_ (IsS36.ge HI0.out)) | exact HB.out)) hb); clear HI0; clear HK; clear HB; have HI0 := n0_; have HK := n1_; have HB := n2_; clear n0_ n1_ n2_; (try clear hb); (try clear hb2); (try clear hk); (try clear hi)) | ((with_reducible refine gate_callee (f := 39) rfl ?_); refine goesL_ (some 60) rfl rfl Tryd.func39 (by kernel_rfl) rfl #[.pointer (some ⟨g, 0, none⟩), .int .i64 x2_1] rfl (by (try simp only [List.map_toArray, List.map_cons, List.map_nil]); first | done | rfl | (simp only [List.length_drop, List.length_take]; rfl)) ?_; (with_reducible refine (golex_scanner_bad.calls g x1000_1 x1001_1 x1002_1 x1003_1 x2_1 t122 t123 t124 t125 t126 w0 _ ?side1 ?side2 ?side3 A25.out).mono ?_); (case side1 => first | exact HT.out | exact Tabs.below HT.out (by repeat (first | (with_reducible first | exact HB.out | apply below_alloc | apply pw_below_drewN | apply below_drew1 | refine below_set ?_ (IsS36.ge HI0.out)) | exact HB.out))); (case side2 => repeat (first | (with_reducible first | exact HI0.out | apply IsS36.alloc | apply IsS36.drewN | apply IsS36.drew | apply IsS36.set_0 | apply IsS36.set_1 | apply IsS36.set_2 | apply IsS36.set_3) | exact HI0.out)); (case side3 => repeat (first | (with_reducible first | exact HB.out | apply below_alloc | apply pw_below_drewN | apply below_drew1 | refine below_set ?_ (IsS36.ge HI0.out)) | exact HB.out)); rintro e w28 ⟨rfl, hi, hb, hk⟩; refine ⟨_, rfl, ?_⟩; have n0_ := Aside0.mk (Kq.trans (by repeat (first | (with_reducible first | exact HK.out | apply Kq.set_ | apply kq_drewN | apply kq_drew | apply kq_alloc) | exact HK.out)) hk (.inl rfl)); have n1_ := Aside0.mk (hb); have n2_ := Aside0.mk (hi); clear HK; clear HB; clear HI0; have HK := n0_; have HB := n1_; have HI0 := n2_; clear n0_ n1_ n2_; (try clear hb); (try clear hb2); (try clear hk); (try clear hi)))
                      go_ret2
                      exact ⟨by first | rfl | (simp [errW_none, errW_some] <;> rfl) | (simp [*, errW_none, errW_some] <;> rfl), by repeat (first | (with_reducible first | exact HI0.out | apply IsS36.alloc | apply IsS36.drewN | apply IsS36.drew | apply IsS36.set_0 | apply IsS36.set_1 | apply IsS36.set_2 | apply IsS36.set_3) | exact HI0.out), by repeat (first | (with_reducible first | exact HB.out | apply below_alloc | apply pw_below_drewN | apply below_drew1 | refine below_set ?_ (IsS36.ge HI0.out)) | exact HB.out), by repeat (first | (with_reducible first | exact HK.out | apply Kq.set_ | apply kq_drewN | apply kq_drew | apply kq_alloc) | exact HK.out)⟩
                    · rw [if_neg c24] at H
                      have c24b0 : decide (t120 < 0) = false := decide_eq_false c24
                      clear c24; have HC29 := Aside0.mk H; clear H; obtain ⟨tvz30, nvz30, HGz30, hgz30, hRz30, hNz30⟩ := HI0.out; have hcz30_0 := cellS36_0 HGz30; have hcz30_1 := cellS36_1 HGz30; have hcz30_2 := cellS36_2 HGz30; have hcz30_3 := cellS36_3 HGz30; have hfz30_0 := blk_frozen HGz30 0; have hfz30_1 := blk_frozen HGz30 1; have hfz30_2 := blk_frozen HGz30 2; have hfz30_3 := blk_frozen HGz30 3; clear HGz30 hgz30
                      go_upto_region 9 with (first | ((with_reducible refine gate_callee (f := 36) rfl ?_); refine goesL_ (some 53) rfl rfl Tryd.func36 (by kernel_rfl) rfl #[.string x1000_1, .int .i64 x2_1] rfl (by (try simp only [List.map_toArray, List.map_cons, List.map_nil]); first | done | rfl | (simp only [List.length_drop, List.length_take]; rfl)) ?_; (with_reducible refine (utf_Rune.calls kj12 x1000_1 x2_1 t120 t121 _ ?side1 A23.out).mono ?_); (case side1 => first | exact HT.out | exact Tabs.below HT.out (by repeat (first | (with_reducible first | exact HB.out | apply below_alloc | apply pw_below_drewN | apply below_drew1 | refine below_set ?_ (IsS36.ge HI0.out)) | exact HB.out))); rintro e w31 ⟨rfl, hb⟩; refine ⟨_, rfl, ?_⟩; have n0_ := Aside0.mk (IsS36.below (by repeat (first | (with_reducible first | exact HI0.out | apply IsS36.alloc | apply IsS36.drewN | apply IsS36.drew | apply IsS36.set_0 | apply IsS36.set_1 | apply IsS36.set_2 | apply IsS36.set_3) | exact HI0.out)) hb); have n1_ := Aside0.mk (Kq.trans (by repeat (first | (with_reducible first | exact HK.out | apply Kq.set_ | apply kq_drewN | apply kq_drew | apply kq_alloc) | exact HK.out)) (Kq.of_below hb g none) (.inl rfl)); have n2_ := Aside0.mk (below_step (by repeat (first | (with_reducible first | exact HB.out | apply below_alloc | apply pw_below_drewN | apply below_drew1 | refine below_set ?_ (IsS36.ge HI0.out)) | exact HB.out)) hb); clear HI0; clear HK; clear HB; have HI0 := n0_; have HK := n1_; have HB := n2_; clear n0_ n1_ n2_; (try clear hb); (try clear hb2); (try clear hk); (try clear hi)))
                      (try simp only [Act.put, List.setIfInBounds_toArray, List.set_cons_zero, List.set_cons_succ])
                      go_cut [68] (fun v68 wc => ∃ (kq : Nat) (x68_28 : Bool), v68 = .bool x68_28 ∧ Aside0 (golex_scanner_until.j2 kq a1 (wrap64 (x2_1 + t121)) a3 a4 a5 x68_28 x1000_1 x1001_1 x1002_1 x1003_1 = some (r1, r2, r3, r4, r5, r6)) ∧ Aside0 (kq ≤ kj12) ∧ Aside0 (IsS36 w0 wc g x1000_1 x1001_1 x1002_1 x1003_1) ∧ Aside0 (Kq w wc g none) ∧ Aside0 (Below w0.heap.size w0 wc))
                      case first =>
                        have H := HC29.out
                        clear HC29
                        by_cases c32 : a4 = true
                        · subst c32
                          have H1 : (golex_scanner_until.j2 kj12 a1 (wrap64 (x2_1 + t121)) a3 true a5 (t120 == 92) x1000_1 x1001_1 x1002_1 x1003_1) = some (r1, r2, r3, r4, r5, r6) := by rw [if_pos rfl] at H; exact H
                          clear H
                          have H := H1
                          clear H1
                          have H' := Aside0.mk H
                          clear H
                          go_wp2
                          go_meet
                          case rel => exact ⟨_, ((t120 == 92)), (by first | rfl | (simp; done) | (simp [*]; done)), H', ⟨by have := HK1.out; have := HJ12.out; first | omega | exact Nat.le_refl _⟩, ⟨by repeat (first | (with_reducible first | exact HI0.out | apply IsS36.alloc | apply IsS36.drewN | apply IsS36.drew | apply IsS36.set_0 | apply IsS36.set_1 | apply IsS36.set_2 | apply IsS36.set_3) | exact HI0.out)⟩, ⟨by repeat (first | (with_reducible first | exact HK.out | apply Kq.set_ | apply kq_drewN | apply kq_drew | apply kq_alloc) | exact HK.out)⟩, ⟨by repeat (first | (with_reducible first | exact HB.out | apply below_alloc | apply pw_below_drewN | apply below_drew1 | refine below_set ?_ (IsS36.ge HI0.out)) | exact HB.out)⟩⟩
                        · replace c32 := Bool.eq_false_iff.mpr c32
                          subst c32
                          have H1 : (golex_scanner_until.j2 kj12 a1 (wrap64 (x2_1 + t121)) a3 false a5 false x1000_1 x1001_1 x1002_1 x1003_1) = some (r1, r2, r3, r4, r5, r6) := by rw [if_neg (show ¬ (false = true) by decide)] at H; exact H
                          clear H
                          have H := H1
                          clear H1
                          have H' := Aside0.mk H
                          clear H
                          go_wp2
                          go_meet
                          case rel => exact ⟨_, (false), (by first | rfl | (simp; done) | (simp [*]; done)), H', ⟨by have := HK1.out; have := HJ12.out; first | omega | exact Nat.le_refl _⟩, ⟨by repeat (first | (with_reducible first | exact HI0.out | apply IsS36.alloc | apply IsS36.drewN | apply IsS36.drew | apply IsS36.set_0 | apply IsS36.set_1 | apply IsS36.set_2 | apply IsS36.set_3) | exact HI0.out)⟩, ⟨by repeat (first | (with_reducible first | exact HK.out | apply Kq.set_ | apply kq_drewN | apply kq_drew | apply kq_alloc) | exact HK.out)⟩, ⟨by repeat (first | (with_reducible first | exact HB.out | apply below_alloc | apply pw_below_drewN | apply below_drew1 | refine below_set ?_ (IsS36.ge HI0.out)) | exact HB.out)⟩⟩
                      case rest =>
                        clear HC29; (try clear c1); (try clear c2); (try clear p2); (try clear c3); (try clear c4); (try clear c5); (try clear p6); (try clear c7); (try clear c7b0); (try clear c8); (try clear c8b0); (try clear c8b1); (try clear c9); (try clear c9b0); (try clear c9b1); (try clear c11); (try clear c15); (try clear c15b0); (try clear c15b1); (try clear c16); (try clear c16b0); (try clear c17); (try clear c17b0); (try clear c20); (try clear c24); (try clear c24b0); (try clear c32); (try clear hcz12_0); (try clear hcz12_1); (try clear hcz12_2); (try clear hcz12_3); (try clear hcz14_0); (try clear hcz14_1); (try clear hcz14_2); (try clear hcz14_3); (try clear hcz19_0)
                        (try clear hcz19_1); (try clear hcz19_2); (try clear hcz19_3); (try clear hcz26_0); (try clear hcz26_1); (try clear hcz26_2); (try clear hcz26_3); (try clear hcz30_0); (try clear hcz30_1); (try clear hcz30_2); (try clear hcz30_3); (try clear hfz12_0); (try clear hfz12_1); (try clear hfz12_2); (try clear hfz12_3); (try clear hfz14_0); (try clear hfz14_1); (try clear hfz14_2); (try clear hfz14_3); (try clear hfz19_0); (try clear hfz19_1); (try clear hfz19_2); (try clear hfz19_3); (try clear hfz26_0); (try clear hfz26_1); (try clear hfz26_2); (try clear hfz26_3); (try clear hfz30_0); (try clear hfz30_1); (try clear hfz30_2); (try clear hfz30_3)
                        (try clear p2); (try clear p6); obtain ⟨kq, x68_28, rfl, HA, HJ28, HI0, HK, HB⟩ := hcut
                        cases kq with
                        | zero => exact absurd HA.out (by simp [golex_scanner_until.j2])
                        | succ kj28 =>
                          have H := HA.out
                          clear HA
                          simp only [golex_scanner_until.j2] at H
                          by_cases c33 : x68_28 = true
                          · subst c33
                            have H1 : ((utf_Rune.f kj28 x1000_1 (wrap64 (x2_1 + t121))).bind fun bt127 => (if bt127.2 = 0 then (golex_scanner_until.j3 kj28 a1 (wrap64 (x2_1 + t121)) a3 a4 a5 bt127.1 bt127.2 true x1000_1 x1001_1 x1002_1 x1003_1) else (golex_scanner_until.j3 kj28 a1 (wrap64 (x2_1 + t121)) a3 a4 a5 bt127.1 bt127.2 (bt127.1 == 10) x1000_1 x1001_1 x1002_1 x1003_1))) = some (r1, r2, r3, r4, r5, r6) := by rw [if_pos rfl] at H; exact H
                            clear H
                            have H := H1
                            clear H1
                            replace H := Option.bind_eq_some_iff.mp H
                            obtain ⟨⟨t127, t128⟩, A340, H⟩ := H
                            replace H : (if t128 = 0 then (golex_scanner_until.j3 kj28 a1 (wrap64 (x2_1 + t121)) a3 a4 a5 t127 t128 true x1000_1 x1001_1 x1002_1 x1003_1) else (golex_scanner_until.j3 kj28 a1 (wrap64 (x2_1 + t121)) a3 a4 a5 t127 t128 (t127 == 10) x1000_1 x1001_1 x1002_1 x1003_1)) = some (r1, r2, r3, r4, r5, r6) := H
                            have A34 := Aside0.mk A340; clear A340; have HC35 := Aside0.mk H; clear H; obtain ⟨tvz36, nvz36, HGz36, hgz36, hRz36, hNz36⟩ := HI0.out; have hcz36_0 := cellS36_0 HGz36; have hcz36_1 := cellS36_1 HGz36; have hcz36_2 := cellS36_2 HGz36; have hcz36_3 := cellS36_3 HGz36; have hfz36_0 := blk_frozen HGz36 0; have hfz36_1 := blk_frozen HGz36 1; have hfz36_2 := blk_frozen HGz36 2; have hfz36_3 := blk_frozen HGz36 3; clear HGz36 hgz36
                            go_upto_region 11 with (first | ((with_reducible refine gate_callee (f := 36) rfl ?_); refine goesL_ (some 75) rfl rfl Tryd.func36 (by kernel_rfl) rfl #[.string x1000_1, .int .i64 (wrap64 (x2_1 + t121))] rfl (by (try simp only [List.map_toArray, List.map_cons, List.map_nil]); first | done | rfl | (simp only [List.length_drop, List.length_take]; rfl)) ?_; (with_reducible refine (utf_Rune.calls kj28 x1000_1 (wrap64 (x2_1 + t121)) t127 t128 _ ?side1 A34.out).mono ?_); (case side1 => first | exact HT.out | exact Tabs.below HT.out (by repeat (first | (with_reducible first | exact HB.out | apply below_alloc | apply pw_below_drewN | apply below_drew1 | refine below_set ?_ (IsS36.ge HI0.out)) | exact HB.out))); rintro e w37 ⟨rfl, hb⟩; refine ⟨_, rfl, ?_⟩; have n0_ := Aside0.mk (IsS36.below (by repeat (first | (with_reducible first | exact HI0.out | apply IsS36.alloc | apply IsS36.drewN | apply IsS36.drew | apply IsS36.set_0 | apply IsS36.set_1 | apply IsS36.set_2 | apply IsS36.set_3) | exact HI0.out)) hb); have n1_ := Aside0.mk (Kq.trans (by repeat (first | (with_reducible first | exact HK.out | apply Kq.set_ | apply kq_drewN | apply kq_drew | apply kq_alloc) | exact HK.out)) (Kq.of_below hb g none) (.inl rfl)); have n2_ := Aside0.mk (below_step (by repeat (first | (with_reducible first | exact HB.out | apply below_alloc | apply pw_below_drewN | apply below_drew1 | refine below_set ?_ (IsS36.ge HI0.out)) | exact HB.out)) hb); clear HI0; clear HK; clear HB; have HI0 := n0_; have HK := n1_; have HB := n2_; clear n0_ n1_ n2_; (try clear hb); (try clear hb2); (try clear hk); (try clear hi)))
                            (try simp only [Act.put, List.setIfInBounds_toArray, List.set_cons_zero, List.set_cons_succ])
                            go_cut [83] (fun v83 wc => ∃ (kq : Nat) (x83_34 : Bool), v83 = .bool x83_34 ∧ Aside0 (golex_scanner_until.j3 kq a1 (wrap64 (x2_1 + t121)) a3 a4 a5 t127 t128 x83_34 x1000_1 x1001_1 x1002_1 x1003_1 = some (r1, r2, r3, r4, r5, r6)) ∧ Aside0 (kq ≤ kj28) ∧ Aside0 (IsS36 w0 wc g x1000_1 x1001_1 x1002_1 x1003_1) ∧ Aside0 (Kq w wc g none) ∧ Aside0 (Below w0.heap.size w0 wc))
                            case first =>
                              have H := HC35.out
                              clear HC35
                              by_cases c38 : t128 = 0
                              · rw [if_pos c38] at H
                                have c38b0 : (t128 == 0) = true := beq_iff_eq.mpr c38
                                have c38b1 : (t128 != 0) = false := bne_eq_false_iff_eq.mpr c38
                                clear c38
                                (first | rw [c38b0] | (simp only [i64_w, i32_w]; rw [c38b0]) | skip)
                                have H' := Aside0.mk H
                                clear H
                                go_wp2
                                go_meet
                                case rel => exact ⟨_, (true), (by first | rfl | (simp; done) | (simp [*]; done)), H', ⟨by have := HK1.out; have := HJ12.out; have := HJ28.out; first | omega | exact Nat.le_refl _⟩, ⟨by repeat (first | (with_reducible first | exact HI0.out | apply IsS36.alloc | apply IsS36.drewN | apply IsS36.drew | apply IsS36.set_0 | apply IsS36.set_1 | apply IsS36.set_2 | apply IsS36.set_3) | exact HI0.out)⟩, ⟨by repeat (first | (with_reducible first | exact HK.out | apply Kq.set_ | apply kq_drewN | apply kq_drew | apply kq_alloc) | exact HK.out)⟩, ⟨by repeat (first | (with_reducible first | exact HB.out | apply below_alloc | apply pw_below_drewN | apply below_drew1 | refine below_set ?_ (IsS36.ge HI0.out)) | exact HB.out)⟩⟩
                              · rw [if_neg c38] at H
                                have c38b0 : (t128 == 0) = false := beq_eq_false_iff_ne.mpr c38
                                have c38b1 : (t128 != 0) = true := bne_iff_ne.mpr c38
                                (first | rw [c38b0] | (simp only [i64_w, i32_w]; rw [c38b0]) | skip)
                                have H' := Aside0.mk H
                                clear H
                                go_wp2
                                go_meet
                                case rel => exact ⟨_, ((t127 == 10)), (by first | rfl | (simp; done) | (simp [*]; done)), H', ⟨by have := HK1.out; have := HJ12.out; have := HJ28.out; first | omega | exact Nat.le_refl _⟩, ⟨by repeat (first | (with_reducible first | exact HI0.out | apply IsS36.alloc | apply IsS36.drewN | apply IsS36.drew | apply IsS36.set_0 | apply IsS36.set_1 | apply IsS36.set_2 | apply IsS36.set_3) | exact HI0.out)⟩, ⟨by repeat (first | (with_reducible first | exact HK.out | apply Kq.set_ | apply kq_drewN | apply kq_drew | apply kq_alloc) | exact HK.out)⟩, ⟨by repeat (first | (with_reducible first | exact HB.out | apply below_alloc | apply pw_below_drewN | apply below_drew1 | refine below_set ?_ (IsS36.ge HI0.out)) | exact HB.out)⟩⟩
                            case rest =>
                              clear HC35; (try clear c1); (try clear c2); (try clear p2); (try clear c3); (try clear c4); (try clear c5); (try clear p6); (try clear c7); (try clear c7b0); (try clear c8); (try clear c8b0); (try clear c8b1); (try clear c9); (try clear c9b0); (try clear c9b1); (try clear c11); (try clear c15); (try clear c15b0); (try clear c15b1); (try clear c16); (try clear c16b0); (try clear c17); (try clear c17b0); (try clear c20); (try clear c24); (try clear c24b0); (try clear c32); (try clear c33); (try clear c36); (try clear c38); (try clear c38b0); (try clear c38b1); (try clear hcz12_0); (try clear hcz12_1); (try clear hcz12_2); (try clear hcz12_3)
                              (try clear hcz14_0); (try clear hcz14_1); (try clear hcz14_2); (try clear hcz14_3); (try clear hcz19_0); (try clear hcz19_1); (try clear hcz19_2); (try clear hcz19_3); (try clear hcz26_0); (try clear hcz26_1); (try clear hcz26_2); (try clear hcz26_3); (try clear hcz30_0); (try clear hcz30_1); (try clear hcz30_2); (try clear hcz30_3); (try clear hcz36_0); (try clear hcz36_1); (try clear hcz36_2); (try clear hcz36_3); (try clear hfz12_0); (try clear hfz12_1); (try clear hfz12_2); (try clear hfz12_3); (try clear hfz14_0); (try clear hfz14_1); (try clear hfz14_2); (try clear hfz14_3); (try clear hfz19_0); (try clear hfz19_1); (try clear hfz19_2)
                              (try clear hfz19_3); (try clear hfz26_0); (try clear hfz26_1); (try clear hfz26_2); (try clear hfz26_3); (try clear hfz30_0); (try clear hfz30_1); (try clear hfz30_2); (try clear hfz30_3); (try clear hfz36_0); (try clear hfz36_1); (try clear hfz36_2); (try clear hfz36_3); (try clear p2); (try clear p6); obtain ⟨kq, x83_34, rfl, HA, HJ34, HI0, HK, HB⟩ := hcut
                              cases kq with
                              | zero => exact absurd HA.out (by simp [golex_scanner_until.j3])
                              | succ kj34 =>
                                have H := HA.out
                                clear HA
                                simp only [golex_scanner_until.j3] at H
                                by_cases c39 : x83_34 = true
                                · subst c39
                                  have H1 : ((golex_scanner_bad.f x1000_1 x1001_1 x1002_1 x1003_1 a1).bind fun bt129 => (some (0, bt129.1, bt129.2.1, bt129.2.2.1, bt129.2.2.2.1, bt129.2.2.2.2))) = some (r1, r2, r3, r4, r5, r6) := by rw [if_pos rfl] at H; exact H
                                  clear H
                                  have H := H1
                                  clear H1
                                  replace H := Option.bind_eq_some_iff.mp H
                                  obtain ⟨⟨t129, t130, t131, t132, t133⟩, A400, H⟩ := H
                                  replace H : (some (0, t129, t130, t131, t132, t133)) = some (r1, r2, r3, r4, r5, r6) := H
                                  have A40 := Aside0.mk A400; clear A400
                                  simp only [Option.some.injEq, Prod.mk.injEq] at H
                                  obtain ⟨rfl, rfl, rfl, rfl, rfl, rfl⟩ := H
                                  go_wp2_with (first | ((with_reducible refine gate_callee (f := 39) rfl ?_); refine goesL_ (some 94) rfl rfl Tryd.func39 (by kernel_rfl) rfl #[.pointer (some ⟨g, 0, none⟩), .int .i64 a1] rfl (by (try simp only [List.map_toArray, List.map_cons, List.map_nil]); first | done | rfl | (simp only [List.length_drop, List.length_take]; rfl)) ?_; (with_reducible refine (golex_scanner_bad.calls g x1000_1 x1001_1 x1002_1 x1003_1 a1 t129 t130 t131 t132 t133 w0 _ ?side1 ?side2 ?side3 A40.out).mono ?_); (case side1 => first | exact HT.out | exact Tabs.below HT.out (by repeat (first | (with_reducible first | exact HB.out | apply below_alloc | apply pw_below_drewN | apply below_drew1 | refine below_set ?_ (IsS36.ge HI0.out)) | exact HB.out))); (case side2 => repeat (first | (with_reducible first | exact HI0.out | apply IsS36.alloc | apply IsS36.drewN | apply IsS36.drew | apply IsS36.set_0 | apply IsS36.set_1 | apply IsS36.set_2 | apply IsS36.set_3) | exact HI0.out)); (case side3 => repeat (first | (with_reducible first | exact HB.out | apply below_alloc | apply pw_below_drewN | apply below_drew1 | refine below_set ?_ (IsS36.ge HI0.out)) | exact HB.out)); rintro e w41 ⟨rfl, hi, hb, hk⟩; refine ⟨_, rfl, ?_⟩; have n0_ := Aside0.mk (Kq.trans (by repeat (first | (with_reducible first | exact HK.out | apply Kq.set_ | apply kq_drewN | apply kq_drew | apply kq_alloc) | exact HK.out)) hk (.inl rfl)); have n1_ := Aside0.mk (hb); have n2_ := Aside0.mk (hi); clear HK; clear HB; clear HI0; have HK := n0_; have HB := n1_; have HI0 := n2_; clear n0_ n1_ n2_; (try clear hb); (try clear hb2); (try clear hk); (try clear hi)))
                                  go_ret2
                                  exact ⟨by first | rfl | (simp [errW_none, errW_some] <;> rfl) | (simp [*, errW_none, errW_some] <;> rfl), by repeat (first | (with_reducible first | exact HI0.out | apply IsS36.alloc | apply IsS36.drewN | apply IsS36.drew | apply IsS36.set_0 | apply IsS36.set_1 | apply IsS36.set_2 | apply IsS36.set_3) | exact HI0.out), by repeat (first | (with_reducible first | exact HB.out | apply below_alloc | apply pw_below_drewN | apply below_drew1 | refine below_set ?_ (IsS36.ge HI0.out)) | exact HB.out), by repeat (first | (with_reducible first | exact HK.out | apply Kq.set_ | apply kq_drewN | apply kq_drew | apply kq_alloc) | exact HK.out)⟩
                                · replace c39 := Bool.eq_false_iff.mpr c39
                                  subst c39
                                  have H1 : (if t127 < 0 then ((golex_scanner_bad.f x1000_1 x1001_1 x1002_1 x1003_1 (wrap64 (x2_1 + t121))).bind fun bt134 => (some (0, bt134.1, bt134.2.1, bt134.2.2.1, bt134.2.2.2.1, bt134.2.2.2.2))) else (golex_scanner_until.l0 kj34 a1 (wrap64 ((wrap64 (x2_1 + t121)) + t128)) a3 a4 a5 x1000_1 x1001_1 x1002_1 x1003_1)) = some (r1, r2, r3, r4, r5, r6) := by rw [if_neg (show ¬ (false = true) by decide)] at H; exact H
                                  clear H
                                  have H := H1
                                  clear H1
                                  by_cases c42 : t127 < 0
                                  · rw [if_pos c42] at H
                                    have c42b0 : decide (t127 < 0) = true := decide_eq_true c42
                                    clear c42
                                    replace H := Option.bind_eq_some_iff.mp H
                                    obtain ⟨⟨t134, t135, t136, t137, t138⟩, A430, H⟩ := H
                                    replace H : (some (0, t134, t135, t136, t137, t138)) = some (r1, r2, r3, r4, r5, r6) := H
                                    have A43 := Aside0.mk A430; clear A430
                                    simp only [Option.some.injEq, Prod.mk.injEq] at H
                                    obtain ⟨rfl, rfl, rfl, rfl, rfl, rfl⟩ := H
                                    go_wp2_with (first | ((with_reducible refine gate_callee (f := 39) rfl ?_); refine goesL_ (some 88) rfl rfl Tryd.func39 (by kernel_rfl) rfl #[.pointer (some ⟨g, 0, none⟩), .int .i64 (wrap64 (x2_1 + t121))] rfl (by (try simp only [List.map_toArray, List.map_cons, List.map_nil]); first | done | rfl | (simp only [List.length_drop, List.length_take]; rfl)) ?_; (with_reducible refine (golex_scanner_bad.calls g x1000_1 x1001_1 x1002_1 x1003_1 (wrap64 (x2_1 + t121)) t134 t135 t136 t137 t138 w0 _ ?side1 ?side2 ?side3 A43.out).mono ?_); (case side1 => first | exact HT.out | exact Tabs.below HT.out (by repeat (first | (with_reducible first | exact HB.out | apply below_alloc | apply pw_below_drewN | apply below_drew1 | refine below_set ?_ (IsS36.ge HI0.out)) | exact HB.out))); (case side2 => repeat (first | (with_reducible first | exact HI0.out | apply IsS36.alloc | apply IsS36.drewN | apply IsS36.drew | apply IsS36.set_0 | apply IsS36.set_1 | apply IsS36.set_2 | apply IsS36.set_3) | exact HI0.out)); (case side3 => repeat (first | (with_reducible first | exact HB.out | apply below_alloc | apply pw_below_drewN | apply below_drew1 | refine below_set ?_ (IsS36.ge HI0.out)) | exact HB.out)); rintro e w44 ⟨rfl, hi, hb, hk⟩; refine ⟨_, rfl, ?_⟩; have n0_ := Aside0.mk (Kq.trans (by repeat (first | (with_reducible first | exact HK.out | apply Kq.set_ | apply kq_drewN | apply kq_drew | apply kq_alloc) | exact HK.out)) hk (.inl rfl)); have n1_ := Aside0.mk (hb); have n2_ := Aside0.mk (hi); clear HK; clear HB; clear HI0; have HK := n0_; have HB := n1_; have HI0 := n2_; clear n0_ n1_ n2_; (try clear hb); (try clear hb2); (try clear hk); (try clear hi)))
                                    go_ret2
                                    exact ⟨by first | rfl | (simp [errW_none, errW_some] <;> rfl) | (simp [*, errW_none, errW_some] <;> rfl), by repeat (first | (with_reducible first | exact HI0.out | apply IsS36.alloc | apply IsS36.drewN | apply IsS36.drew | apply IsS36.set_0 | apply IsS36.set_1 | apply IsS36.set_2 | apply IsS36.set_3) | exact HI0.out), by repeat (first | (with_reducible first | exact HB.out | apply below_alloc | apply pw_below_drewN | apply below_drew1 | refine below_set ?_ (IsS36.ge HI0.out)) | exact HB.out), by repeat (first | (with_reducible first | exact HK.out | apply Kq.set_ | apply kq_drewN | apply kq_drew | apply kq_alloc) | exact HK.out)⟩
                                  · rw [if_neg c42] at H
                                    have c42b0 : decide (t127 < 0) = false := decide_eq_false c42
                                    clear c42
                                    have H' := Aside0.mk H
                                    clear H
                                    go_wp2
                                    go_roundg kj34
                                    case measure => have := HK1.out; have := HJ12.out; have := HJ28.out; have := HJ34.out; omega
                                    case rel => exact ⟨(wrap64 ((wrap64 (x2_1 + t121)) + t128)), (x1000_1), (x1001_1), (x1002_1), (x1003_1), (by first | rfl | (simp; done) | (simp [*]; done)), H', ⟨by have := HK1.out; have := HJ12.out; have := HJ28.out; have := HJ34.out; omega⟩, ⟨by repeat (first | (with_reducible first | exact HI0.out | apply IsS36.alloc | apply IsS36.drewN | apply IsS36.drew | apply IsS36.set_0 | apply IsS36.set_1 | apply IsS36.set_2 | apply IsS36.set_3) | exact HI0.out)⟩, ⟨by repeat (first | (with_reducible first | exact HK.out | apply Kq.set_ | apply kq_drewN | apply kq_drew | apply kq_alloc) | exact HK.out)⟩, ⟨by repeat (first | (with_reducible first | exact HB.out | apply below_alloc | apply pw_below_drewN | apply below_drew1 | refine below_set ?_ (IsS36.ge HI0.out)) | exact HB.out)⟩⟩
                          · replace c33 := Bool.eq_false_iff.mpr c33
                            subst c33
                            have H1 : (golex_scanner_until.l0 kj28 a1 (wrap64 (x2_1 + t121)) a3 a4 a5 x1000_1 x1001_1 x1002_1 x1003_1) = some (r1, r2, r3, r4, r5, r6) := by rw [if_neg (show ¬ (false = true) by decide)] at H; exact H
                            clear H
                            have H := H1
                            clear H1
                            have H' := Aside0.mk H
                            clear H
                            go_wp2
                            go_roundg kj28
                            case measure => have := HK1.out; have := HJ12.out; have := HJ28.out; omega
                            case rel => exact ⟨((wrap64 (x2_1 + t121))), (x1000_1), (x1001_1), (x1002_1), (x1003_1), (by first | rfl | (simp; done) | (simp [*]; done)), H', ⟨by have := HK1.out; have := HJ12.out; have := HJ28.out; omega⟩, ⟨by repeat (first | (with_reducible first | exact HI0.out | apply IsS36.alloc | apply IsS36.drewN | apply IsS36.drew | apply IsS36.set_0 | apply IsS36.set_1 | apply IsS36.set_2 | apply IsS36.set_3) | exact HI0.out)⟩, ⟨by repeat (first | (with_reducible first | exact HK.out | apply Kq.set_ | apply kq_drewN | apply kq_drew | apply kq_alloc) | exact HK.out)⟩, ⟨by repeat (first | (with_reducible first | exact HB.out | apply below_alloc | apply pw_below_drewN | apply below_drew1 | refine below_set ?_ (IsS36.ge HI0.out)) | exact HB.out)⟩⟩
          · rw [if_neg c9] at H
            exact absurd H (by simp)
        · rw [if_neg c8] at H
          exact absurd H (by simp)
      · rw [if_neg c7] at H
        have c7b0 : decide (x2_1 < (x1000_1.size : Int)) = false := decide_eq_false c7
        clear c7
        replace H := Option.bind_eq_some_iff.mp H
        obtain ⟨⟨t108, t109, t110, t111, t112⟩, A450, H⟩ := H
        replace H : (some (0, t108, t109, t110, t111, t112)) = some (r1, r2, r3, r4, r5, r6) := H
        have A45 := Aside0.mk A450; clear A450
        simp only [Option.some.injEq, Prod.mk.injEq] at H
        obtain ⟨rfl, rfl, rfl, rfl, rfl, rfl⟩ := H; obtain ⟨tvz46, nvz46, HGz46, hgz46, hRz46, hNz46⟩ := HI0.out; have hcz46_0 := cellS36_0 HGz46; have hcz46_1 := cellS36_1 HGz46; have hcz46_2 := cellS36_2 HGz46; have hcz46_3 := cellS36_3 HGz46; have hfz46_0 := blk_frozen HGz46 0; have hfz46_1 := blk_frozen HGz46 1; have hfz46_2 := blk_frozen HGz46 2; have hfz46_3 := blk_frozen HGz46 3; clear HGz46 hgz46
        go_wp2_with (first | ((with_reducible refine gate_callee (f := 39) rfl ?_); refine goesL_ (some 94) rfl rfl Tryd.func39 (by kernel_rfl) rfl #[.pointer (some ⟨g, 0, none⟩), .int .i64 a1] rfl (by (try simp only [List.map_toArray, List.map_cons, List.map_nil]); first | done | rfl | (simp only [List.length_drop, List.length_take]; rfl)) ?_; (with_reducible refine (golex_scanner_bad.calls g x1000_1 x1001_1 x1002_1 x1003_1 a1 t108 t109 t110 t111 t112 w0 _ ?side1 ?side2 ?side3 A45.out).mono ?_); (case side1 => first | exact HT.out | exact Tabs.below HT.out (by repeat (first | (with_reducible first | exact HB.out | apply below_alloc | apply pw_below_drewN | apply below_drew1 | refine below_set ?_ (IsS36.ge HI0.out)) | exact HB.out))); (case side2 => repeat (first | (with_reducible first | exact HI0.out | apply IsS36.alloc | apply IsS36.drewN | apply IsS36.drew | apply IsS36.set_0 | apply IsS36.set_1 | apply IsS36.set_2 | apply IsS36.set_3) | exact HI0.out)); (case side3 => repeat (first | (with_reducible first | exact HB.out | apply below_alloc | apply pw_below_drewN | apply below_drew1 | refine below_set ?_ (IsS36.ge HI0.out)) | exact HB.out)); rintro e w47 ⟨rfl, hi, hb, hk⟩; refine ⟨_, rfl, ?_⟩; have n0_ := Aside0.mk (Kq.trans (by repeat (first | (with_reducible first | exact HK.out | apply Kq.set_ | apply kq_drewN | apply kq_drew | apply kq_alloc) | exact HK.out)) hk (.inl rfl)); have n1_ := Aside0.mk (hb); have n2_ := Aside0.mk (hi); clear HK; clear HB; clear HI0; have HK := n0_; have HB := n1_; have HI0 := n2_; clear n0_ n1_ n2_; (try clear hb); (try clear hb2); (try clear hk); (try clear hi)))
        go_ret2
        exact ⟨by first | rfl | (simp [errW_none, errW_some] <;> rfl) | (simp [*, errW_none, errW_some] <;> rfl), by repeat (first | (with_reducible first | exact HI0.out | apply IsS36.alloc | apply IsS36.drewN | apply IsS36.drew | apply IsS36.set_0 | apply IsS36.set_1 | apply IsS36.set_2 | apply IsS36.set_3) | exact HI0.out), by repeat (first | (with_reducible first | exact HB.out | apply below_alloc | apply pw_below_drewN | apply below_drew1 | refine below_set ?_ (IsS36.ge HI0.out)) | exact HB.out), by repeat (first | (with_reducible first | exact HK.out | apply Kq.set_ | apply kq_drewN | apply kq_drew | apply kq_alloc) | exact HK.out)⟩
end Go.Proofs.YtfolmcfcmonkhaaDoor.PAll

