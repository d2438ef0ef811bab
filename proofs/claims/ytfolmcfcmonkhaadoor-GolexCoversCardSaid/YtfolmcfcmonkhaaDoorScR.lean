/- The scanner's run and number: printed. -/
import Derived.Test.YtfolmcfcmonkhaaDoorScC
namespace Go.Proofs.YtfolmcfcmonkhaaDoor.PAll
open Go Go.RowKit Go.Proofs.YtfolmcfcmonkhaaDoorW.PrintWords Go.Proofs.YtfolmcfcmonkhaaDoorW.PrintLast Go.Proofs.YtfolmcfcmonkhaaDoorW.PrintMore Go.Proofs.YtfolmcfcmonkhaaDoorMy Go.Proofs.YtfolmcfcmonkhaaDoor
attribute [local go_sem] max2_int min2_int max_two min_two max_three min_three max_four min_four
set_option linter.unusedVariables false
set_option linter.unusedSimpArgs false
def golex_scanner_run.l0 : Nat → Int → ByteArray → Int → List (S27) → List (S27) → Option (Int × ByteArray × Int × List (S27) × List (S27))
  | 0, _, _, _, _, _ => none
  | k + 1, x1, x1000, x1001, x1002, x1003 => (utf_Rune.f k x1000 x1).bind fun bt139 => ((utf_Letter.f bt139.1).bind fun t141 => (if t141 = true then (golex_scanner_run.l0 k (wrap64 (x1 + bt139.2)) x1000 x1001 x1002 x1003) else ((utf_Digit.f bt139.1).bind fun t142 => (if t142 = true then (golex_scanner_run.l0 k (wrap64 (x1 + bt139.2)) x1000 x1001 x1002 x1003) else (some (x1, x1000, x1001, x1002, x1003))))))
def golex_scanner_run.f (k : Nat) (s0_0 : ByteArray) (s0_1 : Int) (s0_2 : List (S27)) (s0_3 : List (S27)) (a1 : Int) : Option (Int × ByteArray × Int × List (S27) × List (S27)) := golex_scanner_run.l0 k a1 s0_0 s0_1 s0_2 s0_3
set_option maxHeartbeats 8000000 in
set_option maxRecDepth 100000 in
theorem golex_scanner_run.calls (k : Nat) (g : Nat) (s0_0 : ByteArray) (s0_1 : Int) (s0_2 : List (S27)) (s0_3 : List (S27)) (a1 : Int) (r1 : Int) (r2 : ByteArray) (r3 : Int) (r4 : List (S27)) (r5 : List (S27)) (w0 w : World) (hT : Tabs w0) (hI : IsS36 w0 w g s0_0 s0_1 s0_2 s0_3) (hB : Below w0.heap.size w0 w) (h : golex_scanner_run.f k s0_0 s0_1 s0_2 s0_3 a1 = some (r1, r2, r3, r4, r5)) :
    Calls Tryd.prog 44 #[.pointer (some ⟨g, 0, none⟩), .int .i64 a1] w fun e w' => e = .returned (.int .i64 r1) ∧ IsS36 w0 w' g r2 r3 r4 r5 ∧ Below w0.heap.size w0 w' ∧ Kq w w' g none := by
  have HT := Aside0.mk hT; clear hT; have HI0 := Aside0.mk hI
  have HK := Aside0.mk (Kq.refl w g none)
  have HL := Aside0.mk hB.size
  clear hI
  have HW0 := Aside0.mk hB.size
  have HB := Aside0.mk hB; clear hB
  have H : (golex_scanner_run.l0 k a1 s0_0 s0_1 s0_2 s0_3) = some (r1, r2, r3, r4, r5) := h
  clear h
  have H' := Aside0.mk H
  clear H
  go_enter Tryd.func44, Tryd.ntmps44
  go_wp2
  go_loopg [1] k (fun kq v1 w' => ∃ (x1_1 : Int), v1 = .int .i64 x1_1 ∧ Aside0 (golex_scanner_run.l0 kq x1_1 s0_0 s0_1 s0_2 s0_3 = some (r1, r2, r3, r4, r5)) ∧ Aside0 (kq ≤ k) ∧ Aside0 (IsS36 w0 w' g s0_0 s0_1 s0_2 s0_3) ∧ Aside0 (Kq w w' g none) ∧ Aside0 (Below w0.heap.size w0 w'))
  case atStart => exact ⟨(a1), (by first | rfl | (simp; done) | (simp [*]; done)), H', ⟨Nat.le_refl _⟩, ⟨by repeat (first | (with_reducible first | exact HI0.out | apply IsS36.alloc | apply IsS36.drewN | apply IsS36.drew | apply IsS36.set_0 | apply IsS36.set_1 | apply IsS36.set_2 | apply IsS36.set_3) | exact HI0.out)⟩, ⟨by repeat (first | (with_reducible first | exact HK.out | apply Kq.set_ | apply kq_drewN | apply kq_drew | apply kq_alloc) | exact HK.out)⟩, ⟨by repeat (first | (with_reducible first | exact HB.out | apply below_alloc | apply pw_below_drewN | apply below_drew1 | refine below_set ?_ (IsS36.ge HI0.out)) | exact HB.out)⟩⟩
  case round =>
    clear H'
    (try clear p2); obtain ⟨x1_1, rfl, HA, HK1, HI0, HK, HB⟩ := hrel
    cases gk with
    | zero => exact absurd HA.out (by simp [golex_scanner_run.l0])
    | succ k1 =>
      have H := HA.out
      clear HA
      simp only [golex_scanner_run.l0] at H
      replace H := Option.bind_eq_some_iff.mp H
      obtain ⟨⟨t139, t140⟩, A30, H⟩ := H
      replace H : ((utf_Letter.f t139).bind fun t141 => (if t141 = true then (golex_scanner_run.l0 k1 (wrap64 (x1_1 + t140)) s0_0 s0_1 s0_2 s0_3) else ((utf_Digit.f t139).bind fun t142 => (if t142 = true then (golex_scanner_run.l0 k1 (wrap64 (x1_1 + t140)) s0_0 s0_1 s0_2 s0_3) else (some (x1_1, s0_0, s0_1, s0_2, s0_3)))))) = some (r1, r2, r3, r4, r5) := H
      have A3 := Aside0.mk A30; clear A30
      replace H := Option.bind_eq_some_iff.mp H
      obtain ⟨t141, A40, H⟩ := H
      replace H : (if t141 = true then (golex_scanner_run.l0 k1 (wrap64 (x1_1 + t140)) s0_0 s0_1 s0_2 s0_3) else ((utf_Digit.f t139).bind fun t142 => (if t142 = true then (golex_scanner_run.l0 k1 (wrap64 (x1_1 + t140)) s0_0 s0_1 s0_2 s0_3) else (some (x1_1, s0_0, s0_1, s0_2, s0_3))))) = some (r1, r2, r3, r4, r5) := H
      have A4 := Aside0.mk A40; clear A40
      by_cases c5 : t141 = true
      · subst c5
        have H1 : (golex_scanner_run.l0 k1 (wrap64 (x1_1 + t140)) s0_0 s0_1 s0_2 s0_3) = some (r1, r2, r3, r4, r5) := by rw [if_pos rfl] at H; exact H
        clear H
        have H := H1
        clear H1
        have H' := Aside0.mk H
        clear H; obtain ⟨tvz6, nvz6, HGz6, hgz6, hRz6, hNz6⟩ := HI0.out; have hcz6_0 := cellS36_0 HGz6; have hcz6_1 := cellS36_1 HGz6; have hcz6_2 := cellS36_2 HGz6; have hcz6_3 := cellS36_3 HGz6; have hfz6_0 := blk_frozen HGz6 0; have hfz6_1 := blk_frozen HGz6 1; have hfz6_2 := blk_frozen HGz6 2; have hfz6_3 := blk_frozen HGz6 3; clear HGz6 hgz6
        go_wp2_with (first | ((with_reducible refine gate_callee (f := 36) rfl ?_); refine goesL_ (some 13) rfl rfl Tryd.func36 (by kernel_rfl) rfl #[.string s0_0, .int .i64 x1_1] rfl (by (try simp only [List.map_toArray, List.map_cons, List.map_nil]); first | done | rfl | (simp only [List.length_drop, List.length_take]; rfl)) ?_; (with_reducible refine (utf_Rune.calls k1 s0_0 x1_1 t139 t140 _ ?side1 A3.out).mono ?_); (case side1 => first | exact HT.out | exact Tabs.below HT.out (by repeat (first | (with_reducible first | exact HB.out | apply below_alloc | apply pw_below_drewN | apply below_drew1 | refine below_set ?_ (IsS36.ge HI0.out)) | exact HB.out))); rintro e w7 ⟨rfl, hb⟩; refine ⟨_, rfl, ?_⟩; have n0_ := Aside0.mk (IsS36.below (by repeat (first | (with_reducible first | exact HI0.out | apply IsS36.alloc | apply IsS36.drewN | apply IsS36.drew | apply IsS36.set_0 | apply IsS36.set_1 | apply IsS36.set_2 | apply IsS36.set_3) | exact HI0.out)) hb); have n1_ := Aside0.mk (Kq.trans (by repeat (first | (with_reducible first | exact HK.out | apply Kq.set_ | apply kq_drewN | apply kq_drew | apply kq_alloc) | exact HK.out)) (Kq.of_below hb g none) (.inl rfl)); have n2_ := Aside0.mk (below_step (by repeat (first | (with_reducible first | exact HB.out | apply below_alloc | apply pw_below_drewN | apply below_drew1 | refine below_set ?_ (IsS36.ge HI0.out)) | exact HB.out)) hb); clear HI0; clear HK; clear HB; have HI0 := n0_; have HK := n1_; have HB := n2_; clear n0_ n1_ n2_; (try clear hb); (try clear hb2); (try clear hk); (try clear hi)) | ((with_reducible refine gate_callee (f := 43) rfl ?_); refine goesL_ (some 17) rfl rfl Tryd.func43 (by kernel_rfl) rfl #[.int .i32 t139] rfl (by (try simp only [List.map_toArray, List.map_cons, List.map_nil]); first | done | rfl | (simp only [List.length_drop, List.length_take]; rfl)) ?_; (with_reducible refine (utf_Letter.calls t139 true _ A4.out).mono ?_); rintro e w' ⟨rfl, ⟨nd, rfl⟩⟩; refine ⟨_, rfl, ?_⟩))
        go_roundg k1
        case measure => have := HK1.out; omega
        case rel => exact ⟨(wrap64 (x1_1 + t140)), (by first | rfl | (simp; done) | (simp [*]; done)), H', ⟨by have := HK1.out; omega⟩, ⟨by repeat (first | (with_reducible first | exact HI0.out | apply IsS36.alloc | apply IsS36.drewN | apply IsS36.drew | apply IsS36.set_0 | apply IsS36.set_1 | apply IsS36.set_2 | apply IsS36.set_3) | exact HI0.out)⟩, ⟨by repeat (first | (with_reducible first | exact HK.out | apply Kq.set_ | apply kq_drewN | apply kq_drew | apply kq_alloc) | exact HK.out)⟩, ⟨by repeat (first | (with_reducible first | exact HB.out | apply below_alloc | apply pw_below_drewN | apply below_drew1 | refine below_set ?_ (IsS36.ge HI0.out)) | exact HB.out)⟩⟩
      · replace c5 := Bool.eq_false_iff.mpr c5
        subst c5
        have H1 : ((utf_Digit.f t139).bind fun t142 => (if t142 = true then (golex_scanner_run.l0 k1 (wrap64 (x1_1 + t140)) s0_0 s0_1 s0_2 s0_3) else (some (x1_1, s0_0, s0_1, s0_2, s0_3)))) = some (r1, r2, r3, r4, r5) := by rw [if_neg (show ¬ (false = true) by decide)] at H; exact H
        clear H
        have H := H1
        clear H1
        replace H := Option.bind_eq_some_iff.mp H
        obtain ⟨t142, A80, H⟩ := H
        replace H : (if t142 = true then (golex_scanner_run.l0 k1 (wrap64 (x1_1 + t140)) s0_0 s0_1 s0_2 s0_3) else (some (x1_1, s0_0, s0_1, s0_2, s0_3))) = some (r1, r2, r3, r4, r5) := H
        have A8 := Aside0.mk A80; clear A80
        by_cases c9 : t142 = true
        · subst c9
          have H1 : (golex_scanner_run.l0 k1 (wrap64 (x1_1 + t140)) s0_0 s0_1 s0_2 s0_3) = some (r1, r2, r3, r4, r5) := by rw [if_pos rfl] at H; exact H
          clear H
          have H := H1
          clear H1
          have H' := Aside0.mk H
          clear H; obtain ⟨tvz10, nvz10, HGz10, hgz10, hRz10, hNz10⟩ := HI0.out; have hcz10_0 := cellS36_0 HGz10; have hcz10_1 := cellS36_1 HGz10; have hcz10_2 := cellS36_2 HGz10; have hcz10_3 := cellS36_3 HGz10; have hfz10_0 := blk_frozen HGz10 0; have hfz10_1 := blk_frozen HGz10 1; have hfz10_2 := blk_frozen HGz10 2; have hfz10_3 := blk_frozen HGz10 3; clear HGz10 hgz10
          go_wp2_with (first | ((with_reducible refine gate_callee (f := 36) rfl ?_); refine goesL_ (some 13) rfl rfl Tryd.func36 (by kernel_rfl) rfl #[.string s0_0, .int .i64 x1_1] rfl (by (try simp only [List.map_toArray, List.map_cons, List.map_nil]); first | done | rfl | (simp only [List.length_drop, List.length_take]; rfl)) ?_; (with_reducible refine (utf_Rune.calls k1 s0_0 x1_1 t139 t140 _ ?side1 A3.out).mono ?_); (case side1 => first | exact HT.out | exact Tabs.below HT.out (by repeat (first | (with_reducible first | exact HB.out | apply below_alloc | apply pw_below_drewN | apply below_drew1 | refine below_set ?_ (IsS36.ge HI0.out)) | exact HB.out))); rintro e w11 ⟨rfl, hb⟩; refine ⟨_, rfl, ?_⟩; have n0_ := Aside0.mk (IsS36.below (by repeat (first | (with_reducible first | exact HI0.out | apply IsS36.alloc | apply IsS36.drewN | apply IsS36.drew | apply IsS36.set_0 | apply IsS36.set_1 | apply IsS36.set_2 | apply IsS36.set_3) | exact HI0.out)) hb); have n1_ := Aside0.mk (Kq.trans (by repeat (first | (with_reducible first | exact HK.out | apply Kq.set_ | apply kq_drewN | apply kq_drew | apply kq_alloc) | exact HK.out)) (Kq.of_below hb g none) (.inl rfl)); have n2_ := Aside0.mk (below_step (by repeat (first | (with_reducible first | exact HB.out | apply below_alloc | apply pw_below_drewN | apply below_drew1 | refine below_set ?_ (IsS36.ge HI0.out)) | exact HB.out)) hb); clear HI0; clear HK; clear HB; have HI0 := n0_; have HK := n1_; have HB := n2_; clear n0_ n1_ n2_; (try clear hb); (try clear hb2); (try clear hk); (try clear hi)) | ((with_reducible refine gate_callee (f := 43) rfl ?_); refine goesL_ (some 17) rfl rfl Tryd.func43 (by kernel_rfl) rfl #[.int .i32 t139] rfl (by (try simp only [List.map_toArray, List.map_cons, List.map_nil]); first | done | rfl | (simp only [List.length_drop, List.length_take]; rfl)) ?_; (with_reducible refine (utf_Letter.calls t139 false _ A4.out).mono ?_); rintro e w' ⟨rfl, ⟨nd, rfl⟩⟩; refine ⟨_, rfl, ?_⟩) | (go_at_call 45; (with_reducible refine (utf_Digit.calls t139 true _ A8.out).mono ?_); rintro e w' ⟨rfl, ⟨nd, rfl⟩⟩))
          go_roundg k1
          case measure => have := HK1.out; omega
          case rel => exact ⟨(wrap64 (x1_1 + t140)), (by first | rfl | (simp; done) | (simp [*]; done)), H', ⟨by have := HK1.out; omega⟩, ⟨by repeat (first | (with_reducible first | exact HI0.out | apply IsS36.alloc | apply IsS36.drewN | apply IsS36.drew | apply IsS36.set_0 | apply IsS36.set_1 | apply IsS36.set_2 | apply IsS36.set_3) | exact HI0.out)⟩, ⟨by repeat (first | (with_reducible first | exact HK.out | apply Kq.set_ | apply kq_drewN | apply kq_drew | apply kq_alloc) | exact HK.out)⟩, ⟨by repeat (first | (with_reducible first | exact HB.out | apply below_alloc | apply pw_below_drewN | apply below_drew1 | refine below_set ?_ (IsS36.ge HI0.out)) | exact HB.out)⟩⟩
        · replace c9 := Bool.eq_false_iff.mpr c9
          subst c9
          have H1 : (some (x1_1, s0_0, s0_1, s0_2, s0_3)) = some (r1, r2, r3, r4, r5) := by rw [if_neg (show ¬ (false = true) by decide)] at H; exact H
          clear H
          have H := H1
          clear H1
          simp only [Option.some.injEq, Prod.mk.injEq] at H
          obtain ⟨rfl, rfl, rfl, rfl, rfl⟩ := H; obtain ⟨tvz12, nvz12, HGz12, hgz12, hRz12, hNz12⟩ := HI0.out; have hcz12_0 := cellS36_0 HGz12; have hcz12_1 := cellS36_1 HGz12; have hcz12_2 := cellS36_2 HGz12; have hcz12_3 := cellS36_3 HGz12; have hfz12_0 := blk_frozen HGz12 0; have hfz12_1 := blk_frozen HGz12 1; have hfz12_2 := blk_frozen HGz12 2; have hfz12_3 := blk_frozen HGz12 3; clear HGz12 hgz12
          go_wp2_with (first | ((with_reducible refine gate_callee (f := 36) rfl ?_); refine goesL_ (some 13) rfl rfl Tryd.func36 (by kernel_rfl) rfl #[.string s0_0, .int .i64 x1_1] rfl (by (try simp only [List.map_toArray, List.map_cons, List.map_nil]); first | done | rfl | (simp only [List.length_drop, List.length_take]; rfl)) ?_; (with_reducible refine (utf_Rune.calls k1 s0_0 x1_1 t139 t140 _ ?side1 A3.out).mono ?_); (case side1 => first | exact HT.out | exact Tabs.below HT.out (by repeat (first | (with_reducible first | exact HB.out | apply below_alloc | apply pw_below_drewN | apply below_drew1 | refine below_set ?_ (IsS36.ge HI0.out)) | exact HB.out))); rintro e w13 ⟨rfl, hb⟩; refine ⟨_, rfl, ?_⟩; have n0_ := Aside0.mk (IsS36.below (by repeat (first | (with_reducible first | exact HI0.out | apply IsS36.alloc | apply IsS36.drewN | apply IsS36.drew | apply IsS36.set_0 | apply IsS36.set_1 | apply IsS36.set_2 | apply IsS36.set_3) | exact HI0.out)) hb); have n1_ := Aside0.mk (Kq.trans (by repeat (first | (with_reducible first | exact HK.out | apply Kq.set_ | apply kq_drewN | apply kq_drew | apply kq_alloc) | exact HK.out)) (Kq.of_below hb g none) (.inl rfl)); have n2_ := Aside0.mk (below_step (by repeat (first | (with_reducible first | exact HB.out | apply below_alloc | apply pw_below_drewN | apply below_drew1 | refine below_set ?_ (IsS36.ge HI0.out)) | exact HB.out)) hb); clear HI0; clear HK; clear HB; have HI0 := n0_; have HK := n1_; have HB := n2_; clear n0_ n1_ n2_; (try clear hb); (try clear hb2); (try clear hk); (try clear hi)) | ((with_reducible refine gate_callee (f := 43) rfl ?_); refine goesL_ (some 17) rfl rfl Tryd.func43 (by kernel_rfl) rfl #[.int .i32 t139] rfl (by (try simp only [List.map_toArray, List.map_cons, List.map_nil]); first | done | rfl | (simp only [List.length_drop, List.length_take]; rfl)) ?_; (with_reducible refine (utf_Letter.calls t139 false _ A4.out).mono ?_); rintro e w' ⟨rfl, ⟨nd, rfl⟩⟩; refine ⟨_, rfl, ?_⟩) | (go_at_call 45; (with_reducible refine (utf_Digit.calls t139 false _ A8.out).mono ?_); rintro e w' ⟨rfl, ⟨nd, rfl⟩⟩))
          go_ret
          exact ⟨by first | rfl | (simp [errW_none, errW_some] <;> rfl) | (simp [*, errW_none, errW_some] <;> rfl), by repeat (first | (with_reducible first | exact HI0.out | apply IsS36.alloc | apply IsS36.drewN | apply IsS36.drew | apply IsS36.set_0 | apply IsS36.set_1 | apply IsS36.set_2 | apply IsS36.set_3) | exact HI0.out), by repeat (first | (with_reducible first | exact HB.out | apply below_alloc | apply pw_below_drewN | apply below_drew1 | refine below_set ?_ (IsS36.ge HI0.out)) | exact HB.out), by repeat (first | (with_reducible first | exact HK.out | apply Kq.set_ | apply kq_drewN | apply kq_drew | apply kq_alloc) | exact HK.out)⟩
mutual
def golex_scanner_number.j0 : Nat → Int → Bool → ByteArray → Int → List (S27) → List (S27) → Option (Int × ByteArray × Int × List (S27) × List (S27))
  | 0, _, _, _, _, _, _ => none
  | k + 1, x1, x5, x1000, x1001, x1002, x1003 => golex_scanner_number.l0 k x1 x5 x1 x1000 x1001 x1002 x1003
def golex_scanner_number.l0 : Nat → Int → Bool → Int → ByteArray → Int → List (S27) → List (S27) → Option (Int × ByteArray × Int × List (S27) × List (S27))
  | 0, _, _, _, _, _, _, _ => none
  | k + 1, x1, x5, x6, x1000, x1001, x1002, x1003 => if x6 < (x1000.size : Int) then (if 0 ≤ x6 then (if x6 > x1 then (if (bt x1000 x6) = 43 then (if 0 ≤ (wrap64 (x6 - 1)) then (if (wrap64 (x6 - 1)) < (x1000.size : Int) then ((strings_IndexByte.f (⟨#[112, 80]⟩ : ByteArray) (bt x1000 (wrap64 (x6 - 1)))).bind fun t145 => (if t145 ≥ 0 then (golex_scanner_number.j2 k x1 x5 x6 (bt x1000 x6) true x1000 x1001 x1002 x1003) else (if x5 = true then (golex_scanner_number.j2 k x1 x5 x6 (bt x1000 x6) false x1000 x1001 x1002 x1003) else ((strings_IndexByte.f (⟨#[101, 69]⟩ : ByteArray) (bt x1000 (wrap64 (x6 - 1)))).bind fun t146 => (golex_scanner_number.j2 k x1 x5 x6 (bt x1000 x6) (decide (t146 ≥ 0)) x1000 x1001 x1002 x1003))))) else (none)) else (none)) else (if (bt x1000 x6) = 45 then (if 0 ≤ (wrap64 (x6 - 1)) then (if (wrap64 (x6 - 1)) < (x1000.size : Int) then ((strings_IndexByte.f (⟨#[112, 80]⟩ : ByteArray) (bt x1000 (wrap64 (x6 - 1)))).bind fun t147 => (if t147 ≥ 0 then (golex_scanner_number.j2 k x1 x5 x6 (bt x1000 x6) true x1000 x1001 x1002 x1003) else (if x5 = true then (golex_scanner_number.j2 k x1 x5 x6 (bt x1000 x6) false x1000 x1001 x1002 x1003) else ((strings_IndexByte.f (⟨#[101, 69]⟩ : ByteArray) (bt x1000 (wrap64 (x6 - 1)))).bind fun t148 => (golex_scanner_number.j2 k x1 x5 x6 (bt x1000 x6) (decide (t148 ≥ 0)) x1000 x1001 x1002 x1003))))) else (none)) else (none)) else (golex_scanner_number.j2 k x1 x5 x6 (bt x1000 x6) false x1000 x1001 x1002 x1003))) else (golex_scanner_number.j2 k x1 x5 x6 (bt x1000 x6) false x1000 x1001 x1002 x1003)) else (none)) else (some (x6, x1000, x1001, x1002, x1003))
def golex_scanner_number.j2 : Nat → Int → Bool → Int → Int → Bool → ByteArray → Int → List (S27) → List (S27) → Option (Int × ByteArray × Int × List (S27) × List (S27))
  | 0, _, _, _, _, _, _, _, _, _ => none
  | k + 1, x1, x5, x6, x7, x8, x1000, x1001, x1002, x1003 => if x8 = true then (golex_scanner_number.l0 k x1 x5 (wrap64 (x6 + 1)) x1000 x1001 x1002 x1003) else (if x7 = 46 then (golex_scanner_number.l0 k x1 x5 (wrap64 (x6 + 1)) x1000 x1001 x1002 x1003) else (if x7 ≥ 128 then (some (x6, x1000, x1001, x1002, x1003)) else ((utf_Letter.f (wrap32 (x7))).bind fun t149 => (if t149 = true then (golex_scanner_number.l0 k x1 x5 (wrap64 (x6 + 1)) x1000 x1001 x1002 x1003) else ((utf_Digit.f (wrap32 (x7))).bind fun t150 => (if t150 = true then (golex_scanner_number.l0 k x1 x5 (wrap64 (x6 + 1)) x1000 x1001 x1002 x1003) else (some (x6, x1000, x1001, x1002, x1003))))))))
end
def golex_scanner_number.f (k : Nat) (s0_0 : ByteArray) (s0_1 : Int) (s0_2 : List (S27)) (s0_3 : List (S27)) (a1 : Int) : Option (Int × ByteArray × Int × List (S27) × List (S27)) := if 0 ≤ a1 then (if a1 ≤ (s0_0.size : Int) then ((strings_HasPrefix.f (s0_0.extract (a1 : Int).toNat s0_0.size) (⟨#[48, 120]⟩ : ByteArray)).bind fun t143 => (if t143 = true then (golex_scanner_number.j0 k a1 true s0_0 s0_1 s0_2 s0_3) else ((strings_HasPrefix.f (s0_0.extract (a1 : Int).toNat s0_0.size) (⟨#[48, 88]⟩ : ByteArray)).bind fun t144 => (golex_scanner_number.j0 k a1 t144 s0_0 s0_1 s0_2 s0_3)))) else (none)) else (none)
set_option maxHeartbeats 8000000 in
set_option maxRecDepth 100000 in
theorem golex_scanner_number.calls (k : Nat) (g : Nat) (s0_0 : ByteArray) (s0_1 : Int) (s0_2 : List (S27)) (s0_3 : List (S27)) (a1 : Int) (r1 : Int) (r2 : ByteArray) (r3 : Int) (r4 : List (S27)) (r5 : List (S27)) (w0 w : World) (hI : IsS36 w0 w g s0_0 s0_1 s0_2 s0_3) (hB : Below w0.heap.size w0 w) (h : golex_scanner_number.f k s0_0 s0_1 s0_2 s0_3 a1 = some (r1, r2, r3, r4, r5)) :
    Calls Tryd.prog 46 #[.pointer (some ⟨g, 0, none⟩), .int .i64 a1] w fun e w' => e = .returned (.int .i64 r1) ∧ IsS36 w0 w' g r2 r3 r4 r5 ∧ Below w0.heap.size w0 w' ∧ Kq w w' g none := by
  have HI0 := Aside0.mk hI
  have HK := Aside0.mk (Kq.refl w g none)
  have HL := Aside0.mk hB.size
  clear hI
  have HW0 := Aside0.mk hB.size
  have HB := Aside0.mk hB; clear hB
  have H : (if 0 ≤ a1 then (if a1 ≤ (s0_0.size : Int) then ((strings_HasPrefix.f (s0_0.extract (a1 : Int).toNat s0_0.size) (⟨#[48, 120]⟩ : ByteArray)).bind fun t143 => (if t143 = true then (golex_scanner_number.j0 k a1 true s0_0 s0_1 s0_2 s0_3) else ((strings_HasPrefix.f (s0_0.extract (a1 : Int).toNat s0_0.size) (⟨#[48, 88]⟩ : ByteArray)).bind fun t144 => (golex_scanner_number.j0 k a1 t144 s0_0 s0_1 s0_2 s0_3)))) else (none)) else (none)) = some (r1, r2, r3, r4, r5) := h
  clear h; have HC3 := Aside0.mk H; clear H
  go_enter Tryd.func46, Tryd.ntmps46
  go_upto_region 1 with (fail)
  go_cut [5] (fun v5 wc => ∃ (kq : Nat) (x5_2 : Bool), v5 = .bool x5_2 ∧ Aside0 (golex_scanner_number.j0 kq a1 x5_2 s0_0 s0_1 s0_2 s0_3 = some (r1, r2, r3, r4, r5)) ∧ Aside0 (kq ≤ k) ∧ Aside0 (IsS36 w0 wc g s0_0 s0_1 s0_2 s0_3) ∧ Aside0 (Kq w wc g none) ∧ Aside0 (Below w0.heap.size w0 wc))
  case first =>
    have H := HC3.out
    clear HC3
    by_cases c4 : 0 ≤ a1
    · rw [if_pos c4] at H
      have c4b0 := eq_true c4
      have c4b1 : decide (0 ≤ a1) = true := decide_eq_true c4
      clear c4
      by_cases c5 : a1 ≤ (s0_0.size : Int)
      · rw [if_pos c5] at H
        have c5b0 := eq_true c5
        have c5b1 : decide (a1 ≤ (s0_0.size : Int)) = true := decide_eq_true c5
        clear c5
        replace H := Option.bind_eq_some_iff.mp H
        obtain ⟨t143, A60, H⟩ := H
        replace H : (if t143 = true then (golex_scanner_number.j0 k a1 true s0_0 s0_1 s0_2 s0_3) else ((strings_HasPrefix.f (s0_0.extract (a1 : Int).toNat s0_0.size) (⟨#[48, 88]⟩ : ByteArray)).bind fun t144 => (golex_scanner_number.j0 k a1 t144 s0_0 s0_1 s0_2 s0_3))) = some (r1, r2, r3, r4, r5) := H
        have A6 := Aside0.mk A60; clear A60
        by_cases c7 : t143 = true
        · subst c7
          have H1 : (golex_scanner_number.j0 k a1 true s0_0 s0_1 s0_2 s0_3) = some (r1, r2, r3, r4, r5) := by rw [if_pos rfl] at H; exact H
          clear H
          have H := H1
          clear H1
          have H' := Aside0.mk H
          clear H; obtain ⟨tvz8, nvz8, HGz8, hgz8, hRz8, hNz8⟩ := HI0.out; have hcz8_0 := cellS36_0 HGz8; have hcz8_1 := cellS36_1 HGz8; have hcz8_2 := cellS36_2 HGz8; have hcz8_3 := cellS36_3 HGz8; have hfz8_0 := blk_frozen HGz8 0; have hfz8_1 := blk_frozen HGz8 1; have hfz8_2 := blk_frozen HGz8 2; have hfz8_3 := blk_frozen HGz8 3; clear HGz8 hgz8
          go_wp2_with (first | ((with_reducible refine gate_callee (f := 41) rfl ?_); refine goesL_ (some 15) rfl rfl Tryd.func41 (by kernel_rfl) rfl #[.string (s0_0.extract (a1 : Int).toNat s0_0.size), .string (⟨#[48, 120]⟩ : ByteArray)] rfl (by (try simp only [List.map_toArray, List.map_cons, List.map_nil]); first | done | rfl | (simp only [List.length_drop, List.length_take]; rfl)) ?_; (with_reducible refine (strings_HasPrefix.calls (s0_0.extract (a1 : Int).toNat s0_0.size) (⟨#[48, 120]⟩ : ByteArray) true _ A6.out).mono ?_); rintro e w' ⟨rfl, ⟨nd, rfl⟩⟩; refine ⟨_, rfl, ?_⟩))
          go_meet
          case rel => exact ⟨_, (true), (by first | rfl | (simp; done) | (simp [*]; done)), H', ⟨by first | omega | exact Nat.le_refl _⟩, ⟨by repeat (first | (with_reducible first | exact HI0.out | apply IsS36.alloc | apply IsS36.drewN | apply IsS36.drew | apply IsS36.set_0 | apply IsS36.set_1 | apply IsS36.set_2 | apply IsS36.set_3) | exact HI0.out)⟩, ⟨by repeat (first | (with_reducible first | exact HK.out | apply Kq.set_ | apply kq_drewN | apply kq_drew | apply kq_alloc) | exact HK.out)⟩, ⟨by repeat (first | (with_reducible first | exact HB.out | apply below_alloc | apply pw_below_drewN | apply below_drew1 | refine below_set ?_ (IsS36.ge HI0.out)) | exact HB.out)⟩⟩
        · replace c7 := Bool.eq_false_iff.mpr c7
          subst c7
          have H1 : ((strings_HasPrefix.f (s0_0.extract (a1 : Int).toNat s0_0.size) (⟨#[48, 88]⟩ : ByteArray)).bind fun t144 => (golex_scanner_number.j0 k a1 t144 s0_0 s0_1 s0_2 s0_3)) = some (r1, r2, r3, r4, r5) := by rw [if_neg (show ¬ (false = true) by decide)] at H; exact H
          clear H
          have H := H1
          clear H1
          have c9b0 := eq_true (of_decide_eq_true (by first | (with_reducible assumption) | assumption) : 0 ≤ a1)
          have c10b0 := eq_true (of_decide_eq_true (by first | (with_reducible assumption) | assumption) : a1 ≤ (s0_0.size : Int))
          replace H := Option.bind_eq_some_iff.mp H
          obtain ⟨t144, A110, H⟩ := H
          replace H : (golex_scanner_number.j0 k a1 t144 s0_0 s0_1 s0_2 s0_3) = some (r1, r2, r3, r4, r5) := H
          have A11 := Aside0.mk A110; clear A110
          have H' := Aside0.mk H
          clear H; obtain ⟨tvz12, nvz12, HGz12, hgz12, hRz12, hNz12⟩ := HI0.out; have hcz12_0 := cellS36_0 HGz12; have hcz12_1 := cellS36_1 HGz12; have hcz12_2 := cellS36_2 HGz12; have hcz12_3 := cellS36_3 HGz12; have hfz12_0 := blk_frozen HGz12 0; have hfz12_1 := blk_frozen HGz12 1; have hfz12_2 := blk_frozen HGz12 2; have hfz12_3 := blk_frozen HGz12 3; clear HGz12 hgz12
          go_wp2_with (first | ((with_reducible refine gate_callee (f := 41) rfl ?_); refine goesL_ (some 15) rfl rfl Tryd.func41 (by kernel_rfl) rfl #[.string (s0_0.extract (a1 : Int).toNat s0_0.size), .string (⟨#[48, 120]⟩ : ByteArray)] rfl (by (try simp only [List.map_toArray, List.map_cons, List.map_nil]); first | done | rfl | (simp only [List.length_drop, List.length_take]; rfl)) ?_; (with_reducible refine (strings_HasPrefix.calls (s0_0.extract (a1 : Int).toNat s0_0.size) (⟨#[48, 120]⟩ : ByteArray) false _ A6.out).mono ?_); rintro e w' ⟨rfl, ⟨nd, rfl⟩⟩; refine ⟨_, rfl, ?_⟩) | (go_at_call 41; (with_reducible refine (strings_HasPrefix.calls (s0_0.extract (a1 : Int).toNat s0_0.size) (⟨#[48, 88]⟩ : ByteArray) t144 _ A11.out).mono ?_); rintro e w' ⟨rfl, ⟨nd, rfl⟩⟩))
          go_meet
          case rel => exact ⟨_, (t144), (by first | rfl | (simp; done) | (simp [*]; done)), H', ⟨by first | omega | exact Nat.le_refl _⟩, ⟨by repeat (first | (with_reducible first | exact HI0.out | apply IsS36.alloc | apply IsS36.drewN | apply IsS36.drew | apply IsS36.set_0 | apply IsS36.set_1 | apply IsS36.set_2 | apply IsS36.set_3) | exact HI0.out)⟩, ⟨by repeat (first | (with_reducible first | exact HK.out | apply Kq.set_ | apply kq_drewN | apply kq_drew | apply kq_alloc) | exact HK.out)⟩, ⟨by repeat (first | (with_reducible first | exact HB.out | apply below_alloc | apply pw_below_drewN | apply below_drew1 | refine below_set ?_ (IsS36.ge HI0.out)) | exact HB.out)⟩⟩
      · rw [if_neg c5] at H
        exact absurd H (by simp)
    · rw [if_neg c4] at H
      exact absurd H (by simp)
  case rest =>
    clear HC3; (try clear c1); (try clear p2); (try clear c4); (try clear c4b0); (try clear c4b1); (try clear c5); (try clear c5b0); (try clear c5b1); (try clear c7); (try clear c9); (try clear c9b0); (try clear c10); (try clear c10b0); (try clear hcz12_0); (try clear hcz12_1); (try clear hcz12_2); (try clear hcz12_3); (try clear hcz8_0); (try clear hcz8_1); (try clear hcz8_2); (try clear hcz8_3); (try clear hfz12_0); (try clear hfz12_1); (try clear hfz12_2); (try clear hfz12_3); (try clear hfz8_0); (try clear hfz8_1); (try clear hfz8_2); (try clear hfz8_3); obtain ⟨kq, x5_2, rfl, HA, HJ2, HI0, HK, HB⟩ := hcut
    cases kq with
    | zero => exact absurd HA.out (by simp [golex_scanner_number.j0])
    | succ kj2 =>
      have H := HA.out
      clear HA
      simp only [golex_scanner_number.j0] at H
      have H' := Aside0.mk H
      clear H
      go_wp2
      go_loopg [6] kj2 (fun kq v6 w' => ∃ (x6_2 : Int), v6 = .int .i64 x6_2 ∧ Aside0 (golex_scanner_number.l0 kq a1 x5_2 x6_2 s0_0 s0_1 s0_2 s0_3 = some (r1, r2, r3, r4, r5)) ∧ Aside0 (kq ≤ kj2) ∧ Aside0 (IsS36 w0 w' g s0_0 s0_1 s0_2 s0_3) ∧ Aside0 (Kq w w' g none) ∧ Aside0 (Below w0.heap.size w0 w'))
      case atStart => exact ⟨(a1), (by first | rfl | (simp; done) | (simp [*]; done)), H', ⟨Nat.le_refl _⟩, ⟨by repeat (first | (with_reducible first | exact HI0.out | apply IsS36.alloc | apply IsS36.drewN | apply IsS36.drew | apply IsS36.set_0 | apply IsS36.set_1 | apply IsS36.set_2 | apply IsS36.set_3) | exact HI0.out)⟩, ⟨by repeat (first | (with_reducible first | exact HK.out | apply Kq.set_ | apply kq_drewN | apply kq_drew | apply kq_alloc) | exact HK.out)⟩, ⟨by repeat (first | (with_reducible first | exact HB.out | apply below_alloc | apply pw_below_drewN | apply below_drew1 | refine below_set ?_ (IsS36.ge HI0.out)) | exact HB.out)⟩⟩
      case round =>
        clear H'
        (try clear c1); (try clear p2); (try clear c4); (try clear c4b0); (try clear c4b1); (try clear c5); (try clear c5b0); (try clear c5b1); (try clear c7); (try clear c9); (try clear c9b0); (try clear c10); (try clear c10b0); (try clear hcz12_0); (try clear hcz12_1); (try clear hcz12_2); (try clear hcz12_3); (try clear hcz8_0); (try clear hcz8_1); (try clear hcz8_2); (try clear hcz8_3); (try clear hfz12_0); (try clear hfz12_1); (try clear hfz12_2); (try clear hfz12_3); (try clear hfz8_0); (try clear hfz8_1); (try clear hfz8_2); (try clear hfz8_3); (try clear p2); obtain ⟨x6_2, rfl, HA, HK2, HI0, HK, HB⟩ := hrel
        cases gk with
        | zero => exact absurd HA.out (by simp [golex_scanner_number.l0])
        | succ k2 =>
          have H := HA.out
          clear HA
          simp only [golex_scanner_number.l0] at H
          by_cases c13 : x6_2 < (s0_0.size : Int)
          · rw [if_pos c13] at H
            have c13b0 : decide (x6_2 < (s0_0.size : Int)) = true := decide_eq_true c13
            clear c13
            by_cases c14 : 0 ≤ x6_2
            · rw [if_pos c14] at H
              have c14b0 : decide (0 ≤ x6_2) = true := decide_eq_true c14
              clear c14; have HC16 := Aside0.mk H; clear H; obtain ⟨tvz17, nvz17, HGz17, hgz17, hRz17, hNz17⟩ := HI0.out; have hcz17_0 := cellS36_0 HGz17; have hcz17_1 := cellS36_1 HGz17; have hcz17_2 := cellS36_2 HGz17; have hcz17_3 := cellS36_3 HGz17; have hfz17_0 := blk_frozen HGz17 0; have hfz17_1 := blk_frozen HGz17 1; have hfz17_2 := blk_frozen HGz17 2; have hfz17_3 := blk_frozen HGz17 3; clear HGz17 hgz17
              have p15 : 0 ≤ (x6_2 : Int) := of_decide_eq_true (by first | (with_reducible assumption) | assumption)
              have q15 : x6_2 < (s0_0.size : Int) := of_decide_eq_true (by first | (with_reducible assumption) | assumption)
              have hx15 := bt_at s0_0 x6_2
              replace p15 := eq_true p15; replace q15 := eq_true q15
              go_upto_region 5 with (fail)
              go_cut [8] (fun v8 wc => ∃ (kq : Nat) (x8_15 : Bool), v8 = .bool x8_15 ∧ Aside0 (golex_scanner_number.j2 kq a1 x5_2 x6_2 (bt s0_0 x6_2) x8_15 s0_0 s0_1 s0_2 s0_3 = some (r1, r2, r3, r4, r5)) ∧ Aside0 (kq ≤ k2) ∧ Aside0 (IsS36 w0 wc g s0_0 s0_1 s0_2 s0_3) ∧ Aside0 (Kq w wc g none) ∧ Aside0 (Below w0.heap.size w0 wc))
              case first =>
                have H := HC16.out
                clear HC16
                by_cases c18 : x6_2 > a1
                · rw [if_pos c18] at H
                  have c18b0 : decide (a1 < x6_2) = true := decide_eq_true c18
                  clear c18
                  (first | rw [c18b0] | (simp only [i64_w, i32_w]; rw [c18b0]) | skip)
                  by_cases c19 : (bt s0_0 x6_2) = 43
                  · rw [if_pos c19] at H
                    have c19b0 : ((bt s0_0 x6_2) == 43) = true := beq_iff_eq.mpr c19
                    have c19b1 : ((bt s0_0 x6_2) != 43) = false := bne_eq_false_iff_eq.mpr c19
                    clear c19
                    obtain ⟨ji20, hji20⟩ : ∃ j_ : Int, (wrap64 (x6_2 - 1)) = j_ := ⟨_, rfl⟩
                    replace H : (if 0 ≤ (ji20) then (if (ji20) < (s0_0.size : Int) then ((strings_IndexByte.f (⟨#[112, 80]⟩ : ByteArray) (bt s0_0 (ji20))).bind fun t145 => (if t145 ≥ 0 then (golex_scanner_number.j2 k2 a1 x5_2 x6_2 (bt s0_0 x6_2) true s0_0 s0_1 s0_2 s0_3) else (if x5_2 = true then (golex_scanner_number.j2 k2 a1 x5_2 x6_2 (bt s0_0 x6_2) false s0_0 s0_1 s0_2 s0_3) else ((strings_IndexByte.f (⟨#[101, 69]⟩ : ByteArray) (bt s0_0 (ji20))).bind fun t146 => (golex_scanner_number.j2 k2 a1 x5_2 x6_2 (bt s0_0 x6_2) (decide (t146 ≥ 0)) s0_0 s0_1 s0_2 s0_3))))) else (none)) else (none)) = some (r1, r2, r3, r4, r5) := by first | (rw [hji20] at H; exact H) | (simp only [hji20] at H ⊢; exact H)
                    have hji20w : (IntKind.i64.wrap (x6_2 - 1)) = ji20 := (i64_w _).trans hji20
                    by_cases c21 : 0 ≤ (ji20)
                    · rw [if_pos c21] at H
                      have c21b0 : decide (0 ≤ (ji20)) = true := decide_eq_true c21
                      clear c21
                      by_cases c22 : (ji20) < (s0_0.size : Int)
                      · rw [if_pos c22] at H
                        have c22b0 : decide ((ji20) < (s0_0.size : Int)) = true := decide_eq_true c22
                        clear c22
                        replace H := Option.bind_eq_some_iff.mp H
                        obtain ⟨t145, A240, H⟩ := H
                        replace H : (if t145 ≥ 0 then (golex_scanner_number.j2 k2 a1 x5_2 x6_2 (bt s0_0 x6_2) true s0_0 s0_1 s0_2 s0_3) else (if x5_2 = true then (golex_scanner_number.j2 k2 a1 x5_2 x6_2 (bt s0_0 x6_2) false s0_0 s0_1 s0_2 s0_3) else ((strings_IndexByte.f (⟨#[101, 69]⟩ : ByteArray) (bt s0_0 (ji20))).bind fun t146 => (golex_scanner_number.j2 k2 a1 x5_2 x6_2 (bt s0_0 x6_2) (decide (t146 ≥ 0)) s0_0 s0_1 s0_2 s0_3)))) = some (r1, r2, r3, r4, r5) := H
                        have A24 := Aside0.mk A240; clear A240
                        by_cases c25 : t145 ≥ 0
                        · rw [if_pos c25] at H
                          have c25b0 : decide (0 ≤ t145) = true := decide_eq_true c25
                          clear c25
                          have H' := Aside0.mk H
                          clear H; obtain ⟨tvz26, nvz26, HGz26, hgz26, hRz26, hNz26⟩ := HI0.out; have hcz26_0 := cellS36_0 HGz26; have hcz26_1 := cellS36_1 HGz26; have hcz26_2 := cellS36_2 HGz26; have hcz26_3 := cellS36_3 HGz26; have hfz26_0 := blk_frozen HGz26 0; have hfz26_1 := blk_frozen HGz26 1; have hfz26_2 := blk_frozen HGz26 2; have hfz26_3 := blk_frozen HGz26 3; clear HGz26 hgz26
                          have p23 : 0 ≤ ((ji20) : Int) := of_decide_eq_true (by first | (with_reducible assumption) | assumption)
                          have q23 : (ji20) < (s0_0.size : Int) := of_decide_eq_true (by first | (with_reducible assumption) | assumption)
                          have hx23 := bt_at s0_0 (ji20)
                          replace p23 := eq_true p23; replace q23 := eq_true q23
                          go_wp2_with (first | (go_at_call 53; (with_reducible refine (strings_IndexByte.calls (⟨#[112, 80]⟩ : ByteArray) (bt s0_0 (ji20)) t145 _ A24.out).mono ?_); rintro e w' ⟨rfl, ⟨nd, rfl⟩⟩))
                          go_meet
                          case rel => exact ⟨_, (true), (by first | rfl | (simp; done) | (simp [*]; done)), H', ⟨by have := HJ2.out; have := HK2.out; first | omega | exact Nat.le_refl _⟩, ⟨by repeat (first | (with_reducible first | exact HI0.out | apply IsS36.alloc | apply IsS36.drewN | apply IsS36.drew | apply IsS36.set_0 | apply IsS36.set_1 | apply IsS36.set_2 | apply IsS36.set_3) | exact HI0.out)⟩, ⟨by repeat (first | (with_reducible first | exact HK.out | apply Kq.set_ | apply kq_drewN | apply kq_drew | apply kq_alloc) | exact HK.out)⟩, ⟨by repeat (first | (with_reducible first | exact HB.out | apply below_alloc | apply pw_below_drewN | apply below_drew1 | refine below_set ?_ (IsS36.ge HI0.out)) | exact HB.out)⟩⟩
                        · rw [if_neg c25] at H
                          have c25b0 : decide (0 ≤ t145) = false := decide_eq_false c25
                          clear c25
                          by_cases c27 : x5_2 = true
                          · subst c27
                            have H1 : (golex_scanner_number.j2 k2 a1 true x6_2 (bt s0_0 x6_2) false s0_0 s0_1 s0_2 s0_3) = some (r1, r2, r3, r4, r5) := by rw [if_pos rfl] at H; exact H
                            clear H
                            have H := H1
                            clear H1
                            have H' := Aside0.mk H
                            clear H; obtain ⟨tvz28, nvz28, HGz28, hgz28, hRz28, hNz28⟩ := HI0.out; have hcz28_0 := cellS36_0 HGz28; have hcz28_1 := cellS36_1 HGz28; have hcz28_2 := cellS36_2 HGz28; have hcz28_3 := cellS36_3 HGz28; have hfz28_0 := blk_frozen HGz28 0; have hfz28_1 := blk_frozen HGz28 1; have hfz28_2 := blk_frozen HGz28 2; have hfz28_3 := blk_frozen HGz28 3; clear HGz28 hgz28
                            have p23 : 0 ≤ ((ji20) : Int) := of_decide_eq_true (by first | (with_reducible assumption) | assumption)
                            have q23 : (ji20) < (s0_0.size : Int) := of_decide_eq_true (by first | (with_reducible assumption) | assumption)
                            have hx23 := bt_at s0_0 (ji20)
                            replace p23 := eq_true p23; replace q23 := eq_true q23
                            go_wp2_with (first | (go_at_call 53; (with_reducible refine (strings_IndexByte.calls (⟨#[112, 80]⟩ : ByteArray) (bt s0_0 (ji20)) t145 _ A24.out).mono ?_); rintro e w' ⟨rfl, ⟨nd, rfl⟩⟩))
                            go_meet
                            case rel => exact ⟨_, (false), (by first | rfl | (simp; done) | (simp [*]; done)), H', ⟨by have := HJ2.out; have := HK2.out; first | omega | exact Nat.le_refl _⟩, ⟨by repeat (first | (with_reducible first | exact HI0.out | apply IsS36.alloc | apply IsS36.drewN | apply IsS36.drew | apply IsS36.set_0 | apply IsS36.set_1 | apply IsS36.set_2 | apply IsS36.set_3) | exact HI0.out)⟩, ⟨by repeat (first | (with_reducible first | exact HK.out | apply Kq.set_ | apply kq_drewN | apply kq_drew | apply kq_alloc) | exact HK.out)⟩, ⟨by repeat (first | (with_reducible first | exact HB.out | apply below_alloc | apply pw_below_drewN | apply below_drew1 | refine below_set ?_ (IsS36.ge HI0.out)) | exact HB.out)⟩⟩
                          · replace c27 := Bool.eq_false_iff.mpr c27
                            subst c27
                            have H1 : ((strings_IndexByte.f (⟨#[101, 69]⟩ : ByteArray) (bt s0_0 (ji20))).bind fun t146 => (golex_scanner_number.j2 k2 a1 false x6_2 (bt s0_0 x6_2) (decide (t146 ≥ 0)) s0_0 s0_1 s0_2 s0_3)) = some (r1, r2, r3, r4, r5) := by rw [if_neg (show ¬ (false = true) by decide)] at H; exact H
                            clear H
                            have H := H1
                            clear H1
                            replace H := Option.bind_eq_some_iff.mp H
                            obtain ⟨t146, A300, H⟩ := H
                            replace H : (golex_scanner_number.j2 k2 a1 false x6_2 (bt s0_0 x6_2) (decide (t146 ≥ 0)) s0_0 s0_1 s0_2 s0_3) = some (r1, r2, r3, r4, r5) := H
                            have A30 := Aside0.mk A300; clear A300
                            have H' := Aside0.mk H
                            clear H; obtain ⟨tvz31, nvz31, HGz31, hgz31, hRz31, hNz31⟩ := HI0.out; have hcz31_0 := cellS36_0 HGz31; have hcz31_1 := cellS36_1 HGz31; have hcz31_2 := cellS36_2 HGz31; have hcz31_3 := cellS36_3 HGz31; have hfz31_0 := blk_frozen HGz31 0; have hfz31_1 := blk_frozen HGz31 1; have hfz31_2 := blk_frozen HGz31 2; have hfz31_3 := blk_frozen HGz31 3; clear HGz31 hgz31
                            have p23 : 0 ≤ ((ji20) : Int) := of_decide_eq_true (by first | (with_reducible assumption) | assumption)
                            have q23 : (ji20) < (s0_0.size : Int) := of_decide_eq_true (by first | (with_reducible assumption) | assumption)
                            have hx23 := bt_at s0_0 (ji20)
                            replace p23 := eq_true p23; replace q23 := eq_true q23
                            go_wp2_with (first | (go_at_call 53; (with_reducible refine (strings_IndexByte.calls (⟨#[112, 80]⟩ : ByteArray) (bt s0_0 (ji20)) t145 _ A24.out).mono ?_); rintro e w' ⟨rfl, ⟨nd, rfl⟩⟩; have p29 : 0 ≤ ((ji20) : Int) := of_decide_eq_true (by first | (with_reducible assumption) | assumption); have q29 : (ji20) < (s0_0.size : Int) := of_decide_eq_true (by first | (with_reducible assumption) | assumption); have hx29 := bt_at s0_0 (ji20); replace p29 := eq_true p29; replace q29 := eq_true q29) | (go_at_call 53; (with_reducible refine (strings_IndexByte.calls (⟨#[101, 69]⟩ : ByteArray) (bt s0_0 (ji20)) t146 _ A30.out).mono ?_); rintro e w' ⟨rfl, ⟨nd, rfl⟩⟩))
                            go_meet
                            case rel => exact ⟨_, (decide (t146 ≥ 0)), (by first | rfl | (simp; done) | (simp [*]; done)), H', ⟨by have := HJ2.out; have := HK2.out; first | omega | exact Nat.le_refl _⟩, ⟨by repeat (first | (with_reducible first | exact HI0.out | apply IsS36.alloc | apply IsS36.drewN | apply IsS36.drew | apply IsS36.set_0 | apply IsS36.set_1 | apply IsS36.set_2 | apply IsS36.set_3) | exact HI0.out)⟩, ⟨by repeat (first | (with_reducible first | exact HK.out | apply Kq.set_ | apply kq_drewN | apply kq_drew | apply kq_alloc) | exact HK.out)⟩, ⟨by repeat (first | (with_reducible first | exact HB.out | apply below_alloc | apply pw_below_drewN | apply below_drew1 | refine below_set ?_ (IsS36.ge HI0.out)) | exact HB.out)⟩⟩
                      · rw [if_neg c22] at H
                        exact absurd H (by simp)
                    · rw [if_neg c21] at H
                      exact absurd H (by simp)
                  · rw [if_neg c19] at H
                    have c19b0 : ((bt s0_0 x6_2) == 43) = false := beq_eq_false_iff_ne.mpr c19
                    have c19b1 : ((bt s0_0 x6_2) != 43) = true := bne_iff_ne.mpr c19
                    by_cases c32 : (bt s0_0 x6_2) = 45
                    · rw [if_pos c32] at H
                      have c32b0 : ((bt s0_0 x6_2) == 45) = true := beq_iff_eq.mpr c32
                      have c32b1 : ((bt s0_0 x6_2) != 45) = false := bne_eq_false_iff_eq.mpr c32
                      clear c32
                      obtain ⟨ji33, hji33⟩ : ∃ j_ : Int, (wrap64 (x6_2 - 1)) = j_ := ⟨_, rfl⟩
                      replace H : (if 0 ≤ (ji33) then (if (ji33) < (s0_0.size : Int) then ((strings_IndexByte.f (⟨#[112, 80]⟩ : ByteArray) (bt s0_0 (ji33))).bind fun t147 => (if t147 ≥ 0 then (golex_scanner_number.j2 k2 a1 x5_2 x6_2 (bt s0_0 x6_2) true s0_0 s0_1 s0_2 s0_3) else (if x5_2 = true then (golex_scanner_number.j2 k2 a1 x5_2 x6_2 (bt s0_0 x6_2) false s0_0 s0_1 s0_2 s0_3) else ((strings_IndexByte.f (⟨#[101, 69]⟩ : ByteArray) (bt s0_0 (ji33))).bind fun t148 => (golex_scanner_number.j2 k2 a1 x5_2 x6_2 (bt s0_0 x6_2) (decide (t148 ≥ 0)) s0_0 s0_1 s0_2 s0_3))))) else (none)) else (none)) = some (r1, r2, r3, r4, r5) := by first | (rw [hji33] at H; exact H) | (simp only [hji33] at H ⊢; exact H)
                      have hji33w : (IntKind.i64.wrap (x6_2 - 1)) = ji33 := (i64_w _).trans hji33
                      by_cases c34 : 0 ≤ (ji33)
                      · rw [if_pos c34] at H
                        have c34b0 : decide (0 ≤ (ji33)) = true := decide_eq_true c34
                        clear c34
                        by_cases c35 : (ji33) < (s0_0.size : Int)
                        · rw [if_pos c35] at H
                          have c35b0 : decide ((ji33) < (s0_0.size : Int)) = true := decide_eq_true c35
                          clear c35
                          replace H := Option.bind_eq_some_iff.mp H
                          obtain ⟨t147, A370, H⟩ := H
                          replace H : (if t147 ≥ 0 then (golex_scanner_number.j2 k2 a1 x5_2 x6_2 (bt s0_0 x6_2) true s0_0 s0_1 s0_2 s0_3) else (if x5_2 = true then (golex_scanner_number.j2 k2 a1 x5_2 x6_2 (bt s0_0 x6_2) false s0_0 s0_1 s0_2 s0_3) else ((strings_IndexByte.f (⟨#[101, 69]⟩ : ByteArray) (bt s0_0 (ji33))).bind fun t148 => (golex_scanner_number.j2 k2 a1 x5_2 x6_2 (bt s0_0 x6_2) (decide (t148 ≥ 0)) s0_0 s0_1 s0_2 s0_3)))) = some (r1, r2, r3, r4, r5) := H
                          have A37 := Aside0.mk A370; clear A370
                          by_cases c38 : t147 ≥ 0
                          · rw [if_pos c38] at H
                            have c38b0 : decide (0 ≤ t147) = true := decide_eq_true c38
                            clear c38
                            have H' := Aside0.mk H
                            clear H; obtain ⟨tvz39, nvz39, HGz39, hgz39, hRz39, hNz39⟩ := HI0.out; have hcz39_0 := cellS36_0 HGz39; have hcz39_1 := cellS36_1 HGz39; have hcz39_2 := cellS36_2 HGz39; have hcz39_3 := cellS36_3 HGz39; have hfz39_0 := blk_frozen HGz39 0; have hfz39_1 := blk_frozen HGz39 1; have hfz39_2 := blk_frozen HGz39 2; have hfz39_3 := blk_frozen HGz39 3; clear HGz39 hgz39
                            have p36 : 0 ≤ ((ji33) : Int) := of_decide_eq_true (by first | (with_reducible assumption) | assumption)
                            have q36 : (ji33) < (s0_0.size : Int) := of_decide_eq_true (by first | (with_reducible assumption) | assumption)
                            have hx36 := bt_at s0_0 (ji33)
                            replace p36 := eq_true p36; replace q36 := eq_true q36
                            go_wp2_with (first | (go_at_call 53; (with_reducible refine (strings_IndexByte.calls (⟨#[112, 80]⟩ : ByteArray) (bt s0_0 (ji33)) t147 _ A37.out).mono ?_); rintro e w' ⟨rfl, ⟨nd, rfl⟩⟩))
                            go_meet
                            case rel => exact ⟨_, (true), (by first | rfl | (simp; done) | (simp [*]; done)), H', ⟨by have := HJ2.out; have := HK2.out; first | omega | exact Nat.le_refl _⟩, ⟨by repeat (first | (with_reducible first | exact HI0.out | apply IsS36.alloc | apply IsS36.drewN | apply IsS36.drew | apply IsS36.set_0 | apply IsS36.set_1 | apply IsS36.set_2 | apply IsS36.set_3) | exact HI0.out)⟩, ⟨by repeat (first | (with_reducible first | exact HK.out | apply Kq.set_ | apply kq_drewN | apply kq_drew | apply kq_alloc) | exact HK.out)⟩, ⟨by repeat (first | (with_reducible first | exact HB.out | apply below_alloc | apply pw_below_drewN | apply below_drew1 | refine below_set ?_ (IsS36.ge HI0.out)) | exact HB.out)⟩⟩
                          · rw [if_neg c38] at H
                            have c38b0 : decide (0 ≤ t147) = false := decide_eq_false c38
                            clear c38
                            by_cases c40 : x5_2 = true
                            · subst c40
                              have H1 : (golex_scanner_number.j2 k2 a1 true x6_2 (bt s0_0 x6_2) false s0_0 s0_1 s0_2 s0_3) = some (r1, r2, r3, r4, r5) := by rw [if_pos rfl] at H; exact H
                              clear H
                              have H := H1
                              clear H1
                              have H' := Aside0.mk H
                              clear H; obtain ⟨tvz41, nvz41, HGz41, hgz41, hRz41, hNz41⟩ := HI0.out; have hcz41_0 := cellS36_0 HGz41; have hcz41_1 := cellS36_1 HGz41; have hcz41_2 := cellS36_2 HGz41; have hcz41_3 := cellS36_3 HGz41; have hfz41_0 := blk_frozen HGz41 0; have hfz41_1 := blk_frozen HGz41 1; have hfz41_2 := blk_frozen HGz41 2; have hfz41_3 := blk_frozen HGz41 3; clear HGz41 hgz41
                              have p36 : 0 ≤ ((ji33) : Int) := of_decide_eq_true (by first | (with_reducible assumption) | assumption)
                              have q36 : (ji33) < (s0_0.size : Int) := of_decide_eq_true (by first | (with_reducible assumption) | assumption)
                              have hx36 := bt_at s0_0 (ji33)
                              replace p36 := eq_true p36; replace q36 := eq_true q36
                              go_wp2_with (first | (go_at_call 53; (with_reducible refine (strings_IndexByte.calls (⟨#[112, 80]⟩ : ByteArray) (bt s0_0 (ji33)) t147 _ A37.out).mono ?_); rintro e w' ⟨rfl, ⟨nd, rfl⟩⟩))
                              go_meet
                              case rel => exact ⟨_, (false), (by first | rfl | (simp; done) | (simp [*]; done)), H', ⟨by have := HJ2.out; have := HK2.out; first | omega | exact Nat.le_refl _⟩, ⟨by repeat (first | (with_reducible first | exact HI0.out | apply IsS36.alloc | apply IsS36.drewN | apply IsS36.drew | apply IsS36.set_0 | apply IsS36.set_1 | apply IsS36.set_2 | apply IsS36.set_3) | exact HI0.out)⟩, ⟨by repeat (first | (with_reducible first | exact HK.out | apply Kq.set_ | apply kq_drewN | apply kq_drew | apply kq_alloc) | exact HK.out)⟩, ⟨by repeat (first | (with_reducible first | exact HB.out | apply below_alloc | apply pw_below_drewN | apply below_drew1 | refine below_set ?_ (IsS36.ge HI0.out)) | exact HB.out)⟩⟩
                            · replace c40 := Bool.eq_false_iff.mpr c40
                              subst c40
                              have H1 : ((strings_IndexByte.f (⟨#[101, 69]⟩ : ByteArray) (bt s0_0 (ji33))).bind fun t148 => (golex_scanner_number.j2 k2 a1 false x6_2 (bt s0_0 x6_2) (decide (t148 ≥ 0)) s0_0 s0_1 s0_2 s0_3)) = some (r1, r2, r3, r4, r5) := by rw [if_neg (show ¬ (false = true) by decide)] at H; exact H
                              clear H
                              have H := H1
                              clear H1
                              replace H := Option.bind_eq_some_iff.mp H
                              obtain ⟨t148, A430, H⟩ := H
                              replace H : (golex_scanner_number.j2 k2 a1 false x6_2 (bt s0_0 x6_2) (decide (t148 ≥ 0)) s0_0 s0_1 s0_2 s0_3) = some (r1, r2, r3, r4, r5) := H
                              have A43 := Aside0.mk A430; clear A430
                              have H' := Aside0.mk H
                              clear H; obtain ⟨tvz44, nvz44, HGz44, hgz44, hRz44, hNz44⟩ := HI0.out; have hcz44_0 := cellS36_0 HGz44; have hcz44_1 := cellS36_1 HGz44; have hcz44_2 := cellS36_2 HGz44; have hcz44_3 := cellS36_3 HGz44; have hfz44_0 := blk_frozen HGz44 0; have hfz44_1 := blk_frozen HGz44 1; have hfz44_2 := blk_frozen HGz44 2; have hfz44_3 := blk_frozen HGz44 3; clear HGz44 hgz44
                              have p36 : 0 ≤ ((ji33) : Int) := of_decide_eq_true (by first | (with_reducible assumption) | assumption)
                              have q36 : (ji33) < (s0_0.size : Int) := of_decide_eq_true (by first | (with_reducible assumption) | assumption)
                              have hx36 := bt_at s0_0 (ji33)
                              replace p36 := eq_true p36; replace q36 := eq_true q36
                              go_wp2_with (first | (go_at_call 53; (with_reducible refine (strings_IndexByte.calls (⟨#[112, 80]⟩ : ByteArray) (bt s0_0 (ji33)) t147 _ A37.out).mono ?_); rintro e w' ⟨rfl, ⟨nd, rfl⟩⟩; have p42 : 0 ≤ ((ji33) : Int) := of_decide_eq_true (by first | (with_reducible assumption) | assumption); have q42 : (ji33) < (s0_0.size : Int) := of_decide_eq_true (by first | (with_reducible assumption) | assumption); have hx42 := bt_at s0_0 (ji33); replace p42 := eq_true p42; replace q42 := eq_true q42) | (go_at_call 53; (with_reducible refine (strings_IndexByte.calls (⟨#[101, 69]⟩ : ByteArray) (bt s0_0 (ji33)) t148 _ A43.out).mono ?_); rintro e w' ⟨rfl, ⟨nd, rfl⟩⟩))
                              go_meet
                              case rel => exact ⟨_, (decide (t148 ≥ 0)), (by first | rfl | (simp; done) | (simp [*]; done)), H', ⟨by have := HJ2.out; have := HK2.out; first | omega | exact Nat.le_refl _⟩, ⟨by repeat (first | (with_reducible first | exact HI0.out | apply IsS36.alloc | apply IsS36.drewN | apply IsS36.drew | apply IsS36.set_0 | apply IsS36.set_1 | apply IsS36.set_2 | apply IsS36.set_3) | exact HI0.out)⟩, ⟨by repeat (first | (with_reducible first | exact HK.out | apply Kq.set_ | apply kq_drewN | apply kq_drew | apply kq_alloc) | exact HK.out)⟩, ⟨by repeat (first | (with_reducible first | exact HB.out | apply below_alloc | apply pw_below_drewN | apply below_drew1 | refine below_set ?_ (IsS36.ge HI0.out)) | exact HB.out)⟩⟩
                        · rw [if_neg c35] at H
                          exact absurd H (by simp)
                      · rw [if_neg c34] at H
                        exact absurd H (by simp)
                    · rw [if_neg c32] at H
                      have c32b0 : ((bt s0_0 x6_2) == 45) = false := beq_eq_false_iff_ne.mpr c32
                      have c32b1 : ((bt s0_0 x6_2) != 45) = true := bne_iff_ne.mpr c32
                      have H' := Aside0.mk H
                      clear H
                      go_wp2
                      go_meet
                      case rel => exact ⟨_, (false), (by first | rfl | (simp; done) | (simp [*]; done)), H', ⟨by have := HJ2.out; have := HK2.out; first | omega | exact Nat.le_refl _⟩, ⟨by repeat (first | (with_reducible first | exact HI0.out | apply IsS36.alloc | apply IsS36.drewN | apply IsS36.drew | apply IsS36.set_0 | apply IsS36.set_1 | apply IsS36.set_2 | apply IsS36.set_3) | exact HI0.out)⟩, ⟨by repeat (first | (with_reducible first | exact HK.out | apply Kq.set_ | apply kq_drewN | apply kq_drew | apply kq_alloc) | exact HK.out)⟩, ⟨by repeat (first | (with_reducible first | exact HB.out | apply below_alloc | apply pw_below_drewN | apply below_drew1 | refine below_set ?_ (IsS36.ge HI0.out)) | exact HB.out)⟩⟩
                · rw [if_neg c18] at H
                  have c18b0 : decide (a1 < x6_2) = false := decide_eq_false c18
                  clear c18
                  (first | rw [c18b0] | (simp only [i64_w, i32_w]; rw [c18b0]) | skip)
                  have H' := Aside0.mk H
                  clear H
                  go_wp2
                  go_meet
                  case rel => exact ⟨_, (false), (by first | rfl | (simp; done) | (simp [*]; done)), H', ⟨by have := HJ2.out; have := HK2.out; first | omega | exact Nat.le_refl _⟩, ⟨by repeat (first | (with_reducible first | exact HI0.out | apply IsS36.alloc | apply IsS36.drewN | apply IsS36.drew | apply IsS36.set_0 | apply IsS36.set_1 | apply IsS36.set_2 | apply IsS36.set_3) | exact HI0.out)⟩, ⟨by repeat (first | (with_reducible first | exact HK.out | apply Kq.set_ | apply kq_drewN | apply kq_drew | apply kq_alloc) | exact HK.out)⟩, ⟨by repeat (first | (with_reducible first | exact HB.out | apply below_alloc | apply pw_below_drewN | apply below_drew1 | refine below_set ?_ (IsS36.ge HI0.out)) | exact HB.out)⟩⟩
              case rest =>
                clear HC16; (try clear c1); (try clear p1); (try clear q1); (try clear hx1); (try clear c2); (try clear p2); (try clear q2); (try clear hx2); (try clear c3); (try clear p3); (try clear q3); (try clear hx3); (try clear c4); (try clear c4b0); (try clear c4b1); (try clear p4); (try clear q4); (try clear hx4); (try clear c5); (try clear c5b0); (try clear c5b1); (try clear p6); (try clear c7); (try clear c9); (try clear c9b0); (try clear c10); (try clear c10b0); (try clear c13); (try clear c13b0); (try clear c14); (try clear c14b0); (try clear p15); (try clear q15); (try clear hx15); (try clear c18); (try clear c18b0); (try clear c19); (try clear c19b0); (try clear c19b1)
                (try clear c21); (try clear c21b0); (try clear c22); (try clear c22b0); (try clear p23); (try clear q23); (try clear hx23); (try clear c25); (try clear c25b0); (try clear c27); (try clear p29); (try clear q29); (try clear hx29); (try clear c32); (try clear c32b0); (try clear c32b1); (try clear c34); (try clear c34b0); (try clear c35); (try clear c35b0); (try clear p36); (try clear q36); (try clear hx36); (try clear c38); (try clear c38b0); (try clear c40); (try clear c41); (try clear p42); (try clear q42); (try clear hx42); (try clear hcz12_0); (try clear hcz12_1); (try clear hcz12_2); (try clear hcz12_3); (try clear hcz17_0); (try clear hcz17_1); (try clear hcz17_2)
                (try clear hcz17_3); (try clear hcz26_0); (try clear hcz26_1); (try clear hcz26_2); (try clear hcz26_3); (try clear hcz28_0); (try clear hcz28_1); (try clear hcz28_2); (try clear hcz28_3); (try clear hcz31_0); (try clear hcz31_1); (try clear hcz31_2); (try clear hcz31_3); (try clear hcz39_0); (try clear hcz39_1); (try clear hcz39_2); (try clear hcz39_3); (try clear hcz41_0); (try clear hcz41_1); (try clear hcz41_2); (try clear hcz41_3); (try clear hcz44_0); (try clear hcz44_1); (try clear hcz44_2); (try clear hcz44_3); (try clear hcz8_0); (try clear hcz8_1); (try clear hcz8_2); (try clear hcz8_3); (try clear hfz12_0); (try clear hfz12_1); (try clear hfz12_2)
                (try clear hfz12_3); (try clear hfz17_0); (try clear hfz17_1); (try clear hfz17_2); (try clear hfz17_3); (try clear hfz26_0); (try clear hfz26_1); (try clear hfz26_2); (try clear hfz26_3); (try clear hfz28_0); (try clear hfz28_1); (try clear hfz28_2); (try clear hfz28_3); (try clear hfz31_0); (try clear hfz31_1); (try clear hfz31_2); (try clear hfz31_3); (try clear hfz39_0); (try clear hfz39_1); (try clear hfz39_2); (try clear hfz39_3); (try clear hfz41_0); (try clear hfz41_1); (try clear hfz41_2); (try clear hfz41_3); (try clear hfz44_0); (try clear hfz44_1); (try clear hfz44_2); (try clear hfz44_3); (try clear hfz8_0); (try clear hfz8_1)
                (try clear hfz8_2); (try clear hfz8_3); (try clear p15); (try clear p2); (try clear p23); (try clear p29); (try clear p36); (try clear p42); (try clear q15); (try clear q23); (try clear q29); (try clear q36); (try clear q42); obtain ⟨kq, x8_15, rfl, HA, HJ15, HI0, HK, HB⟩ := hcut
                cases kq with
                | zero => exact absurd HA.out (by simp [golex_scanner_number.j2])
                | succ kj15 =>
                  have H := HA.out
                  clear HA
                  simp only [golex_scanner_number.j2] at H
                  by_cases c45 : x8_15 = true
                  · subst c45
                    have H1 : (golex_scanner_number.l0 kj15 a1 x5_2 (wrap64 (x6_2 + 1)) s0_0 s0_1 s0_2 s0_3) = some (r1, r2, r3, r4, r5) := by rw [if_pos rfl] at H; exact H
                    clear H
                    have H := H1
                    clear H1
                    have H' := Aside0.mk H
                    clear H
                    go_wp2
                    go_roundg kj15
                    case measure => have := HJ2.out; have := HK2.out; have := HJ15.out; omega
                    case rel => exact ⟨(wrap64 (x6_2 + 1)), (by first | rfl | (simp; done) | (simp [*]; done)), H', ⟨by have := HJ2.out; have := HK2.out; have := HJ15.out; omega⟩, ⟨by repeat (first | (with_reducible first | exact HI0.out | apply IsS36.alloc | apply IsS36.drewN | apply IsS36.drew | apply IsS36.set_0 | apply IsS36.set_1 | apply IsS36.set_2 | apply IsS36.set_3) | exact HI0.out)⟩, ⟨by repeat (first | (with_reducible first | exact HK.out | apply Kq.set_ | apply kq_drewN | apply kq_drew | apply kq_alloc) | exact HK.out)⟩, ⟨by repeat (first | (with_reducible first | exact HB.out | apply below_alloc | apply pw_below_drewN | apply below_drew1 | refine below_set ?_ (IsS36.ge HI0.out)) | exact HB.out)⟩⟩
                  · replace c45 := Bool.eq_false_iff.mpr c45
                    subst c45
                    have H1 : (if (bt s0_0 x6_2) = 46 then (golex_scanner_number.l0 kj15 a1 x5_2 (wrap64 (x6_2 + 1)) s0_0 s0_1 s0_2 s0_3) else (if (bt s0_0 x6_2) ≥ 128 then (some (x6_2, s0_0, s0_1, s0_2, s0_3)) else ((utf_Letter.f (wrap32 ((bt s0_0 x6_2)))).bind fun t149 => (if t149 = true then (golex_scanner_number.l0 kj15 a1 x5_2 (wrap64 (x6_2 + 1)) s0_0 s0_1 s0_2 s0_3) else ((utf_Digit.f (wrap32 ((bt s0_0 x6_2)))).bind fun t150 => (if t150 = true then (golex_scanner_number.l0 kj15 a1 x5_2 (wrap64 (x6_2 + 1)) s0_0 s0_1 s0_2 s0_3) else (some (x6_2, s0_0, s0_1, s0_2, s0_3)))))))) = some (r1, r2, r3, r4, r5) := by rw [if_neg (show ¬ (false = true) by decide)] at H; exact H
                    clear H
                    have H := H1
                    clear H1
                    by_cases c46 : (bt s0_0 x6_2) = 46
                    · rw [if_pos c46] at H
                      have c46b0 : ((bt s0_0 x6_2) == 46) = true := beq_iff_eq.mpr c46
                      have c46b1 : ((bt s0_0 x6_2) != 46) = false := bne_eq_false_iff_eq.mpr c46
                      clear c46
                      have H' := Aside0.mk H
                      clear H
                      go_wp2
                      go_roundg kj15
                      case measure => have := HJ2.out; have := HK2.out; have := HJ15.out; omega
                      case rel => exact ⟨(wrap64 (x6_2 + 1)), (by first | rfl | (simp; done) | (simp [*]; done)), H', ⟨by have := HJ2.out; have := HK2.out; have := HJ15.out; omega⟩, ⟨by repeat (first | (with_reducible first | exact HI0.out | apply IsS36.alloc | apply IsS36.drewN | apply IsS36.drew | apply IsS36.set_0 | apply IsS36.set_1 | apply IsS36.set_2 | apply IsS36.set_3) | exact HI0.out)⟩, ⟨by repeat (first | (with_reducible first | exact HK.out | apply Kq.set_ | apply kq_drewN | apply kq_drew | apply kq_alloc) | exact HK.out)⟩, ⟨by repeat (first | (with_reducible first | exact HB.out | apply below_alloc | apply pw_below_drewN | apply below_drew1 | refine below_set ?_ (IsS36.ge HI0.out)) | exact HB.out)⟩⟩
                    · rw [if_neg c46] at H
                      have c46b0 : ((bt s0_0 x6_2) == 46) = false := beq_eq_false_iff_ne.mpr c46
                      have c46b1 : ((bt s0_0 x6_2) != 46) = true := bne_iff_ne.mpr c46
                      by_cases c47 : (bt s0_0 x6_2) ≥ 128
                      · rw [if_pos c47] at H
                        have c47b0 : decide (128 ≤ (bt s0_0 x6_2)) = true := decide_eq_true c47
                        clear c47
                        simp only [Option.some.injEq, Prod.mk.injEq] at H
                        obtain ⟨rfl, rfl, rfl, rfl, rfl⟩ := H
                        go_wp2
                        go_ret
                        exact ⟨by first | rfl | (simp [errW_none, errW_some] <;> rfl) | (simp [*, errW_none, errW_some] <;> rfl), by repeat (first | (with_reducible first | exact HI0.out | apply IsS36.alloc | apply IsS36.drewN | apply IsS36.drew | apply IsS36.set_0 | apply IsS36.set_1 | apply IsS36.set_2 | apply IsS36.set_3) | exact HI0.out), by repeat (first | (with_reducible first | exact HB.out | apply below_alloc | apply pw_below_drewN | apply below_drew1 | refine below_set ?_ (IsS36.ge HI0.out)) | exact HB.out), by repeat (first | (with_reducible first | exact HK.out | apply Kq.set_ | apply kq_drewN | apply kq_drew | apply kq_alloc) | exact HK.out)⟩
                      · rw [if_neg c47] at H
                        have c47b0 : decide (128 ≤ (bt s0_0 x6_2)) = false := decide_eq_false c47
                        clear c47
                        replace H := Option.bind_eq_some_iff.mp H
                        obtain ⟨t149, A480, H⟩ := H
                        replace H : (if t149 = true then (golex_scanner_number.l0 kj15 a1 x5_2 (wrap64 (x6_2 + 1)) s0_0 s0_1 s0_2 s0_3) else ((utf_Digit.f (wrap32 ((bt s0_0 x6_2)))).bind fun t150 => (if t150 = true then (golex_scanner_number.l0 kj15 a1 x5_2 (wrap64 (x6_2 + 1)) s0_0 s0_1 s0_2 s0_3) else (some (x6_2, s0_0, s0_1, s0_2, s0_3))))) = some (r1, r2, r3, r4, r5) := H
                        have A48 := Aside0.mk A480; clear A480
                        by_cases c49 : t149 = true
                        · subst c49
                          have H1 : (golex_scanner_number.l0 kj15 a1 x5_2 (wrap64 (x6_2 + 1)) s0_0 s0_1 s0_2 s0_3) = some (r1, r2, r3, r4, r5) := by rw [if_pos rfl] at H; exact H
                          clear H
                          have H := H1
                          clear H1
                          have H' := Aside0.mk H
                          clear H
                          go_wp2_with (first | (go_at_call 43; (with_reducible refine (utf_Letter.calls (wrap32 ((bt s0_0 x6_2))) true _ A48.out).mono ?_); rintro e w' ⟨rfl, ⟨nd, rfl⟩⟩))
                          go_roundg kj15
                          case measure => have := HJ2.out; have := HK2.out; have := HJ15.out; omega
                          case rel => exact ⟨(wrap64 (x6_2 + 1)), (by first | rfl | (simp; done) | (simp [*]; done)), H', ⟨by have := HJ2.out; have := HK2.out; have := HJ15.out; omega⟩, ⟨by repeat (first | (with_reducible first | exact HI0.out | apply IsS36.alloc | apply IsS36.drewN | apply IsS36.drew | apply IsS36.set_0 | apply IsS36.set_1 | apply IsS36.set_2 | apply IsS36.set_3) | exact HI0.out)⟩, ⟨by repeat (first | (with_reducible first | exact HK.out | apply Kq.set_ | apply kq_drewN | apply kq_drew | apply kq_alloc) | exact HK.out)⟩, ⟨by repeat (first | (with_reducible first | exact HB.out | apply below_alloc | apply pw_below_drewN | apply below_drew1 | refine below_set ?_ (IsS36.ge HI0.out)) | exact HB.out)⟩⟩
                        · replace c49 := Bool.eq_false_iff.mpr c49
                          subst c49
                          have H1 : ((utf_Digit.f (wrap32 ((bt s0_0 x6_2)))).bind fun t150 => (if t150 = true then (golex_scanner_number.l0 kj15 a1 x5_2 (wrap64 (x6_2 + 1)) s0_0 s0_1 s0_2 s0_3) else (some (x6_2, s0_0, s0_1, s0_2, s0_3)))) = some (r1, r2, r3, r4, r5) := by rw [if_neg (show ¬ (false = true) by decide)] at H; exact H
                          clear H
                          have H := H1
                          clear H1
                          replace H := Option.bind_eq_some_iff.mp H
                          obtain ⟨t150, A500, H⟩ := H
                          replace H : (if t150 = true then (golex_scanner_number.l0 kj15 a1 x5_2 (wrap64 (x6_2 + 1)) s0_0 s0_1 s0_2 s0_3) else (some (x6_2, s0_0, s0_1, s0_2, s0_3))) = some (r1, r2, r3, r4, r5) := H
                          have A50 := Aside0.mk A500; clear A500
                          by_cases c51 : t150 = true
                          · subst c51
                            have H1 : (golex_scanner_number.l0 kj15 a1 x5_2 (wrap64 (x6_2 + 1)) s0_0 s0_1 s0_2 s0_3) = some (r1, r2, r3, r4, r5) := by rw [if_pos rfl] at H; exact H
                            clear H
                            have H := H1
                            clear H1
                            have H' := Aside0.mk H
                            clear H
                            go_wp2_with (first | (go_at_call 43; (with_reducible refine (utf_Letter.calls (wrap32 ((bt s0_0 x6_2))) false _ A48.out).mono ?_); rintro e w' ⟨rfl, ⟨nd, rfl⟩⟩) | (go_at_call 45; (with_reducible refine (utf_Digit.calls (wrap32 ((bt s0_0 x6_2))) true _ A50.out).mono ?_); rintro e w' ⟨rfl, ⟨nd, rfl⟩⟩))
                            go_roundg kj15
                            case measure => have := HJ2.out; have := HK2.out; have := HJ15.out; omega
                            case rel => exact ⟨(wrap64 (x6_2 + 1)), (by first | rfl | (simp; done) | (simp [*]; done)), H', ⟨by have := HJ2.out; have := HK2.out; have := HJ15.out; omega⟩, ⟨by repeat (first | (with_reducible first | exact HI0.out | apply IsS36.alloc | apply IsS36.drewN | apply IsS36.drew | apply IsS36.set_0 | apply IsS36.set_1 | apply IsS36.set_2 | apply IsS36.set_3) | exact HI0.out)⟩, ⟨by repeat (first | (with_reducible first | exact HK.out | apply Kq.set_ | apply kq_drewN | apply kq_drew | apply kq_alloc) | exact HK.out)⟩, ⟨by repeat (first | (with_reducible first | exact HB.out | apply below_alloc | apply pw_below_drewN | apply below_drew1 | refine below_set ?_ (IsS36.ge HI0.out)) | exact HB.out)⟩⟩
                          · replace c51 := Bool.eq_false_iff.mpr c51
                            subst c51
                            have H1 : (some (x6_2, s0_0, s0_1, s0_2, s0_3)) = some (r1, r2, r3, r4, r5) := by rw [if_neg (show ¬ (false = true) by decide)] at H; exact H
                            clear H
                            have H := H1
                            clear H1
                            simp only [Option.some.injEq, Prod.mk.injEq] at H
                            obtain ⟨rfl, rfl, rfl, rfl, rfl⟩ := H
                            go_wp2_with (first | (go_at_call 43; (with_reducible refine (utf_Letter.calls (wrap32 ((bt s0_0 x6_2))) false _ A48.out).mono ?_); rintro e w' ⟨rfl, ⟨nd, rfl⟩⟩) | (go_at_call 45; (with_reducible refine (utf_Digit.calls (wrap32 ((bt s0_0 x6_2))) false _ A50.out).mono ?_); rintro e w' ⟨rfl, ⟨nd, rfl⟩⟩))
                            go_ret
                            exact ⟨by first | rfl | (simp [errW_none, errW_some] <;> rfl) | (simp [*, errW_none, errW_some] <;> rfl), by repeat (first | (with_reducible first | exact HI0.out | apply IsS36.alloc | apply IsS36.drewN | apply IsS36.drew | apply IsS36.set_0 | apply IsS36.set_1 | apply IsS36.set_2 | apply IsS36.set_3) | exact HI0.out), by repeat (first | (with_reducible first | exact HB.out | apply below_alloc | apply pw_below_drewN | apply below_drew1 | refine below_set ?_ (IsS36.ge HI0.out)) | exact HB.out), by repeat (first | (with_reducible first | exact HK.out | apply Kq.set_ | apply kq_drewN | apply kq_drew | apply kq_alloc) | exact HK.out)⟩
            · rw [if_neg c14] at H
              exact absurd H (by simp)
          · rw [if_neg c13] at H
            have c13b0 : decide (x6_2 < (s0_0.size : Int)) = false := decide_eq_false c13
            clear c13
            simp only [Option.some.injEq, Prod.mk.injEq] at H
            obtain ⟨rfl, rfl, rfl, rfl, rfl⟩ := H; obtain ⟨tvz52, nvz52, HGz52, hgz52, hRz52, hNz52⟩ := HI0.out; have hcz52_0 := cellS36_0 HGz52; have hcz52_1 := cellS36_1 HGz52; have hcz52_2 := cellS36_2 HGz52; have hcz52_3 := cellS36_3 HGz52; have hfz52_0 := blk_frozen HGz52 0; have hfz52_1 := blk_frozen HGz52 1; have hfz52_2 := blk_frozen HGz52 2; have hfz52_3 := blk_frozen HGz52 3; clear HGz52 hgz52
            go_wp2
            go_ret
            exact ⟨by first | rfl | (simp [errW_none, errW_some] <;> rfl) | (simp [*, errW_none, errW_some] <;> rfl), by repeat (first | (with_reducible first | exact HI0.out | apply IsS36.alloc | apply IsS36.drewN | apply IsS36.drew | apply IsS36.set_0 | apply IsS36.set_1 | apply IsS36.set_2 | apply IsS36.set_3) | exact HI0.out), by repeat (first | (with_reducible first | exact HB.out | apply below_alloc | apply pw_below_drewN | apply below_drew1 | refine below_set ?_ (IsS36.ge HI0.out)) | exact HB.out), by repeat (first | (with_reducible first | exact HK.out | apply Kq.set_ | apply kq_drewN | apply kq_drew | apply kq_alloc) | exact HK.out)⟩
end Go.Proofs.YtfolmcfcmonkhaaDoor.PAll

