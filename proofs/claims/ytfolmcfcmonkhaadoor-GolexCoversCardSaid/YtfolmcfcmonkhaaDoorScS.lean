/- The scanner's step: printed. -/
import Derived.Test.YtfolmcfcmonkhaaDoorScT
import Derived.Test.YtfolmcfcmonkhaaDoorScR
import Derived.Test.YtfolmcfcmonkhaaDoorScN
namespace Go.Proofs.YtfolmcfcmonkhaaDoor.PAll
open Go Go.RowKit Go.Proofs.YtfolmcfcmonkhaaDoorW.PrintWords Go.Proofs.YtfolmcfcmonkhaaDoorW.PrintLast Go.Proofs.YtfolmcfcmonkhaaDoorW.PrintMore Go.Proofs.YtfolmcfcmonkhaaDoorMy Go.Proofs.YtfolmcfcmonkhaaDoor
attribute [local go_sem] max2_int min2_int max_two min_two max_three min_three max_four min_four
set_option linter.unusedVariables false
set_option linter.unusedSimpArgs false
mutual
def golex_scanner_step.j0 : Nat → Int → Int → Bool → ByteArray → Int → List (S27) → List (S27) → Option (Bool × ByteArray × Int × List (S27) × List (S27))
  | 0, _, _, _, _, _, _, _ => none
  | k + 1, x3, x5, x90, x1000, x1001, x1002, x1003 => if x90 = true then ((golex_scanner_note.f k x1000 x1001 x1002 x1003).bind fun bt188 => (some (bt188.1, bt188.2.1, bt188.2.2.1, bt188.2.2.2.1, bt188.2.2.2.2))) else ((utf_Letter.f x3).bind fun t193 => (if t193 = true then ((golex_scanner_run.f k x1000 x1001 x1002 x1003 x5).bind fun bt194 => ((golex_scanner_put.f bt194.2.1 bt194.2.2.1 bt194.2.2.2.1 bt194.2.2.2.2 1 x5 bt194.1).bind fun bt199 => (some (true, bt199.1, bt199.2.1, bt199.2.2.1, bt199.2.2.2)))) else ((utf_Digit.f x3).bind fun t203 => (if t203 = true then (golex_scanner_step.j1 k x3 x5 true x1000 x1001 x1002 x1003) else (if x3 = 46 then (if (wrap64 (x5 + 1)) < (x1000.size : Int) then (if 0 ≤ (wrap64 (x5 + 1)) then ((utf_Digit.f (wrap32 (bt x1000 (wrap64 (x5 + 1))))).bind fun t204 => (golex_scanner_step.j1 k x3 x5 t204 x1000 x1001 x1002 x1003)) else (none)) else (golex_scanner_step.j1 k x3 x5 false x1000 x1001 x1002 x1003)) else (golex_scanner_step.j1 k x3 x5 false x1000 x1001 x1002 x1003))))))
def golex_scanner_step.j1 : Nat → Int → Int → Bool → ByteArray → Int → List (S27) → List (S27) → Option (Bool × ByteArray × Int × List (S27) × List (S27))
  | 0, _, _, _, _, _, _, _ => none
  | k + 1, x3, x5, x118, x1000, x1001, x1002, x1003 => if x118 = true then ((golex_scanner_number.f k x1000 x1001 x1002 x1003 x5).bind fun bt205 => ((golex_scanner_put.f bt205.2.1 bt205.2.2.1 bt205.2.2.2.1 bt205.2.2.2.2 2 x5 bt205.1).bind fun bt210 => (some (true, bt210.1, bt210.2.1, bt210.2.2.1, bt210.2.2.2)))) else (if x3 = 39 then ((golex_scanner_text.f k x1000 x1001 x1002 x1003 3).bind fun bt214 => (some (bt214.1, bt214.2.1, bt214.2.2.1, bt214.2.2.2.1, bt214.2.2.2.2))) else (if x3 = 34 then (golex_scanner_step.j2 k x3 x5 true x1000 x1001 x1002 x1003) else (golex_scanner_step.j2 k x3 x5 (x3 == 96) x1000 x1001 x1002 x1003)))
def golex_scanner_step.j2 : Nat → Int → Int → Bool → ByteArray → Int → List (S27) → List (S27) → Option (Bool × ByteArray × Int × List (S27) × List (S27))
  | 0, _, _, _, _, _, _, _ => none
  | k + 1, x3, x5, x157, x1000, x1001, x1002, x1003 => if x157 = true then ((golex_scanner_text.f k x1000 x1001 x1002 x1003 4).bind fun bt219 => (some (bt219.1, bt219.2.1, bt219.2.2.1, bt219.2.2.2.1, bt219.2.2.2.2))) else (if x3 = 59 then ((golex_scanner_put.f x1000 x1001 x1002 x1003 6 x5 (wrap64 (x5 + 1))).bind fun bt224 => (some (true, bt224.1, bt224.2.1, bt224.2.2.1, bt224.2.2.2))) else (golex_scanner_step.l0 k x5 signsL (signsL.length : Int) 0 x1000 x1001 x1002 x1003))
def golex_scanner_step.l0 : Nat → Int → List ByteArray → Int → Int → ByteArray → Int → List (S27) → List (S27) → Option (Bool × ByteArray × Int × List (S27) × List (S27))
  | 0, _, _, _, _, _, _, _, _ => none
  | k + 1, x5, x24, x25, x26, x1000, x1001, x1002, x1003 => if x26 < x25 then (if 0 ≤ x26 then (if x26 < (x24.length : Int) then (if 0 ≤ x5 then (if x5 ≤ (x1000.size : Int) then ((strings_HasPrefix.f (x1000.extract (x5 : Int).toNat x1000.size) (rdOf ByteArray.empty x24 x26)).bind fun t234 => (if t234 = true then ((golex_scanner_put.f x1000 x1001 x1002 x1003 5 x5 (wrap64 (x5 + ((rdOf ByteArray.empty x24 x26).size : Int)))).bind fun bt235 => (some (true, bt235.1, bt235.2.1, bt235.2.2.1, bt235.2.2.2))) else (golex_scanner_step.l0 k x5 x24 x25 (wrap64 (x26 + 1)) x1000 x1001 x1002 x1003))) else (none)) else (none)) else (none)) else (none)) else ((golex_scanner_bad.f x1000 x1001 x1002 x1003 x5).bind fun bt228 => (some (bt228.1, bt228.2.1, bt228.2.2.1, bt228.2.2.2.1, bt228.2.2.2.2)))
end
def golex_scanner_step.f (k : Nat) (s0_0 : ByteArray) (s0_1 : Int) (s0_2 : List (S27)) (s0_3 : List (S27)) : Option (Bool × ByteArray × Int × List (S27) × List (S27)) := (utf_Rune.f k s0_0 s0_1).bind fun bt166 => (if bt166.2 = 0 then ((golex_scanner_feed.f s0_0 s0_1 s0_2 s0_3 s0_1).bind fun bt168 => ((golex_scanner_put.f bt168.1 bt168.2.1 bt168.2.2.1 bt168.2.2.2 0 s0_1 s0_1).bind fun bt172 => (some (false, bt172.1, bt172.2.1, bt172.2.2.1, bt172.2.2.2)))) else (if bt166.1 < 0 then ((golex_scanner_bad.f s0_0 s0_1 s0_2 s0_3 s0_1).bind fun bt176 => (some (bt176.1, bt176.2.1, bt176.2.2.1, bt176.2.2.2.1, bt176.2.2.2.2))) else (if bt166.1 = 10 then ((golex_scanner_feed.f s0_0 s0_1 s0_2 s0_3 s0_1).bind fun bt181 => (some (true, bt181.1, wrap64 (bt181.2.1 + bt166.2), bt181.2.2.1, bt181.2.2.2))) else ((utf_Blank.f bt166.1).bind fun t185 => (if t185 = true then (some (true, s0_0, wrap64 (s0_1 + bt166.2), s0_2, s0_3)) else (if 0 ≤ s0_1 then (if s0_1 ≤ (s0_0.size : Int) then ((strings_HasPrefix.f (s0_0.extract (s0_1 : Int).toNat s0_0.size) (⟨#[47, 47]⟩ : ByteArray)).bind fun t186 => (if t186 = true then (golex_scanner_step.j0 k bt166.1 s0_1 true s0_0 s0_1 s0_2 s0_3) else ((strings_HasPrefix.f (s0_0.extract (s0_1 : Int).toNat s0_0.size) (⟨#[47, 42]⟩ : ByteArray)).bind fun t187 => (golex_scanner_step.j0 k bt166.1 s0_1 t187 s0_0 s0_1 s0_2 s0_3)))) else (none)) else (none)))))))
def golex_scanner_step.T1 : Bool × List (List Nat × List Nat) := (true, [([], []), ([0], [0]), ([1], [1]), ([2], [2]), ([], []), ([4], [4]), ([5], [5]), ([6], [6]), ([3, 7], [3, 7]), ([8], [8]), ([9], [9]), ([9], [9]), ([10, 8, 0, 1, 2, 3, 4, 5, 6, 7, 8, 9, 10], [10]), ([11, 12, 0, 1, 2, 3, 4, 5, 6, 7, 8, 9, 10, 11, 12], [11])])
def golex_scanner_step.B1 : List Nat := [0, 1, 3, 7, 0, 16, 48, 112, 255, 511, 1023, 1023, 2047, 8191]
theorem golex_scanner_step.tab1 : rtab .any (opsOf Tryd.f25 1) = golex_scanner_step.T1 := by kernel_rfl
theorem golex_scanner_step.bits1 : waitsOk golex_scanner_step.T1.2 golex_scanner_step.B1 = true := by kernel_rfl
set_option maxHeartbeats 8000000 in
set_option maxRecDepth 100000 in
theorem golex_scanner_step.calls (k : Nat) (g : Nat) (s0_0 : ByteArray) (s0_1 : Int) (s0_2 : List (S27)) (s0_3 : List (S27)) (r1 : Bool) (r2 : ByteArray) (r3 : Int) (r4 : List (S27)) (r5 : List (S27)) (w0 w : World) (hT : Tabs w0) (hI : IsS36 w0 w g s0_0 s0_1 s0_2 s0_3) (hB : Below w0.heap.size w0 w) (h : golex_scanner_step.f k s0_0 s0_1 s0_2 s0_3 = some (r1, r2, r3, r4, r5)) :
    Calls Tryd.prog 25 #[.pointer (some ⟨g, 0, none⟩)] w fun e w' => e = .returned (.bool r1) ∧ IsS36 w0 w' g r2 r3 r4 r5 ∧ Below w0.heap.size w0 w' ∧ Kq w w' g none := by
  have HT := Aside0.mk hT; clear hT; have HI0 := Aside0.mk hI
  have HK := Aside0.mk (Kq.refl w g none)
  have HL := Aside0.mk hB.size
  clear hI
  have HW0 := Aside0.mk hB.size
  have HB := Aside0.mk hB; clear hB
  obtain ⟨AG2, cG2, HRG2_, hG2_⟩ := signs_read HT.out
  have HRG2 := Aside0.mk HRG2_; have hG2 := Aside0.mk hG2_; clear HRG2_ hG2_
  have hgl_ := hG2.out _ HB.out
  have H : ((utf_Rune.f k s0_0 s0_1).bind fun bt166 => (if bt166.2 = 0 then ((golex_scanner_feed.f s0_0 s0_1 s0_2 s0_3 s0_1).bind fun bt168 => ((golex_scanner_put.f bt168.1 bt168.2.1 bt168.2.2.1 bt168.2.2.2 0 s0_1 s0_1).bind fun bt172 => (some (false, bt172.1, bt172.2.1, bt172.2.2.1, bt172.2.2.2)))) else (if bt166.1 < 0 then ((golex_scanner_bad.f s0_0 s0_1 s0_2 s0_3 s0_1).bind fun bt176 => (some (bt176.1, bt176.2.1, bt176.2.2.1, bt176.2.2.2.1, bt176.2.2.2.2))) else (if bt166.1 = 10 then ((golex_scanner_feed.f s0_0 s0_1 s0_2 s0_3 s0_1).bind fun bt181 => (some (true, bt181.1, wrap64 (bt181.2.1 + bt166.2), bt181.2.2.1, bt181.2.2.2))) else ((utf_Blank.f bt166.1).bind fun t185 => (if t185 = true then (some (true, s0_0, wrap64 (s0_1 + bt166.2), s0_2, s0_3)) else (if 0 ≤ s0_1 then (if s0_1 ≤ (s0_0.size : Int) then ((strings_HasPrefix.f (s0_0.extract (s0_1 : Int).toNat s0_0.size) (⟨#[47, 47]⟩ : ByteArray)).bind fun t186 => (if t186 = true then (golex_scanner_step.j0 k bt166.1 s0_1 true s0_0 s0_1 s0_2 s0_3) else ((strings_HasPrefix.f (s0_0.extract (s0_1 : Int).toNat s0_0.size) (⟨#[47, 42]⟩ : ByteArray)).bind fun t187 => (golex_scanner_step.j0 k bt166.1 s0_1 t187 s0_0 s0_1 s0_2 s0_3)))) else (none)) else (none)))))))) = some (r1, r2, r3, r4, r5) := h
  clear h
  replace H := Option.bind_eq_some_iff.mp H
  obtain ⟨⟨t166, t167⟩, A20, H⟩ := H
  replace H : (if t167 = 0 then ((golex_scanner_feed.f s0_0 s0_1 s0_2 s0_3 s0_1).bind fun bt168 => ((golex_scanner_put.f bt168.1 bt168.2.1 bt168.2.2.1 bt168.2.2.2 0 s0_1 s0_1).bind fun bt172 => (some (false, bt172.1, bt172.2.1, bt172.2.2.1, bt172.2.2.2)))) else (if t166 < 0 then ((golex_scanner_bad.f s0_0 s0_1 s0_2 s0_3 s0_1).bind fun bt176 => (some (bt176.1, bt176.2.1, bt176.2.2.1, bt176.2.2.2.1, bt176.2.2.2.2))) else (if t166 = 10 then ((golex_scanner_feed.f s0_0 s0_1 s0_2 s0_3 s0_1).bind fun bt181 => (some (true, bt181.1, wrap64 (bt181.2.1 + t167), bt181.2.2.1, bt181.2.2.2))) else ((utf_Blank.f t166).bind fun t185 => (if t185 = true then (some (true, s0_0, wrap64 (s0_1 + t167), s0_2, s0_3)) else (if 0 ≤ s0_1 then (if s0_1 ≤ (s0_0.size : Int) then ((strings_HasPrefix.f (s0_0.extract (s0_1 : Int).toNat s0_0.size) (⟨#[47, 47]⟩ : ByteArray)).bind fun t186 => (if t186 = true then (golex_scanner_step.j0 k t166 s0_1 true s0_0 s0_1 s0_2 s0_3) else ((strings_HasPrefix.f (s0_0.extract (s0_1 : Int).toNat s0_0.size) (⟨#[47, 42]⟩ : ByteArray)).bind fun t187 => (golex_scanner_step.j0 k t166 s0_1 t187 s0_0 s0_1 s0_2 s0_3)))) else (none)) else (none))))))) = some (r1, r2, r3, r4, r5) := H
  have A2 := Aside0.mk A20; clear A20
  by_cases c3 : t167 = 0
  · rw [if_pos c3] at H
    have c3b0 : (t167 == 0) = true := beq_iff_eq.mpr c3
    have c3b1 : (t167 != 0) = false := bne_eq_false_iff_eq.mpr c3
    clear c3
    replace H := Option.bind_eq_some_iff.mp H
    obtain ⟨⟨t168, t169, t170, t171⟩, A40, H⟩ := H
    replace H : ((golex_scanner_put.f t168 t169 t170 t171 0 s0_1 s0_1).bind fun bt172 => (some (false, bt172.1, bt172.2.1, bt172.2.2.1, bt172.2.2.2))) = some (r1, r2, r3, r4, r5) := H
    have A4 := Aside0.mk A40; clear A40
    replace H := Option.bind_eq_some_iff.mp H
    obtain ⟨⟨t172, t173, t174, t175⟩, A50, H⟩ := H
    replace H : (some (false, t172, t173, t174, t175)) = some (r1, r2, r3, r4, r5) := H
    have A5 := Aside0.mk A50; clear A50
    simp only [Option.some.injEq, Prod.mk.injEq] at H
    obtain ⟨rfl, rfl, rfl, rfl, rfl⟩ := H
    go_enter Tryd.func25, Tryd.ntmps25
    try go_wp2
    have n0_ := Aside0.mk (IsS36.drew HI0.out)
    have n1_ := Aside0.mk (kq_drew HK.out)
    have n2_ := Aside0.mk (below_drew1 HB.out)
    clear HI0; clear HK; clear HB
    have HI0 := n0_
    have HK := n1_
    have HB := n2_; (try clear hgl_); have hgl_ := hG2.out _ HB.out
    clear n0_ n1_ n2_
    refine start_ (n := 14) (S := fun w' => w'.cell? ⟨g, 0, none⟩ = some (.string s0_0) ∧ w'.cell? ⟨g, 1, none⟩ = some (.int .i64 s0_1)) (ds := []) #[false, false, false, false, false, false, false, false, false, false, false, false, false, false] (by kernel_rfl) rfl rfl ⟨IsS36.cell_0 HI0.out, IsS36.cell_1 HI0.out⟩ (fun hHeld => ?_); refine with_tabW golex_scanner_step.tab1 golex_scanner_step.bits1 (fun HT_ HW_ => ?_)
    generalize w.drew = w6 at HI0 HK HB hHeld ⊢
    refine pure_ (i := 0) (N := some 9) (v := ?_) (a' := ?_) #[true, false, false, false, false, false, false, false, false, false, false, false, false, false] rfl rfl (any_of HT_.out (by kernel_rfl)) (fun _ _ _ h => h) (Or.inl ⟨by rfl, ?_⟩) ?_ ?_
    rotate_left
    · intro w'
      go_simp
      with_reducible rfl
    rotate_left
    · simp only [Act.put, List.setIfInBounds_toArray, List.set_cons_zero, List.set_cons_succ, i64_w, i32_w]
      rfl
    refine pure_ (i := 1) (N := some 10) (v := ?_) (a' := ?_) #[true, true, false, false, false, false, false, false, false, false, false, false, false, false] rfl rfl (any_of HT_.out (by kernel_rfl)) (fun _ _ _ h => h) (Or.inl ⟨by rfl, ?_⟩) ?_ ?_
    rotate_left
    · intro w'
      go_simp
      with_reducible rfl
    rotate_left
    · simp only [Act.put, List.setIfInBounds_toArray, List.set_cons_zero, List.set_cons_succ, i64_w, i32_w]
      rfl
    refine pure_ (i := 2) (N := some 11) (v := ?_) (a' := ?_) #[true, true, true, false, false, false, false, false, false, false, false, false, false, false] rfl rfl (any_of HT_.out (by kernel_rfl)) (fun _ _ _ h => h) (Or.inl ⟨by rfl, ?_⟩) ?_ ?_
    rotate_left
    · intro w'
      go_simp
      with_reducible rfl
    rotate_left
    · simp only [Act.put, List.setIfInBounds_toArray, List.set_cons_zero, List.set_cons_succ, i64_w, i32_w]
      rfl
    refine pure_ (i := 4) (N := some 13) (v := ?_) (a' := ?_) #[true, true, true, false, true, false, false, false, false, false, false, false, false, false] rfl rfl (any_of HT_.out (by kernel_rfl)) (fun _ _ _ h => h) (Or.inl ⟨by rfl, ?_⟩) ?_ ?_
    rotate_left
    · intro w'
      go_simp
      with_reducible rfl
    rotate_left
    · simp only [Act.put, List.setIfInBounds_toArray, List.set_cons_zero, List.set_cons_succ, i64_w, i32_w]
      rfl
    refine pure_ (i := 5) (N := some 14) (v := ?_) (a' := ?_) #[true, true, true, false, true, true, false, false, false, false, false, false, false, false] rfl rfl (any_of HT_.out (by kernel_rfl)) (fun _ _ _ h => h) (Or.inl ⟨by rfl, ?_⟩) ?_ ?_
    rotate_left
    · intro w'
      go_simp
      with_reducible rfl
    rotate_left
    · simp only [Act.put, List.setIfInBounds_toArray, List.set_cons_zero, List.set_cons_succ, i64_w, i32_w]
      rfl
    refine pure_ (i := 6) (N := some 15) (v := ?_) (a' := ?_) #[true, true, true, false, true, true, true, false, false, false, false, false, false, false] rfl rfl (any_of HT_.out (by kernel_rfl)) (fun _ _ _ h => h) (Or.inl ⟨by rfl, ?_⟩) ?_ ?_
    rotate_left
    · intro w'
      go_simp
      with_reducible rfl
    rotate_left
    · simp only [Act.put, List.setIfInBounds_toArray, List.set_cons_zero, List.set_cons_succ, i64_w, i32_w]
      rfl
    refine take_ (i := 3) (N := some 12) (v := ?_) (a' := ?_) #[true, true, true, true, true, true, true, false, false, false, false, false, false, false] rfl rfl (take_ofW HT_.out HW_.out (by kernel_rfl)) (fun _ _ _ h => h) (Or.inl ⟨by rfl, ?_⟩) hHeld ?_ ?_
    rotate_left
    · rintro w' ⟨s0, s1⟩
      go_simp
      with_reducible rfl
    rotate_left
    · simp only [Act.put, List.setIfInBounds_toArray, List.set_cons_zero, List.set_cons_succ, i64_w, i32_w]
      rfl
    refine take_ (i := 7) (N := some 16) (v := ?_) (a' := ?_) #[true, true, true, true, true, true, true, true, false, false, false, false, false, false] rfl rfl (take_ofW HT_.out HW_.out (by kernel_rfl)) (fun _ _ _ h => h) (Or.inl ⟨by rfl, ?_⟩) hHeld ?_ ?_
    rotate_left
    · rintro w' ⟨s0, s1⟩
      go_simp
      with_reducible rfl
    rotate_left
    · simp only [Act.put, List.setIfInBounds_toArray, List.set_cons_zero, List.set_cons_succ, i64_w, i32_w]
      rfl
    refine one_ (i := 8) (N := some 17) #[true, true, true, true, true, true, true, true, true, false, false, false, false, false] rfl rfl (one_of HT_.out (by kernel_rfl)) (by decide) (fun K hK => ?_)
    refine goes_ Tryd.func36 (by kernel_rfl) rfl #[.string s0_0, .int .i64 s0_1] (by rfl) rfl rfl (by (try simp only [List.map_toArray, List.map_cons, List.map_nil]); first | done | rfl | (simp only [List.length_drop, List.length_take]; rfl)) ?_
    with_reducible refine (utf_Rune.calls k s0_0 s0_1 t166 t167 _ ?side1 A2.out).mono ?_
    (case side1 => first | exact HT.out | exact Tabs.below HT.out (by repeat (first | (with_reducible first | exact HB.out | apply below_alloc | apply pw_below_drewN | apply below_drew1 | refine below_set ?_ (IsS36.ge HI0.out)) | exact HB.out)))
    rintro e w7 ⟨rfl, hb⟩
    have HS0_ := (hb.cell (World.block_lt_of_cell? _ _ (hHeld.1))).trans (hHeld.1)
    have HS1_ := (hb.cell (World.block_lt_of_cell? _ _ (hHeld.2))).trans (hHeld.2)
    refine ⟨_, rfl, ?_⟩
    have n0_ := Aside0.mk (IsS36.below (by repeat (first | (with_reducible first | exact HI0.out | apply IsS36.alloc | apply IsS36.drewN | apply IsS36.drew | apply IsS36.set_0 | apply IsS36.set_1 | apply IsS36.set_2 | apply IsS36.set_3) | exact HI0.out)) hb)
    have n1_ := Aside0.mk (Kq.trans (by repeat (first | (with_reducible first | exact HK.out | apply Kq.set_ | apply kq_drewN | apply kq_drew | apply kq_alloc) | exact HK.out)) (Kq.of_below hb g none) (.inl rfl))
    have n2_ := Aside0.mk (below_step (by repeat (first | (with_reducible first | exact HB.out | apply below_alloc | apply pw_below_drewN | apply below_drew1 | refine below_set ?_ (IsS36.ge HI0.out)) | exact HB.out)) hb)
    clear HI0; clear HK; clear HB
    have HI0 := n0_
    have HK := n1_
    have HB := n2_; (try clear hgl_); have hgl_ := hG2.out _ HB.out
    clear n0_ n1_ n2_
    (try clear hb)
    (try clear hb2)
    (try clear hk)
    (try clear hi)
    refine hK.out _ _ ⟨HS0_, HS1_⟩ (fun hHeld => ?_)
    clear hK K
    refine norm_ (a' := ?_) ?_ ?_
    rotate_left
    · show Act.put _ (some 17) _ = _
      simp only [Act.put, List.setIfInBounds_toArray, List.set_cons_zero, List.set_cons_succ, i64_w, i32_w]
      rfl
    refine pure_ (i := 9) (N := some 8) (v := ?_) (a' := ?_) #[true, true, true, true, true, true, true, true, true, true, false, false, false, false] rfl rfl (any_of HT_.out (by kernel_rfl)) (fun _ _ _ h => h) (Or.inl ⟨by rfl, ?_⟩) ?_ ?_
    rotate_left
    · intro w'
      go_simp
      with_reducible rfl
    rotate_left
    · simp only [Act.put, List.setIfInBounds_toArray, List.set_cons_zero, List.set_cons_succ, i64_w, i32_w]
      rfl
    refine pure_ (i := 10) (N := some 18) (v := ?_) (a' := ?_) #[true, true, true, true, true, true, true, true, true, true, true, false, false, false] rfl rfl (any_of HT_.out (by kernel_rfl)) (fun _ _ _ h => h) (Or.inl ⟨by rfl, ?_⟩) ?_ ?_
    rotate_left
    · intro w'
      go_simp
      with_reducible rfl
    rotate_left
    · simp only [Act.put, List.setIfInBounds_toArray, List.set_cons_zero, List.set_cons_succ, i64_w, i32_w]
      rfl
    refine pure_ (i := 11) (N := some 19) (v := ?_) (a' := ?_) #[true, true, true, true, true, true, true, true, true, true, true, true, false, false] rfl rfl (any_of HT_.out (by kernel_rfl)) (fun _ _ _ h => h) (Or.inl ⟨by rfl, ?_⟩) ?_ ?_
    rotate_left
    · intro w'
      go_simp
      with_reducible rfl
    rotate_left
    · simp only [Act.put, List.setIfInBounds_toArray, List.set_cons_zero, List.set_cons_succ, i64_w, i32_w]
      rfl
    refine pure_ (i := 12) (N := some 3) (v := ?_) (a' := ?_) #[true, true, true, true, true, true, true, true, true, true, true, true, true, false] rfl rfl (any_of HT_.out (by kernel_rfl)) (fun _ _ _ h => h) (Or.inl ⟨by rfl, ?_⟩) ?_ ?_
    rotate_left
    · intro w'
      go_simp
      with_reducible rfl
    rotate_left
    · simp only [Act.put, List.setIfInBounds_toArray, List.set_cons_zero, List.set_cons_succ, i64_w, i32_w]
      rfl
    refine pure_ (i := 13) (N := some 4) (v := ?_) (a' := ?_) #[true, true, true, true, true, true, true, true, true, true, true, true, true, true] rfl rfl (any_of HT_.out (by kernel_rfl)) (fun _ _ _ h => h) (Or.inl ⟨by rfl, ?_⟩) ?_ ?_
    rotate_left
    · intro w'
      go_simp
      with_reducible rfl
    rotate_left
    · simp only [Act.put, List.setIfInBounds_toArray, List.set_cons_zero, List.set_cons_succ, i64_w, i32_w]
      rfl
    refine done_ (done_of HT_.out (by kernel_rfl)) ?_
    obtain ⟨tvz8, nvz8, HGz8, hgz8, hRz8, hNz8⟩ := HI0.out; have hcz8_0 := cellS36_0 HGz8; have hcz8_1 := cellS36_1 HGz8; have hcz8_2 := cellS36_2 HGz8; have hcz8_3 := cellS36_3 HGz8; have hfz8_0 := blk_frozen HGz8 0; have hfz8_1 := blk_frozen HGz8 1; have hfz8_2 := blk_frozen HGz8 2; have hfz8_3 := blk_frozen HGz8 3; clear HGz8 hgz8
    try go_wp2_with (first | ((with_reducible refine gate_callee (f := 37) rfl ?_); refine goesL_ (some 54) rfl rfl Tryd.func37 (by kernel_rfl) rfl #[.pointer (some ⟨g, 0, none⟩), .int .i64 s0_1] rfl (by (try simp only [List.map_toArray, List.map_cons, List.map_nil]); first | done | rfl | (simp only [List.length_drop, List.length_take]; rfl)) ?_; (with_reducible refine (golex_scanner_feed.calls g s0_0 s0_1 s0_2 s0_3 s0_1 t168 t169 t170 t171 w0 _ ?side1 ?side2 ?side3 A4.out).mono ?_); (case side1 => first | exact HT.out | exact Tabs.below HT.out (by repeat (first | (with_reducible first | exact HB.out | apply below_alloc | apply pw_below_drewN | apply below_drew1 | refine below_set ?_ (IsS36.ge HI0.out)) | exact HB.out))); (case side2 => repeat (first | (with_reducible first | exact HI0.out | apply IsS36.alloc | apply IsS36.drewN | apply IsS36.drew | apply IsS36.set_0 | apply IsS36.set_1 | apply IsS36.set_2 | apply IsS36.set_3) | exact HI0.out)); (case side3 => repeat (first | (with_reducible first | exact HB.out | apply below_alloc | apply pw_below_drewN | apply below_drew1 | refine below_set ?_ (IsS36.ge HI0.out)) | exact HB.out)); rintro e w9 ⟨rfl, hi, hb, hk⟩; refine ⟨_, rfl, ?_⟩; have n0_ := Aside0.mk (Kq.trans (by repeat (first | (with_reducible first | exact HK.out | apply Kq.set_ | apply kq_drewN | apply kq_drew | apply kq_alloc) | exact HK.out)) hk (.inl rfl)); have n1_ := Aside0.mk (hb); have n2_ := Aside0.mk (hi); clear HK; clear HB; clear HI0; have HK := n0_; have HB := n1_; (try clear hgl_); have hgl_ := hG2.out _ HB.out; have HI0 := n2_; clear n0_ n1_ n2_; (try clear hb); (try clear hb2); (try clear hk); (try clear hi)) | ((with_reducible refine gate_callee (f := 38) rfl ?_); refine goesL_ (some 58) rfl rfl Tryd.func38 (by kernel_rfl) rfl #[.pointer (some ⟨g, 0, none⟩), .int .i64 0, .int .i64 s0_1, .int .i64 s0_1] rfl (by (try simp only [List.map_toArray, List.map_cons, List.map_nil]); first | done | rfl | (simp only [List.length_drop, List.length_take]; rfl)) ?_; (with_reducible refine (golex_scanner_put.calls g t168 t169 t170 t171 0 s0_1 s0_1 t172 t173 t174 t175 w0 _ ?side1 ?side2 ?side3 A5.out).mono ?_); (case side1 => first | exact HT.out | exact Tabs.below HT.out (by repeat (first | (with_reducible first | exact HB.out | apply below_alloc | apply pw_below_drewN | apply below_drew1 | refine below_set ?_ (IsS36.ge HI0.out)) | exact HB.out))); (case side2 => repeat (first | (with_reducible first | exact HI0.out | apply IsS36.alloc | apply IsS36.drewN | apply IsS36.drew | apply IsS36.set_0 | apply IsS36.set_1 | apply IsS36.set_2 | apply IsS36.set_3) | exact HI0.out)); (case side3 => repeat (first | (with_reducible first | exact HB.out | apply below_alloc | apply pw_below_drewN | apply below_drew1 | refine below_set ?_ (IsS36.ge HI0.out)) | exact HB.out)); rintro e w10 ⟨rfl, hi, hb, hk⟩; refine ⟨_, rfl, ?_⟩; have n0_ := Aside0.mk (Kq.trans (by repeat (first | (with_reducible first | exact HK.out | apply Kq.set_ | apply kq_drewN | apply kq_drew | apply kq_alloc) | exact HK.out)) hk (.inl rfl)); have n1_ := Aside0.mk (hb); have n2_ := Aside0.mk (hi); clear HK; clear HB; clear HI0; have HK := n0_; have HB := n1_; (try clear hgl_); have hgl_ := hG2.out _ HB.out; have HI0 := n2_; clear n0_ n1_ n2_; (try clear hb); (try clear hb2); (try clear hk); (try clear hi)))
    go_ret
    exact ⟨by first | rfl | (simp [errW_none, errW_some] <;> rfl) | (simp [*, errW_none, errW_some] <;> rfl), by repeat (first | (with_reducible first | exact HI0.out | apply IsS36.alloc | apply IsS36.drewN | apply IsS36.drew | apply IsS36.set_0 | apply IsS36.set_1 | apply IsS36.set_2 | apply IsS36.set_3) | exact HI0.out), by repeat (first | (with_reducible first | exact HB.out | apply below_alloc | apply pw_below_drewN | apply below_drew1 | refine below_set ?_ (IsS36.ge HI0.out)) | exact HB.out), by repeat (first | (with_reducible first | exact HK.out | apply Kq.set_ | apply kq_drewN | apply kq_drew | apply kq_alloc) | exact HK.out)⟩
  · rw [if_neg c3] at H
    have c3b0 : (t167 == 0) = false := beq_eq_false_iff_ne.mpr c3
    have c3b1 : (t167 != 0) = true := bne_iff_ne.mpr c3
    by_cases c11 : t166 < 0
    · rw [if_pos c11] at H
      have c11b0 : decide (t166 < 0) = true := decide_eq_true c11
      clear c11
      replace H := Option.bind_eq_some_iff.mp H
      obtain ⟨⟨t176, t177, t178, t179, t180⟩, A120, H⟩ := H
      replace H : (some (t176, t177, t178, t179, t180)) = some (r1, r2, r3, r4, r5) := H
      have A12 := Aside0.mk A120; clear A120
      simp only [Option.some.injEq, Prod.mk.injEq] at H
      obtain ⟨rfl, rfl, rfl, rfl, rfl⟩ := H
      go_enter Tryd.func25, Tryd.ntmps25
      try go_wp2
      have n0_ := Aside0.mk (IsS36.drew HI0.out)
      have n1_ := Aside0.mk (kq_drew HK.out)
      have n2_ := Aside0.mk (below_drew1 HB.out)
      clear HI0; clear HK; clear HB
      have HI0 := n0_
      have HK := n1_
      have HB := n2_; (try clear hgl_); have hgl_ := hG2.out _ HB.out
      clear n0_ n1_ n2_
      refine start_ (n := 14) (S := fun w' => w'.cell? ⟨g, 0, none⟩ = some (.string s0_0) ∧ w'.cell? ⟨g, 1, none⟩ = some (.int .i64 s0_1)) (ds := []) #[false, false, false, false, false, false, false, false, false, false, false, false, false, false] (by kernel_rfl) rfl rfl ⟨IsS36.cell_0 HI0.out, IsS36.cell_1 HI0.out⟩ (fun hHeld => ?_); refine with_tabW golex_scanner_step.tab1 golex_scanner_step.bits1 (fun HT_ HW_ => ?_)
      generalize w.drew = w13 at HI0 HK HB hHeld ⊢
      refine pure_ (i := 0) (N := some 9) (v := ?_) (a' := ?_) #[true, false, false, false, false, false, false, false, false, false, false, false, false, false] rfl rfl (any_of HT_.out (by kernel_rfl)) (fun _ _ _ h => h) (Or.inl ⟨by rfl, ?_⟩) ?_ ?_
      rotate_left
      · intro w'
        go_simp
        with_reducible rfl
      rotate_left
      · simp only [Act.put, List.setIfInBounds_toArray, List.set_cons_zero, List.set_cons_succ, i64_w, i32_w]
        rfl
      refine pure_ (i := 1) (N := some 10) (v := ?_) (a' := ?_) #[true, true, false, false, false, false, false, false, false, false, false, false, false, false] rfl rfl (any_of HT_.out (by kernel_rfl)) (fun _ _ _ h => h) (Or.inl ⟨by rfl, ?_⟩) ?_ ?_
      rotate_left
      · intro w'
        go_simp
        with_reducible rfl
      rotate_left
      · simp only [Act.put, List.setIfInBounds_toArray, List.set_cons_zero, List.set_cons_succ, i64_w, i32_w]
        rfl
      refine pure_ (i := 2) (N := some 11) (v := ?_) (a' := ?_) #[true, true, true, false, false, false, false, false, false, false, false, false, false, false] rfl rfl (any_of HT_.out (by kernel_rfl)) (fun _ _ _ h => h) (Or.inl ⟨by rfl, ?_⟩) ?_ ?_
      rotate_left
      · intro w'
        go_simp
        with_reducible rfl
      rotate_left
      · simp only [Act.put, List.setIfInBounds_toArray, List.set_cons_zero, List.set_cons_succ, i64_w, i32_w]
        rfl
      refine pure_ (i := 4) (N := some 13) (v := ?_) (a' := ?_) #[true, true, true, false, true, false, false, false, false, false, false, false, false, false] rfl rfl (any_of HT_.out (by kernel_rfl)) (fun _ _ _ h => h) (Or.inl ⟨by rfl, ?_⟩) ?_ ?_
      rotate_left
      · intro w'
        go_simp
        with_reducible rfl
      rotate_left
      · simp only [Act.put, List.setIfInBounds_toArray, List.set_cons_zero, List.set_cons_succ, i64_w, i32_w]
        rfl
      refine pure_ (i := 5) (N := some 14) (v := ?_) (a' := ?_) #[true, true, true, false, true, true, false, false, false, false, false, false, false, false] rfl rfl (any_of HT_.out (by kernel_rfl)) (fun _ _ _ h => h) (Or.inl ⟨by rfl, ?_⟩) ?_ ?_
      rotate_left
      · intro w'
        go_simp
        with_reducible rfl
      rotate_left
      · simp only [Act.put, List.setIfInBounds_toArray, List.set_cons_zero, List.set_cons_succ, i64_w, i32_w]
        rfl
      refine pure_ (i := 6) (N := some 15) (v := ?_) (a' := ?_) #[true, true, true, false, true, true, true, false, false, false, false, false, false, false] rfl rfl (any_of HT_.out (by kernel_rfl)) (fun _ _ _ h => h) (Or.inl ⟨by rfl, ?_⟩) ?_ ?_
      rotate_left
      · intro w'
        go_simp
        with_reducible rfl
      rotate_left
      · simp only [Act.put, List.setIfInBounds_toArray, List.set_cons_zero, List.set_cons_succ, i64_w, i32_w]
        rfl
      refine take_ (i := 3) (N := some 12) (v := ?_) (a' := ?_) #[true, true, true, true, true, true, true, false, false, false, false, false, false, false] rfl rfl (take_ofW HT_.out HW_.out (by kernel_rfl)) (fun _ _ _ h => h) (Or.inl ⟨by rfl, ?_⟩) hHeld ?_ ?_
      rotate_left
      · rintro w' ⟨s0, s1⟩
        go_simp
        with_reducible rfl
      rotate_left
      · simp only [Act.put, List.setIfInBounds_toArray, List.set_cons_zero, List.set_cons_succ, i64_w, i32_w]
        rfl
      refine take_ (i := 7) (N := some 16) (v := ?_) (a' := ?_) #[true, true, true, true, true, true, true, true, false, false, false, false, false, false] rfl rfl (take_ofW HT_.out HW_.out (by kernel_rfl)) (fun _ _ _ h => h) (Or.inl ⟨by rfl, ?_⟩) hHeld ?_ ?_
      rotate_left
      · rintro w' ⟨s0, s1⟩
        go_simp
        with_reducible rfl
      rotate_left
      · simp only [Act.put, List.setIfInBounds_toArray, List.set_cons_zero, List.set_cons_succ, i64_w, i32_w]
        rfl
      refine one_ (i := 8) (N := some 17) #[true, true, true, true, true, true, true, true, true, false, false, false, false, false] rfl rfl (one_of HT_.out (by kernel_rfl)) (by decide) (fun K hK => ?_)
      refine goes_ Tryd.func36 (by kernel_rfl) rfl #[.string s0_0, .int .i64 s0_1] (by rfl) rfl rfl (by (try simp only [List.map_toArray, List.map_cons, List.map_nil]); first | done | rfl | (simp only [List.length_drop, List.length_take]; rfl)) ?_
      with_reducible refine (utf_Rune.calls k s0_0 s0_1 t166 t167 _ ?side1 A2.out).mono ?_
      (case side1 => first | exact HT.out | exact Tabs.below HT.out (by repeat (first | (with_reducible first | exact HB.out | apply below_alloc | apply pw_below_drewN | apply below_drew1 | refine below_set ?_ (IsS36.ge HI0.out)) | exact HB.out)))
      rintro e w14 ⟨rfl, hb⟩
      have HS0_ := (hb.cell (World.block_lt_of_cell? _ _ (hHeld.1))).trans (hHeld.1)
      have HS1_ := (hb.cell (World.block_lt_of_cell? _ _ (hHeld.2))).trans (hHeld.2)
      refine ⟨_, rfl, ?_⟩
      have n0_ := Aside0.mk (IsS36.below (by repeat (first | (with_reducible first | exact HI0.out | apply IsS36.alloc | apply IsS36.drewN | apply IsS36.drew | apply IsS36.set_0 | apply IsS36.set_1 | apply IsS36.set_2 | apply IsS36.set_3) | exact HI0.out)) hb)
      have n1_ := Aside0.mk (Kq.trans (by repeat (first | (with_reducible first | exact HK.out | apply Kq.set_ | apply kq_drewN | apply kq_drew | apply kq_alloc) | exact HK.out)) (Kq.of_below hb g none) (.inl rfl))
      have n2_ := Aside0.mk (below_step (by repeat (first | (with_reducible first | exact HB.out | apply below_alloc | apply pw_below_drewN | apply below_drew1 | refine below_set ?_ (IsS36.ge HI0.out)) | exact HB.out)) hb)
      clear HI0; clear HK; clear HB
      have HI0 := n0_
      have HK := n1_
      have HB := n2_; (try clear hgl_); have hgl_ := hG2.out _ HB.out
      clear n0_ n1_ n2_
      (try clear hb)
      (try clear hb2)
      (try clear hk)
      (try clear hi)
      refine hK.out _ _ ⟨HS0_, HS1_⟩ (fun hHeld => ?_)
      clear hK K
      refine norm_ (a' := ?_) ?_ ?_
      rotate_left
      · show Act.put _ (some 17) _ = _
        simp only [Act.put, List.setIfInBounds_toArray, List.set_cons_zero, List.set_cons_succ, i64_w, i32_w]
        rfl
      refine pure_ (i := 9) (N := some 8) (v := ?_) (a' := ?_) #[true, true, true, true, true, true, true, true, true, true, false, false, false, false] rfl rfl (any_of HT_.out (by kernel_rfl)) (fun _ _ _ h => h) (Or.inl ⟨by rfl, ?_⟩) ?_ ?_
      rotate_left
      · intro w'
        go_simp
        with_reducible rfl
      rotate_left
      · simp only [Act.put, List.setIfInBounds_toArray, List.set_cons_zero, List.set_cons_succ, i64_w, i32_w]
        rfl
      refine pure_ (i := 10) (N := some 18) (v := ?_) (a' := ?_) #[true, true, true, true, true, true, true, true, true, true, true, false, false, false] rfl rfl (any_of HT_.out (by kernel_rfl)) (fun _ _ _ h => h) (Or.inl ⟨by rfl, ?_⟩) ?_ ?_
      rotate_left
      · intro w'
        go_simp
        with_reducible rfl
      rotate_left
      · simp only [Act.put, List.setIfInBounds_toArray, List.set_cons_zero, List.set_cons_succ, i64_w, i32_w]
        rfl
      refine pure_ (i := 11) (N := some 19) (v := ?_) (a' := ?_) #[true, true, true, true, true, true, true, true, true, true, true, true, false, false] rfl rfl (any_of HT_.out (by kernel_rfl)) (fun _ _ _ h => h) (Or.inl ⟨by rfl, ?_⟩) ?_ ?_
      rotate_left
      · intro w'
        go_simp
        with_reducible rfl
      rotate_left
      · simp only [Act.put, List.setIfInBounds_toArray, List.set_cons_zero, List.set_cons_succ, i64_w, i32_w]
        rfl
      refine pure_ (i := 12) (N := some 3) (v := ?_) (a' := ?_) #[true, true, true, true, true, true, true, true, true, true, true, true, true, false] rfl rfl (any_of HT_.out (by kernel_rfl)) (fun _ _ _ h => h) (Or.inl ⟨by rfl, ?_⟩) ?_ ?_
      rotate_left
      · intro w'
        go_simp
        with_reducible rfl
      rotate_left
      · simp only [Act.put, List.setIfInBounds_toArray, List.set_cons_zero, List.set_cons_succ, i64_w, i32_w]
        rfl
      refine pure_ (i := 13) (N := some 4) (v := ?_) (a' := ?_) #[true, true, true, true, true, true, true, true, true, true, true, true, true, true] rfl rfl (any_of HT_.out (by kernel_rfl)) (fun _ _ _ h => h) (Or.inl ⟨by rfl, ?_⟩) ?_ ?_
      rotate_left
      · intro w'
        go_simp
        with_reducible rfl
      rotate_left
      · simp only [Act.put, List.setIfInBounds_toArray, List.set_cons_zero, List.set_cons_succ, i64_w, i32_w]
        rfl
      refine done_ (done_of HT_.out (by kernel_rfl)) ?_
      obtain ⟨tvz15, nvz15, HGz15, hgz15, hRz15, hNz15⟩ := HI0.out; have hcz15_0 := cellS36_0 HGz15; have hcz15_1 := cellS36_1 HGz15; have hcz15_2 := cellS36_2 HGz15; have hcz15_3 := cellS36_3 HGz15; have hfz15_0 := blk_frozen HGz15 0; have hfz15_1 := blk_frozen HGz15 1; have hfz15_2 := blk_frozen HGz15 2; have hfz15_3 := blk_frozen HGz15 3; clear HGz15 hgz15
      try go_wp2_with (first | ((with_reducible refine gate_callee (f := 39) rfl ?_); refine goesL_ (some 64) rfl rfl Tryd.func39 (by kernel_rfl) rfl #[.pointer (some ⟨g, 0, none⟩), .int .i64 s0_1] rfl (by (try simp only [List.map_toArray, List.map_cons, List.map_nil]); first | done | rfl | (simp only [List.length_drop, List.length_take]; rfl)) ?_; (with_reducible refine (golex_scanner_bad.calls g s0_0 s0_1 s0_2 s0_3 s0_1 t176 t177 t178 t179 t180 w0 _ ?side1 ?side2 ?side3 A12.out).mono ?_); (case side1 => first | exact HT.out | exact Tabs.below HT.out (by repeat (first | (with_reducible first | exact HB.out | apply below_alloc | apply pw_below_drewN | apply below_drew1 | refine below_set ?_ (IsS36.ge HI0.out)) | exact HB.out))); (case side2 => repeat (first | (with_reducible first | exact HI0.out | apply IsS36.alloc | apply IsS36.drewN | apply IsS36.drew | apply IsS36.set_0 | apply IsS36.set_1 | apply IsS36.set_2 | apply IsS36.set_3) | exact HI0.out)); (case side3 => repeat (first | (with_reducible first | exact HB.out | apply below_alloc | apply pw_below_drewN | apply below_drew1 | refine below_set ?_ (IsS36.ge HI0.out)) | exact HB.out)); rintro e w16 ⟨rfl, hi, hb, hk⟩; refine ⟨_, rfl, ?_⟩; have n0_ := Aside0.mk (Kq.trans (by repeat (first | (with_reducible first | exact HK.out | apply Kq.set_ | apply kq_drewN | apply kq_drew | apply kq_alloc) | exact HK.out)) hk (.inl rfl)); have n1_ := Aside0.mk (hb); have n2_ := Aside0.mk (hi); clear HK; clear HB; clear HI0; have HK := n0_; have HB := n1_; (try clear hgl_); have hgl_ := hG2.out _ HB.out; have HI0 := n2_; clear n0_ n1_ n2_; (try clear hb); (try clear hb2); (try clear hk); (try clear hi)))
      go_ret
      exact ⟨by first | rfl | (simp [errW_none, errW_some] <;> rfl) | (simp [*, errW_none, errW_some] <;> rfl), by repeat (first | (with_reducible first | exact HI0.out | apply IsS36.alloc | apply IsS36.drewN | apply IsS36.drew | apply IsS36.set_0 | apply IsS36.set_1 | apply IsS36.set_2 | apply IsS36.set_3) | exact HI0.out), by repeat (first | (with_reducible first | exact HB.out | apply below_alloc | apply pw_below_drewN | apply below_drew1 | refine below_set ?_ (IsS36.ge HI0.out)) | exact HB.out), by repeat (first | (with_reducible first | exact HK.out | apply Kq.set_ | apply kq_drewN | apply kq_drew | apply kq_alloc) | exact HK.out)⟩
    · rw [if_neg c11] at H
      have c11b0 : decide (t166 < 0) = false := decide_eq_false c11
      clear c11
      by_cases c17 : t166 = 10
      · rw [if_pos c17] at H
        have c17b0 : (t166 == 10) = true := beq_iff_eq.mpr c17
        have c17b1 : (t166 != 10) = false := bne_eq_false_iff_eq.mpr c17
        clear c17
        replace H := Option.bind_eq_some_iff.mp H
        obtain ⟨⟨t181, t182, t183, t184⟩, A180, H⟩ := H
        replace H : (some (true, t181, wrap64 (t182 + t167), t183, t184)) = some (r1, r2, r3, r4, r5) := H
        have A18 := Aside0.mk A180; clear A180
        simp only [Option.some.injEq, Prod.mk.injEq] at H
        obtain ⟨rfl, rfl, rfl, rfl, rfl⟩ := H
        go_enter Tryd.func25, Tryd.ntmps25
        try go_wp2
        have n0_ := Aside0.mk (IsS36.drew HI0.out)
        have n1_ := Aside0.mk (kq_drew HK.out)
        have n2_ := Aside0.mk (below_drew1 HB.out)
        clear HI0; clear HK; clear HB
        have HI0 := n0_
        have HK := n1_
        have HB := n2_; (try clear hgl_); have hgl_ := hG2.out _ HB.out
        clear n0_ n1_ n2_
        refine start_ (n := 14) (S := fun w' => w'.cell? ⟨g, 0, none⟩ = some (.string s0_0) ∧ w'.cell? ⟨g, 1, none⟩ = some (.int .i64 s0_1)) (ds := []) #[false, false, false, false, false, false, false, false, false, false, false, false, false, false] (by kernel_rfl) rfl rfl ⟨IsS36.cell_0 HI0.out, IsS36.cell_1 HI0.out⟩ (fun hHeld => ?_); refine with_tabW golex_scanner_step.tab1 golex_scanner_step.bits1 (fun HT_ HW_ => ?_)
        generalize w.drew = w19 at HI0 HK HB hHeld ⊢
        refine pure_ (i := 0) (N := some 9) (v := ?_) (a' := ?_) #[true, false, false, false, false, false, false, false, false, false, false, false, false, false] rfl rfl (any_of HT_.out (by kernel_rfl)) (fun _ _ _ h => h) (Or.inl ⟨by rfl, ?_⟩) ?_ ?_
        rotate_left
        · intro w'
          go_simp
          with_reducible rfl
        rotate_left
        · simp only [Act.put, List.setIfInBounds_toArray, List.set_cons_zero, List.set_cons_succ, i64_w, i32_w]
          rfl
        refine pure_ (i := 1) (N := some 10) (v := ?_) (a' := ?_) #[true, true, false, false, false, false, false, false, false, false, false, false, false, false] rfl rfl (any_of HT_.out (by kernel_rfl)) (fun _ _ _ h => h) (Or.inl ⟨by rfl, ?_⟩) ?_ ?_
        rotate_left
        · intro w'
          go_simp
          with_reducible rfl
        rotate_left
        · simp only [Act.put, List.setIfInBounds_toArray, List.set_cons_zero, List.set_cons_succ, i64_w, i32_w]
          rfl
        refine pure_ (i := 2) (N := some 11) (v := ?_) (a' := ?_) #[true, true, true, false, false, false, false, false, false, false, false, false, false, false] rfl rfl (any_of HT_.out (by kernel_rfl)) (fun _ _ _ h => h) (Or.inl ⟨by rfl, ?_⟩) ?_ ?_
        rotate_left
        · intro w'
          go_simp
          with_reducible rfl
        rotate_left
        · simp only [Act.put, List.setIfInBounds_toArray, List.set_cons_zero, List.set_cons_succ, i64_w, i32_w]
          rfl
        refine pure_ (i := 4) (N := some 13) (v := ?_) (a' := ?_) #[true, true, true, false, true, false, false, false, false, false, false, false, false, false] rfl rfl (any_of HT_.out (by kernel_rfl)) (fun _ _ _ h => h) (Or.inl ⟨by rfl, ?_⟩) ?_ ?_
        rotate_left
        · intro w'
          go_simp
          with_reducible rfl
        rotate_left
        · simp only [Act.put, List.setIfInBounds_toArray, List.set_cons_zero, List.set_cons_succ, i64_w, i32_w]
          rfl
        refine pure_ (i := 5) (N := some 14) (v := ?_) (a' := ?_) #[true, true, true, false, true, true, false, false, false, false, false, false, false, false] rfl rfl (any_of HT_.out (by kernel_rfl)) (fun _ _ _ h => h) (Or.inl ⟨by rfl, ?_⟩) ?_ ?_
        rotate_left
        · intro w'
          go_simp
          with_reducible rfl
        rotate_left
        · simp only [Act.put, List.setIfInBounds_toArray, List.set_cons_zero, List.set_cons_succ, i64_w, i32_w]
          rfl
        refine pure_ (i := 6) (N := some 15) (v := ?_) (a' := ?_) #[true, true, true, false, true, true, true, false, false, false, false, false, false, false] rfl rfl (any_of HT_.out (by kernel_rfl)) (fun _ _ _ h => h) (Or.inl ⟨by rfl, ?_⟩) ?_ ?_
        rotate_left
        · intro w'
          go_simp
          with_reducible rfl
        rotate_left
        · simp only [Act.put, List.setIfInBounds_toArray, List.set_cons_zero, List.set_cons_succ, i64_w, i32_w]
          rfl
        refine take_ (i := 3) (N := some 12) (v := ?_) (a' := ?_) #[true, true, true, true, true, true, true, false, false, false, false, false, false, false] rfl rfl (take_ofW HT_.out HW_.out (by kernel_rfl)) (fun _ _ _ h => h) (Or.inl ⟨by rfl, ?_⟩) hHeld ?_ ?_
        rotate_left
        · rintro w' ⟨s0, s1⟩
          go_simp
          with_reducible rfl
        rotate_left
        · simp only [Act.put, List.setIfInBounds_toArray, List.set_cons_zero, List.set_cons_succ, i64_w, i32_w]
          rfl
        refine take_ (i := 7) (N := some 16) (v := ?_) (a' := ?_) #[true, true, true, true, true, true, true, true, false, false, false, false, false, false] rfl rfl (take_ofW HT_.out HW_.out (by kernel_rfl)) (fun _ _ _ h => h) (Or.inl ⟨by rfl, ?_⟩) hHeld ?_ ?_
        rotate_left
        · rintro w' ⟨s0, s1⟩
          go_simp
          with_reducible rfl
        rotate_left
        · simp only [Act.put, List.setIfInBounds_toArray, List.set_cons_zero, List.set_cons_succ, i64_w, i32_w]
          rfl
        refine one_ (i := 8) (N := some 17) #[true, true, true, true, true, true, true, true, true, false, false, false, false, false] rfl rfl (one_of HT_.out (by kernel_rfl)) (by decide) (fun K hK => ?_)
        refine goes_ Tryd.func36 (by kernel_rfl) rfl #[.string s0_0, .int .i64 s0_1] (by rfl) rfl rfl (by (try simp only [List.map_toArray, List.map_cons, List.map_nil]); first | done | rfl | (simp only [List.length_drop, List.length_take]; rfl)) ?_
        with_reducible refine (utf_Rune.calls k s0_0 s0_1 t166 t167 _ ?side1 A2.out).mono ?_
        (case side1 => first | exact HT.out | exact Tabs.below HT.out (by repeat (first | (with_reducible first | exact HB.out | apply below_alloc | apply pw_below_drewN | apply below_drew1 | refine below_set ?_ (IsS36.ge HI0.out)) | exact HB.out)))
        rintro e w20 ⟨rfl, hb⟩
        have HS0_ := (hb.cell (World.block_lt_of_cell? _ _ (hHeld.1))).trans (hHeld.1)
        have HS1_ := (hb.cell (World.block_lt_of_cell? _ _ (hHeld.2))).trans (hHeld.2)
        refine ⟨_, rfl, ?_⟩
        have n0_ := Aside0.mk (IsS36.below (by repeat (first | (with_reducible first | exact HI0.out | apply IsS36.alloc | apply IsS36.drewN | apply IsS36.drew | apply IsS36.set_0 | apply IsS36.set_1 | apply IsS36.set_2 | apply IsS36.set_3) | exact HI0.out)) hb)
        have n1_ := Aside0.mk (Kq.trans (by repeat (first | (with_reducible first | exact HK.out | apply Kq.set_ | apply kq_drewN | apply kq_drew | apply kq_alloc) | exact HK.out)) (Kq.of_below hb g none) (.inl rfl))
        have n2_ := Aside0.mk (below_step (by repeat (first | (with_reducible first | exact HB.out | apply below_alloc | apply pw_below_drewN | apply below_drew1 | refine below_set ?_ (IsS36.ge HI0.out)) | exact HB.out)) hb)
        clear HI0; clear HK; clear HB
        have HI0 := n0_
        have HK := n1_
        have HB := n2_; (try clear hgl_); have hgl_ := hG2.out _ HB.out
        clear n0_ n1_ n2_
        (try clear hb)
        (try clear hb2)
        (try clear hk)
        (try clear hi)
        refine hK.out _ _ ⟨HS0_, HS1_⟩ (fun hHeld => ?_)
        clear hK K
        refine norm_ (a' := ?_) ?_ ?_
        rotate_left
        · show Act.put _ (some 17) _ = _
          simp only [Act.put, List.setIfInBounds_toArray, List.set_cons_zero, List.set_cons_succ, i64_w, i32_w]
          rfl
        refine pure_ (i := 9) (N := some 8) (v := ?_) (a' := ?_) #[true, true, true, true, true, true, true, true, true, true, false, false, false, false] rfl rfl (any_of HT_.out (by kernel_rfl)) (fun _ _ _ h => h) (Or.inl ⟨by rfl, ?_⟩) ?_ ?_
        rotate_left
        · intro w'
          go_simp
          with_reducible rfl
        rotate_left
        · simp only [Act.put, List.setIfInBounds_toArray, List.set_cons_zero, List.set_cons_succ, i64_w, i32_w]
          rfl
        refine pure_ (i := 10) (N := some 18) (v := ?_) (a' := ?_) #[true, true, true, true, true, true, true, true, true, true, true, false, false, false] rfl rfl (any_of HT_.out (by kernel_rfl)) (fun _ _ _ h => h) (Or.inl ⟨by rfl, ?_⟩) ?_ ?_
        rotate_left
        · intro w'
          go_simp
          with_reducible rfl
        rotate_left
        · simp only [Act.put, List.setIfInBounds_toArray, List.set_cons_zero, List.set_cons_succ, i64_w, i32_w]
          rfl
        refine pure_ (i := 11) (N := some 19) (v := ?_) (a' := ?_) #[true, true, true, true, true, true, true, true, true, true, true, true, false, false] rfl rfl (any_of HT_.out (by kernel_rfl)) (fun _ _ _ h => h) (Or.inl ⟨by rfl, ?_⟩) ?_ ?_
        rotate_left
        · intro w'
          go_simp
          with_reducible rfl
        rotate_left
        · simp only [Act.put, List.setIfInBounds_toArray, List.set_cons_zero, List.set_cons_succ, i64_w, i32_w]
          rfl
        refine pure_ (i := 12) (N := some 3) (v := ?_) (a' := ?_) #[true, true, true, true, true, true, true, true, true, true, true, true, true, false] rfl rfl (any_of HT_.out (by kernel_rfl)) (fun _ _ _ h => h) (Or.inl ⟨by rfl, ?_⟩) ?_ ?_
        rotate_left
        · intro w'
          go_simp
          with_reducible rfl
        rotate_left
        · simp only [Act.put, List.setIfInBounds_toArray, List.set_cons_zero, List.set_cons_succ, i64_w, i32_w]
          rfl
        refine pure_ (i := 13) (N := some 4) (v := ?_) (a' := ?_) #[true, true, true, true, true, true, true, true, true, true, true, true, true, true] rfl rfl (any_of HT_.out (by kernel_rfl)) (fun _ _ _ h => h) (Or.inl ⟨by rfl, ?_⟩) ?_ ?_
        rotate_left
        · intro w'
          go_simp
          with_reducible rfl
        rotate_left
        · simp only [Act.put, List.setIfInBounds_toArray, List.set_cons_zero, List.set_cons_succ, i64_w, i32_w]
          rfl
        refine done_ (done_of HT_.out (by kernel_rfl)) ?_
        obtain ⟨tvz21, nvz21, HGz21, hgz21, hRz21, hNz21⟩ := HI0.out; have hcz21_0 := cellS36_0 HGz21; have hcz21_1 := cellS36_1 HGz21; have hcz21_2 := cellS36_2 HGz21; have hcz21_3 := cellS36_3 HGz21; have hfz21_0 := blk_frozen HGz21 0; have hfz21_1 := blk_frozen HGz21 1; have hfz21_2 := blk_frozen HGz21 2; have hfz21_3 := blk_frozen HGz21 3; clear HGz21 hgz21
        try go_wp2_with (first | ((with_reducible refine gate_callee (f := 37) rfl ?_); refine goesL_ (some 70) rfl rfl Tryd.func37 (by kernel_rfl) rfl #[.pointer (some ⟨g, 0, none⟩), .int .i64 s0_1] rfl (by (try simp only [List.map_toArray, List.map_cons, List.map_nil]); first | done | rfl | (simp only [List.length_drop, List.length_take]; rfl)) ?_; (with_reducible refine (golex_scanner_feed.calls g s0_0 s0_1 s0_2 s0_3 s0_1 t181 t182 t183 t184 w0 _ ?side1 ?side2 ?side3 A18.out).mono ?_); (case side1 => first | exact HT.out | exact Tabs.below HT.out (by repeat (first | (with_reducible first | exact HB.out | apply below_alloc | apply pw_below_drewN | apply below_drew1 | refine below_set ?_ (IsS36.ge HI0.out)) | exact HB.out))); (case side2 => repeat (first | (with_reducible first | exact HI0.out | apply IsS36.alloc | apply IsS36.drewN | apply IsS36.drew | apply IsS36.set_0 | apply IsS36.set_1 | apply IsS36.set_2 | apply IsS36.set_3) | exact HI0.out)); (case side3 => repeat (first | (with_reducible first | exact HB.out | apply below_alloc | apply pw_below_drewN | apply below_drew1 | refine below_set ?_ (IsS36.ge HI0.out)) | exact HB.out)); rintro e w22 ⟨rfl, hi, hb, hk⟩; refine ⟨_, rfl, ?_⟩; have n0_ := Aside0.mk (Kq.trans (by repeat (first | (with_reducible first | exact HK.out | apply Kq.set_ | apply kq_drewN | apply kq_drew | apply kq_alloc) | exact HK.out)) hk (.inl rfl)); have n1_ := Aside0.mk (hb); have n2_ := Aside0.mk (hi); clear HK; clear HB; clear HI0; have HK := n0_; have HB := n1_; (try clear hgl_); have hgl_ := hG2.out _ HB.out; have HI0 := n2_; clear n0_ n1_ n2_; (try clear hb); (try clear hb2); (try clear hk); (try clear hi); obtain ⟨tvz23, nvz23, HGz23, hgz23, hRz23, hNz23⟩ := HI0.out; have hcz23_0 := cellS36_0 HGz23; have hcz23_1 := cellS36_1 HGz23; have hcz23_2 := cellS36_2 HGz23; have hcz23_3 := cellS36_3 HGz23; have hfz23_0 := blk_frozen HGz23 0; have hfz23_1 := blk_frozen HGz23 1; have hfz23_2 := blk_frozen HGz23 2; have hfz23_3 := blk_frozen HGz23 3; clear HGz23 hgz23))
        go_ret
        exact ⟨by first | rfl | (simp [errW_none, errW_some] <;> rfl) | (simp [*, errW_none, errW_some] <;> rfl), by repeat (first | (with_reducible first | exact HI0.out | apply IsS36.alloc | apply IsS36.drewN | apply IsS36.drew | apply IsS36.set_0 | apply IsS36.set_1 | apply IsS36.set_2 | apply IsS36.set_3) | exact HI0.out), by repeat (first | (with_reducible first | exact HB.out | apply below_alloc | apply pw_below_drewN | apply below_drew1 | refine below_set ?_ (IsS36.ge HI0.out)) | exact HB.out), by repeat (first | (with_reducible first | exact HK.out | apply Kq.set_ | apply kq_drewN | apply kq_drew | apply kq_alloc) | exact HK.out)⟩
      · rw [if_neg c17] at H
        have c17b0 : (t166 == 10) = false := beq_eq_false_iff_ne.mpr c17
        have c17b1 : (t166 != 10) = true := bne_iff_ne.mpr c17
        replace H := Option.bind_eq_some_iff.mp H
        obtain ⟨t185, A240, H⟩ := H
        replace H : (if t185 = true then (some (true, s0_0, wrap64 (s0_1 + t167), s0_2, s0_3)) else (if 0 ≤ s0_1 then (if s0_1 ≤ (s0_0.size : Int) then ((strings_HasPrefix.f (s0_0.extract (s0_1 : Int).toNat s0_0.size) (⟨#[47, 47]⟩ : ByteArray)).bind fun t186 => (if t186 = true then (golex_scanner_step.j0 k t166 s0_1 true s0_0 s0_1 s0_2 s0_3) else ((strings_HasPrefix.f (s0_0.extract (s0_1 : Int).toNat s0_0.size) (⟨#[47, 42]⟩ : ByteArray)).bind fun t187 => (golex_scanner_step.j0 k t166 s0_1 t187 s0_0 s0_1 s0_2 s0_3)))) else (none)) else (none))) = some (r1, r2, r3, r4, r5) := H
        have A24 := Aside0.mk A240; clear A240
        by_cases c25 : t185 = true
        · subst c25
          have H1 : (some (true, s0_0, wrap64 (s0_1 + t167), s0_2, s0_3)) = some (r1, r2, r3, r4, r5) := by rw [if_pos rfl] at H; exact H
          clear H
          have H := H1
          clear H1
          simp only [Option.some.injEq, Prod.mk.injEq] at H
          obtain ⟨rfl, rfl, rfl, rfl, rfl⟩ := H
          go_enter Tryd.func25, Tryd.ntmps25
          try go_wp2
          have n0_ := Aside0.mk (IsS36.drew HI0.out)
          have n1_ := Aside0.mk (kq_drew HK.out)
          have n2_ := Aside0.mk (below_drew1 HB.out)
          clear HI0; clear HK; clear HB
          have HI0 := n0_
          have HK := n1_
          have HB := n2_; (try clear hgl_); have hgl_ := hG2.out _ HB.out
          clear n0_ n1_ n2_
          refine start_ (n := 14) (S := fun w' => w'.cell? ⟨g, 0, none⟩ = some (.string s0_0) ∧ w'.cell? ⟨g, 1, none⟩ = some (.int .i64 s0_1)) (ds := []) #[false, false, false, false, false, false, false, false, false, false, false, false, false, false] (by kernel_rfl) rfl rfl ⟨IsS36.cell_0 HI0.out, IsS36.cell_1 HI0.out⟩ (fun hHeld => ?_); refine with_tabW golex_scanner_step.tab1 golex_scanner_step.bits1 (fun HT_ HW_ => ?_)
          generalize w.drew = w26 at HI0 HK HB hHeld ⊢
          refine pure_ (i := 0) (N := some 9) (v := ?_) (a' := ?_) #[true, false, false, false, false, false, false, false, false, false, false, false, false, false] rfl rfl (any_of HT_.out (by kernel_rfl)) (fun _ _ _ h => h) (Or.inl ⟨by rfl, ?_⟩) ?_ ?_
          rotate_left
          · intro w'
            go_simp
            with_reducible rfl
          rotate_left
          · simp only [Act.put, List.setIfInBounds_toArray, List.set_cons_zero, List.set_cons_succ, i64_w, i32_w]
            rfl
          refine pure_ (i := 1) (N := some 10) (v := ?_) (a' := ?_) #[true, true, false, false, false, false, false, false, false, false, false, false, false, false] rfl rfl (any_of HT_.out (by kernel_rfl)) (fun _ _ _ h => h) (Or.inl ⟨by rfl, ?_⟩) ?_ ?_
          rotate_left
          · intro w'
            go_simp
            with_reducible rfl
          rotate_left
          · simp only [Act.put, List.setIfInBounds_toArray, List.set_cons_zero, List.set_cons_succ, i64_w, i32_w]
            rfl
          refine pure_ (i := 2) (N := some 11) (v := ?_) (a' := ?_) #[true, true, true, false, false, false, false, false, false, false, false, false, false, false] rfl rfl (any_of HT_.out (by kernel_rfl)) (fun _ _ _ h => h) (Or.inl ⟨by rfl, ?_⟩) ?_ ?_
          rotate_left
          · intro w'
            go_simp
            with_reducible rfl
          rotate_left
          · simp only [Act.put, List.setIfInBounds_toArray, List.set_cons_zero, List.set_cons_succ, i64_w, i32_w]
            rfl
          refine pure_ (i := 4) (N := some 13) (v := ?_) (a' := ?_) #[true, true, true, false, true, false, false, false, false, false, false, false, false, false] rfl rfl (any_of HT_.out (by kernel_rfl)) (fun _ _ _ h => h) (Or.inl ⟨by rfl, ?_⟩) ?_ ?_
          rotate_left
          · intro w'
            go_simp
            with_reducible rfl
          rotate_left
          · simp only [Act.put, List.setIfInBounds_toArray, List.set_cons_zero, List.set_cons_succ, i64_w, i32_w]
            rfl
          refine pure_ (i := 5) (N := some 14) (v := ?_) (a' := ?_) #[true, true, true, false, true, true, false, false, false, false, false, false, false, false] rfl rfl (any_of HT_.out (by kernel_rfl)) (fun _ _ _ h => h) (Or.inl ⟨by rfl, ?_⟩) ?_ ?_
          rotate_left
          · intro w'
            go_simp
            with_reducible rfl
          rotate_left
          · simp only [Act.put, List.setIfInBounds_toArray, List.set_cons_zero, List.set_cons_succ, i64_w, i32_w]
            rfl
          refine pure_ (i := 6) (N := some 15) (v := ?_) (a' := ?_) #[true, true, true, false, true, true, true, false, false, false, false, false, false, false] rfl rfl (any_of HT_.out (by kernel_rfl)) (fun _ _ _ h => h) (Or.inl ⟨by rfl, ?_⟩) ?_ ?_
          rotate_left
          · intro w'
            go_simp
            with_reducible rfl
          rotate_left
          · simp only [Act.put, List.setIfInBounds_toArray, List.set_cons_zero, List.set_cons_succ, i64_w, i32_w]
            rfl
          refine take_ (i := 3) (N := some 12) (v := ?_) (a' := ?_) #[true, true, true, true, true, true, true, false, false, false, false, false, false, false] rfl rfl (take_ofW HT_.out HW_.out (by kernel_rfl)) (fun _ _ _ h => h) (Or.inl ⟨by rfl, ?_⟩) hHeld ?_ ?_
          rotate_left
          · rintro w' ⟨s0, s1⟩
            go_simp
            with_reducible rfl
          rotate_left
          · simp only [Act.put, List.setIfInBounds_toArray, List.set_cons_zero, List.set_cons_succ, i64_w, i32_w]
            rfl
          refine take_ (i := 7) (N := some 16) (v := ?_) (a' := ?_) #[true, true, true, true, true, true, true, true, false, false, false, false, false, false] rfl rfl (take_ofW HT_.out HW_.out (by kernel_rfl)) (fun _ _ _ h => h) (Or.inl ⟨by rfl, ?_⟩) hHeld ?_ ?_
          rotate_left
          · rintro w' ⟨s0, s1⟩
            go_simp
            with_reducible rfl
          rotate_left
          · simp only [Act.put, List.setIfInBounds_toArray, List.set_cons_zero, List.set_cons_succ, i64_w, i32_w]
            rfl
          refine one_ (i := 8) (N := some 17) #[true, true, true, true, true, true, true, true, true, false, false, false, false, false] rfl rfl (one_of HT_.out (by kernel_rfl)) (by decide) (fun K hK => ?_)
          refine goes_ Tryd.func36 (by kernel_rfl) rfl #[.string s0_0, .int .i64 s0_1] (by rfl) rfl rfl (by (try simp only [List.map_toArray, List.map_cons, List.map_nil]); first | done | rfl | (simp only [List.length_drop, List.length_take]; rfl)) ?_
          with_reducible refine (utf_Rune.calls k s0_0 s0_1 t166 t167 _ ?side1 A2.out).mono ?_
          (case side1 => first | exact HT.out | exact Tabs.below HT.out (by repeat (first | (with_reducible first | exact HB.out | apply below_alloc | apply pw_below_drewN | apply below_drew1 | refine below_set ?_ (IsS36.ge HI0.out)) | exact HB.out)))
          rintro e w27 ⟨rfl, hb⟩
          have HS0_ := (hb.cell (World.block_lt_of_cell? _ _ (hHeld.1))).trans (hHeld.1)
          have HS1_ := (hb.cell (World.block_lt_of_cell? _ _ (hHeld.2))).trans (hHeld.2)
          refine ⟨_, rfl, ?_⟩
          have n0_ := Aside0.mk (IsS36.below (by repeat (first | (with_reducible first | exact HI0.out | apply IsS36.alloc | apply IsS36.drewN | apply IsS36.drew | apply IsS36.set_0 | apply IsS36.set_1 | apply IsS36.set_2 | apply IsS36.set_3) | exact HI0.out)) hb)
          have n1_ := Aside0.mk (Kq.trans (by repeat (first | (with_reducible first | exact HK.out | apply Kq.set_ | apply kq_drewN | apply kq_drew | apply kq_alloc) | exact HK.out)) (Kq.of_below hb g none) (.inl rfl))
          have n2_ := Aside0.mk (below_step (by repeat (first | (with_reducible first | exact HB.out | apply below_alloc | apply pw_below_drewN | apply below_drew1 | refine below_set ?_ (IsS36.ge HI0.out)) | exact HB.out)) hb)
          clear HI0; clear HK; clear HB
          have HI0 := n0_
          have HK := n1_
          have HB := n2_; (try clear hgl_); have hgl_ := hG2.out _ HB.out
          clear n0_ n1_ n2_
          (try clear hb)
          (try clear hb2)
          (try clear hk)
          (try clear hi)
          refine hK.out _ _ ⟨HS0_, HS1_⟩ (fun hHeld => ?_)
          clear hK K
          refine norm_ (a' := ?_) ?_ ?_
          rotate_left
          · show Act.put _ (some 17) _ = _
            simp only [Act.put, List.setIfInBounds_toArray, List.set_cons_zero, List.set_cons_succ, i64_w, i32_w]
            rfl
          refine pure_ (i := 9) (N := some 8) (v := ?_) (a' := ?_) #[true, true, true, true, true, true, true, true, true, true, false, false, false, false] rfl rfl (any_of HT_.out (by kernel_rfl)) (fun _ _ _ h => h) (Or.inl ⟨by rfl, ?_⟩) ?_ ?_
          rotate_left
          · intro w'
            go_simp
            with_reducible rfl
          rotate_left
          · simp only [Act.put, List.setIfInBounds_toArray, List.set_cons_zero, List.set_cons_succ, i64_w, i32_w]
            rfl
          refine pure_ (i := 10) (N := some 18) (v := ?_) (a' := ?_) #[true, true, true, true, true, true, true, true, true, true, true, false, false, false] rfl rfl (any_of HT_.out (by kernel_rfl)) (fun _ _ _ h => h) (Or.inl ⟨by rfl, ?_⟩) ?_ ?_
          rotate_left
          · intro w'
            go_simp
            with_reducible rfl
          rotate_left
          · simp only [Act.put, List.setIfInBounds_toArray, List.set_cons_zero, List.set_cons_succ, i64_w, i32_w]
            rfl
          refine pure_ (i := 11) (N := some 19) (v := ?_) (a' := ?_) #[true, true, true, true, true, true, true, true, true, true, true, true, false, false] rfl rfl (any_of HT_.out (by kernel_rfl)) (fun _ _ _ h => h) (Or.inl ⟨by rfl, ?_⟩) ?_ ?_
          rotate_left
          · intro w'
            go_simp
            with_reducible rfl
          rotate_left
          · simp only [Act.put, List.setIfInBounds_toArray, List.set_cons_zero, List.set_cons_succ, i64_w, i32_w]
            rfl
          refine pure_ (i := 12) (N := some 3) (v := ?_) (a' := ?_) #[true, true, true, true, true, true, true, true, true, true, true, true, true, false] rfl rfl (any_of HT_.out (by kernel_rfl)) (fun _ _ _ h => h) (Or.inl ⟨by rfl, ?_⟩) ?_ ?_
          rotate_left
          · intro w'
            go_simp
            with_reducible rfl
          rotate_left
          · simp only [Act.put, List.setIfInBounds_toArray, List.set_cons_zero, List.set_cons_succ, i64_w, i32_w]
            rfl
          refine pure_ (i := 13) (N := some 4) (v := ?_) (a' := ?_) #[true, true, true, true, true, true, true, true, true, true, true, true, true, true] rfl rfl (any_of HT_.out (by kernel_rfl)) (fun _ _ _ h => h) (Or.inl ⟨by rfl, ?_⟩) ?_ ?_
          rotate_left
          · intro w'
            go_simp
            with_reducible rfl
          rotate_left
          · simp only [Act.put, List.setIfInBounds_toArray, List.set_cons_zero, List.set_cons_succ, i64_w, i32_w]
            rfl
          refine done_ (done_of HT_.out (by kernel_rfl)) ?_
          obtain ⟨tvz28, nvz28, HGz28, hgz28, hRz28, hNz28⟩ := HI0.out; have hcz28_0 := cellS36_0 HGz28; have hcz28_1 := cellS36_1 HGz28; have hcz28_2 := cellS36_2 HGz28; have hcz28_3 := cellS36_3 HGz28; have hfz28_0 := blk_frozen HGz28 0; have hfz28_1 := blk_frozen HGz28 1; have hfz28_2 := blk_frozen HGz28 2; have hfz28_3 := blk_frozen HGz28 3; clear HGz28 hgz28
          try go_wp2_with (first | ((with_reducible refine gate_callee (f := 40) rfl ?_); refine goesL_ (some 81) rfl rfl Tryd.func40 (by kernel_rfl) rfl #[.int .i32 t166] rfl (by (try simp only [List.map_toArray, List.map_cons, List.map_nil]); first | done | rfl | (simp only [List.length_drop, List.length_take]; rfl)) ?_; (with_reducible refine (utf_Blank.calls t166 true _ A24.out).mono ?_); rintro e w' ⟨rfl, ⟨nd, rfl⟩⟩; refine ⟨_, rfl, ?_⟩))
          go_ret
          exact ⟨by first | rfl | (simp [errW_none, errW_some] <;> rfl) | (simp [*, errW_none, errW_some] <;> rfl), by repeat (first | (with_reducible first | exact HI0.out | apply IsS36.alloc | apply IsS36.drewN | apply IsS36.drew | apply IsS36.set_0 | apply IsS36.set_1 | apply IsS36.set_2 | apply IsS36.set_3) | exact HI0.out), by repeat (first | (with_reducible first | exact HB.out | apply below_alloc | apply pw_below_drewN | apply below_drew1 | refine below_set ?_ (IsS36.ge HI0.out)) | exact HB.out), by repeat (first | (with_reducible first | exact HK.out | apply Kq.set_ | apply kq_drewN | apply kq_drew | apply kq_alloc) | exact HK.out)⟩
        · replace c25 := Bool.eq_false_iff.mpr c25
          subst c25
          have H1 : (if 0 ≤ s0_1 then (if s0_1 ≤ (s0_0.size : Int) then ((strings_HasPrefix.f (s0_0.extract (s0_1 : Int).toNat s0_0.size) (⟨#[47, 47]⟩ : ByteArray)).bind fun t186 => (if t186 = true then (golex_scanner_step.j0 k t166 s0_1 true s0_0 s0_1 s0_2 s0_3) else ((strings_HasPrefix.f (s0_0.extract (s0_1 : Int).toNat s0_0.size) (⟨#[47, 42]⟩ : ByteArray)).bind fun t187 => (golex_scanner_step.j0 k t166 s0_1 t187 s0_0 s0_1 s0_2 s0_3)))) else (none)) else (none)) = some (r1, r2, r3, r4, r5) := by rw [if_neg (show ¬ (false = true) by decide)] at H; exact H
          clear H
          have H := H1
          clear H1; have HC29 := Aside0.mk H; clear H
          go_enter Tryd.func25, Tryd.ntmps25
          try go_wp2
          have n0_ := Aside0.mk (IsS36.drew HI0.out)
          have n1_ := Aside0.mk (kq_drew HK.out)
          have n2_ := Aside0.mk (below_drew1 HB.out)
          clear HI0; clear HK; clear HB
          have HI0 := n0_
          have HK := n1_
          have HB := n2_; (try clear hgl_); have hgl_ := hG2.out _ HB.out
          clear n0_ n1_ n2_
          refine start_ (n := 14) (S := fun w' => w'.cell? ⟨g, 0, none⟩ = some (.string s0_0) ∧ w'.cell? ⟨g, 1, none⟩ = some (.int .i64 s0_1)) (ds := []) #[false, false, false, false, false, false, false, false, false, false, false, false, false, false] (by kernel_rfl) rfl rfl ⟨IsS36.cell_0 HI0.out, IsS36.cell_1 HI0.out⟩ (fun hHeld => ?_); refine with_tabW golex_scanner_step.tab1 golex_scanner_step.bits1 (fun HT_ HW_ => ?_)
          generalize w.drew = w30 at HI0 HK HB hHeld ⊢
          refine pure_ (i := 0) (N := some 9) (v := ?_) (a' := ?_) #[true, false, false, false, false, false, false, false, false, false, false, false, false, false] rfl rfl (any_of HT_.out (by kernel_rfl)) (fun _ _ _ h => h) (Or.inl ⟨by rfl, ?_⟩) ?_ ?_
          rotate_left
          · intro w'
            go_simp
            with_reducible rfl
          rotate_left
          · simp only [Act.put, List.setIfInBounds_toArray, List.set_cons_zero, List.set_cons_succ, i64_w, i32_w]
            rfl
          refine pure_ (i := 1) (N := some 10) (v := ?_) (a' := ?_) #[true, true, false, false, false, false, false, false, false, false, false, false, false, false] rfl rfl (any_of HT_.out (by kernel_rfl)) (fun _ _ _ h => h) (Or.inl ⟨by rfl, ?_⟩) ?_ ?_
          rotate_left
          · intro w'
            go_simp
            with_reducible rfl
          rotate_left
          · simp only [Act.put, List.setIfInBounds_toArray, List.set_cons_zero, List.set_cons_succ, i64_w, i32_w]
            rfl
          refine pure_ (i := 2) (N := some 11) (v := ?_) (a' := ?_) #[true, true, true, false, false, false, false, false, false, false, false, false, false, false] rfl rfl (any_of HT_.out (by kernel_rfl)) (fun _ _ _ h => h) (Or.inl ⟨by rfl, ?_⟩) ?_ ?_
          rotate_left
          · intro w'
            go_simp
            with_reducible rfl
          rotate_left
          · simp only [Act.put, List.setIfInBounds_toArray, List.set_cons_zero, List.set_cons_succ, i64_w, i32_w]
            rfl
          refine pure_ (i := 4) (N := some 13) (v := ?_) (a' := ?_) #[true, true, true, false, true, false, false, false, false, false, false, false, false, false] rfl rfl (any_of HT_.out (by kernel_rfl)) (fun _ _ _ h => h) (Or.inl ⟨by rfl, ?_⟩) ?_ ?_
          rotate_left
          · intro w'
            go_simp
            with_reducible rfl
          rotate_left
          · simp only [Act.put, List.setIfInBounds_toArray, List.set_cons_zero, List.set_cons_succ, i64_w, i32_w]
            rfl
          refine pure_ (i := 5) (N := some 14) (v := ?_) (a' := ?_) #[true, true, true, false, true, true, false, false, false, false, false, false, false, false] rfl rfl (any_of HT_.out (by kernel_rfl)) (fun _ _ _ h => h) (Or.inl ⟨by rfl, ?_⟩) ?_ ?_
          rotate_left
          · intro w'
            go_simp
            with_reducible rfl
          rotate_left
          · simp only [Act.put, List.setIfInBounds_toArray, List.set_cons_zero, List.set_cons_succ, i64_w, i32_w]
            rfl
          refine pure_ (i := 6) (N := some 15) (v := ?_) (a' := ?_) #[true, true, true, false, true, true, true, false, false, false, false, false, false, false] rfl rfl (any_of HT_.out (by kernel_rfl)) (fun _ _ _ h => h) (Or.inl ⟨by rfl, ?_⟩) ?_ ?_
          rotate_left
          · intro w'
            go_simp
            with_reducible rfl
          rotate_left
          · simp only [Act.put, List.setIfInBounds_toArray, List.set_cons_zero, List.set_cons_succ, i64_w, i32_w]
            rfl
          refine take_ (i := 3) (N := some 12) (v := ?_) (a' := ?_) #[true, true, true, true, true, true, true, false, false, false, false, false, false, false] rfl rfl (take_ofW HT_.out HW_.out (by kernel_rfl)) (fun _ _ _ h => h) (Or.inl ⟨by rfl, ?_⟩) hHeld ?_ ?_
          rotate_left
          · rintro w' ⟨s0, s1⟩
            go_simp
            with_reducible rfl
          rotate_left
          · simp only [Act.put, List.setIfInBounds_toArray, List.set_cons_zero, List.set_cons_succ, i64_w, i32_w]
            rfl
          refine take_ (i := 7) (N := some 16) (v := ?_) (a' := ?_) #[true, true, true, true, true, true, true, true, false, false, false, false, false, false] rfl rfl (take_ofW HT_.out HW_.out (by kernel_rfl)) (fun _ _ _ h => h) (Or.inl ⟨by rfl, ?_⟩) hHeld ?_ ?_
          rotate_left
          · rintro w' ⟨s0, s1⟩
            go_simp
            with_reducible rfl
          rotate_left
          · simp only [Act.put, List.setIfInBounds_toArray, List.set_cons_zero, List.set_cons_succ, i64_w, i32_w]
            rfl
          refine one_ (i := 8) (N := some 17) #[true, true, true, true, true, true, true, true, true, false, false, false, false, false] rfl rfl (one_of HT_.out (by kernel_rfl)) (by decide) (fun K hK => ?_)
          refine goes_ Tryd.func36 (by kernel_rfl) rfl #[.string s0_0, .int .i64 s0_1] (by rfl) rfl rfl (by (try simp only [List.map_toArray, List.map_cons, List.map_nil]); first | done | rfl | (simp only [List.length_drop, List.length_take]; rfl)) ?_
          with_reducible refine (utf_Rune.calls k s0_0 s0_1 t166 t167 _ ?side1 A2.out).mono ?_
          (case side1 => first | exact HT.out | exact Tabs.below HT.out (by repeat (first | (with_reducible first | exact HB.out | apply below_alloc | apply pw_below_drewN | apply below_drew1 | refine below_set ?_ (IsS36.ge HI0.out)) | exact HB.out)))
          rintro e w31 ⟨rfl, hb⟩
          have HS0_ := (hb.cell (World.block_lt_of_cell? _ _ (hHeld.1))).trans (hHeld.1)
          have HS1_ := (hb.cell (World.block_lt_of_cell? _ _ (hHeld.2))).trans (hHeld.2)
          refine ⟨_, rfl, ?_⟩
          have n0_ := Aside0.mk (IsS36.below (by repeat (first | (with_reducible first | exact HI0.out | apply IsS36.alloc | apply IsS36.drewN | apply IsS36.drew | apply IsS36.set_0 | apply IsS36.set_1 | apply IsS36.set_2 | apply IsS36.set_3) | exact HI0.out)) hb)
          have n1_ := Aside0.mk (Kq.trans (by repeat (first | (with_reducible first | exact HK.out | apply Kq.set_ | apply kq_drewN | apply kq_drew | apply kq_alloc) | exact HK.out)) (Kq.of_below hb g none) (.inl rfl))
          have n2_ := Aside0.mk (below_step (by repeat (first | (with_reducible first | exact HB.out | apply below_alloc | apply pw_below_drewN | apply below_drew1 | refine below_set ?_ (IsS36.ge HI0.out)) | exact HB.out)) hb)
          clear HI0; clear HK; clear HB
          have HI0 := n0_
          have HK := n1_
          have HB := n2_; (try clear hgl_); have hgl_ := hG2.out _ HB.out
          clear n0_ n1_ n2_
          (try clear hb)
          (try clear hb2)
          (try clear hk)
          (try clear hi)
          refine hK.out _ _ ⟨HS0_, HS1_⟩ (fun hHeld => ?_)
          clear hK K
          refine norm_ (a' := ?_) ?_ ?_
          rotate_left
          · show Act.put _ (some 17) _ = _
            simp only [Act.put, List.setIfInBounds_toArray, List.set_cons_zero, List.set_cons_succ, i64_w, i32_w]
            rfl
          refine pure_ (i := 9) (N := some 8) (v := ?_) (a' := ?_) #[true, true, true, true, true, true, true, true, true, true, false, false, false, false] rfl rfl (any_of HT_.out (by kernel_rfl)) (fun _ _ _ h => h) (Or.inl ⟨by rfl, ?_⟩) ?_ ?_
          rotate_left
          · intro w'
            go_simp
            with_reducible rfl
          rotate_left
          · simp only [Act.put, List.setIfInBounds_toArray, List.set_cons_zero, List.set_cons_succ, i64_w, i32_w]
            rfl
          refine pure_ (i := 10) (N := some 18) (v := ?_) (a' := ?_) #[true, true, true, true, true, true, true, true, true, true, true, false, false, false] rfl rfl (any_of HT_.out (by kernel_rfl)) (fun _ _ _ h => h) (Or.inl ⟨by rfl, ?_⟩) ?_ ?_
          rotate_left
          · intro w'
            go_simp
            with_reducible rfl
          rotate_left
          · simp only [Act.put, List.setIfInBounds_toArray, List.set_cons_zero, List.set_cons_succ, i64_w, i32_w]
            rfl
          refine pure_ (i := 11) (N := some 19) (v := ?_) (a' := ?_) #[true, true, true, true, true, true, true, true, true, true, true, true, false, false] rfl rfl (any_of HT_.out (by kernel_rfl)) (fun _ _ _ h => h) (Or.inl ⟨by rfl, ?_⟩) ?_ ?_
          rotate_left
          · intro w'
            go_simp
            with_reducible rfl
          rotate_left
          · simp only [Act.put, List.setIfInBounds_toArray, List.set_cons_zero, List.set_cons_succ, i64_w, i32_w]
            rfl
          refine pure_ (i := 12) (N := some 3) (v := ?_) (a' := ?_) #[true, true, true, true, true, true, true, true, true, true, true, true, true, false] rfl rfl (any_of HT_.out (by kernel_rfl)) (fun _ _ _ h => h) (Or.inl ⟨by rfl, ?_⟩) ?_ ?_
          rotate_left
          · intro w'
            go_simp
            with_reducible rfl
          rotate_left
          · simp only [Act.put, List.setIfInBounds_toArray, List.set_cons_zero, List.set_cons_succ, i64_w, i32_w]
            rfl
          refine pure_ (i := 13) (N := some 4) (v := ?_) (a' := ?_) #[true, true, true, true, true, true, true, true, true, true, true, true, true, true] rfl rfl (any_of HT_.out (by kernel_rfl)) (fun _ _ _ h => h) (Or.inl ⟨by rfl, ?_⟩) ?_ ?_
          rotate_left
          · intro w'
            go_simp
            with_reducible rfl
          rotate_left
          · simp only [Act.put, List.setIfInBounds_toArray, List.set_cons_zero, List.set_cons_succ, i64_w, i32_w]
            rfl
          refine done_ (done_of HT_.out (by kernel_rfl)) ?_
          obtain ⟨tvz32, nvz32, HGz32, hgz32, hRz32, hNz32⟩ := HI0.out; have hcz32_0 := cellS36_0 HGz32; have hcz32_1 := cellS36_1 HGz32; have hcz32_2 := cellS36_2 HGz32; have hcz32_3 := cellS36_3 HGz32; have hfz32_0 := blk_frozen HGz32 0; have hfz32_1 := blk_frozen HGz32 1; have hfz32_2 := blk_frozen HGz32 2; have hfz32_3 := blk_frozen HGz32 3; clear HGz32 hgz32
          go_upto_region 22 with (first | ((with_reducible refine gate_callee (f := 40) rfl ?_); refine goesL_ (some 81) rfl rfl Tryd.func40 (by kernel_rfl) rfl #[.int .i32 t166] rfl (by (try simp only [List.map_toArray, List.map_cons, List.map_nil]); first | done | rfl | (simp only [List.length_drop, List.length_take]; rfl)) ?_; (with_reducible refine (utf_Blank.calls t166 false _ A24.out).mono ?_); rintro e w' ⟨rfl, ⟨nd, rfl⟩⟩; refine ⟨_, rfl, ?_⟩))
          (try simp only [Act.put, List.setIfInBounds_toArray, List.set_cons_zero, List.set_cons_succ])
          go_cut [90] (fun v90 wc => ∃ (kq : Nat) (x90_28 : Bool), v90 = .bool x90_28 ∧ Aside0 (golex_scanner_step.j0 kq t166 s0_1 x90_28 s0_0 s0_1 s0_2 s0_3 = some (r1, r2, r3, r4, r5)) ∧ Aside0 (kq ≤ k) ∧ Aside0 (IsS36 w0 wc g s0_0 s0_1 s0_2 s0_3) ∧ Aside0 (Kq w wc g none) ∧ Aside0 (Below w0.heap.size w0 wc))
          case first =>
            have H := HC29.out
            clear HC29
            by_cases c33 : 0 ≤ s0_1
            · rw [if_pos c33] at H
              have c33b0 := eq_true c33
              have c33b1 : decide (0 ≤ s0_1) = true := decide_eq_true c33
              clear c33
              by_cases c34 : s0_1 ≤ (s0_0.size : Int)
              · rw [if_pos c34] at H
                have c34b0 := eq_true c34
                have c34b1 : decide (s0_1 ≤ (s0_0.size : Int)) = true := decide_eq_true c34
                clear c34
                replace H := Option.bind_eq_some_iff.mp H
                obtain ⟨t186, A350, H⟩ := H
                replace H : (if t186 = true then (golex_scanner_step.j0 k t166 s0_1 true s0_0 s0_1 s0_2 s0_3) else ((strings_HasPrefix.f (s0_0.extract (s0_1 : Int).toNat s0_0.size) (⟨#[47, 42]⟩ : ByteArray)).bind fun t187 => (golex_scanner_step.j0 k t166 s0_1 t187 s0_0 s0_1 s0_2 s0_3))) = some (r1, r2, r3, r4, r5) := H
                have A35 := Aside0.mk A350; clear A350
                by_cases c36 : t186 = true
                · subst c36
                  have H1 : (golex_scanner_step.j0 k t166 s0_1 true s0_0 s0_1 s0_2 s0_3) = some (r1, r2, r3, r4, r5) := by rw [if_pos rfl] at H; exact H
                  clear H
                  have H := H1
                  clear H1
                  have H' := Aside0.mk H
                  clear H; obtain ⟨tvz37, nvz37, HGz37, hgz37, hRz37, hNz37⟩ := HI0.out; have hcz37_0 := cellS36_0 HGz37; have hcz37_1 := cellS36_1 HGz37; have hcz37_2 := cellS36_2 HGz37; have hcz37_3 := cellS36_3 HGz37; have hfz37_0 := blk_frozen HGz37 0; have hfz37_1 := blk_frozen HGz37 1; have hfz37_2 := blk_frozen HGz37 2; have hfz37_3 := blk_frozen HGz37 3; clear HGz37 hgz37
                  go_wp2_with (first | ((with_reducible refine gate_callee (f := 41) rfl ?_); refine goesL_ (some 97) rfl rfl Tryd.func41 (by kernel_rfl) rfl #[.string (s0_0.extract (s0_1 : Int).toNat s0_0.size), .string (⟨#[47, 47]⟩ : ByteArray)] rfl (by (try simp only [List.map_toArray, List.map_cons, List.map_nil]); first | done | rfl | (simp only [List.length_drop, List.length_take]; rfl)) ?_; (with_reducible refine (strings_HasPrefix.calls (s0_0.extract (s0_1 : Int).toNat s0_0.size) (⟨#[47, 47]⟩ : ByteArray) true _ A35.out).mono ?_); rintro e w' ⟨rfl, ⟨nd, rfl⟩⟩; refine ⟨_, rfl, ?_⟩))
                  go_meet
                  case rel => exact ⟨_, (true), (by first | rfl | (simp; done) | (simp [*]; done)), H', ⟨by first | omega | exact Nat.le_refl _⟩, ⟨by repeat (first | (with_reducible first | exact HI0.out | apply IsS36.alloc | apply IsS36.drewN | apply IsS36.drew | apply IsS36.set_0 | apply IsS36.set_1 | apply IsS36.set_2 | apply IsS36.set_3) | exact HI0.out)⟩, ⟨by repeat (first | (with_reducible first | exact HK.out | apply Kq.set_ | apply kq_drewN | apply kq_drew | apply kq_alloc) | exact HK.out)⟩, ⟨by repeat (first | (with_reducible first | exact HB.out | apply below_alloc | apply pw_below_drewN | apply below_drew1 | refine below_set ?_ (IsS36.ge HI0.out)) | exact HB.out)⟩⟩
                · replace c36 := Bool.eq_false_iff.mpr c36
                  subst c36
                  have H1 : ((strings_HasPrefix.f (s0_0.extract (s0_1 : Int).toNat s0_0.size) (⟨#[47, 42]⟩ : ByteArray)).bind fun t187 => (golex_scanner_step.j0 k t166 s0_1 t187 s0_0 s0_1 s0_2 s0_3)) = some (r1, r2, r3, r4, r5) := by rw [if_neg (show ¬ (false = true) by decide)] at H; exact H
                  clear H
                  have H := H1
                  clear H1
                  have c38b0 := eq_true (of_decide_eq_true (by first | (with_reducible assumption) | assumption) : 0 ≤ s0_1)
                  have c39b0 := eq_true (of_decide_eq_true (by first | (with_reducible assumption) | assumption) : s0_1 ≤ (s0_0.size : Int))
                  replace H := Option.bind_eq_some_iff.mp H
                  obtain ⟨t187, A400, H⟩ := H
                  replace H : (golex_scanner_step.j0 k t166 s0_1 t187 s0_0 s0_1 s0_2 s0_3) = some (r1, r2, r3, r4, r5) := H
                  have A40 := Aside0.mk A400; clear A400
                  have H' := Aside0.mk H
                  clear H; obtain ⟨tvz41, nvz41, HGz41, hgz41, hRz41, hNz41⟩ := HI0.out; have hcz41_0 := cellS36_0 HGz41; have hcz41_1 := cellS36_1 HGz41; have hcz41_2 := cellS36_2 HGz41; have hcz41_3 := cellS36_3 HGz41; have hfz41_0 := blk_frozen HGz41 0; have hfz41_1 := blk_frozen HGz41 1; have hfz41_2 := blk_frozen HGz41 2; have hfz41_3 := blk_frozen HGz41 3; clear HGz41 hgz41
                  go_wp2_with (first | ((with_reducible refine gate_callee (f := 41) rfl ?_); refine goesL_ (some 97) rfl rfl Tryd.func41 (by kernel_rfl) rfl #[.string (s0_0.extract (s0_1 : Int).toNat s0_0.size), .string (⟨#[47, 47]⟩ : ByteArray)] rfl (by (try simp only [List.map_toArray, List.map_cons, List.map_nil]); first | done | rfl | (simp only [List.length_drop, List.length_take]; rfl)) ?_; (with_reducible refine (strings_HasPrefix.calls (s0_0.extract (s0_1 : Int).toNat s0_0.size) (⟨#[47, 47]⟩ : ByteArray) false _ A35.out).mono ?_); rintro e w' ⟨rfl, ⟨nd, rfl⟩⟩; refine ⟨_, rfl, ?_⟩) | (go_at_call 41; (with_reducible refine (strings_HasPrefix.calls (s0_0.extract (s0_1 : Int).toNat s0_0.size) (⟨#[47, 42]⟩ : ByteArray) t187 _ A40.out).mono ?_); rintro e w' ⟨rfl, ⟨nd, rfl⟩⟩))
                  go_meet
                  case rel => exact ⟨_, (t187), (by first | rfl | (simp; done) | (simp [*]; done)), H', ⟨by first | omega | exact Nat.le_refl _⟩, ⟨by repeat (first | (with_reducible first | exact HI0.out | apply IsS36.alloc | apply IsS36.drewN | apply IsS36.drew | apply IsS36.set_0 | apply IsS36.set_1 | apply IsS36.set_2 | apply IsS36.set_3) | exact HI0.out)⟩, ⟨by repeat (first | (with_reducible first | exact HK.out | apply Kq.set_ | apply kq_drewN | apply kq_drew | apply kq_alloc) | exact HK.out)⟩, ⟨by repeat (first | (with_reducible first | exact HB.out | apply below_alloc | apply pw_below_drewN | apply below_drew1 | refine below_set ?_ (IsS36.ge HI0.out)) | exact HB.out)⟩⟩
              · rw [if_neg c34] at H
                exact absurd H (by simp)
            · rw [if_neg c33] at H
              exact absurd H (by simp)
          case rest =>
            clear HC29; (try clear c1); (try clear c2); (try clear p2); (try clear c3); (try clear c4); (try clear p6); (try clear c11); (try clear c11b0); (try clear c17); (try clear c17b0); (try clear c17b1); (try clear c25); (try clear c33); (try clear c33b0); (try clear c33b1); (try clear c34); (try clear c34b0); (try clear c34b1); (try clear c36); (try clear c37); (try clear c38); (try clear c38b0); (try clear c39); (try clear c39b0); (try clear c40); (try clear c41); (try clear hcz21_0); (try clear hcz21_1); (try clear hcz21_2); (try clear hcz21_3); (try clear hcz23_0); (try clear hcz23_1); (try clear hcz23_2); (try clear hcz23_3); (try clear hcz28_0); (try clear hcz28_1)
            (try clear hcz28_2); (try clear hcz28_3); (try clear hcz32_0); (try clear hcz32_1); (try clear hcz32_2); (try clear hcz32_3); (try clear hcz37_0); (try clear hcz37_1); (try clear hcz37_2); (try clear hcz37_3); (try clear hcz41_0); (try clear hcz41_1); (try clear hcz41_2); (try clear hcz41_3); (try clear hfz15_3); (try clear hfz21_0); (try clear hfz21_1); (try clear hfz21_2); (try clear hfz21_3); (try clear hfz23_0); (try clear hfz23_1); (try clear hfz23_2); (try clear hfz23_3); (try clear hfz28_0); (try clear hfz28_1); (try clear hfz28_2); (try clear hfz28_3); (try clear hfz32_0); (try clear hfz32_1); (try clear hfz32_2); (try clear hfz32_3); (try clear hfz37_0)
            (try clear hfz37_1); (try clear hfz37_2); (try clear hfz37_3); (try clear hfz41_0); (try clear hfz41_1); (try clear hfz41_2); (try clear hfz41_3); obtain ⟨kq, x90_28, rfl, HA, HJ28, HI0, HK, HB⟩ := hcut
            cases kq with
            | zero => exact absurd HA.out (by simp [golex_scanner_step.j0])
            | succ kj28 =>
              have H := HA.out
              clear HA
              simp only [golex_scanner_step.j0] at H
              by_cases c42 : x90_28 = true
              · subst c42
                have H1 : ((golex_scanner_note.f kj28 s0_0 s0_1 s0_2 s0_3).bind fun bt188 => (some (bt188.1, bt188.2.1, bt188.2.2.1, bt188.2.2.2.1, bt188.2.2.2.2))) = some (r1, r2, r3, r4, r5) := by rw [if_pos rfl] at H; exact H
                clear H
                have H := H1
                clear H1
                replace H := Option.bind_eq_some_iff.mp H
                obtain ⟨⟨t188, t189, t190, t191, t192⟩, A430, H⟩ := H
                replace H : (some (t188, t189, t190, t191, t192)) = some (r1, r2, r3, r4, r5) := H
                have A43 := Aside0.mk A430; clear A430
                simp only [Option.some.injEq, Prod.mk.injEq] at H
                obtain ⟨rfl, rfl, rfl, rfl, rfl⟩ := H
                go_wp2_with (first | ((with_reducible refine gate_callee (f := 42) rfl ?_); refine goesL_ (some 108) rfl rfl Tryd.func42 (by kernel_rfl) rfl #[.pointer (some ⟨g, 0, none⟩)] rfl (by (try simp only [List.map_toArray, List.map_cons, List.map_nil]); first | done | rfl | (simp only [List.length_drop, List.length_take]; rfl)) ?_; (with_reducible refine (golex_scanner_note.calls kj28 g s0_0 s0_1 s0_2 s0_3 t188 t189 t190 t191 t192 w0 _ ?side1 ?side2 ?side3 A43.out).mono ?_); (case side1 => first | exact HT.out | exact Tabs.below HT.out (by repeat (first | (with_reducible first | exact HB.out | apply below_alloc | apply pw_below_drewN | apply below_drew1 | refine below_set ?_ (IsS36.ge HI0.out)) | exact HB.out))); (case side2 => repeat (first | (with_reducible first | exact HI0.out | apply IsS36.alloc | apply IsS36.drewN | apply IsS36.drew | apply IsS36.set_0 | apply IsS36.set_1 | apply IsS36.set_2 | apply IsS36.set_3) | exact HI0.out)); (case side3 => repeat (first | (with_reducible first | exact HB.out | apply below_alloc | apply pw_below_drewN | apply below_drew1 | refine below_set ?_ (IsS36.ge HI0.out)) | exact HB.out)); rintro e w44 ⟨rfl, hi, hb, hk⟩; refine ⟨_, rfl, ?_⟩; have n0_ := Aside0.mk (Kq.trans (by repeat (first | (with_reducible first | exact HK.out | apply Kq.set_ | apply kq_drewN | apply kq_drew | apply kq_alloc) | exact HK.out)) hk (.inl rfl)); have n1_ := Aside0.mk (hb); have n2_ := Aside0.mk (hi); clear HK; clear HB; clear HI0; have HK := n0_; have HB := n1_; (try clear hgl_); have hgl_ := hG2.out _ HB.out; have HI0 := n2_; clear n0_ n1_ n2_; (try clear hb); (try clear hb2); (try clear hk); (try clear hi)))
                go_ret
                exact ⟨by first | rfl | (simp [errW_none, errW_some] <;> rfl) | (simp [*, errW_none, errW_some] <;> rfl), by repeat (first | (with_reducible first | exact HI0.out | apply IsS36.alloc | apply IsS36.drewN | apply IsS36.drew | apply IsS36.set_0 | apply IsS36.set_1 | apply IsS36.set_2 | apply IsS36.set_3) | exact HI0.out), by repeat (first | (with_reducible first | exact HB.out | apply below_alloc | apply pw_below_drewN | apply below_drew1 | refine below_set ?_ (IsS36.ge HI0.out)) | exact HB.out), by repeat (first | (with_reducible first | exact HK.out | apply Kq.set_ | apply kq_drewN | apply kq_drew | apply kq_alloc) | exact HK.out)⟩
              · replace c42 := Bool.eq_false_iff.mpr c42
                subst c42
                have H1 : ((utf_Letter.f t166).bind fun t193 => (if t193 = true then ((golex_scanner_run.f kj28 s0_0 s0_1 s0_2 s0_3 s0_1).bind fun bt194 => ((golex_scanner_put.f bt194.2.1 bt194.2.2.1 bt194.2.2.2.1 bt194.2.2.2.2 1 s0_1 bt194.1).bind fun bt199 => (some (true, bt199.1, bt199.2.1, bt199.2.2.1, bt199.2.2.2)))) else ((utf_Digit.f t166).bind fun t203 => (if t203 = true then (golex_scanner_step.j1 kj28 t166 s0_1 true s0_0 s0_1 s0_2 s0_3) else (if t166 = 46 then (if (wrap64 (s0_1 + 1)) < (s0_0.size : Int) then (if 0 ≤ (wrap64 (s0_1 + 1)) then ((utf_Digit.f (wrap32 (bt s0_0 (wrap64 (s0_1 + 1))))).bind fun t204 => (golex_scanner_step.j1 kj28 t166 s0_1 t204 s0_0 s0_1 s0_2 s0_3)) else (none)) else (golex_scanner_step.j1 kj28 t166 s0_1 false s0_0 s0_1 s0_2 s0_3)) else (golex_scanner_step.j1 kj28 t166 s0_1 false s0_0 s0_1 s0_2 s0_3)))))) = some (r1, r2, r3, r4, r5) := by rw [if_neg (show ¬ (false = true) by decide)] at H; exact H
                clear H
                have H := H1
                clear H1
                replace H := Option.bind_eq_some_iff.mp H
                obtain ⟨t193, A450, H⟩ := H
                replace H : (if t193 = true then ((golex_scanner_run.f kj28 s0_0 s0_1 s0_2 s0_3 s0_1).bind fun bt194 => ((golex_scanner_put.f bt194.2.1 bt194.2.2.1 bt194.2.2.2.1 bt194.2.2.2.2 1 s0_1 bt194.1).bind fun bt199 => (some (true, bt199.1, bt199.2.1, bt199.2.2.1, bt199.2.2.2)))) else ((utf_Digit.f t166).bind fun t203 => (if t203 = true then (golex_scanner_step.j1 kj28 t166 s0_1 true s0_0 s0_1 s0_2 s0_3) else (if t166 = 46 then (if (wrap64 (s0_1 + 1)) < (s0_0.size : Int) then (if 0 ≤ (wrap64 (s0_1 + 1)) then ((utf_Digit.f (wrap32 (bt s0_0 (wrap64 (s0_1 + 1))))).bind fun t204 => (golex_scanner_step.j1 kj28 t166 s0_1 t204 s0_0 s0_1 s0_2 s0_3)) else (none)) else (golex_scanner_step.j1 kj28 t166 s0_1 false s0_0 s0_1 s0_2 s0_3)) else (golex_scanner_step.j1 kj28 t166 s0_1 false s0_0 s0_1 s0_2 s0_3))))) = some (r1, r2, r3, r4, r5) := H
                have A45 := Aside0.mk A450; clear A450
                by_cases c46 : t193 = true
                · subst c46
                  have H1 : ((golex_scanner_run.f kj28 s0_0 s0_1 s0_2 s0_3 s0_1).bind fun bt194 => ((golex_scanner_put.f bt194.2.1 bt194.2.2.1 bt194.2.2.2.1 bt194.2.2.2.2 1 s0_1 bt194.1).bind fun bt199 => (some (true, bt199.1, bt199.2.1, bt199.2.2.1, bt199.2.2.2)))) = some (r1, r2, r3, r4, r5) := by rw [if_pos rfl] at H; exact H
                  clear H
                  have H := H1
                  clear H1
                  replace H := Option.bind_eq_some_iff.mp H
                  obtain ⟨⟨t194, t195, t196, t197, t198⟩, A470, H⟩ := H
                  replace H : ((golex_scanner_put.f t195 t196 t197 t198 1 s0_1 t194).bind fun bt199 => (some (true, bt199.1, bt199.2.1, bt199.2.2.1, bt199.2.2.2))) = some (r1, r2, r3, r4, r5) := H
                  have A47 := Aside0.mk A470; clear A470
                  replace H := Option.bind_eq_some_iff.mp H
                  obtain ⟨⟨t199, t200, t201, t202⟩, A480, H⟩ := H
                  replace H : (some (true, t199, t200, t201, t202)) = some (r1, r2, r3, r4, r5) := H
                  have A48 := Aside0.mk A480; clear A480
                  simp only [Option.some.injEq, Prod.mk.injEq] at H
                  obtain ⟨rfl, rfl, rfl, rfl, rfl⟩ := H
                  go_wp2_with (first | ((with_reducible refine gate_callee (f := 43) rfl ?_); refine goesL_ (some 111) rfl rfl Tryd.func43 (by kernel_rfl) rfl #[.int .i32 t166] rfl (by (try simp only [List.map_toArray, List.map_cons, List.map_nil]); first | done | rfl | (simp only [List.length_drop, List.length_take]; rfl)) ?_; (with_reducible refine (utf_Letter.calls t166 true _ A45.out).mono ?_); rintro e w' ⟨rfl, ⟨nd, rfl⟩⟩; refine ⟨_, rfl, ?_⟩) | ((with_reducible refine gate_callee (f := 44) rfl ?_); refine goesL_ (some 116) rfl rfl Tryd.func44 (by kernel_rfl) rfl #[.pointer (some ⟨g, 0, none⟩), .int .i64 s0_1] rfl (by (try simp only [List.map_toArray, List.map_cons, List.map_nil]); first | done | rfl | (simp only [List.length_drop, List.length_take]; rfl)) ?_; (with_reducible refine (golex_scanner_run.calls kj28 g s0_0 s0_1 s0_2 s0_3 s0_1 t194 t195 t196 t197 t198 w0 _ ?side1 ?side2 ?side3 A47.out).mono ?_); (case side1 => first | exact HT.out | exact Tabs.below HT.out (by repeat (first | (with_reducible first | exact HB.out | apply below_alloc | apply pw_below_drewN | apply below_drew1 | refine below_set ?_ (IsS36.ge HI0.out)) | exact HB.out))); (case side2 => repeat (first | (with_reducible first | exact HI0.out | apply IsS36.alloc | apply IsS36.drewN | apply IsS36.drew | apply IsS36.set_0 | apply IsS36.set_1 | apply IsS36.set_2 | apply IsS36.set_3) | exact HI0.out)); (case side3 => repeat (first | (with_reducible first | exact HB.out | apply below_alloc | apply pw_below_drewN | apply below_drew1 | refine below_set ?_ (IsS36.ge HI0.out)) | exact HB.out)); rintro e w49 ⟨rfl, hi, hb, hk⟩; refine ⟨_, rfl, ?_⟩; have n0_ := Aside0.mk (Kq.trans (by repeat (first | (with_reducible first | exact HK.out | apply Kq.set_ | apply kq_drewN | apply kq_drew | apply kq_alloc) | exact HK.out)) hk (.inl rfl)); have n1_ := Aside0.mk (hb); have n2_ := Aside0.mk (hi); clear HK; clear HB; clear HI0; have HK := n0_; have HB := n1_; (try clear hgl_); have hgl_ := hG2.out _ HB.out; have HI0 := n2_; clear n0_ n1_ n2_; (try clear hb); (try clear hb2); (try clear hk); (try clear hi)) | ((with_reducible refine gate_callee (f := 38) rfl ?_); refine goesL_ (some 117) rfl rfl Tryd.func38 (by kernel_rfl) rfl #[.pointer (some ⟨g, 0, none⟩), .int .i64 1, .int .i64 s0_1, .int .i64 t194] rfl (by (try simp only [List.map_toArray, List.map_cons, List.map_nil]); first | done | rfl | (simp only [List.length_drop, List.length_take]; rfl)) ?_; (with_reducible refine (golex_scanner_put.calls g t195 t196 t197 t198 1 s0_1 t194 t199 t200 t201 t202 w0 _ ?side1 ?side2 ?side3 A48.out).mono ?_); (case side1 => first | exact HT.out | exact Tabs.below HT.out (by repeat (first | (with_reducible first | exact HB.out | apply below_alloc | apply pw_below_drewN | apply below_drew1 | refine below_set ?_ (IsS36.ge HI0.out)) | exact HB.out))); (case side2 => repeat (first | (with_reducible first | exact HI0.out | apply IsS36.alloc | apply IsS36.drewN | apply IsS36.drew | apply IsS36.set_0 | apply IsS36.set_1 | apply IsS36.set_2 | apply IsS36.set_3) | exact HI0.out)); (case side3 => repeat (first | (with_reducible first | exact HB.out | apply below_alloc | apply pw_below_drewN | apply below_drew1 | refine below_set ?_ (IsS36.ge HI0.out)) | exact HB.out)); rintro e w50 ⟨rfl, hi, hb, hk⟩; refine ⟨_, rfl, ?_⟩; have n0_ := Aside0.mk (Kq.trans (by repeat (first | (with_reducible first | exact HK.out | apply Kq.set_ | apply kq_drewN | apply kq_drew | apply kq_alloc) | exact HK.out)) hk (.inl rfl)); have n1_ := Aside0.mk (hb); have n2_ := Aside0.mk (hi); clear HK; clear HB; clear HI0; have HK := n0_; have HB := n1_; (try clear hgl_); have hgl_ := hG2.out _ HB.out; have HI0 := n2_; clear n0_ n1_ n2_; (try clear hb); (try clear hb2); (try clear hk); (try clear hi)))
                  go_ret
                  exact ⟨by first | rfl | (simp [errW_none, errW_some] <;> rfl) | (simp [*, errW_none, errW_some] <;> rfl), by repeat (first | (with_reducible first | exact HI0.out | apply IsS36.alloc | apply IsS36.drewN | apply IsS36.drew | apply IsS36.set_0 | apply IsS36.set_1 | apply IsS36.set_2 | apply IsS36.set_3) | exact HI0.out), by repeat (first | (with_reducible first | exact HB.out | apply below_alloc | apply pw_below_drewN | apply below_drew1 | refine below_set ?_ (IsS36.ge HI0.out)) | exact HB.out), by repeat (first | (with_reducible first | exact HK.out | apply Kq.set_ | apply kq_drewN | apply kq_drew | apply kq_alloc) | exact HK.out)⟩
                · replace c46 := Bool.eq_false_iff.mpr c46
                  subst c46
                  have H1 : ((utf_Digit.f t166).bind fun t203 => (if t203 = true then (golex_scanner_step.j1 kj28 t166 s0_1 true s0_0 s0_1 s0_2 s0_3) else (if t166 = 46 then (if (wrap64 (s0_1 + 1)) < (s0_0.size : Int) then (if 0 ≤ (wrap64 (s0_1 + 1)) then ((utf_Digit.f (wrap32 (bt s0_0 (wrap64 (s0_1 + 1))))).bind fun t204 => (golex_scanner_step.j1 kj28 t166 s0_1 t204 s0_0 s0_1 s0_2 s0_3)) else (none)) else (golex_scanner_step.j1 kj28 t166 s0_1 false s0_0 s0_1 s0_2 s0_3)) else (golex_scanner_step.j1 kj28 t166 s0_1 false s0_0 s0_1 s0_2 s0_3)))) = some (r1, r2, r3, r4, r5) := by rw [if_neg (show ¬ (false = true) by decide)] at H; exact H
                  clear H
                  have H := H1
                  clear H1; have HC51 := Aside0.mk H; clear H
                  go_upto_region 26 with (first | ((with_reducible refine gate_callee (f := 43) rfl ?_); refine goesL_ (some 111) rfl rfl Tryd.func43 (by kernel_rfl) rfl #[.int .i32 t166] rfl (by (try simp only [List.map_toArray, List.map_cons, List.map_nil]); first | done | rfl | (simp only [List.length_drop, List.length_take]; rfl)) ?_; (with_reducible refine (utf_Letter.calls t166 false _ A45.out).mono ?_); rintro e w' ⟨rfl, ⟨nd, rfl⟩⟩; refine ⟨_, rfl, ?_⟩))
                  (try simp only [Act.put, List.setIfInBounds_toArray, List.set_cons_zero, List.set_cons_succ])
                  go_cut [118] (fun v118 wc => ∃ (kq : Nat) (x118_50 : Bool), v118 = .bool x118_50 ∧ Aside0 (golex_scanner_step.j1 kq t166 s0_1 x118_50 s0_0 s0_1 s0_2 s0_3 = some (r1, r2, r3, r4, r5)) ∧ Aside0 (kq ≤ kj28) ∧ Aside0 (IsS36 w0 wc g s0_0 s0_1 s0_2 s0_3) ∧ Aside0 (Kq w wc g none) ∧ Aside0 (Below w0.heap.size w0 wc))
                  case first =>
                    have H := HC51.out
                    clear HC51
                    replace H := Option.bind_eq_some_iff.mp H
                    obtain ⟨t203, A520, H⟩ := H
                    replace H : (if t203 = true then (golex_scanner_step.j1 kj28 t166 s0_1 true s0_0 s0_1 s0_2 s0_3) else (if t166 = 46 then (if (wrap64 (s0_1 + 1)) < (s0_0.size : Int) then (if 0 ≤ (wrap64 (s0_1 + 1)) then ((utf_Digit.f (wrap32 (bt s0_0 (wrap64 (s0_1 + 1))))).bind fun t204 => (golex_scanner_step.j1 kj28 t166 s0_1 t204 s0_0 s0_1 s0_2 s0_3)) else (none)) else (golex_scanner_step.j1 kj28 t166 s0_1 false s0_0 s0_1 s0_2 s0_3)) else (golex_scanner_step.j1 kj28 t166 s0_1 false s0_0 s0_1 s0_2 s0_3))) = some (r1, r2, r3, r4, r5) := H
                    have A52 := Aside0.mk A520; clear A520
                    by_cases c53 : t203 = true
                    · subst c53
                      have H1 : (golex_scanner_step.j1 kj28 t166 s0_1 true s0_0 s0_1 s0_2 s0_3) = some (r1, r2, r3, r4, r5) := by rw [if_pos rfl] at H; exact H
                      clear H
                      have H := H1
                      clear H1
                      have H' := Aside0.mk H
                      clear H
                      go_wp2_with (first | ((with_reducible refine gate_callee (f := 45) rfl ?_); refine goesL_ (some 120) rfl rfl Tryd.func45 (by kernel_rfl) rfl #[.int .i32 t166] rfl (by (try simp only [List.map_toArray, List.map_cons, List.map_nil]); first | done | rfl | (simp only [List.length_drop, List.length_take]; rfl)) ?_; (with_reducible refine (utf_Digit.calls t166 true _ A52.out).mono ?_); rintro e w' ⟨rfl, ⟨nd, rfl⟩⟩; refine ⟨_, rfl, ?_⟩))
                      go_meet
                      case rel => exact ⟨_, (true), (by first | rfl | (simp; done) | (simp [*]; done)), H', ⟨by have := HJ28.out; first | omega | exact Nat.le_refl _⟩, ⟨by repeat (first | (with_reducible first | exact HI0.out | apply IsS36.alloc | apply IsS36.drewN | apply IsS36.drew | apply IsS36.set_0 | apply IsS36.set_1 | apply IsS36.set_2 | apply IsS36.set_3) | exact HI0.out)⟩, ⟨by repeat (first | (with_reducible first | exact HK.out | apply Kq.set_ | apply kq_drewN | apply kq_drew | apply kq_alloc) | exact HK.out)⟩, ⟨by repeat (first | (with_reducible first | exact HB.out | apply below_alloc | apply pw_below_drewN | apply below_drew1 | refine below_set ?_ (IsS36.ge HI0.out)) | exact HB.out)⟩⟩
                    · replace c53 := Bool.eq_false_iff.mpr c53
                      subst c53
                      have H1 : (if t166 = 46 then (if (wrap64 (s0_1 + 1)) < (s0_0.size : Int) then (if 0 ≤ (wrap64 (s0_1 + 1)) then ((utf_Digit.f (wrap32 (bt s0_0 (wrap64 (s0_1 + 1))))).bind fun t204 => (golex_scanner_step.j1 kj28 t166 s0_1 t204 s0_0 s0_1 s0_2 s0_3)) else (none)) else (golex_scanner_step.j1 kj28 t166 s0_1 false s0_0 s0_1 s0_2 s0_3)) else (golex_scanner_step.j1 kj28 t166 s0_1 false s0_0 s0_1 s0_2 s0_3)) = some (r1, r2, r3, r4, r5) := by rw [if_neg (show ¬ (false = true) by decide)] at H; exact H
                      clear H
                      have H := H1
                      clear H1
                      by_cases c54 : t166 = 46
                      · rw [if_pos c54] at H
                        have c54b0 : (t166 == 46) = true := beq_iff_eq.mpr c54
                        have c54b1 : (t166 != 46) = false := bne_eq_false_iff_eq.mpr c54
                        clear c54
                        (first | rw [c54b0] | (simp only [i64_w, i32_w]; rw [c54b0]) | skip)
                        by_cases c55 : (wrap64 (s0_1 + 1)) < (s0_0.size : Int)
                        · rw [if_pos c55] at H
                          have c55b0 : decide ((wrap64 (s0_1 + 1)) < (s0_0.size : Int)) = true := decide_eq_true c55
                          clear c55
                          obtain ⟨ji56, hji56⟩ : ∃ j_ : Int, (wrap64 (s0_1 + 1)) = j_ := ⟨_, rfl⟩
                          replace H : (if 0 ≤ (ji56) then ((utf_Digit.f (wrap32 (bt s0_0 (ji56)))).bind fun t204 => (golex_scanner_step.j1 kj28 t166 s0_1 t204 s0_0 s0_1 s0_2 s0_3)) else (none)) = some (r1, r2, r3, r4, r5) := by first | (rw [hji56] at H; exact H) | (simp only [hji56] at H ⊢; exact H)
                          (try rw [hji56] at c55b0)
                          (try rw [hji56] at A52)
                          have hji56w : (IntKind.i64.wrap (s0_1 + 1)) = ji56 := (i64_w _).trans hji56
                          by_cases c57 : 0 ≤ (ji56)
                          · rw [if_pos c57] at H
                            have c57b0 : decide (0 ≤ (ji56)) = true := decide_eq_true c57
                            clear c57
                            replace H := Option.bind_eq_some_iff.mp H
                            obtain ⟨t204, A590, H⟩ := H
                            replace H : (golex_scanner_step.j1 kj28 t166 s0_1 t204 s0_0 s0_1 s0_2 s0_3) = some (r1, r2, r3, r4, r5) := H
                            have A59 := Aside0.mk A590; clear A590
                            have H' := Aside0.mk H
                            clear H
                            go_wp2_with (first | ((with_reducible refine gate_callee (f := 45) rfl ?_); refine goesL_ (some 120) rfl rfl Tryd.func45 (by kernel_rfl) rfl #[.int .i32 t166] rfl (by (try simp only [List.map_toArray, List.map_cons, List.map_nil]); first | done | rfl | (simp only [List.length_drop, List.length_take]; rfl)) ?_; (with_reducible refine (utf_Digit.calls t166 false _ A52.out).mono ?_); rintro e w' ⟨rfl, ⟨nd, rfl⟩⟩; refine ⟨_, rfl, ?_⟩; obtain ⟨tvz60, nvz60, HGz60, hgz60, hRz60, hNz60⟩ := HI0.out; have hcz60_0 := cellS36_0 HGz60; have hcz60_1 := cellS36_1 HGz60; have hcz60_2 := cellS36_2 HGz60; have hcz60_3 := cellS36_3 HGz60; have hfz60_0 := blk_frozen HGz60 0; have hfz60_1 := blk_frozen HGz60 1; have hfz60_2 := blk_frozen HGz60 2; have hfz60_3 := blk_frozen HGz60 3; clear HGz60 hgz60; have p58 : 0 ≤ ((ji56) : Int) := of_decide_eq_true (by first | (with_reducible assumption) | assumption); have q58 : (ji56) < (s0_0.size : Int) := of_decide_eq_true (by first | (with_reducible assumption) | assumption); have hx58 := bt_at s0_0 (ji56); replace p58 := eq_true p58; replace q58 := eq_true q58) | (go_at_call 45; (with_reducible refine (utf_Digit.calls (wrap32 (bt s0_0 (ji56))) t204 _ A59.out).mono ?_); rintro e w' ⟨rfl, ⟨nd, rfl⟩⟩))
                            go_meet
                            case rel => exact ⟨_, (t204), (by first | rfl | (simp; done) | (simp [*]; done)), H', ⟨by have := HJ28.out; first | omega | exact Nat.le_refl _⟩, ⟨by repeat (first | (with_reducible first | exact HI0.out | apply IsS36.alloc | apply IsS36.drewN | apply IsS36.drew | apply IsS36.set_0 | apply IsS36.set_1 | apply IsS36.set_2 | apply IsS36.set_3) | exact HI0.out)⟩, ⟨by repeat (first | (with_reducible first | exact HK.out | apply Kq.set_ | apply kq_drewN | apply kq_drew | apply kq_alloc) | exact HK.out)⟩, ⟨by repeat (first | (with_reducible first | exact HB.out | apply below_alloc | apply pw_below_drewN | apply below_drew1 | refine below_set ?_ (IsS36.ge HI0.out)) | exact HB.out)⟩⟩
                          · rw [if_neg c57] at H
                            exact absurd H (by simp)
                        · rw [if_neg c55] at H
                          have c55b0 : decide ((wrap64 (s0_1 + 1)) < (s0_0.size : Int)) = false := decide_eq_false c55
                          clear c55
                          have H' := Aside0.mk H
                          clear H
                          go_wp2_with (first | ((with_reducible refine gate_callee (f := 45) rfl ?_); refine goesL_ (some 120) rfl rfl Tryd.func45 (by kernel_rfl) rfl #[.int .i32 t166] rfl (by (try simp only [List.map_toArray, List.map_cons, List.map_nil]); first | done | rfl | (simp only [List.length_drop, List.length_take]; rfl)) ?_; (with_reducible refine (utf_Digit.calls t166 false _ A52.out).mono ?_); rintro e w' ⟨rfl, ⟨nd, rfl⟩⟩; refine ⟨_, rfl, ?_⟩; obtain ⟨tvz61, nvz61, HGz61, hgz61, hRz61, hNz61⟩ := HI0.out; have hcz61_0 := cellS36_0 HGz61; have hcz61_1 := cellS36_1 HGz61; have hcz61_2 := cellS36_2 HGz61; have hcz61_3 := cellS36_3 HGz61; have hfz61_0 := blk_frozen HGz61 0; have hfz61_1 := blk_frozen HGz61 1; have hfz61_2 := blk_frozen HGz61 2; have hfz61_3 := blk_frozen HGz61 3; clear HGz61 hgz61))
                          go_meet
                          case rel => exact ⟨_, (false), (by first | rfl | (simp; done) | (simp [*]; done)), H', ⟨by have := HJ28.out; first | omega | exact Nat.le_refl _⟩, ⟨by repeat (first | (with_reducible first | exact HI0.out | apply IsS36.alloc | apply IsS36.drewN | apply IsS36.drew | apply IsS36.set_0 | apply IsS36.set_1 | apply IsS36.set_2 | apply IsS36.set_3) | exact HI0.out)⟩, ⟨by repeat (first | (with_reducible first | exact HK.out | apply Kq.set_ | apply kq_drewN | apply kq_drew | apply kq_alloc) | exact HK.out)⟩, ⟨by repeat (first | (with_reducible first | exact HB.out | apply below_alloc | apply pw_below_drewN | apply below_drew1 | refine below_set ?_ (IsS36.ge HI0.out)) | exact HB.out)⟩⟩
                      · rw [if_neg c54] at H
                        have c54b0 : (t166 == 46) = false := beq_eq_false_iff_ne.mpr c54
                        have c54b1 : (t166 != 46) = true := bne_iff_ne.mpr c54
                        (first | rw [c54b0] | (simp only [i64_w, i32_w]; rw [c54b0]) | skip)
                        have H' := Aside0.mk H
                        clear H
                        go_wp2_with (first | ((with_reducible refine gate_callee (f := 45) rfl ?_); refine goesL_ (some 120) rfl rfl Tryd.func45 (by kernel_rfl) rfl #[.int .i32 t166] rfl (by (try simp only [List.map_toArray, List.map_cons, List.map_nil]); first | done | rfl | (simp only [List.length_drop, List.length_take]; rfl)) ?_; (with_reducible refine (utf_Digit.calls t166 false _ A52.out).mono ?_); rintro e w' ⟨rfl, ⟨nd, rfl⟩⟩; refine ⟨_, rfl, ?_⟩))
                        go_meet
                        case rel => exact ⟨_, (false), (by first | rfl | (simp; done) | (simp [*]; done)), H', ⟨by have := HJ28.out; first | omega | exact Nat.le_refl _⟩, ⟨by repeat (first | (with_reducible first | exact HI0.out | apply IsS36.alloc | apply IsS36.drewN | apply IsS36.drew | apply IsS36.set_0 | apply IsS36.set_1 | apply IsS36.set_2 | apply IsS36.set_3) | exact HI0.out)⟩, ⟨by repeat (first | (with_reducible first | exact HK.out | apply Kq.set_ | apply kq_drewN | apply kq_drew | apply kq_alloc) | exact HK.out)⟩, ⟨by repeat (first | (with_reducible first | exact HB.out | apply below_alloc | apply pw_below_drewN | apply below_drew1 | refine below_set ?_ (IsS36.ge HI0.out)) | exact HB.out)⟩⟩
                  case rest =>
                    clear HC51; (try clear c1); (try clear c2); (try clear p2); (try clear c3); (try clear p3); (try clear c4); (try clear c5); (try clear p5); (try clear q5); (try clear hx5); (try clear p6); (try clear c11); (try clear c11b0); (try clear c17); (try clear c17b0); (try clear c17b1); (try clear c25); (try clear p32); (try clear c33); (try clear c33b0); (try clear c33b1); (try clear c34); (try clear c34b0); (try clear c34b1); (try clear c36); (try clear c37); (try clear c38); (try clear c38b0); (try clear c39); (try clear c39b0); (try clear c40); (try clear c41); (try clear c42); (try clear c43); (try clear c44); (try clear c45); (try clear c46); (try clear c53)
                    (try clear c54); (try clear c54b0); (try clear c54b1); (try clear c55); (try clear c55b0); (try clear c57); (try clear c57b0); (try clear p58); (try clear q58); (try clear hx58); (try clear hcz21_0); (try clear hcz21_1); (try clear hcz21_2); (try clear hcz21_3); (try clear hcz23_0); (try clear hcz23_1); (try clear hcz23_2); (try clear hcz23_3); (try clear hcz28_0); (try clear hcz28_1); (try clear hcz28_2); (try clear hcz28_3); (try clear hcz32_0); (try clear hcz32_1); (try clear hcz32_2); (try clear hcz32_3); (try clear hcz37_0); (try clear hcz37_1); (try clear hcz37_2); (try clear hcz37_3); (try clear hcz41_0); (try clear hcz41_1); (try clear hcz41_2)
                    (try clear hcz41_3); (try clear hcz60_0); (try clear hcz60_1); (try clear hcz60_2); (try clear hcz60_3); (try clear hcz61_0); (try clear hcz61_1); (try clear hcz61_2); (try clear hcz61_3); (try clear hfz15_3); (try clear hfz21_0); (try clear hfz21_1); (try clear hfz21_2); (try clear hfz21_3); (try clear hfz23_0); (try clear hfz23_1); (try clear hfz23_2); (try clear hfz23_3); (try clear hfz28_0); (try clear hfz28_1); (try clear hfz28_2); (try clear hfz28_3); (try clear hfz32_0); (try clear hfz32_1); (try clear hfz32_2); (try clear hfz32_3); (try clear hfz37_0); (try clear hfz37_1); (try clear hfz37_2); (try clear hfz37_3); (try clear hfz41_0)
                    (try clear hfz41_1); (try clear hfz41_2); (try clear hfz41_3); (try clear hfz60_0); (try clear hfz60_1); (try clear hfz60_2); (try clear hfz60_3); (try clear hfz61_0); (try clear hfz61_1); (try clear hfz61_2); (try clear hfz61_3); (try clear p2); (try clear p58); (try clear p6); (try clear q58); obtain ⟨kq, x118_50, rfl, HA, HJ50, HI0, HK, HB⟩ := hcut
                    cases kq with
                    | zero => exact absurd HA.out (by simp [golex_scanner_step.j1])
                    | succ kj50 =>
                      have H := HA.out
                      clear HA
                      simp only [golex_scanner_step.j1] at H
                      by_cases c62 : x118_50 = true
                      · subst c62
                        have H1 : ((golex_scanner_number.f kj50 s0_0 s0_1 s0_2 s0_3 s0_1).bind fun bt205 => ((golex_scanner_put.f bt205.2.1 bt205.2.2.1 bt205.2.2.2.1 bt205.2.2.2.2 2 s0_1 bt205.1).bind fun bt210 => (some (true, bt210.1, bt210.2.1, bt210.2.2.1, bt210.2.2.2)))) = some (r1, r2, r3, r4, r5) := by rw [if_pos rfl] at H; exact H
                        clear H
                        have H := H1
                        clear H1
                        replace H := Option.bind_eq_some_iff.mp H
                        obtain ⟨⟨t205, t206, t207, t208, t209⟩, A630, H⟩ := H
                        replace H : ((golex_scanner_put.f t206 t207 t208 t209 2 s0_1 t205).bind fun bt210 => (some (true, bt210.1, bt210.2.1, bt210.2.2.1, bt210.2.2.2))) = some (r1, r2, r3, r4, r5) := H
                        have A63 := Aside0.mk A630; clear A630
                        replace H := Option.bind_eq_some_iff.mp H
                        obtain ⟨⟨t210, t211, t212, t213⟩, A640, H⟩ := H
                        replace H : (some (true, t210, t211, t212, t213)) = some (r1, r2, r3, r4, r5) := H
                        have A64 := Aside0.mk A640; clear A640
                        simp only [Option.some.injEq, Prod.mk.injEq] at H
                        obtain ⟨rfl, rfl, rfl, rfl, rfl⟩ := H
                        go_wp2_with (first | ((with_reducible refine gate_callee (f := 46) rfl ?_); refine goesL_ (some 150) rfl rfl Tryd.func46 (by kernel_rfl) rfl #[.pointer (some ⟨g, 0, none⟩), .int .i64 s0_1] rfl (by (try simp only [List.map_toArray, List.map_cons, List.map_nil]); first | done | rfl | (simp only [List.length_drop, List.length_take]; rfl)) ?_; (with_reducible refine (golex_scanner_number.calls kj50 g s0_0 s0_1 s0_2 s0_3 s0_1 t205 t206 t207 t208 t209 w0 _ ?side1 ?side2 A63.out).mono ?_); (case side1 => repeat (first | (with_reducible first | exact HI0.out | apply IsS36.alloc | apply IsS36.drewN | apply IsS36.drew | apply IsS36.set_0 | apply IsS36.set_1 | apply IsS36.set_2 | apply IsS36.set_3) | exact HI0.out)); (case side2 => repeat (first | (with_reducible first | exact HB.out | apply below_alloc | apply pw_below_drewN | apply below_drew1 | refine below_set ?_ (IsS36.ge HI0.out)) | exact HB.out)); rintro e w65 ⟨rfl, hi, hb, hk⟩; refine ⟨_, rfl, ?_⟩; have n0_ := Aside0.mk (Kq.trans (by repeat (first | (with_reducible first | exact HK.out | apply Kq.set_ | apply kq_drewN | apply kq_drew | apply kq_alloc) | exact HK.out)) hk (.inl rfl)); have n1_ := Aside0.mk (hb); have n2_ := Aside0.mk (hi); clear HK; clear HB; clear HI0; have HK := n0_; have HB := n1_; (try clear hgl_); have hgl_ := hG2.out _ HB.out; have HI0 := n2_; clear n0_ n1_ n2_; (try clear hb); (try clear hb2); (try clear hk); (try clear hi)) | ((with_reducible refine gate_callee (f := 38) rfl ?_); refine goesL_ (some 151) rfl rfl Tryd.func38 (by kernel_rfl) rfl #[.pointer (some ⟨g, 0, none⟩), .int .i64 2, .int .i64 s0_1, .int .i64 t205] rfl (by (try simp only [List.map_toArray, List.map_cons, List.map_nil]); first | done | rfl | (simp only [List.length_drop, List.length_take]; rfl)) ?_; (with_reducible refine (golex_scanner_put.calls g t206 t207 t208 t209 2 s0_1 t205 t210 t211 t212 t213 w0 _ ?side1 ?side2 ?side3 A64.out).mono ?_); (case side1 => first | exact HT.out | exact Tabs.below HT.out (by repeat (first | (with_reducible first | exact HB.out | apply below_alloc | apply pw_below_drewN | apply below_drew1 | refine below_set ?_ (IsS36.ge HI0.out)) | exact HB.out))); (case side2 => repeat (first | (with_reducible first | exact HI0.out | apply IsS36.alloc | apply IsS36.drewN | apply IsS36.drew | apply IsS36.set_0 | apply IsS36.set_1 | apply IsS36.set_2 | apply IsS36.set_3) | exact HI0.out)); (case side3 => repeat (first | (with_reducible first | exact HB.out | apply below_alloc | apply pw_below_drewN | apply below_drew1 | refine below_set ?_ (IsS36.ge HI0.out)) | exact HB.out)); rintro e w66 ⟨rfl, hi, hb, hk⟩; refine ⟨_, rfl, ?_⟩; have n0_ := Aside0.mk (Kq.trans (by repeat (first | (with_reducible first | exact HK.out | apply Kq.set_ | apply kq_drewN | apply kq_drew | apply kq_alloc) | exact HK.out)) hk (.inl rfl)); have n1_ := Aside0.mk (hb); have n2_ := Aside0.mk (hi); clear HK; clear HB; clear HI0; have HK := n0_; have HB := n1_; (try clear hgl_); have hgl_ := hG2.out _ HB.out; have HI0 := n2_; clear n0_ n1_ n2_; (try clear hb); (try clear hb2); (try clear hk); (try clear hi)))
                        go_ret
                        exact ⟨by first | rfl | (simp [errW_none, errW_some] <;> rfl) | (simp [*, errW_none, errW_some] <;> rfl), by repeat (first | (with_reducible first | exact HI0.out | apply IsS36.alloc | apply IsS36.drewN | apply IsS36.drew | apply IsS36.set_0 | apply IsS36.set_1 | apply IsS36.set_2 | apply IsS36.set_3) | exact HI0.out), by repeat (first | (with_reducible first | exact HB.out | apply below_alloc | apply pw_below_drewN | apply below_drew1 | refine below_set ?_ (IsS36.ge HI0.out)) | exact HB.out), by repeat (first | (with_reducible first | exact HK.out | apply Kq.set_ | apply kq_drewN | apply kq_drew | apply kq_alloc) | exact HK.out)⟩
                      · replace c62 := Bool.eq_false_iff.mpr c62
                        subst c62
                        have H1 : (if t166 = 39 then ((golex_scanner_text.f kj50 s0_0 s0_1 s0_2 s0_3 3).bind fun bt214 => (some (bt214.1, bt214.2.1, bt214.2.2.1, bt214.2.2.2.1, bt214.2.2.2.2))) else (if t166 = 34 then (golex_scanner_step.j2 kj50 t166 s0_1 true s0_0 s0_1 s0_2 s0_3) else (golex_scanner_step.j2 kj50 t166 s0_1 (t166 == 96) s0_0 s0_1 s0_2 s0_3))) = some (r1, r2, r3, r4, r5) := by rw [if_neg (show ¬ (false = true) by decide)] at H; exact H
                        clear H
                        have H := H1
                        clear H1
                        by_cases c67 : t166 = 39
                        · rw [if_pos c67] at H
                          have c67b0 : (t166 == 39) = true := beq_iff_eq.mpr c67
                          have c67b1 : (t166 != 39) = false := bne_eq_false_iff_eq.mpr c67
                          clear c67
                          replace H := Option.bind_eq_some_iff.mp H
                          obtain ⟨⟨t214, t215, t216, t217, t218⟩, A680, H⟩ := H
                          replace H : (some (t214, t215, t216, t217, t218)) = some (r1, r2, r3, r4, r5) := H
                          have A68 := Aside0.mk A680; clear A680
                          simp only [Option.some.injEq, Prod.mk.injEq] at H
                          obtain ⟨rfl, rfl, rfl, rfl, rfl⟩ := H
                          go_wp2_with (first | ((with_reducible refine gate_callee (f := 47) rfl ?_); refine goesL_ (some 156) rfl rfl Tryd.func47 (by kernel_rfl) rfl #[.pointer (some ⟨g, 0, none⟩), .int .i64 3] rfl (by (try simp only [List.map_toArray, List.map_cons, List.map_nil]); first | done | rfl | (simp only [List.length_drop, List.length_take]; rfl)) ?_; (with_reducible refine (golex_scanner_text.calls kj50 g s0_0 s0_1 s0_2 s0_3 3 t214 t215 t216 t217 t218 w0 _ ?side1 ?side2 ?side3 A68.out).mono ?_); (case side1 => first | exact HT.out | exact Tabs.below HT.out (by repeat (first | (with_reducible first | exact HB.out | apply below_alloc | apply pw_below_drewN | apply below_drew1 | refine below_set ?_ (IsS36.ge HI0.out)) | exact HB.out))); (case side2 => repeat (first | (with_reducible first | exact HI0.out | apply IsS36.alloc | apply IsS36.drewN | apply IsS36.drew | apply IsS36.set_0 | apply IsS36.set_1 | apply IsS36.set_2 | apply IsS36.set_3) | exact HI0.out)); (case side3 => repeat (first | (with_reducible first | exact HB.out | apply below_alloc | apply pw_below_drewN | apply below_drew1 | refine below_set ?_ (IsS36.ge HI0.out)) | exact HB.out)); rintro e w69 ⟨rfl, hi, hb, hk⟩; refine ⟨_, rfl, ?_⟩; have n0_ := Aside0.mk (Kq.trans (by repeat (first | (with_reducible first | exact HK.out | apply Kq.set_ | apply kq_drewN | apply kq_drew | apply kq_alloc) | exact HK.out)) hk (.inl rfl)); have n1_ := Aside0.mk (hb); have n2_ := Aside0.mk (hi); clear HK; clear HB; clear HI0; have HK := n0_; have HB := n1_; (try clear hgl_); have hgl_ := hG2.out _ HB.out; have HI0 := n2_; clear n0_ n1_ n2_; (try clear hb); (try clear hb2); (try clear hk); (try clear hi)))
                          go_ret
                          exact ⟨by first | rfl | (simp [errW_none, errW_some] <;> rfl) | (simp [*, errW_none, errW_some] <;> rfl), by repeat (first | (with_reducible first | exact HI0.out | apply IsS36.alloc | apply IsS36.drewN | apply IsS36.drew | apply IsS36.set_0 | apply IsS36.set_1 | apply IsS36.set_2 | apply IsS36.set_3) | exact HI0.out), by repeat (first | (with_reducible first | exact HB.out | apply below_alloc | apply pw_below_drewN | apply below_drew1 | refine below_set ?_ (IsS36.ge HI0.out)) | exact HB.out), by repeat (first | (with_reducible first | exact HK.out | apply Kq.set_ | apply kq_drewN | apply kq_drew | apply kq_alloc) | exact HK.out)⟩
                        · rw [if_neg c67] at H
                          have c67b0 : (t166 == 39) = false := beq_eq_false_iff_ne.mpr c67
                          have c67b1 : (t166 != 39) = true := bne_iff_ne.mpr c67
                          have HC70 := Aside0.mk H; clear H
                          go_upto_region 30 with (fail)
                          go_cut [157] (fun v157 wc => ∃ (kq : Nat) (x157_69 : Bool), v157 = .bool x157_69 ∧ Aside0 (golex_scanner_step.j2 kq t166 s0_1 x157_69 s0_0 s0_1 s0_2 s0_3 = some (r1, r2, r3, r4, r5)) ∧ Aside0 (kq ≤ kj50) ∧ Aside0 (IsS36 w0 wc g s0_0 s0_1 s0_2 s0_3) ∧ Aside0 (Kq w wc g none) ∧ Aside0 (Below w0.heap.size w0 wc))
                          case first =>
                            have H := HC70.out
                            clear HC70
                            by_cases c71 : t166 = 34
                            · rw [if_pos c71] at H
                              have c71b0 : (t166 == 34) = true := beq_iff_eq.mpr c71
                              have c71b1 : (t166 != 34) = false := bne_eq_false_iff_eq.mpr c71
                              clear c71
                              (first | rw [c71b0] | (simp only [i64_w, i32_w]; rw [c71b0]) | skip)
                              have H' := Aside0.mk H
                              clear H
                              go_wp2
                              go_meet
                              case rel => exact ⟨_, (true), (by first | rfl | (simp; done) | (simp [*]; done)), H', ⟨by have := HJ28.out; have := HJ50.out; first | omega | exact Nat.le_refl _⟩, ⟨by repeat (first | (with_reducible first | exact HI0.out | apply IsS36.alloc | apply IsS36.drewN | apply IsS36.drew | apply IsS36.set_0 | apply IsS36.set_1 | apply IsS36.set_2 | apply IsS36.set_3) | exact HI0.out)⟩, ⟨by repeat (first | (with_reducible first | exact HK.out | apply Kq.set_ | apply kq_drewN | apply kq_drew | apply kq_alloc) | exact HK.out)⟩, ⟨by repeat (first | (with_reducible first | exact HB.out | apply below_alloc | apply pw_below_drewN | apply below_drew1 | refine below_set ?_ (IsS36.ge HI0.out)) | exact HB.out)⟩⟩
                            · rw [if_neg c71] at H
                              have c71b0 : (t166 == 34) = false := beq_eq_false_iff_ne.mpr c71
                              have c71b1 : (t166 != 34) = true := bne_iff_ne.mpr c71
                              (first | rw [c71b0] | (simp only [i64_w, i32_w]; rw [c71b0]) | skip)
                              have H' := Aside0.mk H
                              clear H
                              go_wp2
                              go_meet
                              case rel => exact ⟨_, ((t166 == 96)), (by first | rfl | (simp; done) | (simp [*]; done)), H', ⟨by have := HJ28.out; have := HJ50.out; first | omega | exact Nat.le_refl _⟩, ⟨by repeat (first | (with_reducible first | exact HI0.out | apply IsS36.alloc | apply IsS36.drewN | apply IsS36.drew | apply IsS36.set_0 | apply IsS36.set_1 | apply IsS36.set_2 | apply IsS36.set_3) | exact HI0.out)⟩, ⟨by repeat (first | (with_reducible first | exact HK.out | apply Kq.set_ | apply kq_drewN | apply kq_drew | apply kq_alloc) | exact HK.out)⟩, ⟨by repeat (first | (with_reducible first | exact HB.out | apply below_alloc | apply pw_below_drewN | apply below_drew1 | refine below_set ?_ (IsS36.ge HI0.out)) | exact HB.out)⟩⟩
                          case rest =>
                            clear HC70; (try clear c1); (try clear c2); (try clear p2); (try clear c3); (try clear p3); (try clear c4); (try clear c5); (try clear p5); (try clear q5); (try clear hx5); (try clear c6); (try clear p6); (try clear c7); (try clear c11); (try clear c11b0); (try clear c17); (try clear c17b0); (try clear c17b1); (try clear c25); (try clear p32); (try clear c33); (try clear c33b0); (try clear c33b1); (try clear c34); (try clear c34b0); (try clear c34b1); (try clear c36); (try clear c37); (try clear c38); (try clear c38b0); (try clear c39); (try clear c39b0); (try clear c40); (try clear c41); (try clear c42); (try clear c43); (try clear c44); (try clear c45)
                            (try clear c46); (try clear c47); (try clear c53); (try clear c54); (try clear c54b0); (try clear c54b1); (try clear c55); (try clear c55b0); (try clear c57); (try clear c57b0); (try clear p58); (try clear q58); (try clear hx58); (try clear c62); (try clear p64); (try clear c67); (try clear c67b0); (try clear c67b1); (try clear c71); (try clear c71b0); (try clear c71b1); (try clear hcz21_0); (try clear hcz21_1); (try clear hcz21_2); (try clear hcz21_3); (try clear hcz23_0); (try clear hcz23_1); (try clear hcz23_2); (try clear hcz23_3); (try clear hcz28_0); (try clear hcz28_1); (try clear hcz28_2); (try clear hcz28_3); (try clear hcz32_0)
                            (try clear hcz32_1); (try clear hcz32_2); (try clear hcz32_3); (try clear hcz37_0); (try clear hcz37_1); (try clear hcz37_2); (try clear hcz37_3); (try clear hcz41_0); (try clear hcz41_1); (try clear hcz41_2); (try clear hcz41_3); (try clear hcz60_0); (try clear hcz60_1); (try clear hcz60_2); (try clear hcz60_3); (try clear hcz61_0); (try clear hcz61_1); (try clear hcz61_2); (try clear hcz61_3); (try clear hfz15_3); (try clear hfz21_0); (try clear hfz21_1); (try clear hfz21_2); (try clear hfz21_3); (try clear hfz23_0); (try clear hfz23_1); (try clear hfz23_2); (try clear hfz23_3); (try clear hfz28_0); (try clear hfz28_1); (try clear hfz28_2)
                            (try clear hfz28_3); (try clear hfz32_0); (try clear hfz32_1); (try clear hfz32_2); (try clear hfz32_3); (try clear hfz37_0); (try clear hfz37_1); (try clear hfz37_2); (try clear hfz37_3); (try clear hfz41_0); (try clear hfz41_1); (try clear hfz41_2); (try clear hfz41_3); (try clear hfz60_0); (try clear hfz60_1); (try clear hfz60_2); (try clear hfz60_3); (try clear hfz61_0); (try clear hfz61_1); (try clear hfz61_2); (try clear hfz61_3); (try clear p2); (try clear p3); (try clear p32); (try clear p5); (try clear p58); (try clear p6); (try clear q5); (try clear q58); obtain ⟨kq, x157_69, rfl, HA, HJ69, HI0, HK, HB⟩ := hcut
                            cases kq with
                            | zero => exact absurd HA.out (by simp [golex_scanner_step.j2])
                            | succ kj69 =>
                              have H := HA.out
                              clear HA
                              simp only [golex_scanner_step.j2] at H
                              by_cases c72 : x157_69 = true
                              · subst c72
                                have H1 : ((golex_scanner_text.f kj69 s0_0 s0_1 s0_2 s0_3 4).bind fun bt219 => (some (bt219.1, bt219.2.1, bt219.2.2.1, bt219.2.2.2.1, bt219.2.2.2.2))) = some (r1, r2, r3, r4, r5) := by rw [if_pos rfl] at H; exact H
                                clear H
                                have H := H1
                                clear H1
                                replace H := Option.bind_eq_some_iff.mp H
                                obtain ⟨⟨t219, t220, t221, t222, t223⟩, A730, H⟩ := H
                                replace H : (some (t219, t220, t221, t222, t223)) = some (r1, r2, r3, r4, r5) := H
                                have A73 := Aside0.mk A730; clear A730
                                simp only [Option.some.injEq, Prod.mk.injEq] at H
                                obtain ⟨rfl, rfl, rfl, rfl, rfl⟩ := H
                                go_wp2_with (first | ((with_reducible refine gate_callee (f := 47) rfl ?_); refine goesL_ (some 165) rfl rfl Tryd.func47 (by kernel_rfl) rfl #[.pointer (some ⟨g, 0, none⟩), .int .i64 4] rfl (by (try simp only [List.map_toArray, List.map_cons, List.map_nil]); first | done | rfl | (simp only [List.length_drop, List.length_take]; rfl)) ?_; (with_reducible refine (golex_scanner_text.calls kj69 g s0_0 s0_1 s0_2 s0_3 4 t219 t220 t221 t222 t223 w0 _ ?side1 ?side2 ?side3 A73.out).mono ?_); (case side1 => first | exact HT.out | exact Tabs.below HT.out (by repeat (first | (with_reducible first | exact HB.out | apply below_alloc | apply pw_below_drewN | apply below_drew1 | refine below_set ?_ (IsS36.ge HI0.out)) | exact HB.out))); (case side2 => repeat (first | (with_reducible first | exact HI0.out | apply IsS36.alloc | apply IsS36.drewN | apply IsS36.drew | apply IsS36.set_0 | apply IsS36.set_1 | apply IsS36.set_2 | apply IsS36.set_3) | exact HI0.out)); (case side3 => repeat (first | (with_reducible first | exact HB.out | apply below_alloc | apply pw_below_drewN | apply below_drew1 | refine below_set ?_ (IsS36.ge HI0.out)) | exact HB.out)); rintro e w74 ⟨rfl, hi, hb, hk⟩; refine ⟨_, rfl, ?_⟩; have n0_ := Aside0.mk (Kq.trans (by repeat (first | (with_reducible first | exact HK.out | apply Kq.set_ | apply kq_drewN | apply kq_drew | apply kq_alloc) | exact HK.out)) hk (.inl rfl)); have n1_ := Aside0.mk (hb); have n2_ := Aside0.mk (hi); clear HK; clear HB; clear HI0; have HK := n0_; have HB := n1_; (try clear hgl_); have hgl_ := hG2.out _ HB.out; have HI0 := n2_; clear n0_ n1_ n2_; (try clear hb); (try clear hb2); (try clear hk); (try clear hi)))
                                go_ret
                                exact ⟨by first | rfl | (simp [errW_none, errW_some] <;> rfl) | (simp [*, errW_none, errW_some] <;> rfl), by repeat (first | (with_reducible first | exact HI0.out | apply IsS36.alloc | apply IsS36.drewN | apply IsS36.drew | apply IsS36.set_0 | apply IsS36.set_1 | apply IsS36.set_2 | apply IsS36.set_3) | exact HI0.out), by repeat (first | (with_reducible first | exact HB.out | apply below_alloc | apply pw_below_drewN | apply below_drew1 | refine below_set ?_ (IsS36.ge HI0.out)) | exact HB.out), by repeat (first | (with_reducible first | exact HK.out | apply Kq.set_ | apply kq_drewN | apply kq_drew | apply kq_alloc) | exact HK.out)⟩
                              · replace c72 := Bool.eq_false_iff.mpr c72
                                subst c72
                                have H1 : (if t166 = 59 then ((golex_scanner_put.f s0_0 s0_1 s0_2 s0_3 6 s0_1 (wrap64 (s0_1 + 1))).bind fun bt224 => (some (true, bt224.1, bt224.2.1, bt224.2.2.1, bt224.2.2.2))) else (golex_scanner_step.l0 kj69 s0_1 signsL (signsL.length : Int) 0 s0_0 s0_1 s0_2 s0_3)) = some (r1, r2, r3, r4, r5) := by rw [if_neg (show ¬ (false = true) by decide)] at H; exact H
                                clear H
                                have H := H1
                                clear H1
                                by_cases c75 : t166 = 59
                                · rw [if_pos c75] at H
                                  have c75b0 : (t166 == 59) = true := beq_iff_eq.mpr c75
                                  have c75b1 : (t166 != 59) = false := bne_eq_false_iff_eq.mpr c75
                                  clear c75
                                  replace H := Option.bind_eq_some_iff.mp H
                                  obtain ⟨⟨t224, t225, t226, t227⟩, A760, H⟩ := H
                                  replace H : (some (true, t224, t225, t226, t227)) = some (r1, r2, r3, r4, r5) := H
                                  have A76 := Aside0.mk A760; clear A760
                                  simp only [Option.some.injEq, Prod.mk.injEq] at H
                                  obtain ⟨rfl, rfl, rfl, rfl, rfl⟩ := H
                                  go_wp2_with (first | ((with_reducible refine gate_callee (f := 38) rfl ?_); refine goesL_ (some 173) rfl rfl Tryd.func38 (by kernel_rfl) rfl #[.pointer (some ⟨g, 0, none⟩), .int .i64 6, .int .i64 s0_1, .int .i64 (wrap64 (s0_1 + 1))] rfl (by (try simp only [List.map_toArray, List.map_cons, List.map_nil]); first | done | rfl | (simp only [List.length_drop, List.length_take]; rfl)) ?_; (with_reducible refine (golex_scanner_put.calls g s0_0 s0_1 s0_2 s0_3 6 s0_1 (wrap64 (s0_1 + 1)) t224 t225 t226 t227 w0 _ ?side1 ?side2 ?side3 A76.out).mono ?_); (case side1 => first | exact HT.out | exact Tabs.below HT.out (by repeat (first | (with_reducible first | exact HB.out | apply below_alloc | apply pw_below_drewN | apply below_drew1 | refine below_set ?_ (IsS36.ge HI0.out)) | exact HB.out))); (case side2 => repeat (first | (with_reducible first | exact HI0.out | apply IsS36.alloc | apply IsS36.drewN | apply IsS36.drew | apply IsS36.set_0 | apply IsS36.set_1 | apply IsS36.set_2 | apply IsS36.set_3) | exact HI0.out)); (case side3 => repeat (first | (with_reducible first | exact HB.out | apply below_alloc | apply pw_below_drewN | apply below_drew1 | refine below_set ?_ (IsS36.ge HI0.out)) | exact HB.out)); rintro e w77 ⟨rfl, hi, hb, hk⟩; refine ⟨_, rfl, ?_⟩; have n0_ := Aside0.mk (Kq.trans (by repeat (first | (with_reducible first | exact HK.out | apply Kq.set_ | apply kq_drewN | apply kq_drew | apply kq_alloc) | exact HK.out)) hk (.inl rfl)); have n1_ := Aside0.mk (hb); have n2_ := Aside0.mk (hi); clear HK; clear HB; clear HI0; have HK := n0_; have HB := n1_; (try clear hgl_); have hgl_ := hG2.out _ HB.out; have HI0 := n2_; clear n0_ n1_ n2_; (try clear hb); (try clear hb2); (try clear hk); (try clear hi)))
                                  go_ret
                                  exact ⟨by first | rfl | (simp [errW_none, errW_some] <;> rfl) | (simp [*, errW_none, errW_some] <;> rfl), by repeat (first | (with_reducible first | exact HI0.out | apply IsS36.alloc | apply IsS36.drewN | apply IsS36.drew | apply IsS36.set_0 | apply IsS36.set_1 | apply IsS36.set_2 | apply IsS36.set_3) | exact HI0.out), by repeat (first | (with_reducible first | exact HB.out | apply below_alloc | apply pw_below_drewN | apply below_drew1 | refine below_set ?_ (IsS36.ge HI0.out)) | exact HB.out), by repeat (first | (with_reducible first | exact HK.out | apply Kq.set_ | apply kq_drewN | apply kq_drew | apply kq_alloc) | exact HK.out)⟩
                                · rw [if_neg c75] at H
                                  have c75b0 : (t166 == 59) = false := beq_eq_false_iff_ne.mpr c75
                                  have c75b1 : (t166 != 59) = true := bne_iff_ne.mpr c75
                                  have H' := Aside0.mk H
                                  clear H
                                  have hgl2_ := hG2.out _ HB.out
                                  go_wp2
                                  go_loopg [26] kj69 (fun kq v26 w' => ∃ (x26_4 : Int) (x1000_4 : ByteArray) (x1001_4 : Int) (x1002_4 : List (S27)) (x1003_4 : List (S27)), v26 = .int .i64 x26_4 ∧ Aside0 (golex_scanner_step.l0 kq s0_1 signsL (signsL.length : Int) x26_4 x1000_4 x1001_4 x1002_4 x1003_4 = some (r1, r2, r3, r4, r5)) ∧ Aside0 (kq ≤ kj69) ∧ Aside0 (IsS36 w0 w' g x1000_4 x1001_4 x1002_4 x1003_4) ∧ Aside0 (Kq w w' g none) ∧ Aside0 (Below w0.heap.size w0 w'))
                                  case atStart => exact ⟨(0), (s0_0), (s0_1), (s0_2), (s0_3), (by first | rfl | (simp; done) | (simp [*]; done)), H', ⟨Nat.le_refl _⟩, ⟨by repeat (first | (with_reducible first | exact HI0.out | apply IsS36.alloc | apply IsS36.drewN | apply IsS36.drew | apply IsS36.set_0 | apply IsS36.set_1 | apply IsS36.set_2 | apply IsS36.set_3) | exact HI0.out)⟩, ⟨by repeat (first | (with_reducible first | exact HK.out | apply Kq.set_ | apply kq_drewN | apply kq_drew | apply kq_alloc) | exact HK.out)⟩, ⟨by repeat (first | (with_reducible first | exact HB.out | apply below_alloc | apply pw_below_drewN | apply below_drew1 | refine below_set ?_ (IsS36.ge HI0.out)) | exact HB.out)⟩⟩
                                  case round =>
                                    clear H'
                                    (try clear c1); (try clear c2); (try clear p2); (try clear c3); (try clear p3); (try clear c4); (try clear c5); (try clear p5); (try clear q5); (try clear hx5); (try clear c6); (try clear p6); (try clear c7); (try clear c11); (try clear c11b0); (try clear c17); (try clear c17b0); (try clear c17b1); (try clear c25); (try clear p32); (try clear c33); (try clear c33b0); (try clear c33b1); (try clear c34); (try clear c34b0); (try clear c34b1); (try clear c36); (try clear c37); (try clear c38); (try clear c38b0); (try clear c39); (try clear c39b0); (try clear c40); (try clear c41); (try clear c42); (try clear c43); (try clear c44); (try clear c45)
                                    (try clear c46); (try clear c47); (try clear c53); (try clear c54); (try clear c54b0); (try clear c54b1); (try clear c55); (try clear c55b0); (try clear c57); (try clear c57b0); (try clear p58); (try clear q58); (try clear hx58); (try clear c62); (try clear p64); (try clear c67); (try clear c67b0); (try clear c67b1); (try clear c71); (try clear c71b0); (try clear c71b1); (try clear c72); (try clear c75); (try clear c75b0); (try clear c75b1); (try clear hcz21_0); (try clear hcz21_1); (try clear hcz21_2); (try clear hcz21_3); (try clear hcz23_0); (try clear hcz23_1); (try clear hcz23_2); (try clear hcz23_3); (try clear hcz28_0)
                                    (try clear hcz28_1); (try clear hcz28_2); (try clear hcz28_3); (try clear hcz32_0); (try clear hcz32_1); (try clear hcz32_2); (try clear hcz32_3); (try clear hcz37_0); (try clear hcz37_1); (try clear hcz37_2); (try clear hcz37_3); (try clear hcz41_0); (try clear hcz41_1); (try clear hcz41_2); (try clear hcz41_3); (try clear hcz60_0); (try clear hcz60_1); (try clear hcz60_2); (try clear hcz60_3); (try clear hcz61_0); (try clear hcz61_1); (try clear hcz61_2); (try clear hcz61_3); (try clear hfz15_3); (try clear hfz21_0); (try clear hfz21_1); (try clear hfz21_2); (try clear hfz21_3); (try clear hfz23_0); (try clear hfz23_1)
                                    (try clear hfz23_2); (try clear hfz23_3); (try clear hfz28_0); (try clear hfz28_1); (try clear hfz28_2); (try clear hfz28_3); (try clear hfz32_0); (try clear hfz32_1); (try clear hfz32_2); (try clear hfz32_3); (try clear hfz37_0); (try clear hfz37_1); (try clear hfz37_2); (try clear hfz37_3); (try clear hfz41_0); (try clear hfz41_1); (try clear hfz41_2); (try clear hfz41_3); (try clear hfz60_0); (try clear hfz60_1); (try clear hfz60_2); (try clear hfz60_3); (try clear hfz61_0); (try clear hfz61_1); (try clear hfz61_2); (try clear hfz61_3); (try clear p2); (try clear p3); (try clear p32); (try clear p5); (try clear p58)
                                    (try clear p6); (try clear p64); (try clear q5); (try clear q58); obtain ⟨x26_4, x1000_4, x1001_4, x1002_4, x1003_4, rfl, HA, HK4, HI0, HK, HB⟩ := hrel
                                    cases gk with
                                    | zero => exact absurd HA.out (by simp [golex_scanner_step.l0])
                                    | succ k4 =>
                                      have H := HA.out
                                      clear HA
                                      simp only [golex_scanner_step.l0] at H
                                      by_cases c78 : x26_4 < (signsL.length : Int)
                                      · rw [if_pos c78] at H
                                        have c78b0 : decide (x26_4 < (signsL.length : Int)) = true := decide_eq_true c78
                                        clear c78
                                        by_cases c79 : 0 ≤ x26_4
                                        · rw [if_pos c79] at H
                                          have c79b0 : decide (0 ≤ x26_4) = true := decide_eq_true c79
                                          clear c79
                                          by_cases c80 : x26_4 < (signsL.length : Int)
                                          · rw [if_pos c80] at H
                                            have c80b0 : decide (x26_4 < (signsL.length : Int)) = true := decide_eq_true c80
                                            clear c80
                                            by_cases c81 : 0 ≤ s0_1
                                            · rw [if_pos c81] at H
                                              have c81b0 := eq_true c81
                                              have c81b1 : decide (0 ≤ s0_1) = true := decide_eq_true c81
                                              clear c81
                                              by_cases c82 : s0_1 ≤ (x1000_4.size : Int)
                                              · rw [if_pos c82] at H
                                                have c82b0 := eq_true c82
                                                have c82b1 : decide (s0_1 ≤ (x1000_4.size : Int)) = true := decide_eq_true c82
                                                clear c82
                                                replace H := Option.bind_eq_some_iff.mp H
                                                obtain ⟨t234, A830, H⟩ := H
                                                replace H : (if t234 = true then ((golex_scanner_put.f x1000_4 x1001_4 x1002_4 x1003_4 5 s0_1 (wrap64 (s0_1 + ((rdOf ByteArray.empty signsL x26_4).size : Int)))).bind fun bt235 => (some (true, bt235.1, bt235.2.1, bt235.2.2.1, bt235.2.2.2))) else (golex_scanner_step.l0 k4 s0_1 signsL (signsL.length : Int) (wrap64 (x26_4 + 1)) x1000_4 x1001_4 x1002_4 x1003_4)) = some (r1, r2, r3, r4, r5) := H
                                                have A83 := Aside0.mk A830; clear A830
                                                by_cases c84 : t234 = true
                                                · subst c84
                                                  have H1 : ((golex_scanner_put.f x1000_4 x1001_4 x1002_4 x1003_4 5 s0_1 (wrap64 (s0_1 + ((rdOf ByteArray.empty signsL x26_4).size : Int)))).bind fun bt235 => (some (true, bt235.1, bt235.2.1, bt235.2.2.1, bt235.2.2.2))) = some (r1, r2, r3, r4, r5) := by rw [if_pos rfl] at H; exact H
                                                  clear H
                                                  have H := H1
                                                  clear H1
                                                  replace H := Option.bind_eq_some_iff.mp H
                                                  obtain ⟨⟨t235, t236, t237, t238⟩, A850, H⟩ := H
                                                  replace H : (some (true, t235, t236, t237, t238)) = some (r1, r2, r3, r4, r5) := H
                                                  have A85 := Aside0.mk A850; clear A850
                                                  simp only [Option.some.injEq, Prod.mk.injEq] at H
                                                  obtain ⟨rfl, rfl, rfl, rfl, rfl⟩ := H
                                                  have p233 : 0 ≤ (x26_4 : Int) := of_decide_eq_true (by first | (with_reducible assumption) | assumption)
                                                  have q233 : x26_4 < (signsL.length : Int) := of_decide_eq_true (by first | (with_reducible assumption) | assumption)
                                                  obtain ⟨ad233, e233, hx233_0⟩ := Kd.at_string HRG2.out x26_4 p233 q233
                                                  cases e233
                                                  replace hx233_0 := pw_cell_below HB.out hx233_0
                                                  replace p233 := eq_true p233; replace q233 := eq_true q233; obtain ⟨tvz86, nvz86, HGz86, hgz86, hRz86, hNz86⟩ := HI0.out; have hcz86_0 := cellS36_0 HGz86; have hcz86_1 := cellS36_1 HGz86; have hcz86_2 := cellS36_2 HGz86; have hcz86_3 := cellS36_3 HGz86; have hfz86_0 := blk_frozen HGz86 0; have hfz86_1 := blk_frozen HGz86 1; have hfz86_2 := blk_frozen HGz86 2; have hfz86_3 := blk_frozen HGz86 3; clear HGz86 hgz86
                                                  go_wp2_with (first | ((with_reducible refine gate_callee (f := 41) rfl ?_); refine goesL_ (some 37) rfl rfl Tryd.func41 (by kernel_rfl) rfl #[.string (x1000_4.extract (s0_1 : Int).toNat x1000_4.size), .string (rdOf ByteArray.empty signsL x26_4)] rfl (by (try simp only [List.map_toArray, List.map_cons, List.map_nil]); first | done | rfl | (simp only [List.length_drop, List.length_take]; rfl)) ?_; (with_reducible refine (strings_HasPrefix.calls (x1000_4.extract (s0_1 : Int).toNat x1000_4.size) (rdOf ByteArray.empty signsL x26_4) true _ A83.out).mono ?_); rintro e w' ⟨rfl, ⟨nd, rfl⟩⟩; refine ⟨_, rfl, ?_⟩) | ((with_reducible refine gate_callee (f := 38) rfl ?_); refine goesL_ (some 44) rfl rfl Tryd.func38 (by kernel_rfl) rfl #[.pointer (some ⟨g, 0, none⟩), .int .i64 5, .int .i64 s0_1, .int .i64 (wrap64 (s0_1 + ((rdOf ByteArray.empty signsL x26_4).size : Int)))] rfl (by (try simp only [List.map_toArray, List.map_cons, List.map_nil]); first | done | rfl | (simp only [List.length_drop, List.length_take]; rfl)) ?_; (with_reducible refine (golex_scanner_put.calls g x1000_4 x1001_4 x1002_4 x1003_4 5 s0_1 (wrap64 (s0_1 + ((rdOf ByteArray.empty signsL x26_4).size : Int))) t235 t236 t237 t238 w0 _ ?side1 ?side2 ?side3 A85.out).mono ?_); (case side1 => first | exact HT.out | exact Tabs.below HT.out (by repeat (first | (with_reducible first | exact HB.out | apply below_alloc | apply pw_below_drewN | apply below_drew1 | refine below_set ?_ (IsS36.ge HI0.out)) | exact HB.out))); (case side2 => repeat (first | (with_reducible first | exact HI0.out | apply IsS36.alloc | apply IsS36.drewN | apply IsS36.drew | apply IsS36.set_0 | apply IsS36.set_1 | apply IsS36.set_2 | apply IsS36.set_3) | exact HI0.out)); (case side3 => repeat (first | (with_reducible first | exact HB.out | apply below_alloc | apply pw_below_drewN | apply below_drew1 | refine below_set ?_ (IsS36.ge HI0.out)) | exact HB.out)); rintro e w87 ⟨rfl, hi, hb, hk⟩; refine ⟨_, rfl, ?_⟩; have n0_ := Aside0.mk (Kq.trans (by repeat (first | (with_reducible first | exact HK.out | apply Kq.set_ | apply kq_drewN | apply kq_drew | apply kq_alloc) | exact HK.out)) hk (.inl rfl)); have n1_ := Aside0.mk (hb); have n2_ := Aside0.mk (hi); clear HK; clear HB; clear HI0; have HK := n0_; have HB := n1_; (try clear hgl_); have hgl_ := hG2.out _ HB.out; have HI0 := n2_; clear n0_ n1_ n2_; (try clear hb); (try clear hb2); (try clear hk); (try clear hi)))
                                                  go_ret
                                                  exact ⟨by first | rfl | (simp [errW_none, errW_some] <;> rfl) | (simp [*, errW_none, errW_some] <;> rfl), by repeat (first | (with_reducible first | exact HI0.out | apply IsS36.alloc | apply IsS36.drewN | apply IsS36.drew | apply IsS36.set_0 | apply IsS36.set_1 | apply IsS36.set_2 | apply IsS36.set_3) | exact HI0.out), by repeat (first | (with_reducible first | exact HB.out | apply below_alloc | apply pw_below_drewN | apply below_drew1 | refine below_set ?_ (IsS36.ge HI0.out)) | exact HB.out), by repeat (first | (with_reducible first | exact HK.out | apply Kq.set_ | apply kq_drewN | apply kq_drew | apply kq_alloc) | exact HK.out)⟩
                                                · replace c84 := Bool.eq_false_iff.mpr c84
                                                  subst c84
                                                  have H1 : (golex_scanner_step.l0 k4 s0_1 signsL (signsL.length : Int) (wrap64 (x26_4 + 1)) x1000_4 x1001_4 x1002_4 x1003_4) = some (r1, r2, r3, r4, r5) := by rw [if_neg (show ¬ (false = true) by decide)] at H; exact H
                                                  clear H
                                                  have H := H1
                                                  clear H1
                                                  have H' := Aside0.mk H
                                                  clear H
                                                  have p233 : 0 ≤ (x26_4 : Int) := of_decide_eq_true (by first | (with_reducible assumption) | assumption)
                                                  have q233 : x26_4 < (signsL.length : Int) := of_decide_eq_true (by first | (with_reducible assumption) | assumption)
                                                  obtain ⟨ad233, e233, hx233_0⟩ := Kd.at_string HRG2.out x26_4 p233 q233
                                                  cases e233
                                                  replace hx233_0 := pw_cell_below HB.out hx233_0
                                                  replace p233 := eq_true p233; replace q233 := eq_true q233; obtain ⟨tvz88, nvz88, HGz88, hgz88, hRz88, hNz88⟩ := HI0.out; have hcz88_0 := cellS36_0 HGz88; have hcz88_1 := cellS36_1 HGz88; have hcz88_2 := cellS36_2 HGz88; have hcz88_3 := cellS36_3 HGz88; have hfz88_0 := blk_frozen HGz88 0; have hfz88_1 := blk_frozen HGz88 1; have hfz88_2 := blk_frozen HGz88 2; have hfz88_3 := blk_frozen HGz88 3; clear HGz88 hgz88
                                                  go_wp2_with (first | ((with_reducible refine gate_callee (f := 41) rfl ?_); refine goesL_ (some 37) rfl rfl Tryd.func41 (by kernel_rfl) rfl #[.string (x1000_4.extract (s0_1 : Int).toNat x1000_4.size), .string (rdOf ByteArray.empty signsL x26_4)] rfl (by (try simp only [List.map_toArray, List.map_cons, List.map_nil]); first | done | rfl | (simp only [List.length_drop, List.length_take]; rfl)) ?_; (with_reducible refine (strings_HasPrefix.calls (x1000_4.extract (s0_1 : Int).toNat x1000_4.size) (rdOf ByteArray.empty signsL x26_4) false _ A83.out).mono ?_); rintro e w' ⟨rfl, ⟨nd, rfl⟩⟩; refine ⟨_, rfl, ?_⟩))
                                                  go_roundg k4
                                                  case measure => have := HJ28.out; have := HJ50.out; have := HJ69.out; have := HK4.out; omega
                                                  case rel => exact ⟨(wrap64 (x26_4 + 1)), (x1000_4), (x1001_4), (x1002_4), (x1003_4), (by first | rfl | (simp; done) | (simp [*]; done)), H', ⟨by have := HJ28.out; have := HJ50.out; have := HJ69.out; have := HK4.out; omega⟩, ⟨by repeat (first | (with_reducible first | exact HI0.out | apply IsS36.alloc | apply IsS36.drewN | apply IsS36.drew | apply IsS36.set_0 | apply IsS36.set_1 | apply IsS36.set_2 | apply IsS36.set_3) | exact HI0.out)⟩, ⟨by repeat (first | (with_reducible first | exact HK.out | apply Kq.set_ | apply kq_drewN | apply kq_drew | apply kq_alloc) | exact HK.out)⟩, ⟨by repeat (first | (with_reducible first | exact HB.out | apply below_alloc | apply pw_below_drewN | apply below_drew1 | refine below_set ?_ (IsS36.ge HI0.out)) | exact HB.out)⟩⟩
                                              · rw [if_neg c82] at H
                                                exact absurd H (by simp)
                                            · rw [if_neg c81] at H
                                              exact absurd H (by simp)
                                          · rw [if_neg c80] at H
                                            exact absurd H (by simp)
                                        · rw [if_neg c79] at H
                                          exact absurd H (by simp)
                                      · rw [if_neg c78] at H
                                        have c78b0 : decide (x26_4 < (signsL.length : Int)) = false := decide_eq_false c78
                                        clear c78
                                        replace H := Option.bind_eq_some_iff.mp H
                                        obtain ⟨⟨t228, t229, t230, t231, t232⟩, A890, H⟩ := H
                                        replace H : (some (t228, t229, t230, t231, t232)) = some (r1, r2, r3, r4, r5) := H
                                        have A89 := Aside0.mk A890; clear A890
                                        simp only [Option.some.injEq, Prod.mk.injEq] at H
                                        obtain ⟨rfl, rfl, rfl, rfl, rfl⟩ := H
                                        go_wp2_with (first | ((with_reducible refine gate_callee (f := 39) rfl ?_); refine goesL_ (some 48) rfl rfl Tryd.func39 (by kernel_rfl) rfl #[.pointer (some ⟨g, 0, none⟩), .int .i64 s0_1] rfl (by (try simp only [List.map_toArray, List.map_cons, List.map_nil]); first | done | rfl | (simp only [List.length_drop, List.length_take]; rfl)) ?_; (with_reducible refine (golex_scanner_bad.calls g x1000_4 x1001_4 x1002_4 x1003_4 s0_1 t228 t229 t230 t231 t232 w0 _ ?side1 ?side2 ?side3 A89.out).mono ?_); (case side1 => first | exact HT.out | exact Tabs.below HT.out (by repeat (first | (with_reducible first | exact HB.out | apply below_alloc | apply pw_below_drewN | apply below_drew1 | refine below_set ?_ (IsS36.ge HI0.out)) | exact HB.out))); (case side2 => repeat (first | (with_reducible first | exact HI0.out | apply IsS36.alloc | apply IsS36.drewN | apply IsS36.drew | apply IsS36.set_0 | apply IsS36.set_1 | apply IsS36.set_2 | apply IsS36.set_3) | exact HI0.out)); (case side3 => repeat (first | (with_reducible first | exact HB.out | apply below_alloc | apply pw_below_drewN | apply below_drew1 | refine below_set ?_ (IsS36.ge HI0.out)) | exact HB.out)); rintro e w90 ⟨rfl, hi, hb, hk⟩; refine ⟨_, rfl, ?_⟩; have n0_ := Aside0.mk (Kq.trans (by repeat (first | (with_reducible first | exact HK.out | apply Kq.set_ | apply kq_drewN | apply kq_drew | apply kq_alloc) | exact HK.out)) hk (.inl rfl)); have n1_ := Aside0.mk (hb); have n2_ := Aside0.mk (hi); clear HK; clear HB; clear HI0; have HK := n0_; have HB := n1_; (try clear hgl_); have hgl_ := hG2.out _ HB.out; have HI0 := n2_; clear n0_ n1_ n2_; (try clear hb); (try clear hb2); (try clear hk); (try clear hi)))
                                        go_ret
                                        exact ⟨by first | rfl | (simp [errW_none, errW_some] <;> rfl) | (simp [*, errW_none, errW_some] <;> rfl), by repeat (first | (with_reducible first | exact HI0.out | apply IsS36.alloc | apply IsS36.drewN | apply IsS36.drew | apply IsS36.set_0 | apply IsS36.set_1 | apply IsS36.set_2 | apply IsS36.set_3) | exact HI0.out), by repeat (first | (with_reducible first | exact HB.out | apply below_alloc | apply pw_below_drewN | apply below_drew1 | refine below_set ?_ (IsS36.ge HI0.out)) | exact HB.out), by repeat (first | (with_reducible first | exact HK.out | apply Kq.set_ | apply kq_drewN | apply kq_drew | apply kq_alloc) | exact HK.out)⟩
end Go.Proofs.YtfolmcfcmonkhaaDoor.PAll

