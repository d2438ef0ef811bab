/- The scanner's note: a comment is taken in. -/
import Derived.Test.YtfolmcfcmonkhaaDoorScU
namespace Go.Proofs.YtfolmcfcmonkhaaDoor.PAll
open Go Go.RowKit Go.Proofs.YtfolmcfcmonkhaaDoorW.PrintWords Go.Proofs.YtfolmcfcmonkhaaDoorW.PrintLast Go.Proofs.YtfolmcfcmonkhaaDoorW.PrintMore Go.Proofs.YtfolmcfcmonkhaaDoorMy Go.Proofs.YtfolmcfcmonkhaaDoor
attribute [local go_sem] max2_int min2_int max_two min_two max_three min_three max_four min_four
set_option linter.unusedVariables false
set_option linter.unusedSimpArgs false
/-- The comment is put behind the notes. -/
def noted (s : ByteArray) (p : Int) (N : List S27) (a z : Int) : Option (List S27) := if 0 ≤ a ∧ a ≤ z ∧ z ≤ (s.size : Int) ∧ N.length < 4398046511104 then some (N ++ [(⟨0, s.extract a.toNat z.toNat, a⟩ : S27)]) else none
def golex_scanner_note.l0 : Nat → Int → Int → ByteArray → Int → List (S27) → List (S27) → Option (Bool × ByteArray × Int × (List (S27)) × (List (S27)))
  | 0, _, _, _, _, _, _ => none
  | k + 1, z, at_, s, p, T, N => if at_ < z then (utf_Rune.f k s at_).bind fun b => (if b.1 < 0 then golex_scanner_bad.f s p T N at_ else golex_scanner_note.l0 k z (wrap64 (at_ + b.2)) s p T N) else (noted s p N p z).bind fun N1 => some (true, s, z, T, N1)
def noteLine (k : Nat) (s : ByteArray) (p : Int) (T N : List S27) (i : Int) : Option (Bool × ByteArray × Int × (List (S27)) × (List (S27))) :=
  if 0 ≤ i then golex_scanner_note.l0 k (wrap64 (p + i)) p s p T N else golex_scanner_note.l0 k (s.size : Int) p s p T N
def noteBlock (k : Nat) (s : ByteArray) (p : Int) (T N : List S27) : Option (Bool × ByteArray × Int × (List (S27)) × (List (S27))) :=
  (golex_scanner_until.f k s p T N p (wrap64 (p + 2)) (⟨#[42, 47]⟩ : ByteArray) false (⟨#[]⟩ : ByteArray)).bind fun u => if u.2.1 = true then (noted u.2.2.1 u.2.2.2.1 u.2.2.2.2.2 p u.1).bind fun N1 => (if 0 ≤ Lib.indexByte (u.2.2.1.extract p.toNat u.1.toNat).data.toList 10 then (golex_scanner_feed.f u.2.2.1 u.2.2.2.1 u.2.2.2.2.1 N1 p).bind fun v => some (true, v.1, u.1, v.2.2.1, v.2.2.2) else some (true, u.2.2.1, u.1, u.2.2.2.2.1, N1)) else some (false, u.2.2.1, u.2.2.2.1, u.2.2.2.2.1, u.2.2.2.2.2)
def golex_scanner_note.f (k : Nat) (s : ByteArray) (p : Int) (T N : List S27) : Option (Bool × ByteArray × Int × (List (S27)) × (List (S27))) :=
  if 0 ≤ p ∧ p ≤ (s.size : Int) ∧ 0 ≤ wrap64 (p + 1) ∧ wrap64 (p + 1) < (s.size : Int) then (if bt s (wrap64 (p + 1)) = 47 then noteLine k s p T N (Lib.indexByte (s.extract p.toNat s.size).data.toList 10) else noteBlock k s p T N) else none
set_option maxHeartbeats 8000000 in
set_option maxRecDepth 100000 in
theorem golex_scanner_note.block (k : Nat) (g : Nat) (s : ByteArray) (p : Int) (T N : List S27) (r1 : Bool) (r2 : ByteArray) (r3 : Int) (r4 r5 : List (S27)) (w0 w : World) (hT : Tabs w0) (hI : IsS36 w0 w g s p T N) (hB : Below w0.heap.size w0 w) (q0 : 0 ≤ wrap64 (p + 1)) (q1 : wrap64 (p + 1) < (s.size : Int)) (q2 : ¬ bt s (wrap64 (p + 1)) = 47) (h : noteBlock k s p T N = some (r1, r2, r3, r4, r5)) :
    Calls Tryd.prog 42 #[.pointer (some ⟨g, 0, none⟩)] w fun e w' => e = .returned (.bool r1) ∧ IsS36 w0 w' g r2 r3 r4 r5 ∧ Below w0.heap.size w0 w' ∧ Kq w w' g none := by
  have hu27 := Tryd.underlying27
  have HT := Aside0.mk hT
  have HI := Aside0.mk hI
  have HB := Aside0.mk hB
  clear hT
  replace h := Option.bind_eq_some_iff.mp h
  obtain ⟨⟨t1, t2, t3, t4, t5, t6⟩, A0, h⟩ := h
  have A1 := Aside0.mk A0
  clear A0
  dsimp only at h
  obtain ⟨tv, nv, hG, hg0, hR, hN⟩ := hI
  have hc0 := cellS36_0 hG
  have hc1 := cellS36_1 hG
  clear hG hg0 hR hN hB
  have q0' := eq_true q0
  have q1' := eq_true q1
  have q2' : ((bt s (wrap64 (p + 1))) == 47) = false := by simpa using q2
  clear q0 q1 q2
  have hbt := bt_at s (wrap64 (p + 1))
  by_cases c1 : t2 = true
  · subst c1
    rw [if_pos rfl] at h
    replace h := Option.bind_eq_some_iff.mp h
    obtain ⟨N1, hN1, h⟩ := h
    unfold noted at hN1
    split at hN1
    case isFalse => exact absurd hN1 (by simp)
    rename_i qn
    obtain rfl := Option.some.inj hN1
    clear hN1
    obtain ⟨n0, n1, n2, n3⟩ := qn
    have n0' := eq_true n0
    have n1' := eq_true n1
    have n2' := eq_true n2
    go_enter Tryd.func42, Tryd.ntmps42
    go_wp2_with (first | (go_at_call 54; refine (golex_scanner_until.calls k g s p T N p (wrap64 (p + 2)) (⟨#[42, 47]⟩ : ByteArray) false (⟨#[]⟩ : ByteArray) t1 true t3 t4 t5 t6 w0 _ HT.out HI.out HB.out A1.out).mono ?_; rintro e w2 ⟨rfl, hi, hb, hk⟩))
    clear hc0 hc1 q0' q1' q2' hbt
    obtain ⟨tv, nv, h0, hg0, h2, h3⟩ := hi
    obtain ⟨A3, k3, e3⟩ := Kd.R_slice h3
    subst e3
    have hB := hb
    clear hb
    replace h0 := blk_drew h0
    replace h2 := Kd.R_drew h2
    replace h3 := Kd.R_drew h3
    replace hB := below_drew1 hB
    refine start_ (n := 19) (S := fun w' => w'.cell? ⟨g, 0, none⟩ = some (.string t3) ∧ w'.cell? ⟨g, 3, none⟩ = some (.slice A3 t6.length k3)) (ds := [18]) #[false, false, false, false, false, false, false, false, false, false, false, false, false, false, false, false, false, false, false] (by kernel_rfl) rfl rfl ⟨(blk_cell h0 0).trans rfl, (blk_cell h0 3).trans rfl⟩ (fun hHeld => ?_)
    generalize w2.drew = wd at h0 h2 h3 hB hHeld ⊢
    refine pure_ (i := 0) (N := some 93) (v := ?_) (a' := ?_) #[true, false, false, false, false, false, false, false, false, false, false, false, false, false, false, false, false, false, false] rfl rfl (by kernel_rfl) (fun _ _ _ h => h) (Or.inl ⟨by rfl, ?_⟩) ?_ ?_
    rotate_left
    · intro w'
      go_simp
      with_reducible rfl
    rotate_left
    · simp only [Act.put, List.setIfInBounds_toArray, List.set_cons_zero, List.set_cons_succ, i64_w, i32_w]
      rfl
    refine pure_ (i := 1) (N := some 94) (v := ?_) (a' := ?_) #[true, true, false, false, false, false, false, false, false, false, false, false, false, false, false, false, false, false, false] rfl rfl (by kernel_rfl) (fun _ _ _ h => h) (Or.inl ⟨by rfl, ?_⟩) ?_ ?_
    rotate_left
    · intro w'
      go_simp
      with_reducible rfl
    rotate_left
    · simp only [Act.put, List.setIfInBounds_toArray, List.set_cons_zero, List.set_cons_succ, i64_w, i32_w]
      rfl
    refine pure_ (i := 2) (N := some 95) (v := ?_) (a' := ?_) #[true, true, true, false, false, false, false, false, false, false, false, false, false, false, false, false, false, false, false] rfl rfl (by kernel_rfl) (fun _ _ _ h => h) (Or.inl ⟨by rfl, ?_⟩) ?_ ?_
    rotate_left
    · intro w'
      go_simp
      with_reducible rfl
    rotate_left
    · simp only [Act.put, List.setIfInBounds_toArray, List.set_cons_zero, List.set_cons_succ, i64_w, i32_w]
      rfl
    refine pure_ (i := 3) (N := some 96) (v := ?_) (a' := ?_) #[true, true, true, true, false, false, false, false, false, false, false, false, false, false, false, false, false, false, false] rfl rfl (by kernel_rfl) (fun _ _ _ h => h) (Or.inl ⟨by rfl, ?_⟩) ?_ ?_
    rotate_left
    · intro w'
      go_simp
      with_reducible rfl
    rotate_left
    · simp only [Act.put, List.setIfInBounds_toArray, List.set_cons_zero, List.set_cons_succ, i64_w, i32_w]
      rfl
    refine pure_ (i := 5) (N := some 98) (v := ?_) (a' := ?_) #[true, true, true, true, false, true, false, false, false, false, false, false, false, false, false, false, false, false, false] rfl rfl (by kernel_rfl) (fun _ _ _ h => h) (Or.inl ⟨by rfl, ?_⟩) ?_ ?_
    rotate_left
    · intro w'
      go_simp
      with_reducible rfl
    rotate_left
    · simp only [Act.put, List.setIfInBounds_toArray, List.set_cons_zero, List.set_cons_succ, i64_w, i32_w]
      rfl
    refine pure_ (i := 6) (N := some 99) (v := ?_) (a' := ?_) #[true, true, true, true, false, true, true, false, false, false, false, false, false, false, false, false, false, false, false] rfl rfl (by kernel_rfl) (fun _ _ _ h => h) (Or.inl ⟨by rfl, ?_⟩) ?_ ?_
    rotate_left
    · intro w'
      go_simp
      with_reducible rfl
    rotate_left
    · simp only [Act.put, List.setIfInBounds_toArray, List.set_cons_zero, List.set_cons_succ, i64_w, i32_w]
      rfl
    refine pure_ (i := 7) (N := some 100) (v := ?_) (a' := ?_) #[true, true, true, true, false, true, true, true, false, false, false, false, false, false, false, false, false, false, false] rfl rfl (by kernel_rfl) (fun _ _ _ h => h) (Or.inl ⟨by rfl, ?_⟩) ?_ ?_
    rotate_left
    · intro w'
      go_simp
      with_reducible rfl
    rotate_left
    · simp only [Act.put, List.setIfInBounds_toArray, List.set_cons_zero, List.set_cons_succ, i64_w, i32_w]
      rfl
    refine pure_ (i := 9) (N := some 102) (v := ?_) (a' := ?_) #[true, true, true, true, false, true, true, true, false, true, false, false, false, false, false, false, false, false, false] rfl rfl (by kernel_rfl) (fun _ _ _ h => h) (Or.inl ⟨by rfl, ?_⟩) ?_ ?_
    rotate_left
    · intro w'
      go_simp
      with_reducible rfl
    rotate_left
    · simp only [Act.put, List.setIfInBounds_toArray, List.set_cons_zero, List.set_cons_succ, i64_w, i32_w]
      rfl
    refine pure_ (i := 10) (N := some 103) (v := ?_) (a' := ?_) #[true, true, true, true, false, true, true, true, false, true, true, false, false, false, false, false, false, false, false] rfl rfl (by kernel_rfl) (fun _ _ _ h => h) (Or.inl ⟨by rfl, ?_⟩) ?_ ?_
    rotate_left
    · intro w'
      go_simp
      with_reducible rfl
    rotate_left
    · simp only [Act.put, List.setIfInBounds_toArray, List.set_cons_zero, List.set_cons_succ, i64_w, i32_w]
      rfl
    refine pure_ (i := 12) (N := some 105) (v := ?_) (a' := ?_) #[true, true, true, true, false, true, true, true, false, true, true, false, true, false, false, false, false, false, false] rfl rfl (by kernel_rfl) (fun _ _ _ h => h) (Or.inl ⟨by rfl, ?_⟩) ?_ ?_
    rotate_left
    · intro w'
      go_simp
      with_reducible rfl
    rotate_left
    · simp only [Act.put, List.setIfInBounds_toArray, List.set_cons_zero, List.set_cons_succ, i64_w, i32_w]
      rfl
    refine take_ (i := 4) (N := some 97) (v := ?_) (a' := ?_) #[true, true, true, true, true, true, true, true, false, true, true, false, true, false, false, false, false, false, false] rfl rfl (by kernel_rfl) (fun _ _ _ h => h) (Or.inl ⟨by rfl, ?_⟩) hHeld ?_ ?_
    rotate_left
    · rintro w' ⟨s0, s1⟩
      go_simp
      with_reducible rfl
    rotate_left
    · simp only [Act.put, List.setIfInBounds_toArray, List.set_cons_zero, List.set_cons_succ, i64_w, i32_w]
      rfl
    refine take_ (i := 8) (N := some 101) (v := ?_) (a' := ?_) #[true, true, true, true, true, true, true, true, true, true, true, false, true, false, false, false, false, false, false] rfl rfl (by kernel_rfl) (fun _ _ _ h => h) (Or.inl ⟨by rfl, ?_⟩) hHeld ?_ ?_
    rotate_left
    · rintro w' ⟨s0, s1⟩
      go_simp
      with_reducible rfl
    rotate_left
    · simp only [Act.put, List.setIfInBounds_toArray, List.set_cons_zero, List.set_cons_succ, i64_w, i32_w]
      rfl
    refine pure_ (i := 11) (N := some 104) (v := ?_) (a' := ?_) #[true, true, true, true, true, true, true, true, true, true, true, true, true, false, false, false, false, false, false] rfl rfl (by kernel_rfl) (fun _ _ _ h => h) (Or.inl ⟨by rfl, ?_⟩) ?_ ?_
    rotate_left
    · intro w'
      go_simp
      with_reducible rfl
    rotate_left
    · simp only [Act.put, List.setIfInBounds_toArray, List.set_cons_zero, List.set_cons_succ, i64_w, i32_w]
      rfl
    refine pure_ (i := 13) (N := some 106) (v := ?_) (a' := ?_) #[true, true, true, true, true, true, true, true, true, true, true, true, true, true, false, false, false, false, false] rfl rfl (by kernel_rfl) (fun _ _ _ h => h) (Or.inl ⟨by rfl, ?_⟩) ?_ ?_
    rotate_left
    · intro w'
      go_simp
      with_reducible rfl
    rotate_left
    · simp only [Act.put, List.setIfInBounds_toArray, List.set_cons_zero, List.set_cons_succ, i64_w, i32_w]
      rfl
    refine one_ (i := 14) (N := some 107) #[true, true, true, true, true, true, true, true, true, true, true, true, true, true, true, false, false, false, false] rfl rfl (by kernel_rfl) (by decide) (fun K hK => ?_)
    refine value_ (w1 := ?_) (v := ?_) (by rfl) rfl ?_ ?_
    rotate_left 2
    · go_simp
      constructor
      · rfl
      · rfl
    refine hK.out _ _ ⟨(blk_cell (blk_alloc h0 _) 0).trans rfl, (blk_cell (blk_alloc h0 _) 3).trans rfl⟩ (fun hHeld => ?_)
    clear hK K
    refine norm_ (a' := ?_) ?_ ?_
    rotate_left
    · show Act.put _ (some 107) _ = _
      simp only [Act.put, List.setIfInBounds_toArray, List.set_cons_zero, List.set_cons_succ, i64_w, i32_w]
      rfl
    refine one_ (i := 15) (N := some 108) #[true, true, true, true, true, true, true, true, true, true, true, true, true, true, true, true, false, false, false] rfl rfl (by kernel_rfl) (by decide) (fun K hK => ?_)
    refine Kd.R_append_step k27 (w0 := w0) w0.heap.size (by rfl) (.tmp 97) (.tmp 107) 24 27 (.agg #[(.int .i64 0), (.string ⟨#[]⟩), (.int .i64 0)]) 32 rfl Tryd.underlying24 info27 rfl (by decide) (by omega) (.slice A3 t6.length k3) t6 (⟨0, t3.extract p.toNat t1.toNat, p⟩ : S27) [.int .i64 0, .string (t3.extract p.toNat t1.toNat), .int .i64 p] (fun k => some k ≠ (tv : Value).ownBlock) (fun _ => False) rfl rfl ?aP (fun _ hk => hk.elim) ?aF ?aO ?aB ?aS ?aL ?_
    (case aP => exact k27_mkM _ _ _ (⟨0, t3.extract p.toNat t1.toNat, p⟩ : S27))
    (case aB => exact hB)
    (case aF => intro k hk e; have := Kd.R_lt h2 k e.symm; omega)
    (case aO => exact h3)
    (case aS => exact below_size hB)
    (case aL => omega)
    intro v1 w1 ho hb hg hat
    obtain ⟨Az, kz, ez⟩ := Kd.R_slice ho
    subst ez
    simp only [List.length_append, List.length_cons, List.length_nil, Nat.zero_add] at ho hat
    have b1 := blk_grown h0 hg (Sc.ne h0 h3)
    have f1_0 := blk_frozen b1 0
    have f1_1 := blk_frozen b1 1
    have f1_2 := blk_frozen b1 2
    have f1_3 := blk_frozen b1 3
    have d1_0 : w1.cell? ⟨g, 0, none⟩ = some (.string t3) := (blk_cell b1 0).trans rfl
    have d1_1 : w1.cell? ⟨g, 1, none⟩ = some (.int .i64 t4) := (blk_cell b1 1).trans rfl
    have d1_2 : w1.cell? ⟨g, 2, none⟩ = some (tv) := (blk_cell b1 2).trans rfl
    have d1_3 : w1.cell? ⟨g, 3, none⟩ = some (.slice A3 t6.length k3) := (blk_cell b1 3).trans rfl
    refine hK.out _ _ ⟨d1_0, d1_3⟩ (fun hHeld => ?_)
    clear hK K
    refine norm_ (a' := ?_) ?_ ?_
    rotate_left
    · show Act.put _ (some 108) _ = _
      simp only [Act.put, List.setIfInBounds_toArray, List.set_cons_zero, List.set_cons_succ, i64_w, i32_w]
      rfl
    refine pure_ (i := 16) (N := some 109) (v := ?_) (a' := ?_) #[true, true, true, true, true, true, true, true, true, true, true, true, true, true, true, true, true, false, false] rfl rfl (by kernel_rfl) (fun _ _ _ h => h) (Or.inl ⟨by rfl, ?_⟩) ?_ ?_
    rotate_left
    · intro w'
      go_simp
      with_reducible rfl
    rotate_left
    · simp only [Act.put, List.setIfInBounds_toArray, List.set_cons_zero, List.set_cons_succ, i64_w, i32_w]
      rfl
    refine pure_ (i := 17) (N := some 110) (v := ?_) (a' := ?_) #[true, true, true, true, true, true, true, true, true, true, true, true, true, true, true, true, true, true, false] rfl rfl (by kernel_rfl) (fun _ _ _ h => h) (Or.inl ⟨by rfl, ?_⟩) ?_ ?_
    rotate_left
    · intro w'
      go_simp
      with_reducible rfl
    rotate_left
    · simp only [Act.put, List.setIfInBounds_toArray, List.set_cons_zero, List.set_cons_succ, i64_w, i32_w]
      rfl
    refine last_ (i := 18) (N := none) #[true, true, true, true, true, true, true, true, true, true, true, true, true, true, true, true, true, true, true] rfl rfl (by kernel_rfl) (by decide) (fun K hK => ?_)
    refine skip_ (w1 := ?_) (by rfl) rfl ?_ ?_
    rotate_left
    · go_simp
      rfl
    refine hK.out _ _ ?_
    clear hK K
    refine done_ (by kernel_rfl) ?_
    have HI2 : IsS36 w0 (w1.setCell ⟨g, 3, none⟩ (.slice Az (t6.length + 1) kz)) g t3 t4 t5 (t6 ++ [(⟨0, t3.extract p.toNat t1.toNat, p⟩ : S27)]) := Sc.put_note hg0 h0 h2 h3 ho hg hat
    have HB2 := below_set hb hg0 (j := 3) (v := .slice Az (t6.length + 1) kz)
    clear hHeld b1 f1_0 f1_1 f1_2 f1_3 d1_0 d1_1 d1_2 d1_3 ho hg hat hb h0 h2 h3 hB
    generalize w1.setCell ⟨g, 3, none⟩ (.slice Az (t6.length + 1) kz) = w3 at HI2 HB2 ⊢
    generalize (t6 ++ [(⟨0, t3.extract p.toNat t1.toNat, p⟩ : S27)]) = N1 at HI2 h
    have H2 := Aside0.mk HI2
    obtain ⟨tv1, nv1, hG1, hg1, hR1, hN1⟩ := HI2
    have hd0 := cellS36_0 hG1
    have hd1 := cellS36_1 hG1
    have hf0 := blk_frozen hG1 0
    have hf1 := blk_frozen hG1 1
    clear hG1 hR1 hN1
    by_cases c3 : 0 ≤ Lib.indexByte (t3.extract p.toNat t1.toNat).data.toList 10
    · rw [if_pos c3] at h
      replace h := Option.bind_eq_some_iff.mp h
      obtain ⟨⟨v1, v2, v3, v4⟩, B0, h⟩ := h
      have B1 := Aside0.mk B0
      clear B0
      simp only [Option.some.injEq, Prod.mk.injEq] at h
      obtain ⟨rfl, rfl, rfl, rfl, rfl⟩ := h
      have c3' : decide (0 ≤ Lib.indexByte (t3.extract p.toNat t1.toNat).data.toList 10) = true := decide_eq_true c3
      go_wp2_with (first | (go_at_call 55; refine (Tryd.strings_Contains_one (t3.extract p.toNat t1.toNat) 10 w3).mono ?_; rintro e w4 ⟨rfl, rfl⟩; rw [c3']) | (go_at_call 37; refine (golex_scanner_feed.calls g t3 t4 t5 N1 p v1 v2 v3 v4 w0 _ HT.out H2.out HB2 B1.out).mono ?_; rintro e w4 ⟨rfl, hi, hb, hk⟩; obtain ⟨tv2, nv2, hG2, hg2, hR2, hN2⟩ := id hi; have he1 := cellS36_1 hG2; have hf2 := blk_frozen hG2 1))
      go_ret
      exact ⟨rfl, hi.set_1 t1, below_set hb hg0, trivial⟩
    · rw [if_neg c3] at h
      simp only [Option.some.injEq, Prod.mk.injEq] at h
      obtain ⟨rfl, rfl, rfl, rfl, rfl⟩ := h
      have c3' : decide (0 ≤ Lib.indexByte (t3.extract p.toNat t1.toNat).data.toList 10) = false := decide_eq_false c3
      go_wp2_with (first | (go_at_call 55; refine (Tryd.strings_Contains_one (t3.extract p.toNat t1.toNat) 10 w3).mono ?_; rintro e w4 ⟨rfl, rfl⟩; rw [c3']))
      go_ret
      exact ⟨rfl, H2.out.set_1 t1, below_set HB2 hg0, trivial⟩
  · replace c1 := Bool.eq_false_iff.mpr c1
    subst c1
    rw [if_neg (by decide)] at h
    simp only [Option.some.injEq, Prod.mk.injEq] at h
    obtain ⟨rfl, rfl, rfl, rfl, rfl⟩ := h
    go_enter Tryd.func42, Tryd.ntmps42
    go_wp2_with (first | (go_at_call 54; refine (golex_scanner_until.calls k g s p T N p (wrap64 (p + 2)) (⟨#[42, 47]⟩ : ByteArray) false (⟨#[]⟩ : ByteArray) t1 false t3 t4 t5 t6 w0 _ HT.out HI.out HB.out A1.out).mono ?_; rintro e w2 ⟨rfl, hi, hb, hk⟩))
    go_ret
    exact ⟨rfl, hi, hb, trivial⟩
set_option maxHeartbeats 8000000 in
set_option maxRecDepth 100000 in
theorem golex_scanner_note.line (k : Nat) (g : Nat) (s : ByteArray) (p : Int) (T N : List S27) (r1 : Bool) (r2 : ByteArray) (r3 : Int) (r4 r5 : List (S27)) (w0 w : World) (hT : Tabs w0) (hI : IsS36 w0 w g s p T N) (hB : Below w0.heap.size w0 w) (p0 : 0 ≤ p) (p1 : p ≤ (s.size : Int)) (q0 : 0 ≤ wrap64 (p + 1)) (q1 : wrap64 (p + 1) < (s.size : Int)) (q2 : bt s (wrap64 (p + 1)) = 47) (i : Int) (hix : Lib.indexByte (s.extract p.toNat s.size).data.toList 10 = i) (h : noteLine k s p T N i = some (r1, r2, r3, r4, r5)) :
    Calls Tryd.prog 42 #[.pointer (some ⟨g, 0, none⟩)] w fun e w' => e = .returned (.bool r1) ∧ IsS36 w0 w' g r2 r3 r4 r5 ∧ Below w0.heap.size w0 w' ∧ Kq w w' g none := by
  have hu27 := Tryd.underlying27
  have HT := Aside0.mk hT
  have HI := Aside0.mk hI
  have HB := Aside0.mk hB
  clear hT
  obtain ⟨tv, nv, hG, hg0, hR, hN⟩ := hI
  have hc0 := cellS36_0 hG
  have hc1 := cellS36_1 hG
  clear hG hg0 hR hN hB
  have q0' := eq_true q0
  have q1' := eq_true q1
  have p0' := eq_true p0
  have p1' := eq_true p1
  have q2' : ((bt s (wrap64 (p + 1))) == 47) = true := by simpa using q2
  clear q0 q1 q2 p0 p1
  have hbt := bt_at s (wrap64 (p + 1))
  have hix2 : Lib.indexByte (s.extract p.toNat s.size).data.toList (10 : Int).toNat.toUInt8 = i := hix
  clear hix
  unfold noteLine at h
  by_cases c1 : 0 ≤ i
  · rw [if_pos c1] at h
    have H' := Aside0.mk h
    clear h
    have c1' : decide (0 ≤ i) = true := decide_eq_true c1
    have c1'' := eq_true c1
    clear c1
    go_enter Tryd.func42, Tryd.ntmps42
    go_wp2_with (first | (go_at_call 53; refine (Tryd.strings_IndexByte (s.extract p.toNat s.size) 10 w).mono ?_; rintro e w2 ⟨rfl, rfl⟩; rw [hix2]))
    go_loopg [6] k (fun kq v6 w' => ∃ x6 : Int, v6 = .int .i64 x6 ∧ Aside0 (golex_scanner_note.l0 kq (wrap64 (p + i)) x6 s p T N = some (r1, r2, r3, r4, r5)) ∧ Aside0 (kq ≤ k) ∧ Aside0 (IsS36 w0 w' g s p T N) ∧ Aside0 (Below w0.heap.size w0 w'))
    case atStart => exact ⟨p, rfl, H', ⟨Nat.le_refl _⟩, HI, HB⟩
    case round =>
      clear H' HI HB
      obtain ⟨x6, rfl, HA, HK1, HI, HB⟩ := hrel
      cases gk with
      | zero => exact absurd HA.out (by simp [golex_scanner_note.l0])
      | succ k1 =>
        have H := HA.out
        clear HA
        simp only [golex_scanner_note.l0] at H
        have hI := HI.out
        obtain ⟨tv, nv, hG, hg0, hR, hN⟩ := hI
        have hc0 := cellS36_0 hG
        clear hG hg0 hR hN
        by_cases c7 : x6 < (wrap64 (p + i))
        · rw [if_pos c7] at H
          have c7b0 : decide (x6 < (wrap64 (p + i))) = true := decide_eq_true c7
          clear c7
          replace H := Option.bind_eq_some_iff.mp H
          obtain ⟨⟨b1, b2⟩, A0, H⟩ := H
          have A1 := Aside0.mk A0
          clear A0
          dsimp only at H
          by_cases c8 : b1 < 0
          · rw [if_pos c8] at H
            have H' := Aside0.mk H
            clear H
            have c8b0 : decide (b1 < 0) = true := decide_eq_true c8
            clear c8
            go_wp2_with (first | (go_at_call 36; refine (utf_Rune.calls k1 s x6 b1 b2 _ (HT.out.below HB.out) A1.out).mono ?_; rintro e w3 ⟨rfl, hb⟩; have HI3 := Aside0.mk (HI.out.below hb); have HB3 := Aside0.mk (below_step HB.out hb); clear HI HB hb; have HI := HI3; have HB := HB3; clear HI3 HB3) | (go_at_call 39; refine (golex_scanner_bad.calls g s p T N x6 r1 r2 r3 r4 r5 w0 _ HT.out HI.out HB.out H'.out).mono ?_; rintro e w3 ⟨rfl, hi, hb, hk⟩))
            go_ret
            exact ⟨rfl, hi, hb, trivial⟩
          · rw [if_neg c8] at H
            have H' := Aside0.mk H
            clear H
            have c8b0 : decide (b1 < 0) = false := decide_eq_false c8
            clear c8
            go_wp2_with (first | (go_at_call 36; refine (utf_Rune.calls k1 s x6 b1 b2 _ (HT.out.below HB.out) A1.out).mono ?_; rintro e w3 ⟨rfl, hb⟩; have HI3 := Aside0.mk (HI.out.below hb); have HB3 := Aside0.mk (below_step HB.out hb); clear HI HB hb; have HI := HI3; have HB := HB3; clear HI3 HB3))
            go_roundg k1
            case measure => have := HK1.out; omega
            case rel => exact ⟨wrap64 (x6 + b2), rfl, H', ⟨by have := HK1.out; omega⟩, HI, HB⟩
        · rw [if_neg c7] at H
          have c7b0 : decide (x6 < (wrap64 (p + i))) = false := decide_eq_false c7
          clear c7
          replace H := Option.bind_eq_some_iff.mp H
          obtain ⟨N1, hN1, H⟩ := H
          unfold noted at hN1
          split at hN1
          case isFalse => exact absurd hN1 (by simp)
          rename_i qn
          obtain rfl := Option.some.inj hN1
          clear hN1
          simp only [Option.some.injEq, Prod.mk.injEq] at H
          obtain ⟨rfl, rfl, rfl, rfl, rfl⟩ := H
          obtain ⟨n0, n1, n2, n3⟩ := qn
          have n0' := eq_true n0
          have n1' := eq_true n1
          have n2' := eq_true n2
          go_wp2
          clear hc0
          have hI := HI.out
          obtain ⟨tv, nv, h0, hg0, h2, h3⟩ := hI
          obtain ⟨A3, k3, e3⟩ := Kd.R_slice h3
          subst e3
          have hB := HB.out
          replace h0 := blk_drew h0
          replace h2 := Kd.R_drew h2
          replace h3 := Kd.R_drew h3
          replace hB := below_drew1 hB
          refine start_ (n := 19) (S := fun w' => w'.cell? ⟨g, 0, none⟩ = some (.string s) ∧ w'.cell? ⟨g, 3, none⟩ = some (.slice A3 N.length k3)) (ds := [18]) #[false, false, false, false, false, false, false, false, false, false, false, false, false, false, false, false, false, false, false] (by kernel_rfl) rfl rfl ⟨(blk_cell h0 0).trans rfl, (blk_cell h0 3).trans rfl⟩ (fun hHeld => ?_)
          generalize wr.drew = wd at h0 h2 h3 hB hHeld ⊢
          refine pure_ (i := 0) (N := some 61) (v := ?_) (a' := ?_) #[true, false, false, false, false, false, false, false, false, false, false, false, false, false, false, false, false, false, false] rfl rfl (by kernel_rfl) (fun _ _ _ h => h) (Or.inl ⟨by rfl, ?_⟩) ?_ ?_
          rotate_left
          · intro w'
            go_simp
            with_reducible rfl
          rotate_left
          · simp only [Act.put, List.setIfInBounds_toArray, List.set_cons_zero, List.set_cons_succ, i64_w, i32_w]
            rfl
          refine pure_ (i := 1) (N := some 62) (v := ?_) (a' := ?_) #[true, true, false, false, false, false, false, false, false, false, false, false, false, false, false, false, false, false, false] rfl rfl (by kernel_rfl) (fun _ _ _ h => h) (Or.inl ⟨by rfl, ?_⟩) ?_ ?_
          rotate_left
          · intro w'
            go_simp
            with_reducible rfl
          rotate_left
          · simp only [Act.put, List.setIfInBounds_toArray, List.set_cons_zero, List.set_cons_succ, i64_w, i32_w]
            rfl
          refine pure_ (i := 2) (N := some 63) (v := ?_) (a' := ?_) #[true, true, true, false, false, false, false, false, false, false, false, false, false, false, false, false, false, false, false] rfl rfl (by kernel_rfl) (fun _ _ _ h => h) (Or.inl ⟨by rfl, ?_⟩) ?_ ?_
          rotate_left
          · intro w'
            go_simp
            with_reducible rfl
          rotate_left
          · simp only [Act.put, List.setIfInBounds_toArray, List.set_cons_zero, List.set_cons_succ, i64_w, i32_w]
            rfl
          refine pure_ (i := 3) (N := some 64) (v := ?_) (a' := ?_) #[true, true, true, true, false, false, false, false, false, false, false, false, false, false, false, false, false, false, false] rfl rfl (by kernel_rfl) (fun _ _ _ h => h) (Or.inl ⟨by rfl, ?_⟩) ?_ ?_
          rotate_left
          · intro w'
            go_simp
            with_reducible rfl
          rotate_left
          · simp only [Act.put, List.setIfInBounds_toArray, List.set_cons_zero, List.set_cons_succ, i64_w, i32_w]
            rfl
          refine pure_ (i := 5) (N := some 66) (v := ?_) (a' := ?_) #[true, true, true, true, false, true, false, false, false, false, false, false, false, false, false, false, false, false, false] rfl rfl (by kernel_rfl) (fun _ _ _ h => h) (Or.inl ⟨by rfl, ?_⟩) ?_ ?_
          rotate_left
          · intro w'
            go_simp
            with_reducible rfl
          rotate_left
          · simp only [Act.put, List.setIfInBounds_toArray, List.set_cons_zero, List.set_cons_succ, i64_w, i32_w]
            rfl
          refine pure_ (i := 6) (N := some 67) (v := ?_) (a' := ?_) #[true, true, true, true, false, true, true, false, false, false, false, false, false, false, false, false, false, false, false] rfl rfl (by kernel_rfl) (fun _ _ _ h => h) (Or.inl ⟨by rfl, ?_⟩) ?_ ?_
          rotate_left
          · intro w'
            go_simp
            with_reducible rfl
          rotate_left
          · simp only [Act.put, List.setIfInBounds_toArray, List.set_cons_zero, List.set_cons_succ, i64_w, i32_w]
            rfl
          refine pure_ (i := 7) (N := some 68) (v := ?_) (a' := ?_) #[true, true, true, true, false, true, true, true, false, false, false, false, false, false, false, false, false, false, false] rfl rfl (by kernel_rfl) (fun _ _ _ h => h) (Or.inl ⟨by rfl, ?_⟩) ?_ ?_
          rotate_left
          · intro w'
            go_simp
            with_reducible rfl
          rotate_left
          · simp only [Act.put, List.setIfInBounds_toArray, List.set_cons_zero, List.set_cons_succ, i64_w, i32_w]
            rfl
          refine pure_ (i := 9) (N := some 70) (v := ?_) (a' := ?_) #[true, true, true, true, false, true, true, true, false, true, false, false, false, false, false, false, false, false, false] rfl rfl (by kernel_rfl) (fun _ _ _ h => h) (Or.inl ⟨by rfl, ?_⟩) ?_ ?_
          rotate_left
          · intro w'
            go_simp
            with_reducible rfl
          rotate_left
          · simp only [Act.put, List.setIfInBounds_toArray, List.set_cons_zero, List.set_cons_succ, i64_w, i32_w]
            rfl
          refine pure_ (i := 10) (N := some 71) (v := ?_) (a' := ?_) #[true, true, true, true, false, true, true, true, false, true, true, false, false, false, false, false, false, false, false] rfl rfl (by kernel_rfl) (fun _ _ _ h => h) (Or.inl ⟨by rfl, ?_⟩) ?_ ?_
          rotate_left
          · intro w'
            go_simp
            with_reducible rfl
          rotate_left
          · simp only [Act.put, List.setIfInBounds_toArray, List.set_cons_zero, List.set_cons_succ, i64_w, i32_w]
            rfl
          refine pure_ (i := 12) (N := some 73) (v := ?_) (a' := ?_) #[true, true, true, true, false, true, true, true, false, true, true, false, true, false, false, false, false, false, false] rfl rfl (by kernel_rfl) (fun _ _ _ h => h) (Or.inl ⟨by rfl, ?_⟩) ?_ ?_
          rotate_left
          · intro w'
            go_simp
            with_reducible rfl
          rotate_left
          · simp only [Act.put, List.setIfInBounds_toArray, List.set_cons_zero, List.set_cons_succ, i64_w, i32_w]
            rfl
          refine take_ (i := 4) (N := some 65) (v := ?_) (a' := ?_) #[true, true, true, true, true, true, true, true, false, true, true, false, true, false, false, false, false, false, false] rfl rfl (by kernel_rfl) (fun _ _ _ h => h) (Or.inl ⟨by rfl, ?_⟩) hHeld ?_ ?_
          rotate_left
          · rintro w' ⟨s0, s1⟩
            go_simp
            with_reducible rfl
          rotate_left
          · simp only [Act.put, List.setIfInBounds_toArray, List.set_cons_zero, List.set_cons_succ, i64_w, i32_w]
            rfl
          refine take_ (i := 8) (N := some 69) (v := ?_) (a' := ?_) #[true, true, true, true, true, true, true, true, true, true, true, false, true, false, false, false, false, false, false] rfl rfl (by kernel_rfl) (fun _ _ _ h => h) (Or.inl ⟨by rfl, ?_⟩) hHeld ?_ ?_
          rotate_left
          · rintro w' ⟨s0, s1⟩
            go_simp
            with_reducible rfl
          rotate_left
          · simp only [Act.put, List.setIfInBounds_toArray, List.set_cons_zero, List.set_cons_succ, i64_w, i32_w]
            rfl
          refine pure_ (i := 11) (N := some 72) (v := ?_) (a' := ?_) #[true, true, true, true, true, true, true, true, true, true, true, true, true, false, false, false, false, false, false] rfl rfl (by kernel_rfl) (fun _ _ _ h => h) (Or.inl ⟨by rfl, ?_⟩) ?_ ?_
          rotate_left
          · intro w'
            go_simp
            with_reducible rfl
          rotate_left
          · simp only [Act.put, List.setIfInBounds_toArray, List.set_cons_zero, List.set_cons_succ, i64_w, i32_w]
            rfl
          refine pure_ (i := 13) (N := some 74) (v := ?_) (a' := ?_) #[true, true, true, true, true, true, true, true, true, true, true, true, true, true, false, false, false, false, false] rfl rfl (by kernel_rfl) (fun _ _ _ h => h) (Or.inl ⟨by rfl, ?_⟩) ?_ ?_
          rotate_left
          · intro w'
            go_simp
            with_reducible rfl
          rotate_left
          · simp only [Act.put, List.setIfInBounds_toArray, List.set_cons_zero, List.set_cons_succ, i64_w, i32_w]
            rfl
          refine one_ (i := 14) (N := some 75) #[true, true, true, true, true, true, true, true, true, true, true, true, true, true, true, false, false, false, false] rfl rfl (by kernel_rfl) (by decide) (fun K hK => ?_)
          refine value_ (w1 := ?_) (v := ?_) (by rfl) rfl ?_ ?_
          rotate_left 2
          · go_simp
            constructor
            · rfl
            · rfl
          refine hK.out _ _ ⟨(blk_cell (blk_alloc h0 _) 0).trans rfl, (blk_cell (blk_alloc h0 _) 3).trans rfl⟩ (fun hHeld => ?_)
          clear hK K
          refine norm_ (a' := ?_) ?_ ?_
          rotate_left
          · show Act.put _ (some 75) _ = _
            simp only [Act.put, List.setIfInBounds_toArray, List.set_cons_zero, List.set_cons_succ, i64_w, i32_w]
            rfl
          refine one_ (i := 15) (N := some 76) #[true, true, true, true, true, true, true, true, true, true, true, true, true, true, true, true, false, false, false] rfl rfl (by kernel_rfl) (by decide) (fun K hK => ?_)
          refine Kd.R_append_step k27 (w0 := w0) w0.heap.size (by rfl) (.tmp 65) (.tmp 75) 24 27 (.agg #[(.int .i64 0), (.string ⟨#[]⟩), (.int .i64 0)]) 32 rfl Tryd.underlying24 info27 rfl (by decide) (by omega) (.slice A3 N.length k3) N (⟨0, s.extract p.toNat (wrap64 (p + i)).toNat, p⟩ : S27) [.int .i64 0, .string (s.extract p.toNat (wrap64 (p + i)).toNat), .int .i64 p] (fun k => some k ≠ (tv : Value).ownBlock) (fun _ => False) rfl rfl ?aP (fun _ hk => hk.elim) ?aF ?aO ?aB ?aS ?aL ?_
          (case aP => exact k27_mkM _ _ _ (⟨0, s.extract p.toNat (wrap64 (p + i)).toNat, p⟩ : S27))
          (case aB => exact hB)
          (case aF => intro k hk e; have := Kd.R_lt h2 k e.symm; omega)
          (case aO => exact h3)
          (case aS => exact below_size hB)
          (case aL => omega)
          intro v1 w1 ho hb hg hat
          obtain ⟨Az, kz, ez⟩ := Kd.R_slice ho
          subst ez
          simp only [List.length_append, List.length_cons, List.length_nil, Nat.zero_add] at ho hat
          have b1 := blk_grown h0 hg (Sc.ne h0 h3)
          have f1_0 := blk_frozen b1 0
          have f1_1 := blk_frozen b1 1
          have f1_2 := blk_frozen b1 2
          have f1_3 := blk_frozen b1 3
          have d1_0 : w1.cell? ⟨g, 0, none⟩ = some (.string s) := (blk_cell b1 0).trans rfl
          have d1_1 : w1.cell? ⟨g, 1, none⟩ = some (.int .i64 p) := (blk_cell b1 1).trans rfl
          have d1_2 : w1.cell? ⟨g, 2, none⟩ = some (tv) := (blk_cell b1 2).trans rfl
          have d1_3 : w1.cell? ⟨g, 3, none⟩ = some (.slice A3 N.length k3) := (blk_cell b1 3).trans rfl
          refine hK.out _ _ ⟨d1_0, d1_3⟩ (fun hHeld => ?_)
          clear hK K
          refine norm_ (a' := ?_) ?_ ?_
          rotate_left
          · show Act.put _ (some 76) _ = _
            simp only [Act.put, List.setIfInBounds_toArray, List.set_cons_zero, List.set_cons_succ, i64_w, i32_w]
            rfl
          refine pure_ (i := 16) (N := some 77) (v := ?_) (a' := ?_) #[true, true, true, true, true, true, true, true, true, true, true, true, true, true, true, true, true, false, false] rfl rfl (by kernel_rfl) (fun _ _ _ h => h) (Or.inl ⟨by rfl, ?_⟩) ?_ ?_
          rotate_left
          · intro w'
            go_simp
            with_reducible rfl
          rotate_left
          · simp only [Act.put, List.setIfInBounds_toArray, List.set_cons_zero, List.set_cons_succ, i64_w, i32_w]
            rfl
          refine pure_ (i := 17) (N := some 78) (v := ?_) (a' := ?_) #[true, true, true, true, true, true, true, true, true, true, true, true, true, true, true, true, true, true, false] rfl rfl (by kernel_rfl) (fun _ _ _ h => h) (Or.inl ⟨by rfl, ?_⟩) ?_ ?_
          rotate_left
          · intro w'
            go_simp
            with_reducible rfl
          rotate_left
          · simp only [Act.put, List.setIfInBounds_toArray, List.set_cons_zero, List.set_cons_succ, i64_w, i32_w]
            rfl
          refine last_ (i := 18) (N := none) #[true, true, true, true, true, true, true, true, true, true, true, true, true, true, true, true, true, true, true] rfl rfl (by kernel_rfl) (by decide) (fun K hK => ?_)
          refine skip_ (w1 := ?_) (by rfl) rfl ?_ ?_
          rotate_left
          · go_simp
            rfl
          refine hK.out _ _ ?_
          clear hK K
          refine done_ (by kernel_rfl) ?_
          go_wp2
          go_ret
          exact ⟨rfl, Sc.at_set (Sc.put_note hg0 h0 h2 h3 ho hg hat) (wrap64 (p + i)), below_set (below_set hb hg0) hg0, trivial⟩
  · rw [if_neg c1] at h
    have H' := Aside0.mk h
    clear h
    have c1' : decide (0 ≤ i) = false := decide_eq_false c1
    have c1'' := eq_false c1
    clear c1
    go_enter Tryd.func42, Tryd.ntmps42
    go_wp2_with (first | (go_at_call 53; refine (Tryd.strings_IndexByte (s.extract p.toNat s.size) 10 w).mono ?_; rintro e w2 ⟨rfl, rfl⟩; rw [hix2]))
    go_loopg [6] k (fun kq v6 w' => ∃ x6 : Int, v6 = .int .i64 x6 ∧ Aside0 (golex_scanner_note.l0 kq ((s.size : Int)) x6 s p T N = some (r1, r2, r3, r4, r5)) ∧ Aside0 (kq ≤ k) ∧ Aside0 (IsS36 w0 w' g s p T N) ∧ Aside0 (Below w0.heap.size w0 w'))
    case atStart => exact ⟨p, rfl, H', ⟨Nat.le_refl _⟩, HI, HB⟩
    case round =>
      clear H' HI HB
      obtain ⟨x6, rfl, HA, HK1, HI, HB⟩ := hrel
      cases gk with
      | zero => exact absurd HA.out (by simp [golex_scanner_note.l0])
      | succ k1 =>
        have H := HA.out
        clear HA
        simp only [golex_scanner_note.l0] at H
        have hI := HI.out
        obtain ⟨tv, nv, hG, hg0, hR, hN⟩ := hI
        have hc0 := cellS36_0 hG
        clear hG hg0 hR hN
        by_cases c7 : x6 < ((s.size : Int))
        · rw [if_pos c7] at H
          have c7b0 : decide (x6 < ((s.size : Int))) = true := decide_eq_true c7
          clear c7
          replace H := Option.bind_eq_some_iff.mp H
          obtain ⟨⟨b1, b2⟩, A0, H⟩ := H
          have A1 := Aside0.mk A0
          clear A0
          dsimp only at H
          by_cases c8 : b1 < 0
          · rw [if_pos c8] at H
            have H' := Aside0.mk H
            clear H
            have c8b0 : decide (b1 < 0) = true := decide_eq_true c8
            clear c8
            go_wp2_with (first | (go_at_call 36; refine (utf_Rune.calls k1 s x6 b1 b2 _ (HT.out.below HB.out) A1.out).mono ?_; rintro e w3 ⟨rfl, hb⟩; have HI3 := Aside0.mk (HI.out.below hb); have HB3 := Aside0.mk (below_step HB.out hb); clear HI HB hb; have HI := HI3; have HB := HB3; clear HI3 HB3) | (go_at_call 39; refine (golex_scanner_bad.calls g s p T N x6 r1 r2 r3 r4 r5 w0 _ HT.out HI.out HB.out H'.out).mono ?_; rintro e w3 ⟨rfl, hi, hb, hk⟩))
            go_ret
            exact ⟨rfl, hi, hb, trivial⟩
          · rw [if_neg c8] at H
            have H' := Aside0.mk H
            clear H
            have c8b0 : decide (b1 < 0) = false := decide_eq_false c8
            clear c8
            go_wp2_with (first | (go_at_call 36; refine (utf_Rune.calls k1 s x6 b1 b2 _ (HT.out.below HB.out) A1.out).mono ?_; rintro e w3 ⟨rfl, hb⟩; have HI3 := Aside0.mk (HI.out.below hb); have HB3 := Aside0.mk (below_step HB.out hb); clear HI HB hb; have HI := HI3; have HB := HB3; clear HI3 HB3))
            go_roundg k1
            case measure => have := HK1.out; omega
            case rel => exact ⟨wrap64 (x6 + b2), rfl, H', ⟨by have := HK1.out; omega⟩, HI, HB⟩
        · rw [if_neg c7] at H
          have c7b0 : decide (x6 < ((s.size : Int))) = false := decide_eq_false c7
          clear c7
          replace H := Option.bind_eq_some_iff.mp H
          obtain ⟨N1, hN1, H⟩ := H
          unfold noted at hN1
          split at hN1
          case isFalse => exact absurd hN1 (by simp)
          rename_i qn
          obtain rfl := Option.some.inj hN1
          clear hN1
          simp only [Option.some.injEq, Prod.mk.injEq] at H
          obtain ⟨rfl, rfl, rfl, rfl, rfl⟩ := H
          obtain ⟨n0, n1, n2, n3⟩ := qn
          have n0' := eq_true n0
          have n1' := eq_true n1
          have n2' := eq_true n2
          go_wp2
          clear hc0
          have hI := HI.out
          obtain ⟨tv, nv, h0, hg0, h2, h3⟩ := hI
          obtain ⟨A3, k3, e3⟩ := Kd.R_slice h3
          subst e3
          have hB := HB.out
          replace h0 := blk_drew h0
          replace h2 := Kd.R_drew h2
          replace h3 := Kd.R_drew h3
          replace hB := below_drew1 hB
          refine start_ (n := 19) (S := fun w' => w'.cell? ⟨g, 0, none⟩ = some (.string s) ∧ w'.cell? ⟨g, 3, none⟩ = some (.slice A3 N.length k3)) (ds := [18]) #[false, false, false, false, false, false, false, false, false, false, false, false, false, false, false, false, false, false, false] (by kernel_rfl) rfl rfl ⟨(blk_cell h0 0).trans rfl, (blk_cell h0 3).trans rfl⟩ (fun hHeld => ?_)
          generalize wr.drew = wd at h0 h2 h3 hB hHeld ⊢
          refine pure_ (i := 0) (N := some 61) (v := ?_) (a' := ?_) #[true, false, false, false, false, false, false, false, false, false, false, false, false, false, false, false, false, false, false] rfl rfl (by kernel_rfl) (fun _ _ _ h => h) (Or.inl ⟨by rfl, ?_⟩) ?_ ?_
          rotate_left
          · intro w'
            go_simp
            with_reducible rfl
          rotate_left
          · simp only [Act.put, List.setIfInBounds_toArray, List.set_cons_zero, List.set_cons_succ, i64_w, i32_w]
            rfl
          refine pure_ (i := 1) (N := some 62) (v := ?_) (a' := ?_) #[true, true, false, false, false, false, false, false, false, false, false, false, false, false, false, false, false, false, false] rfl rfl (by kernel_rfl) (fun _ _ _ h => h) (Or.inl ⟨by rfl, ?_⟩) ?_ ?_
          rotate_left
          · intro w'
            go_simp
            with_reducible rfl
          rotate_left
          · simp only [Act.put, List.setIfInBounds_toArray, List.set_cons_zero, List.set_cons_succ, i64_w, i32_w]
            rfl
          refine pure_ (i := 2) (N := some 63) (v := ?_) (a' := ?_) #[true, true, true, false, false, false, false, false, false, false, false, false, false, false, false, false, false, false, false] rfl rfl (by kernel_rfl) (fun _ _ _ h => h) (Or.inl ⟨by rfl, ?_⟩) ?_ ?_
          rotate_left
          · intro w'
            go_simp
            with_reducible rfl
          rotate_left
          · simp only [Act.put, List.setIfInBounds_toArray, List.set_cons_zero, List.set_cons_succ, i64_w, i32_w]
            rfl
          refine pure_ (i := 3) (N := some 64) (v := ?_) (a' := ?_) #[true, true, true, true, false, false, false, false, false, false, false, false, false, false, false, false, false, false, false] rfl rfl (by kernel_rfl) (fun _ _ _ h => h) (Or.inl ⟨by rfl, ?_⟩) ?_ ?_
          rotate_left
          · intro w'
            go_simp
            with_reducible rfl
          rotate_left
          · simp only [Act.put, List.setIfInBounds_toArray, List.set_cons_zero, List.set_cons_succ, i64_w, i32_w]
            rfl
          refine pure_ (i := 5) (N := some 66) (v := ?_) (a' := ?_) #[true, true, true, true, false, true, false, false, false, false, false, false, false, false, false, false, false, false, false] rfl rfl (by kernel_rfl) (fun _ _ _ h => h) (Or.inl ⟨by rfl, ?_⟩) ?_ ?_
          rotate_left
          · intro w'
            go_simp
            with_reducible rfl
          rotate_left
          · simp only [Act.put, List.setIfInBounds_toArray, List.set_cons_zero, List.set_cons_succ, i64_w, i32_w]
            rfl
          refine pure_ (i := 6) (N := some 67) (v := ?_) (a' := ?_) #[true, true, true, true, false, true, true, false, false, false, false, false, false, false, false, false, false, false, false] rfl rfl (by kernel_rfl) (fun _ _ _ h => h) (Or.inl ⟨by rfl, ?_⟩) ?_ ?_
          rotate_left
          · intro w'
            go_simp
            with_reducible rfl
          rotate_left
          · simp only [Act.put, List.setIfInBounds_toArray, List.set_cons_zero, List.set_cons_succ, i64_w, i32_w]
            rfl
          refine pure_ (i := 7) (N := some 68) (v := ?_) (a' := ?_) #[true, true, true, true, false, true, true, true, false, false, false, false, false, false, false, false, false, false, false] rfl rfl (by kernel_rfl) (fun _ _ _ h => h) (Or.inl ⟨by rfl, ?_⟩) ?_ ?_
          rotate_left
          · intro w'
            go_simp
            with_reducible rfl
          rotate_left
          · simp only [Act.put, List.setIfInBounds_toArray, List.set_cons_zero, List.set_cons_succ, i64_w, i32_w]
            rfl
          refine pure_ (i := 9) (N := some 70) (v := ?_) (a' := ?_) #[true, true, true, true, false, true, true, true, false, true, false, false, false, false, false, false, false, false, false] rfl rfl (by kernel_rfl) (fun _ _ _ h => h) (Or.inl ⟨by rfl, ?_⟩) ?_ ?_
          rotate_left
          · intro w'
            go_simp
            with_reducible rfl
          rotate_left
          · simp only [Act.put, List.setIfInBounds_toArray, List.set_cons_zero, List.set_cons_succ, i64_w, i32_w]
            rfl
          refine pure_ (i := 10) (N := some 71) (v := ?_) (a' := ?_) #[true, true, true, true, false, true, true, true, false, true, true, false, false, false, false, false, false, false, false] rfl rfl (by kernel_rfl) (fun _ _ _ h => h) (Or.inl ⟨by rfl, ?_⟩) ?_ ?_
          rotate_left
          · intro w'
            go_simp
            with_reducible rfl
          rotate_left
          · simp only [Act.put, List.setIfInBounds_toArray, List.set_cons_zero, List.set_cons_succ, i64_w, i32_w]
            rfl
          refine pure_ (i := 12) (N := some 73) (v := ?_) (a' := ?_) #[true, true, true, true, false, true, true, true, false, true, true, false, true, false, false, false, false, false, false] rfl rfl (by kernel_rfl) (fun _ _ _ h => h) (Or.inl ⟨by rfl, ?_⟩) ?_ ?_
          rotate_left
          · intro w'
            go_simp
            with_reducible rfl
          rotate_left
          · simp only [Act.put, List.setIfInBounds_toArray, List.set_cons_zero, List.set_cons_succ, i64_w, i32_w]
            rfl
          refine take_ (i := 4) (N := some 65) (v := ?_) (a' := ?_) #[true, true, true, true, true, true, true, true, false, true, true, false, true, false, false, false, false, false, false] rfl rfl (by kernel_rfl) (fun _ _ _ h => h) (Or.inl ⟨by rfl, ?_⟩) hHeld ?_ ?_
          rotate_left
          · rintro w' ⟨s0, s1⟩
            go_simp
            with_reducible rfl
          rotate_left
          · simp only [Act.put, List.setIfInBounds_toArray, List.set_cons_zero, List.set_cons_succ, i64_w, i32_w]
            rfl
          refine take_ (i := 8) (N := some 69) (v := ?_) (a' := ?_) #[true, true, true, true, true, true, true, true, true, true, true, false, true, false, false, false, false, false, false] rfl rfl (by kernel_rfl) (fun _ _ _ h => h) (Or.inl ⟨by rfl, ?_⟩) hHeld ?_ ?_
          rotate_left
          · rintro w' ⟨s0, s1⟩
            go_simp
            with_reducible rfl
          rotate_left
          · simp only [Act.put, List.setIfInBounds_toArray, List.set_cons_zero, List.set_cons_succ, i64_w, i32_w]
            rfl
          refine pure_ (i := 11) (N := some 72) (v := ?_) (a' := ?_) #[true, true, true, true, true, true, true, true, true, true, true, true, true, false, false, false, false, false, false] rfl rfl (by kernel_rfl) (fun _ _ _ h => h) (Or.inl ⟨by rfl, ?_⟩) ?_ ?_
          rotate_left
          · intro w'
            go_simp
            with_reducible rfl
          rotate_left
          · simp only [Act.put, List.setIfInBounds_toArray, List.set_cons_zero, List.set_cons_succ, i64_w, i32_w]
            rfl
          refine pure_ (i := 13) (N := some 74) (v := ?_) (a' := ?_) #[true, true, true, true, true, true, true, true, true, true, true, true, true, true, false, false, false, false, false] rfl rfl (by kernel_rfl) (fun _ _ _ h => h) (Or.inl ⟨by rfl, ?_⟩) ?_ ?_
          rotate_left
          · intro w'
            go_simp
            with_reducible rfl
          rotate_left
          · simp only [Act.put, List.setIfInBounds_toArray, List.set_cons_zero, List.set_cons_succ, i64_w, i32_w]
            rfl
          refine one_ (i := 14) (N := some 75) #[true, true, true, true, true, true, true, true, true, true, true, true, true, true, true, false, false, false, false] rfl rfl (by kernel_rfl) (by decide) (fun K hK => ?_)
          refine value_ (w1 := ?_) (v := ?_) (by rfl) rfl ?_ ?_
          rotate_left 2
          · go_simp
            constructor
            · rfl
            · rfl
          refine hK.out _ _ ⟨(blk_cell (blk_alloc h0 _) 0).trans rfl, (blk_cell (blk_alloc h0 _) 3).trans rfl⟩ (fun hHeld => ?_)
          clear hK K
          refine norm_ (a' := ?_) ?_ ?_
          rotate_left
          · show Act.put _ (some 75) _ = _
            simp only [Act.put, List.setIfInBounds_toArray, List.set_cons_zero, List.set_cons_succ, i64_w, i32_w]
            rfl
          refine one_ (i := 15) (N := some 76) #[true, true, true, true, true, true, true, true, true, true, true, true, true, true, true, true, false, false, false] rfl rfl (by kernel_rfl) (by decide) (fun K hK => ?_)
          refine Kd.R_append_step k27 (w0 := w0) w0.heap.size (by rfl) (.tmp 65) (.tmp 75) 24 27 (.agg #[(.int .i64 0), (.string ⟨#[]⟩), (.int .i64 0)]) 32 rfl Tryd.underlying24 info27 rfl (by decide) (by omega) (.slice A3 N.length k3) N (⟨0, s.extract p.toNat ((s.size : Int)).toNat, p⟩ : S27) [.int .i64 0, .string (s.extract p.toNat ((s.size : Int)).toNat), .int .i64 p] (fun k => some k ≠ (tv : Value).ownBlock) (fun _ => False) rfl rfl ?aP (fun _ hk => hk.elim) ?aF ?aO ?aB ?aS ?aL ?_
          (case aP => exact k27_mkM _ _ _ (⟨0, s.extract p.toNat ((s.size : Int)).toNat, p⟩ : S27))
          (case aB => exact hB)
          (case aF => intro k hk e; have := Kd.R_lt h2 k e.symm; omega)
          (case aO => exact h3)
          (case aS => exact below_size hB)
          (case aL => omega)
          intro v1 w1 ho hb hg hat
          obtain ⟨Az, kz, ez⟩ := Kd.R_slice ho
          subst ez
          simp only [List.length_append, List.length_cons, List.length_nil, Nat.zero_add] at ho hat
          have b1 := blk_grown h0 hg (Sc.ne h0 h3)
          have f1_0 := blk_frozen b1 0
          have f1_1 := blk_frozen b1 1
          have f1_2 := blk_frozen b1 2
          have f1_3 := blk_frozen b1 3
          have d1_0 : w1.cell? ⟨g, 0, none⟩ = some (.string s) := (blk_cell b1 0).trans rfl
          have d1_1 : w1.cell? ⟨g, 1, none⟩ = some (.int .i64 p) := (blk_cell b1 1).trans rfl
          have d1_2 : w1.cell? ⟨g, 2, none⟩ = some (tv) := (blk_cell b1 2).trans rfl
          have d1_3 : w1.cell? ⟨g, 3, none⟩ = some (.slice A3 N.length k3) := (blk_cell b1 3).trans rfl
          refine hK.out _ _ ⟨d1_0, d1_3⟩ (fun hHeld => ?_)
          clear hK K
          refine norm_ (a' := ?_) ?_ ?_
          rotate_left
          · show Act.put _ (some 76) _ = _
            simp only [Act.put, List.setIfInBounds_toArray, List.set_cons_zero, List.set_cons_succ, i64_w, i32_w]
            rfl
          refine pure_ (i := 16) (N := some 77) (v := ?_) (a' := ?_) #[true, true, true, true, true, true, true, true, true, true, true, true, true, true, true, true, true, false, false] rfl rfl (by kernel_rfl) (fun _ _ _ h => h) (Or.inl ⟨by rfl, ?_⟩) ?_ ?_
          rotate_left
          · intro w'
            go_simp
            with_reducible rfl
          rotate_left
          · simp only [Act.put, List.setIfInBounds_toArray, List.set_cons_zero, List.set_cons_succ, i64_w, i32_w]
            rfl
          refine pure_ (i := 17) (N := some 78) (v := ?_) (a' := ?_) #[true, true, true, true, true, true, true, true, true, true, true, true, true, true, true, true, true, true, false] rfl rfl (by kernel_rfl) (fun _ _ _ h => h) (Or.inl ⟨by rfl, ?_⟩) ?_ ?_
          rotate_left
          · intro w'
            go_simp
            with_reducible rfl
          rotate_left
          · simp only [Act.put, List.setIfInBounds_toArray, List.set_cons_zero, List.set_cons_succ, i64_w, i32_w]
            rfl
          refine last_ (i := 18) (N := none) #[true, true, true, true, true, true, true, true, true, true, true, true, true, true, true, true, true, true, true] rfl rfl (by kernel_rfl) (by decide) (fun K hK => ?_)
          refine skip_ (w1 := ?_) (by rfl) rfl ?_ ?_
          rotate_left
          · go_simp
            rfl
          refine hK.out _ _ ?_
          clear hK K
          refine done_ (by kernel_rfl) ?_
          go_wp2
          go_ret
          exact ⟨rfl, Sc.at_set (Sc.put_note hg0 h0 h2 h3 ho hg hat) ((s.size : Int)), below_set (below_set hb hg0) hg0, trivial⟩
theorem golex_scanner_note.calls (k : Nat) (g : Nat) (s : ByteArray) (p : Int) (T N : List S27) (r1 : Bool) (r2 : ByteArray) (r3 : Int) (r4 r5 : List (S27)) (w0 w : World) (hT : Tabs w0) (hI : IsS36 w0 w g s p T N) (hB : Below w0.heap.size w0 w) (h : golex_scanner_note.f k s p T N = some (r1, r2, r3, r4, r5)) :
    Calls Tryd.prog 42 #[.pointer (some ⟨g, 0, none⟩)] w fun e w' => e = .returned (.bool r1) ∧ IsS36 w0 w' g r2 r3 r4 r5 ∧ Below w0.heap.size w0 w' ∧ Kq w w' g none := by
  unfold golex_scanner_note.f at h
  split at h
  case isFalse => exact absurd h (by simp)
  rename_i q
  split at h
  · next q2 => exact golex_scanner_note.line k g s p T N r1 r2 r3 r4 r5 w0 w hT hI hB q.1 q.2.1 q.2.2.1 q.2.2.2 q2 _ rfl h
  · next q2 => exact golex_scanner_note.block k g s p T N r1 r2 r3 r4 r5 w0 w hT hI hB q.2.2.1 q.2.2.2 q2 h
/-- The table of signs, as a row that came in. -/
theorem signs_read {w : World} (hT : Tabs w) : ∃ A c, Kd.C Kd.string w A signsL.length signsL ∧ ∀ W, Below w.heap.size w W → W.cell? ⟨2, 0, none⟩ = some (.slice A signsL.length c) := by
  obtain ⟨R, o, cap, h1, h2⟩ := hT.signs
  refine ⟨some ⟨R, o, none⟩, cap, ?_, fun W hb => pw_cell_below hb h1⟩
  exact Kd.C_of_reads (d := ByteArray.empty) ⟨rfl, by decide, fun _ => ⟨⟨R, o, none⟩, rfl, fun j hj => by have h := h2 j hj; by_cases hz : j = 0 <;> simp_all [Addr.add]⟩⟩
end Go.Proofs.YtfolmcfcmonkhaaDoor.PAll

