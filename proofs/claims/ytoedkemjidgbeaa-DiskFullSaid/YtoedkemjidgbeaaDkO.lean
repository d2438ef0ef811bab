/- The closure of Cut. -/
import Derived.Test.YtoedkemjidgbeaaDkN
namespace Go.Proofs.Ytoedkemjidgbeaa.Dk
open Go Go.RowKit Go.Proofs.YtoedkemjidgbeaaW.PrintWords Go.Proofs.YtoedkemjidgbeaaW.PrintLast Go.Proofs.YtoedkemjidgbeaaW.PrintMore Go.Proofs.YtoedkemjidgbeaaMy Go.Proofs.Ytoedkemjidgbeaa Go.Proofs.YtoedkemjidgbeaaPw Go.Proofs.Ytoedkemjidgbeaa.PAll
attribute [local go_sem] max2_m min2_m max_two min_two
set_option linter.unusedVariables false
set_option linter.unusedSimpArgs false
theorem take_min (l : List Int) (k : Int) : l.take (min k (l.length : Int)).toNat = l.take k.toNat := by
  rcases Int.le_total k (l.length : Int) with h | h
  · rw [Int.min_eq_left h]
  · rw [Int.min_eq_right h, Int.toNat_natCast, List.take_length, List.take_of_length_le (by omega)]
theorem min_bounds {k : Int} {m : Nat} (h : 0 ≤ k) : 0 ≤ min k (m : Int) ∧ min k (m : Int) ≤ (m : Int) := by omega
theorem min_cast (a b : Nat) : min (a : Int) (b : Int) = ((min a b : Nat) : Int) := by omega
section
variable {S : Nat → Prop} {w W W1 W2 : World} {g : Nat} {d : DS} {mb n : Nat} {D : DataW Unit} {bl : ByteArray → Nat} {vl : ByteArray → Value}
set_option maxHeartbeats 4000000 in
set_option maxRecDepth 100000 in
theorem CutIn_Q (h : DevW S W g d mb n D bl vl) (hok : d.Fit) {f : Fl} (hf : f ∈ d.files) (k : Int) (hk : 0 ≤ k) {c1 c2 : Nat} (k1 : W.cell? ⟨c1, 0, none⟩ = some (.pointer (some ⟨bl f.name, 0, none⟩))) (k2 : W.cell? ⟨c2, 0, none⟩ = some (.int .i64 k)) (n1 : ¬ S c1) (n2 : ¬ S c2) :
    Calls Try.prog 39 #[.pointer (some ⟨c1, 0, none⟩), .pointer (some ⟨c2, 0, none⟩)] W fun e w' => e = .returned (.tuple #[]) ∧ DevAt (Grow S W) w' g (d.put (cutTo f k)) ∧ Only S W w' := by
  obtain ⟨A, cc, ev, zf, zs, zff, zsf, hrow, hcc, hA, hsafe⟩ := h.file hf
  have hu := Try.underlying22
  obtain ⟨i0, hi0, _, hsz, _⟩ := info_parts infoB
  have hcut := cut_to (P := Try.prog) 22 5 .i64 hu hi0 A f.b.length cc (min k (f.b.length : Int)) (min_bounds hk).1 (min_bounds hk).2 hcc
  have hjm : (min k (f.b.length : Int)).toNat ≤ f.b.length := by omega
  have hCt : bK.C W A (min k (f.b.length : Int)).toNat (f.b.take (min k (f.b.length : Int)).toNat) := by
    have h1 := Kd.C_take (m := (min k (f.b.length : Int)).toNat) (Kd.R_reads' hrow).2.2 hjm
    rw [List.length_take, Nat.min_eq_left hjm] at h1
    exact h1
  rw [take_min] at hCt
  have hlen := size_le h.cells.1 hf hok.fits hok.room
  have HW := Aside0.mk h
  have HF := Aside0.mk hf
  obtain ⟨j, hj⟩ : ∃ j, j = (min k (f.b.length : Int)).toNat := ⟨_, rfl⟩
  rw [← hj] at hcut hjm hCt
  have HJ := Aside0.mk hj
  have HCt := Aside0.mk hCt
  have HA2 := Aside0.mk (show A = none → j = 0 ∧ cc = 0 from fun h => ⟨by have := (hA h).1; omega, (hA h).2⟩)
  have HL2 := Aside0.mk (show j ≤ 4294967296 from by omega)
  have HTl := Aside0.mk (show (f.b.take k.toNat).length = j from by rw [← take_min, ← hj, List.length_take, Nat.min_eq_left hjm])
  obtain ⟨b, hb⟩ : ∃ b, b = bl f.name := ⟨_, rfl⟩
  have HB := Aside0.mk hb
  rw [← hb] at k1 zf zs zff zsf
  obtain ⟨m, hm⟩ : ∃ m, m = f.b.length := ⟨_, rfl⟩
  have HM := Aside0.mk hm
  rw [← hm] at zf hcut
  have hb1 := Aside0.mk (show c1 ≠ b from fun e => n1 (by rw [e, hb]; exact (h.cells.2.1 f hf).2.1))
  have hb2 := Aside0.mk (show c2 ≠ b from fun e => n2 (by rw [e, hb]; exact (h.cells.2.1 f hf).2.1))
  clear h hok hf ev hrow hcc hA hsafe hi0 hsz hjm hCt hlen hj hb hm
  go_enter Try.func39, Try.ntmps39
  go_wp2
  refine start_ (n := 17) (S := fun w' => w'.cell? ⟨c1, 0, none⟩ = some (.pointer (some ⟨b, 0, none⟩)) ∧ w'.cell? ⟨c2, 0, none⟩ = some (.int .i64 k) ∧ w'.cell? ⟨b, 0, none⟩ = some (.slice A m cc)) (ds := [16]) #[false, false, false, false, false, false, false, false, false, false, false, false, false, false, false, false, false] (by kernel_rfl) rfl rfl ⟨k1, k2, zf⟩ (fun hHeld => ?_)
  refine take_ (i := 0) (N := some 2) (v := ?_) (a' := ?_) #[true, false, false, false, false, false, false, false, false, false, false, false, false, false, false, false, false] rfl rfl (by kernel_rfl) (fun _ _ _ h => h) (Or.inl ⟨by rfl, ?_⟩) hHeld ?_ ?_
  rotate_left
  · intro w' s0
    obtain ⟨y0, y1, y2⟩ := s0
    go_simp
    with_reducible rfl
  rotate_left
  · simp only [Act.put, List.setIfInBounds_toArray, List.set_cons_zero, List.set_cons_succ, i64_w, i32_w]
    rfl
  refine take_ (i := 1) (N := some 3) (v := ?_) (a' := ?_) #[true, true, false, false, false, false, false, false, false, false, false, false, false, false, false, false, false] rfl rfl (by kernel_rfl) (fun _ _ _ h => h) (Or.inl ⟨by rfl, ?_⟩) hHeld ?_ ?_
  rotate_left
  · intro w' s0
    obtain ⟨y0, y1, y2⟩ := s0
    go_simp
    with_reducible rfl
  rotate_left
  · simp only [Act.put, List.setIfInBounds_toArray, List.set_cons_zero, List.set_cons_succ, i64_w, i32_w]
    rfl
  refine pure_ (i := 2) (N := some 4) (v := ?_) (a' := ?_) #[true, true, true, false, false, false, false, false, false, false, false, false, false, false, false, false, false] rfl rfl (by kernel_rfl) (fun _ _ _ h => h) (Or.inl ⟨by rfl, ?_⟩) ?_ ?_
  rotate_left
  · intro w'
    go_simp
    with_reducible rfl
  rotate_left
  · simp only [Act.put, List.setIfInBounds_toArray, List.set_cons_zero, List.set_cons_succ, i64_w, i32_w]
    rfl
  refine pure_ (i := 3) (N := some 5) (v := ?_) (a' := ?_) #[true, true, true, true, false, false, false, false, false, false, false, false, false, false, false, false, false] rfl rfl (by kernel_rfl) (fun _ _ _ h => h) (Or.inl ⟨by rfl, ?_⟩) ?_ ?_
  rotate_left
  · intro w'
    go_simp
    with_reducible rfl
  rotate_left
  · simp only [Act.put, List.setIfInBounds_toArray, List.set_cons_zero, List.set_cons_succ, i64_w, i32_w]
    rfl
  refine take_ (i := 4) (N := some 6) (v := ?_) (a' := ?_) #[true, true, true, true, true, false, false, false, false, false, false, false, false, false, false, false, false] rfl rfl (by kernel_rfl) (fun _ _ _ h => h) (Or.inl ⟨by rfl, ?_⟩) hHeld ?_ ?_
  rotate_left
  · intro w' s0
    obtain ⟨y0, y1, y2⟩ := s0
    go_simp
    with_reducible rfl
  rotate_left
  · simp only [Act.put, List.setIfInBounds_toArray, List.set_cons_zero, List.set_cons_succ, i64_w, i32_w]
    rfl
  refine take_ (i := 5) (N := some 7) (v := ?_) (a' := ?_) #[true, true, true, true, true, true, false, false, false, false, false, false, false, false, false, false, false] rfl rfl (by kernel_rfl) (fun _ _ _ h => h) (Or.inl ⟨by rfl, ?_⟩) hHeld ?_ ?_
  rotate_left
  · intro w' s0
    obtain ⟨y0, y1, y2⟩ := s0
    go_simp
    with_reducible rfl
  rotate_left
  · simp only [Act.put, List.setIfInBounds_toArray, List.set_cons_zero, List.set_cons_succ, i64_w, i32_w]
    rfl
  refine take_ (i := 6) (N := some 8) (v := ?_) (a' := ?_) #[true, true, true, true, true, true, true, false, false, false, false, false, false, false, false, false, false] rfl rfl (by kernel_rfl) (fun _ _ _ h => h) (Or.inl ⟨by rfl, ?_⟩) hHeld ?_ ?_
  rotate_left
  · intro w' s0
    obtain ⟨y0, y1, y2⟩ := s0
    go_simp
    with_reducible rfl
  rotate_left
  · simp only [Act.put, List.setIfInBounds_toArray, List.set_cons_zero, List.set_cons_succ, i64_w, i32_w]
    rfl
  refine pure_ (i := 7) (N := some 9) (v := ?_) (a' := ?_) #[true, true, true, true, true, true, true, true, false, false, false, false, false, false, false, false, false] rfl rfl (by kernel_rfl) (fun _ _ _ h => h) (Or.inl ⟨by rfl, ?_⟩) ?_ ?_
  rotate_left
  · intro w'
    go_simp
    with_reducible rfl
  rotate_left
  · simp only [Act.put, List.setIfInBounds_toArray, List.set_cons_zero, List.set_cons_succ, i64_w, i32_w]
    rfl
  refine pure_ (i := 8) (N := some 10) (v := ?_) (a' := ?_) #[true, true, true, true, true, true, true, true, true, false, false, false, false, false, false, false, false] rfl rfl (by kernel_rfl) (fun _ _ _ h => h) (Or.inl ⟨by rfl, ?_⟩) ?_ ?_
  rotate_left
  · intro w'
    go_simp
    with_reducible rfl
  rotate_left
  · simp only [Act.put, List.setIfInBounds_toArray, List.set_cons_zero, List.set_cons_succ, i64_w, i32_w]
    rfl
  refine take_ (i := 9) (N := some 11) (v := ?_) (a' := ?_) #[true, true, true, true, true, true, true, true, true, true, false, false, false, false, false, false, false] rfl rfl (by kernel_rfl) (fun _ _ _ h => h) (Or.inl ⟨by rfl, ?_⟩) hHeld ?_ ?_
  rotate_left
  · intro w' s0
    obtain ⟨y0, y1, y2⟩ := s0
    go_simp
    with_reducible rfl
  rotate_left
  · simp only [Act.put, List.setIfInBounds_toArray, List.set_cons_zero, List.set_cons_succ, i64_w, i32_w]
    rfl
  refine pure_ (i := 10) (N := some 12) (v := ?_) (a' := ?_) #[true, true, true, true, true, true, true, true, true, true, true, false, false, false, false, false, false] rfl rfl (by kernel_rfl) (fun _ _ _ h => h) (Or.inl ⟨by rfl, ?_⟩) ?_ ?_
  rotate_left
  · intro w'
    go_simp
    with_reducible rfl
  rotate_left
  · simp only [Act.put, List.setIfInBounds_toArray, List.set_cons_zero, List.set_cons_succ, i64_w, i32_w]
    rfl
  refine pure_ (i := 11) (N := some 13) (v := ?_) (a' := ?_) #[true, true, true, true, true, true, true, true, true, true, true, true, false, false, false, false, false] rfl rfl (by kernel_rfl) (fun _ _ _ h => h) (Or.inl ⟨by rfl, ?_⟩) ?_ ?_
  rotate_left
  · intro w'
    go_simp
    with_reducible rfl
  rotate_left
  · simp only [Act.put, List.setIfInBounds_toArray, List.set_cons_zero, List.set_cons_succ, i64_w, i32_w]
    rfl
  refine pure_ (i := 12) (N := some 14) (v := ?_) (a' := ?_) #[true, true, true, true, true, true, true, true, true, true, true, true, true, false, false, false, false] rfl rfl (by kernel_rfl) (fun _ _ _ h => h) (Or.inl ⟨by rfl, ?_⟩) ?_ ?_
  rotate_left
  · intro w'
    go_simp
    with_reducible rfl
  rotate_left
  · simp only [Act.put, List.setIfInBounds_toArray, List.set_cons_zero, List.set_cons_succ, i64_w, i32_w]
    rfl
  refine one_ (i := 13) (N := some 15) #[true, true, true, true, true, true, true, true, true, true, true, true, true, true, false, false, false] rfl rfl (by kernel_rfl) (by decide) (fun K hK => ?_)
  refine goes_ Try.func35 (by kernel_rfl) rfl #[.slice A j cc] (by rfl) rfl rfl (by (try simp only [List.map_toArray, List.map_cons, List.map_nil]); first | done | rfl) ?_
  refine (Clone_Q _ A j cc _ (show bK.C W.drew A j _ from HCt.out) HA2.out HL2.out).mono ?_
  rintro e w2 ⟨v1, rfl, hr, hb0⟩
  obtain ⟨A2, c2', ev2⟩ : ∃ A2 c2, v1 = .slice A2 j c2 := by
    obtain ⟨A2, c2, e⟩ := Kd.R_slice hr
    exact ⟨A2, c2, by rw [e, HTl.out]⟩
  subst ev2
  refine ⟨_, rfl, ?_⟩
  have hbw : Below W.heap.size W w2 := ⟨hb0.os, hb0.tape, hb0.output, hb0.size, hb0.block⟩
  have hr2 : bK.R 5 w2 W.heap.size (fun _ => True) (.slice A2 j c2') (f.b.take k.toNat) := hr
  have hS2 := Aside0.mk (And.intro (pw_cell_below hbw k1) (And.intro (pw_cell_below hbw k2) (pw_cell_below hbw zf)))
  have HBw := Aside0.mk hbw
  have HR2 := Aside0.mk hr2
  clear hr hb0 hr2
  refine hK.out _ _ hS2.out (fun hHeld => ?_)
  clear hK K
  refine norm_ (a' := ?_) ?_ ?_
  rotate_left
  · show Act.put _ (some 15) _ = _
    simp only [Act.put, List.setIfInBounds_toArray, List.set_cons_zero, List.set_cons_succ, i64_w, i32_w]
    rfl
  refine pure_ (i := 14) (N := some 16) (v := ?_) (a' := ?_) #[true, true, true, true, true, true, true, true, true, true, true, true, true, true, true, false, false] rfl rfl (by kernel_rfl) (fun _ _ _ h => h) (Or.inl ⟨by rfl, ?_⟩) ?_ ?_
  rotate_left
  · intro w'
    go_simp
    with_reducible rfl
  rotate_left
  · simp only [Act.put, List.setIfInBounds_toArray, List.set_cons_zero, List.set_cons_succ, i64_w, i32_w]
    rfl
  refine pure_ (i := 15) (N := some 17) (v := ?_) (a' := ?_) #[true, true, true, true, true, true, true, true, true, true, true, true, true, true, true, true, false] rfl rfl (by kernel_rfl) (fun _ _ _ h => h) (Or.inl ⟨by rfl, ?_⟩) ?_ ?_
  rotate_left
  · intro w'
    go_simp
    with_reducible rfl
  rotate_left
  · simp only [Act.put, List.setIfInBounds_toArray, List.set_cons_zero, List.set_cons_succ, i64_w, i32_w]
    rfl
  refine last_ (i := 16) (N := none) #[true, true, true, true, true, true, true, true, true, true, true, true, true, true, true, true, true] rfl rfl (by kernel_rfl) (by decide) (fun K hK => ?_)
  have zf2 := hS2.out.2.2
  have q1 := (hbw.block _ (blk_lt (HW.out.cells.2.1 f HF.out).1)).trans (HW.out.cells.2.1 f HF.out).1
  have zff2 : w2.frozen? ⟨b, 0, none⟩ = false := by rw [HB.out]; exact blk_frozen q1 0
  rw [if_pos (by rfl)]
  go_simp
  refine hK.out _ _ ?_
  clear hK K
  refine done_ (by kernel_rfl) ?_
  have e3 := blk_set q1 0 (.slice A2 j c2')
  have y0 : (w2.setCell ⟨b, 0, none⟩ (.slice A2 j c2')).cell? ⟨b, 0, none⟩ = some (.slice A2 j c2') := by rw [HB.out]; exact (blk_cell e3 0).trans rfl
  have y1 : (w2.setCell ⟨b, 0, none⟩ (.slice A2 j c2')).cell? ⟨b, 1, none⟩ = some (.int .i64 (f.safe : Int)) := by rw [HB.out]; exact (blk_cell e3 1).trans rfl
  have y2 : (w2.setCell ⟨b, 0, none⟩ (.slice A2 j c2')).cell? ⟨c1, 0, none⟩ = some (.pointer (some ⟨b, 0, none⟩)) := (World.cell?_of_block (a := ⟨c1, 0, none⟩) (Below.heap_setCell w2 ⟨b, 0, none⟩ _ c1 hb1.out)).trans hS2.out.1
  have y1f : (w2.setCell ⟨b, 0, none⟩ (.slice A2 j c2')).frozen? ⟨b, 1, none⟩ = false := by rw [HB.out]; exact blk_frozen e3 1
  have HEnd := Aside0.mk (HW.out.cutted (f := f) HF.out HR2.out HBw.out (min f.safe j) (by rw [HTl.out]; exact Nat.min_le_right _ _))
  have hms := min_cast f.safe j
  clear e3 q1 zf2 zff2 zf zs zff zsf k1 k2
  go_wp2
  go_region
  go_end0
  rw [← HB.out] at HEnd
  unfold cutTo
  rw [HTl.out]
  exact ⟨rfl, (HEnd.out.1.below (below_drew1 (Below.refl _ _))).at, HEnd.out.2.below (below_drew1 (Below.refl _ _))⟩
end
end Go.Proofs.Ytoedkemjidgbeaa.Dk
