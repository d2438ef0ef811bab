/- What is done at once or not at all: over each closure, by its contract. -/
import Derived.Test.YtoedkemjidgbeaaDkL
import Derived.Laws.ByValue
namespace Go.Proofs.Ytoedkemjidgbeaa.Dk
open Go Go.RowKit Go.Proofs.YtoedkemjidgbeaaW.PrintWords Go.Proofs.YtoedkemjidgbeaaW.PrintLast Go.Proofs.YtoedkemjidgbeaaW.PrintMore Go.Proofs.YtoedkemjidgbeaaMy Go.Proofs.Ytoedkemjidgbeaa Go.Proofs.YtoedkemjidgbeaaPw Go.Proofs.Ytoedkemjidgbeaa.PAll
attribute [local go_sem] max2_m min2_m max_two min_two
set_option linter.unusedVariables false
set_option linter.unusedSimpArgs false
section
variable {S : Nat → Prop} {w : World} {g : Nat} {d : DS} {mb n : Nat} {D : DataW Unit} {bl : ByteArray → Nat} {vl : ByteArray → Value}
theorem DevW.shrink (h : DevW S w g d mb n D bl vl) : DevW (fun k => S k ∧ k < w.heap.size) w g d mb n D bl vl :=
  ⟨h.blk, ⟨h.sg, blk_lt h.blk⟩, ⟨h.sm, h.own.lt⟩, h.own, h.cnt, h.rep, h.cells.1, fun f hf => by obtain ⟨a, b, c, e, q⟩ := h.cells.2.1 f hf; exact ⟨a, ⟨b, h.cells.lt hf⟩, c, fun k hk => ⟨e k hk, h.cells.row_lt hf k hk⟩, q⟩, h.cells.2.2⟩
set_option maxHeartbeats 4000000 in
set_option maxRecDepth 100000 in
theorem fallR_a (h : DevW S w g d mb n D bl vl) (hok : d.Ok) (caps : Array Value) (done : DS → DS) (hcall : ∀ W, DevW S W g d.act mb n D bl vl → Only S w W → Calls Try.prog 38 caps W fun e w' => e = .returned (.tuple #[]) ∧ DevAt (Grow S W) w' g (done d.act) ∧ Only S W w') (hfit : (done d.act).Fit) (hkeep : (done d.act).keep = d.keep) (htorn : (done d.act).torn = d.torn) (hgo : d.goes = false) :
    Calls Try.prog 37 #[.pointer (some ⟨g, 0, none⟩), .func (.func 38) #[] caps] w fun e w' => e = .returned (.int .i64 0) ∧ DevAt (Grow S w) w' g ((done d.act)) ∧ Only S w w' := by
  have HW := Aside0.mk h
  have HOk := Aside0.mk hok
  have HGo := Aside0.mk hgo
  have HC := Aside0.mk hcall
  have HFit := Aside0.mk hfit
  have HKeep := Aside0.mk hkeep
  have HTorn := Aside0.mk htorn
  clear h hok hgo hcall hfit hkeep htorn
  go_enter Try.func37, Try.ntmps37
  go_wp2_with (first
    | (go_at_call 33; refine (act_Q HW.out HOk.out).mono ?_; rintro e w4 ⟨rfl, h4, ho4⟩; rw [HGo.out]; have H4 := Aside0.mk h4; have HO4 := Aside0.mk ho4; clear h4 ho4)
    | (go_at_call 38; refine (HC.out _ H4.out HO4.out).mono ?_; rintro e w5 ⟨rfl, h5, ho5⟩; have H5 := Aside0.mk h5; have HO5 := Aside0.mk ho5; clear h5 ho5))
  go_ret
  exact ⟨rfl, H5.out.mono (fun k hk => hk.imp id (fun h => Nat.le_trans HO4.out.size h)), HO4.out.trans HO5.out⟩
set_option maxHeartbeats 4000000 in
set_option maxRecDepth 100000 in
theorem fallR_b (h : DevW S w g d mb n D bl vl) (hok : d.Ok) (caps : Array Value) (done : DS → DS) (hcall : ∀ W, DevW S W g d.act mb n D bl vl → Only S w W → Calls Try.prog 38 caps W fun e w' => e = .returned (.tuple #[]) ∧ DevAt (Grow S W) w' g (done d.act) ∧ Only S W w') (hfit : (done d.act).Fit) (hkeep : (done d.act).keep = d.keep) (htorn : (done d.act).torn = d.torn) (hgo : d.goes = true) (hk : 0 < d.keep) :
    Calls Try.prog 37 #[.pointer (some ⟨g, 0, none⟩), .func (.func 38) #[] caps] w fun e w' => e = .returned (.int .i64 7) ∧ DevAt (Grow S w) w' g ((done d.act).ends) ∧ Only S w w' := by
  have HW := Aside0.mk h
  have HOk := Aside0.mk hok
  have HGo := Aside0.mk hgo
  have HC := Aside0.mk hcall
  have HFit := Aside0.mk hfit
  have HKeep := Aside0.mk hkeep
  have HTorn := Aside0.mk htorn
  clear h hok hgo hcall hfit hkeep htorn
  obtain ⟨kp, hkp⟩ : ∃ kp, kp = d.keep := ⟨_, rfl⟩
  rw [← hkp] at hk
  have HKp := Aside0.mk hkp
  clear hkp
  go_enter Try.func37, Try.ntmps37
  go_wp2_with (first
    | (go_at_call 33; refine (act_Q HW.out HOk.out).mono ?_; rintro e w4 ⟨rfl, h4, ho4⟩; rw [HGo.out]; have z5 := h4.cell 5; change w4.cell? ⟨g, 5, none⟩ = some (.int .i64 d.keep) at z5; rw [← HKp.out] at z5; have H4 := Aside0.mk h4; have HO4 := Aside0.mk ho4; clear h4 ho4)
    | (go_at_call 38; refine (HC.out _ H4.out HO4.out).mono ?_; rintro e w5 ⟨rfl, h5, ho5⟩; have H5 := Aside0.mk h5; have HO5 := Aside0.mk ho5; clear h5 ho5))
  obtain ⟨mb5, n5, D5, bl5, vl5, hd5⟩ := H5.out
  clear z5
  have z5 := hd5.cell 5
  have z6 := hd5.cell 6
  change w5.cell? ⟨g, 5, none⟩ = some (.int .i64 (done d.act).keep) at z5
  change w5.cell? ⟨g, 6, none⟩ = some (.bool (done d.act).torn) at z6
  have HD5 := Aside0.mk hd5
  clear hd5
  refine start_ (n := 10) (S := fun w' => w'.cell? ⟨g, 5, none⟩ = some (.int .i64 (done d.act).keep) ∧ w'.cell? ⟨g, 6, none⟩ = some (.bool (done d.act).torn)) (ds := [9]) #[false, false, false, false, false, false, false, false, false, false] (by kernel_rfl) rfl rfl ⟨z5, z6⟩ (fun hHeld => ?_)
  refine pure_ (i := 0) (N := some 17) (v := ?_) (a' := ?_) #[true, false, false, false, false, false, false, false, false, false] rfl rfl (by kernel_rfl) (fun _ _ _ h => h) (Or.inl ⟨by rfl, ?_⟩) ?_ ?_
  rotate_left
  · intro w'
    go_simp
    with_reducible rfl
  rotate_left
  · simp only [Act.put, List.setIfInBounds_toArray, List.set_cons_zero, List.set_cons_succ, i64_w, i32_w]
    rfl
  refine pure_ (i := 1) (N := some 18) (v := ?_) (a' := ?_) #[true, true, false, false, false, false, false, false, false, false] rfl rfl (by kernel_rfl) (fun _ _ _ h => h) (Or.inl ⟨by rfl, ?_⟩) ?_ ?_
  rotate_left
  · intro w'
    go_simp
    with_reducible rfl
  rotate_left
  · simp only [Act.put, List.setIfInBounds_toArray, List.set_cons_zero, List.set_cons_succ, i64_w, i32_w]
    rfl
  refine pure_ (i := 2) (N := some 19) (v := ?_) (a' := ?_) #[true, true, true, false, false, false, false, false, false, false] rfl rfl (by kernel_rfl) (fun _ _ _ h => h) (Or.inl ⟨by rfl, ?_⟩) ?_ ?_
  rotate_left
  · intro w'
    go_simp
    with_reducible rfl
  rotate_left
  · simp only [Act.put, List.setIfInBounds_toArray, List.set_cons_zero, List.set_cons_succ, i64_w, i32_w]
    rfl
  refine pure_ (i := 3) (N := some 20) (v := ?_) (a' := ?_) #[true, true, true, true, false, false, false, false, false, false] rfl rfl (by kernel_rfl) (fun _ _ _ h => h) (Or.inl ⟨by rfl, ?_⟩) ?_ ?_
  rotate_left
  · intro w'
    go_simp
    with_reducible rfl
  rotate_left
  · simp only [Act.put, List.setIfInBounds_toArray, List.set_cons_zero, List.set_cons_succ, i64_w, i32_w]
    rfl
  refine take_ (i := 4) (N := some 21) (v := ?_) (a' := ?_) #[true, true, true, true, true, false, false, false, false, false] rfl rfl (by kernel_rfl) (fun _ _ _ h => h) (Or.inl ⟨by rfl, ?_⟩) hHeld ?_ ?_
  rotate_left
  · intro w' s0
    obtain ⟨y0, y1⟩ := s0
    go_simp
    with_reducible rfl
  rotate_left
  · simp only [Act.put, List.setIfInBounds_toArray, List.set_cons_zero, List.set_cons_succ, i64_w, i32_w]
    rfl
  refine pure_ (i := 5) (N := some 22) (v := ?_) (a' := ?_) #[true, true, true, true, true, true, false, false, false, false] rfl rfl (by kernel_rfl) (fun _ _ _ h => h) (Or.inl ⟨by rfl, ?_⟩) ?_ ?_
  rotate_left
  · intro w'
    go_simp
    with_reducible rfl
  rotate_left
  · simp only [Act.put, List.setIfInBounds_toArray, List.set_cons_zero, List.set_cons_succ, i64_w, i32_w]
    rfl
  refine pure_ (i := 6) (N := some 23) (v := ?_) (a' := ?_) #[true, true, true, true, true, true, true, false, false, false] rfl rfl (by kernel_rfl) (fun _ _ _ h => h) (Or.inl ⟨by rfl, ?_⟩) ?_ ?_
  rotate_left
  · intro w'
    go_simp
    with_reducible rfl
  rotate_left
  · simp only [Act.put, List.setIfInBounds_toArray, List.set_cons_zero, List.set_cons_succ, i64_w, i32_w]
    rfl
  refine pure_ (i := 7) (N := some 24) (v := ?_) (a' := ?_) #[true, true, true, true, true, true, true, true, false, false] rfl rfl (by kernel_rfl) (fun _ _ _ h => h) (Or.inl ⟨by rfl, ?_⟩) ?_ ?_
  rotate_left
  · intro w'
    go_simp
    with_reducible rfl
  rotate_left
  · simp only [Act.put, List.setIfInBounds_toArray, List.set_cons_zero, List.set_cons_succ, i64_w, i32_w]
    rfl
  refine take_ (i := 8) (N := some 25) (v := ?_) (a' := ?_) #[true, true, true, true, true, true, true, true, true, false] rfl rfl (by kernel_rfl) (fun _ _ _ h => h) (Or.inl ⟨by rfl, ?_⟩) hHeld ?_ ?_
  rotate_left
  · intro w' s0
    obtain ⟨y0, y1⟩ := s0
    go_simp
    with_reducible rfl
  rotate_left
  · simp only [Act.put, List.setIfInBounds_toArray, List.set_cons_zero, List.set_cons_succ, i64_w, i32_w]
    rfl
  refine last_ (i := 9) (N := some 26) #[true, true, true, true, true, true, true, true, true, true] rfl rfl (by kernel_rfl) (by decide) (fun K hK => ?_)
  refine goes_ Try.func16 (by kernel_rfl) rfl #[.pointer (some ⟨g, 0, none⟩), .int .i64 (done d.act).keep, .bool (done d.act).torn] (by rfl) rfl rfl (by (try simp only [List.map_toArray, List.map_cons, List.map_nil]); first | done | rfl) ?_
  refine (Off_Q (HD5.out.below (below_drew1 (Below.refl _ _))) HFit.out (done d.act).keep (done d.act).torn).mono ?_
  rintro e wo ⟨rfl, hDo, hOo⟩
  refine ⟨_, rfl, ?_⟩
  have HDo := Aside0.mk hDo
  have HOo := Aside0.mk hOo
  clear hDo hOo
  refine hK.out _ _ ?_
  clear hK K
  refine done_ (by kernel_rfl) ?_
  go_wp2
  go_ret
  obtain ⟨e1, e2⟩ := off_end HO4.out HO5.out HDo.out HOo.out
  exact ⟨rfl, e1, e2⟩
set_option maxHeartbeats 4000000 in
set_option maxRecDepth 100000 in
theorem fallR_c (h : DevW S w g d mb n D bl vl) (hok : d.Ok) (caps : Array Value) (done : DS → DS) (hcall : ∀ W, DevW S W g d.act mb n D bl vl → Only S w W → Calls Try.prog 38 caps W fun e w' => e = .returned (.tuple #[]) ∧ DevAt (Grow S W) w' g (done d.act) ∧ Only S W w') (hfit : (done d.act).Fit) (hkeep : (done d.act).keep = d.keep) (htorn : (done d.act).torn = d.torn) (hgo : d.goes = true) (hk : ¬ 0 < d.keep) :
    Calls Try.prog 37 #[.pointer (some ⟨g, 0, none⟩), .func (.func 38) #[] caps] w fun e w' => e = .returned (.int .i64 7) ∧ DevAt (Grow S w) w' g (d.act.ends) ∧ Only S w w' := by
  have HW := Aside0.mk h
  have HOk := Aside0.mk hok
  have HGo := Aside0.mk hgo
  have HC := Aside0.mk hcall
  have HFit := Aside0.mk hfit
  have HKeep := Aside0.mk hkeep
  have HTorn := Aside0.mk htorn
  clear h hok hgo hcall hfit hkeep htorn
  obtain ⟨kp, hkp⟩ : ∃ kp, kp = d.keep := ⟨_, rfl⟩
  rw [← hkp] at hk
  have HKp := Aside0.mk hkp
  clear hkp
  go_enter Try.func37, Try.ntmps37
  go_wp2_with (first
    | (go_at_call 33; refine (act_Q HW.out HOk.out).mono ?_; rintro e w4 ⟨rfl, h4, ho4⟩; rw [HGo.out]; have z5 := h4.cell 5; change w4.cell? ⟨g, 5, none⟩ = some (.int .i64 d.keep) at z5; rw [← HKp.out] at z5; have H4 := Aside0.mk h4; have HO4 := Aside0.mk ho4; clear h4 ho4)
    | (go_at_call 38; refine (HC.out _ H4.out HO4.out).mono ?_; rintro e w5 ⟨rfl, h5, ho5⟩; have H5 := Aside0.mk h5; have HO5 := Aside0.mk ho5; clear h5 ho5))
  have z6 := H4.out.cell 6
  change w4.cell? ⟨g, 6, none⟩ = some (.bool d.torn) at z6
  refine start_ (n := 10) (S := fun w' => w'.cell? ⟨g, 5, none⟩ = some (.int .i64 kp) ∧ w'.cell? ⟨g, 6, none⟩ = some (.bool d.torn)) (ds := [9]) #[false, false, false, false, false, false, false, false, false, false] (by kernel_rfl) rfl rfl ⟨z5, z6⟩ (fun hHeld => ?_)
  refine pure_ (i := 0) (N := some 17) (v := ?_) (a' := ?_) #[true, false, false, false, false, false, false, false, false, false] rfl rfl (by kernel_rfl) (fun _ _ _ h => h) (Or.inl ⟨by rfl, ?_⟩) ?_ ?_
  rotate_left
  · intro w'
    go_simp
    with_reducible rfl
  rotate_left
  · simp only [Act.put, List.setIfInBounds_toArray, List.set_cons_zero, List.set_cons_succ, i64_w, i32_w]
    rfl
  refine pure_ (i := 1) (N := some 18) (v := ?_) (a' := ?_) #[true, true, false, false, false, false, false, false, false, false] rfl rfl (by kernel_rfl) (fun _ _ _ h => h) (Or.inl ⟨by rfl, ?_⟩) ?_ ?_
  rotate_left
  · intro w'
    go_simp
    with_reducible rfl
  rotate_left
  · simp only [Act.put, List.setIfInBounds_toArray, List.set_cons_zero, List.set_cons_succ, i64_w, i32_w]
    rfl
  refine pure_ (i := 2) (N := some 19) (v := ?_) (a' := ?_) #[true, true, true, false, false, false, false, false, false, false] rfl rfl (by kernel_rfl) (fun _ _ _ h => h) (Or.inl ⟨by rfl, ?_⟩) ?_ ?_
  rotate_left
  · intro w'
    go_simp
    with_reducible rfl
  rotate_left
  · simp only [Act.put, List.setIfInBounds_toArray, List.set_cons_zero, List.set_cons_succ, i64_w, i32_w]
    rfl
  refine pure_ (i := 3) (N := some 20) (v := ?_) (a' := ?_) #[true, true, true, true, false, false, false, false, false, false] rfl rfl (by kernel_rfl) (fun _ _ _ h => h) (Or.inl ⟨by rfl, ?_⟩) ?_ ?_
  rotate_left
  · intro w'
    go_simp
    with_reducible rfl
  rotate_left
  · simp only [Act.put, List.setIfInBounds_toArray, List.set_cons_zero, List.set_cons_succ, i64_w, i32_w]
    rfl
  refine take_ (i := 4) (N := some 21) (v := ?_) (a' := ?_) #[true, true, true, true, true, false, false, false, false, false] rfl rfl (by kernel_rfl) (fun _ _ _ h => h) (Or.inl ⟨by rfl, ?_⟩) hHeld ?_ ?_
  rotate_left
  · intro w' s0
    obtain ⟨y0, y1⟩ := s0
    go_simp
    with_reducible rfl
  rotate_left
  · simp only [Act.put, List.setIfInBounds_toArray, List.set_cons_zero, List.set_cons_succ, i64_w, i32_w]
    rfl
  refine pure_ (i := 5) (N := some 22) (v := ?_) (a' := ?_) #[true, true, true, true, true, true, false, false, false, false] rfl rfl (by kernel_rfl) (fun _ _ _ h => h) (Or.inl ⟨by rfl, ?_⟩) ?_ ?_
  rotate_left
  · intro w'
    go_simp
    with_reducible rfl
  rotate_left
  · simp only [Act.put, List.setIfInBounds_toArray, List.set_cons_zero, List.set_cons_succ, i64_w, i32_w]
    rfl
  refine pure_ (i := 6) (N := some 23) (v := ?_) (a' := ?_) #[true, true, true, true, true, true, true, false, false, false] rfl rfl (by kernel_rfl) (fun _ _ _ h => h) (Or.inl ⟨by rfl, ?_⟩) ?_ ?_
  rotate_left
  · intro w'
    go_simp
    with_reducible rfl
  rotate_left
  · simp only [Act.put, List.setIfInBounds_toArray, List.set_cons_zero, List.set_cons_succ, i64_w, i32_w]
    rfl
  refine pure_ (i := 7) (N := some 24) (v := ?_) (a' := ?_) #[true, true, true, true, true, true, true, true, false, false] rfl rfl (by kernel_rfl) (fun _ _ _ h => h) (Or.inl ⟨by rfl, ?_⟩) ?_ ?_
  rotate_left
  · intro w'
    go_simp
    with_reducible rfl
  rotate_left
  · simp only [Act.put, List.setIfInBounds_toArray, List.set_cons_zero, List.set_cons_succ, i64_w, i32_w]
    rfl
  refine take_ (i := 8) (N := some 25) (v := ?_) (a' := ?_) #[true, true, true, true, true, true, true, true, true, false] rfl rfl (by kernel_rfl) (fun _ _ _ h => h) (Or.inl ⟨by rfl, ?_⟩) hHeld ?_ ?_
  rotate_left
  · intro w' s0
    obtain ⟨y0, y1⟩ := s0
    go_simp
    with_reducible rfl
  rotate_left
  · simp only [Act.put, List.setIfInBounds_toArray, List.set_cons_zero, List.set_cons_succ, i64_w, i32_w]
    rfl
  refine last_ (i := 9) (N := some 26) #[true, true, true, true, true, true, true, true, true, true] rfl rfl (by kernel_rfl) (by decide) (fun K hK => ?_)
  refine goes_ Try.func16 (by kernel_rfl) rfl #[.pointer (some ⟨g, 0, none⟩), .int .i64 kp, .bool d.torn] (by rfl) rfl rfl (by (try simp only [List.map_toArray, List.map_cons, List.map_nil]); first | done | rfl) ?_
  refine (Off_Q (H4.out.below (below_drew1 (Below.refl _ _))) HOk.out.toFit.act kp d.torn).mono ?_
  rintro e wo ⟨rfl, hDo, hOo⟩
  refine ⟨_, rfl, ?_⟩
  have HDo := Aside0.mk hDo
  have HOo := Aside0.mk hOo
  clear hDo hOo
  refine hK.out _ _ ?_
  clear hK K
  refine done_ (by kernel_rfl) ?_
  go_wp2
  go_ret
  obtain ⟨e1, e2⟩ := off_end (Only.refl S w) HO4.out (HDo.out.mono (fun k hk => hk.imp .inl id)) (HOo.out.mono (fun k hk => .inl hk))
  refine ⟨rfl, ?_, e2⟩
  rw [show d.act.ends = d.act.off kp d.torn from by rw [HKp.out]; rfl]
  exact e1
theorem fallR_Q (h : DevW S w g d mb n D bl vl) (hok : d.Ok) (caps : Array Value) (done : DS → DS) (hcall : ∀ W, DevW S W g d.act mb n D bl vl → Only S w W → Calls Try.prog 38 caps W fun e w' => e = .returned (.tuple #[]) ∧ DevAt (Grow S W) w' g (done d.act) ∧ Only S W w') (hfit : (done d.act).Fit) (hkeep : (done d.act).keep = d.keep) (htorn : (done d.act).torn = d.torn) :
    Calls Try.prog 37 #[.pointer (some ⟨g, 0, none⟩), .func (.func 38) #[] caps] w fun e w' => e = .returned (.int .i64 (d.fall done).1) ∧ DevAt (Grow S w) w' g (d.fall done).2 ∧ Only S w w' := by
  unfold DS.fall
  cases hgo : d.goes with
  | false => rw [if_neg (by simp)]; exact fallR_a h hok caps done hcall hfit hkeep htorn hgo
  | true =>
    rw [if_pos rfl]
    by_cases hk : 0 < d.keep
    · rw [if_pos hk]
      exact fallR_b h hok caps done hcall hfit hkeep htorn hgo hk
    · rw [if_neg hk]
      exact fallR_c h hok caps done hcall hfit hkeep htorn hgo hk
set_option maxHeartbeats 4000000 in
set_option maxRecDepth 100000 in
theorem fallC_a (h : DevW S w g d mb n D bl vl) (hok : d.Ok) (caps : Array Value) (done : DS → DS) (hcall : ∀ W, DevW S W g d.act mb n D bl vl → Only S w W → Calls Try.prog 39 caps W fun e w' => e = .returned (.tuple #[]) ∧ DevAt (Grow S W) w' g (done d.act) ∧ Only S W w') (hfit : (done d.act).Fit) (hkeep : (done d.act).keep = d.keep) (htorn : (done d.act).torn = d.torn) (hgo : d.goes = false) :
    Calls Try.prog 37 #[.pointer (some ⟨g, 0, none⟩), .func (.func 39) #[] caps] w fun e w' => e = .returned (.int .i64 0) ∧ DevAt (Grow S w) w' g ((done d.act)) ∧ Only S w w' := by
  have HW := Aside0.mk h
  have HOk := Aside0.mk hok
  have HGo := Aside0.mk hgo
  have HC := Aside0.mk hcall
  have HFit := Aside0.mk hfit
  have HKeep := Aside0.mk hkeep
  have HTorn := Aside0.mk htorn
  clear h hok hgo hcall hfit hkeep htorn
  go_enter Try.func37, Try.ntmps37
  go_wp2_with (first
    | (go_at_call 33; refine (act_Q HW.out HOk.out).mono ?_; rintro e w4 ⟨rfl, h4, ho4⟩; rw [HGo.out]; have H4 := Aside0.mk h4; have HO4 := Aside0.mk ho4; clear h4 ho4)
    | (go_at_call 39; refine (HC.out _ H4.out HO4.out).mono ?_; rintro e w5 ⟨rfl, h5, ho5⟩; have H5 := Aside0.mk h5; have HO5 := Aside0.mk ho5; clear h5 ho5))
  go_ret
  exact ⟨rfl, H5.out.mono (fun k hk => hk.imp id (fun h => Nat.le_trans HO4.out.size h)), HO4.out.trans HO5.out⟩
set_option maxHeartbeats 4000000 in
set_option maxRecDepth 100000 in
theorem fallC_b (h : DevW S w g d mb n D bl vl) (hok : d.Ok) (caps : Array Value) (done : DS → DS) (hcall : ∀ W, DevW S W g d.act mb n D bl vl → Only S w W → Calls Try.prog 39 caps W fun e w' => e = .returned (.tuple #[]) ∧ DevAt (Grow S W) w' g (done d.act) ∧ Only S W w') (hfit : (done d.act).Fit) (hkeep : (done d.act).keep = d.keep) (htorn : (done d.act).torn = d.torn) (hgo : d.goes = true) (hk : 0 < d.keep) :
    Calls Try.prog 37 #[.pointer (some ⟨g, 0, none⟩), .func (.func 39) #[] caps] w fun e w' => e = .returned (.int .i64 7) ∧ DevAt (Grow S w) w' g ((done d.act).ends) ∧ Only S w w' := by
  have HW := Aside0.mk h
  have HOk := Aside0.mk hok
  have HGo := Aside0.mk hgo
  have HC := Aside0.mk hcall
  have HFit := Aside0.mk hfit
  have HKeep := Aside0.mk hkeep
  have HTorn := Aside0.mk htorn
  clear h hok hgo hcall hfit hkeep htorn
  obtain ⟨kp, hkp⟩ : ∃ kp, kp = d.keep := ⟨_, rfl⟩
  rw [← hkp] at hk
  have HKp := Aside0.mk hkp
  clear hkp
  go_enter Try.func37, Try.ntmps37
  go_wp2_with (first
    | (go_at_call 33; refine (act_Q HW.out HOk.out).mono ?_; rintro e w4 ⟨rfl, h4, ho4⟩; rw [HGo.out]; have z5 := h4.cell 5; change w4.cell? ⟨g, 5, none⟩ = some (.int .i64 d.keep) at z5; rw [← HKp.out] at z5; have H4 := Aside0.mk h4; have HO4 := Aside0.mk ho4; clear h4 ho4)
    | (go_at_call 39; refine (HC.out _ H4.out HO4.out).mono ?_; rintro e w5 ⟨rfl, h5, ho5⟩; have H5 := Aside0.mk h5; have HO5 := Aside0.mk ho5; clear h5 ho5))
  obtain ⟨mb5, n5, D5, bl5, vl5, hd5⟩ := H5.out
  clear z5
  have z5 := hd5.cell 5
  have z6 := hd5.cell 6
  change w5.cell? ⟨g, 5, none⟩ = some (.int .i64 (done d.act).keep) at z5
  change w5.cell? ⟨g, 6, none⟩ = some (.bool (done d.act).torn) at z6
  have HD5 := Aside0.mk hd5
  clear hd5
  refine start_ (n := 10) (S := fun w' => w'.cell? ⟨g, 5, none⟩ = some (.int .i64 (done d.act).keep) ∧ w'.cell? ⟨g, 6, none⟩ = some (.bool (done d.act).torn)) (ds := [9]) #[false, false, false, false, false, false, false, false, false, false] (by kernel_rfl) rfl rfl ⟨z5, z6⟩ (fun hHeld => ?_)
  refine pure_ (i := 0) (N := some 17) (v := ?_) (a' := ?_) #[true, false, false, false, false, false, false, false, false, false] rfl rfl (by kernel_rfl) (fun _ _ _ h => h) (Or.inl ⟨by rfl, ?_⟩) ?_ ?_
  rotate_left
  · intro w'
    go_simp
    with_reducible rfl
  rotate_left
  · simp only [Act.put, List.setIfInBounds_toArray, List.set_cons_zero, List.set_cons_succ, i64_w, i32_w]
    rfl
  refine pure_ (i := 1) (N := some 18) (v := ?_) (a' := ?_) #[true, true, false, false, false, false, false, false, false, false] rfl rfl (by kernel_rfl) (fun _ _ _ h => h) (Or.inl ⟨by rfl, ?_⟩) ?_ ?_
  rotate_left
  · intro w'
    go_simp
    with_reducible rfl
  rotate_left
  · simp only [Act.put, List.setIfInBounds_toArray, List.set_cons_zero, List.set_cons_succ, i64_w, i32_w]
    rfl
  refine pure_ (i := 2) (N := some 19) (v := ?_) (a' := ?_) #[true, true, true, false, false, false, false, false, false, false] rfl rfl (by kernel_rfl) (fun _ _ _ h => h) (Or.inl ⟨by rfl, ?_⟩) ?_ ?_
  rotate_left
  · intro w'
    go_simp
    with_reducible rfl
  rotate_left
  · simp only [Act.put, List.setIfInBounds_toArray, List.set_cons_zero, List.set_cons_succ, i64_w, i32_w]
    rfl
  refine pure_ (i := 3) (N := some 20) (v := ?_) (a' := ?_) #[true, true, true, true, false, false, false, false, false, false] rfl rfl (by kernel_rfl) (fun _ _ _ h => h) (Or.inl ⟨by rfl, ?_⟩) ?_ ?_
  rotate_left
  · intro w'
    go_simp
    with_reducible rfl
  rotate_left
  · simp only [Act.put, List.setIfInBounds_toArray, List.set_cons_zero, List.set_cons_succ, i64_w, i32_w]
    rfl
  refine take_ (i := 4) (N := some 21) (v := ?_) (a' := ?_) #[true, true, true, true, true, false, false, false, false, false] rfl rfl (by kernel_rfl) (fun _ _ _ h => h) (Or.inl ⟨by rfl, ?_⟩) hHeld ?_ ?_
  rotate_left
  · intro w' s0
    obtain ⟨y0, y1⟩ := s0
    go_simp
    with_reducible rfl
  rotate_left
  · simp only [Act.put, List.setIfInBounds_toArray, List.set_cons_zero, List.set_cons_succ, i64_w, i32_w]
    rfl
  refine pure_ (i := 5) (N := some 22) (v := ?_) (a' := ?_) #[true, true, true, true, true, true, false, false, false, false] rfl rfl (by kernel_rfl) (fun _ _ _ h => h) (Or.inl ⟨by rfl, ?_⟩) ?_ ?_
  rotate_left
  · intro w'
    go_simp
    with_reducible rfl
  rotate_left
  · simp only [Act.put, List.setIfInBounds_toArray, List.set_cons_zero, List.set_cons_succ, i64_w, i32_w]
    rfl
  refine pure_ (i := 6) (N := some 23) (v := ?_) (a' := ?_) #[true, true, true, true, true, true, true, false, false, false] rfl rfl (by kernel_rfl) (fun _ _ _ h => h) (Or.inl ⟨by rfl, ?_⟩) ?_ ?_
  rotate_left
  · intro w'
    go_simp
    with_reducible rfl
  rotate_left
  · simp only [Act.put, List.setIfInBounds_toArray, List.set_cons_zero, List.set_cons_succ, i64_w, i32_w]
    rfl
  refine pure_ (i := 7) (N := some 24) (v := ?_) (a' := ?_) #[true, true, true, true, true, true, true, true, false, false] rfl rfl (by kernel_rfl) (fun _ _ _ h => h) (Or.inl ⟨by rfl, ?_⟩) ?_ ?_
  rotate_left
  · intro w'
    go_simp
    with_reducible rfl
  rotate_left
  · simp only [Act.put, List.setIfInBounds_toArray, List.set_cons_zero, List.set_cons_succ, i64_w, i32_w]
    rfl
  refine take_ (i := 8) (N := some 25) (v := ?_) (a' := ?_) #[true, true, true, true, true, true, true, true, true, false] rfl rfl (by kernel_rfl) (fun _ _ _ h => h) (Or.inl ⟨by rfl, ?_⟩) hHeld ?_ ?_
  rotate_left
  · intro w' s0
    obtain ⟨y0, y1⟩ := s0
    go_simp
    with_reducible rfl
  rotate_left
  · simp only [Act.put, List.setIfInBounds_toArray, List.set_cons_zero, List.set_cons_succ, i64_w, i32_w]
    rfl
  refine last_ (i := 9) (N := some 26) #[true, true, true, true, true, true, true, true, true, true] rfl rfl (by kernel_rfl) (by decide) (fun K hK => ?_)
  refine goes_ Try.func16 (by kernel_rfl) rfl #[.pointer (some ⟨g, 0, none⟩), .int .i64 (done d.act).keep, .bool (done d.act).torn] (by rfl) rfl rfl (by (try simp only [List.map_toArray, List.map_cons, List.map_nil]); first | done | rfl) ?_
  refine (Off_Q (HD5.out.below (below_drew1 (Below.refl _ _))) HFit.out (done d.act).keep (done d.act).torn).mono ?_
  rintro e wo ⟨rfl, hDo, hOo⟩
  refine ⟨_, rfl, ?_⟩
  have HDo := Aside0.mk hDo
  have HOo := Aside0.mk hOo
  clear hDo hOo
  refine hK.out _ _ ?_
  clear hK K
  refine done_ (by kernel_rfl) ?_
  go_wp2
  go_ret
  obtain ⟨e1, e2⟩ := off_end HO4.out HO5.out HDo.out HOo.out
  exact ⟨rfl, e1, e2⟩
set_option maxHeartbeats 4000000 in
set_option maxRecDepth 100000 in
theorem fallC_c (h : DevW S w g d mb n D bl vl) (hok : d.Ok) (caps : Array Value) (done : DS → DS) (hcall : ∀ W, DevW S W g d.act mb n D bl vl → Only S w W → Calls Try.prog 39 caps W fun e w' => e = .returned (.tuple #[]) ∧ DevAt (Grow S W) w' g (done d.act) ∧ Only S W w') (hfit : (done d.act).Fit) (hkeep : (done d.act).keep = d.keep) (htorn : (done d.act).torn = d.torn) (hgo : d.goes = true) (hk : ¬ 0 < d.keep) :
    Calls Try.prog 37 #[.pointer (some ⟨g, 0, none⟩), .func (.func 39) #[] caps] w fun e w' => e = .returned (.int .i64 7) ∧ DevAt (Grow S w) w' g (d.act.ends) ∧ Only S w w' := by
  have HW := Aside0.mk h
  have HOk := Aside0.mk hok
  have HGo := Aside0.mk hgo
  have HC := Aside0.mk hcall
  have HFit := Aside0.mk hfit
  have HKeep := Aside0.mk hkeep
  have HTorn := Aside0.mk htorn
  clear h hok hgo hcall hfit hkeep htorn
  obtain ⟨kp, hkp⟩ : ∃ kp, kp = d.keep := ⟨_, rfl⟩
  rw [← hkp] at hk
  have HKp := Aside0.mk hkp
  clear hkp
  go_enter Try.func37, Try.ntmps37
  go_wp2_with (first
    | (go_at_call 33; refine (act_Q HW.out HOk.out).mono ?_; rintro e w4 ⟨rfl, h4, ho4⟩; rw [HGo.out]; have z5 := h4.cell 5; change w4.cell? ⟨g, 5, none⟩ = some (.int .i64 d.keep) at z5; rw [← HKp.out] at z5; have H4 := Aside0.mk h4; have HO4 := Aside0.mk ho4; clear h4 ho4)
    | (go_at_call 39; refine (HC.out _ H4.out HO4.out).mono ?_; rintro e w5 ⟨rfl, h5, ho5⟩; have H5 := Aside0.mk h5; have HO5 := Aside0.mk ho5; clear h5 ho5))
  have z6 := H4.out.cell 6
  change w4.cell? ⟨g, 6, none⟩ = some (.bool d.torn) at z6
  refine start_ (n := 10) (S := fun w' => w'.cell? ⟨g, 5, none⟩ = some (.int .i64 kp) ∧ w'.cell? ⟨g, 6, none⟩ = some (.bool d.torn)) (ds := [9]) #[false, false, false, false, false, false, false, false, false, false] (by kernel_rfl) rfl rfl ⟨z5, z6⟩ (fun hHeld => ?_)
  refine pure_ (i := 0) (N := some 17) (v := ?_) (a' := ?_) #[true, false, false, false, false, false, false, false, false, false] rfl rfl (by kernel_rfl) (fun _ _ _ h => h) (Or.inl ⟨by rfl, ?_⟩) ?_ ?_
  rotate_left
  · intro w'
    go_simp
    with_reducible rfl
  rotate_left
  · simp only [Act.put, List.setIfInBounds_toArray, List.set_cons_zero, List.set_cons_succ, i64_w, i32_w]
    rfl
  refine pure_ (i := 1) (N := some 18) (v := ?_) (a' := ?_) #[true, true, false, false, false, false, false, false, false, false] rfl rfl (by kernel_rfl) (fun _ _ _ h => h) (Or.inl ⟨by rfl, ?_⟩) ?_ ?_
  rotate_left
  · intro w'
    go_simp
    with_reducible rfl
  rotate_left
  · simp only [Act.put, List.setIfInBounds_toArray, List.set_cons_zero, List.set_cons_succ, i64_w, i32_w]
    rfl
  refine pure_ (i := 2) (N := some 19) (v := ?_) (a' := ?_) #[true, true, true, false, false, false, false, false, false, false] rfl rfl (by kernel_rfl) (fun _ _ _ h => h) (Or.inl ⟨by rfl, ?_⟩) ?_ ?_
  rotate_left
  · intro w'
    go_simp
    with_reducible rfl
  rotate_left
  · simp only [Act.put, List.setIfInBounds_toArray, List.set_cons_zero, List.set_cons_succ, i64_w, i32_w]
    rfl
  refine pure_ (i := 3) (N := some 20) (v := ?_) (a' := ?_) #[true, true, true, true, false, false, false, false, false, false] rfl rfl (by kernel_rfl) (fun _ _ _ h => h) (Or.inl ⟨by rfl, ?_⟩) ?_ ?_
  rotate_left
  · intro w'
    go_simp
    with_reducible rfl
  rotate_left
  · simp only [Act.put, List.setIfInBounds_toArray, List.set_cons_zero, List.set_cons_succ, i64_w, i32_w]
    rfl
  refine take_ (i := 4) (N := some 21) (v := ?_) (a' := ?_) #[true, true, true, true, true, false, false, false, false, false] rfl rfl (by kernel_rfl) (fun _ _ _ h => h) (Or.inl ⟨by rfl, ?_⟩) hHeld ?_ ?_
  rotate_left
  · intro w' s0
    obtain ⟨y0, y1⟩ := s0
    go_simp
    with_reducible rfl
  rotate_left
  · simp only [Act.put, List.setIfInBounds_toArray, List.set_cons_zero, List.set_cons_succ, i64_w, i32_w]
    rfl
  refine pure_ (i := 5) (N := some 22) (v := ?_) (a' := ?_) #[true, true, true, true, true, true, false, false, false, false] rfl rfl (by kernel_rfl) (fun _ _ _ h => h) (Or.inl ⟨by rfl, ?_⟩) ?_ ?_
  rotate_left
  · intro w'
    go_simp
    with_reducible rfl
  rotate_left
  · simp only [Act.put, List.setIfInBounds_toArray, List.set_cons_zero, List.set_cons_succ, i64_w, i32_w]
    rfl
  refine pure_ (i := 6) (N := some 23) (v := ?_) (a' := ?_) #[true, true, true, true, true, true, true, false, false, false] rfl rfl (by kernel_rfl) (fun _ _ _ h => h) (Or.inl ⟨by rfl, ?_⟩) ?_ ?_
  rotate_left
  · intro w'
    go_simp
    with_reducible rfl
  rotate_left
  · simp only [Act.put, List.setIfInBounds_toArray, List.set_cons_zero, List.set_cons_succ, i64_w, i32_w]
    rfl
  refine pure_ (i := 7) (N := some 24) (v := ?_) (a' := ?_) #[true, true, true, true, true, true, true, true, false, false] rfl rfl (by kernel_rfl) (fun _ _ _ h => h) (Or.inl ⟨by rfl, ?_⟩) ?_ ?_
  rotate_left
  · intro w'
    go_simp
    with_reducible rfl
  rotate_left
  · simp only [Act.put, List.setIfInBounds_toArray, List.set_cons_zero, List.set_cons_succ, i64_w, i32_w]
    rfl
  refine take_ (i := 8) (N := some 25) (v := ?_) (a' := ?_) #[true, true, true, true, true, true, true, true, true, false] rfl rfl (by kernel_rfl) (fun _ _ _ h => h) (Or.inl ⟨by rfl, ?_⟩) hHeld ?_ ?_
  rotate_left
  · intro w' s0
    obtain ⟨y0, y1⟩ := s0
    go_simp
    with_reducible rfl
  rotate_left
  · simp only [Act.put, List.setIfInBounds_toArray, List.set_cons_zero, List.set_cons_succ, i64_w, i32_w]
    rfl
  refine last_ (i := 9) (N := some 26) #[true, true, true, true, true, true, true, true, true, true] rfl rfl (by kernel_rfl) (by decide) (fun K hK => ?_)
  refine goes_ Try.func16 (by kernel_rfl) rfl #[.pointer (some ⟨g, 0, none⟩), .int .i64 kp, .bool d.torn] (by rfl) rfl rfl (by (try simp only [List.map_toArray, List.map_cons, List.map_nil]); first | done | rfl) ?_
  refine (Off_Q (H4.out.below (below_drew1 (Below.refl _ _))) HOk.out.toFit.act kp d.torn).mono ?_
  rintro e wo ⟨rfl, hDo, hOo⟩
  refine ⟨_, rfl, ?_⟩
  have HDo := Aside0.mk hDo
  have HOo := Aside0.mk hOo
  clear hDo hOo
  refine hK.out _ _ ?_
  clear hK K
  refine done_ (by kernel_rfl) ?_
  go_wp2
  go_ret
  obtain ⟨e1, e2⟩ := off_end (Only.refl S w) HO4.out (HDo.out.mono (fun k hk => hk.imp .inl id)) (HOo.out.mono (fun k hk => .inl hk))
  refine ⟨rfl, ?_, e2⟩
  rw [show d.act.ends = d.act.off kp d.torn from by rw [HKp.out]; rfl]
  exact e1
theorem fallC_Q (h : DevW S w g d mb n D bl vl) (hok : d.Ok) (caps : Array Value) (done : DS → DS) (hcall : ∀ W, DevW S W g d.act mb n D bl vl → Only S w W → Calls Try.prog 39 caps W fun e w' => e = .returned (.tuple #[]) ∧ DevAt (Grow S W) w' g (done d.act) ∧ Only S W w') (hfit : (done d.act).Fit) (hkeep : (done d.act).keep = d.keep) (htorn : (done d.act).torn = d.torn) :
    Calls Try.prog 37 #[.pointer (some ⟨g, 0, none⟩), .func (.func 39) #[] caps] w fun e w' => e = .returned (.int .i64 (d.fall done).1) ∧ DevAt (Grow S w) w' g (d.fall done).2 ∧ Only S w w' := by
  unfold DS.fall
  cases hgo : d.goes with
  | false => rw [if_neg (by simp)]; exact fallC_a h hok caps done hcall hfit hkeep htorn hgo
  | true =>
    rw [if_pos rfl]
    by_cases hk : 0 < d.keep
    · rw [if_pos hk]
      exact fallC_b h hok caps done hcall hfit hkeep htorn hgo hk
    · rw [if_neg hk]
      exact fallC_c h hok caps done hcall hfit hkeep htorn hgo hk
set_option maxHeartbeats 4000000 in
set_option maxRecDepth 100000 in
theorem fallD_a (h : DevW S w g d mb n D bl vl) (hok : d.Ok) (caps : Array Value) (done : DS → DS) (hcall : ∀ W, DevW S W g d.act mb n D bl vl → Only S w W → Calls Try.prog 40 caps W fun e w' => e = .returned (.tuple #[]) ∧ DevAt (Grow S W) w' g (done d.act) ∧ Only S W w') (hfit : (done d.act).Fit) (hkeep : (done d.act).keep = d.keep) (htorn : (done d.act).torn = d.torn) (hgo : d.goes = false) :
    Calls Try.prog 37 #[.pointer (some ⟨g, 0, none⟩), .func (.func 40) #[] caps] w fun e w' => e = .returned (.int .i64 0) ∧ DevAt (Grow S w) w' g ((done d.act)) ∧ Only S w w' := by
  have HW := Aside0.mk h
  have HOk := Aside0.mk hok
  have HGo := Aside0.mk hgo
  have HC := Aside0.mk hcall
  have HFit := Aside0.mk hfit
  have HKeep := Aside0.mk hkeep
  have HTorn := Aside0.mk htorn
  clear h hok hgo hcall hfit hkeep htorn
  go_enter Try.func37, Try.ntmps37
  go_wp2_with (first
    | (go_at_call 33; refine (act_Q HW.out HOk.out).mono ?_; rintro e w4 ⟨rfl, h4, ho4⟩; rw [HGo.out]; have H4 := Aside0.mk h4; have HO4 := Aside0.mk ho4; clear h4 ho4)
    | (go_at_call 40; refine (HC.out _ H4.out HO4.out).mono ?_; rintro e w5 ⟨rfl, h5, ho5⟩; have H5 := Aside0.mk h5; have HO5 := Aside0.mk ho5; clear h5 ho5))
  go_ret
  exact ⟨rfl, H5.out.mono (fun k hk => hk.imp id (fun h => Nat.le_trans HO4.out.size h)), HO4.out.trans HO5.out⟩
set_option maxHeartbeats 4000000 in
set_option maxRecDepth 100000 in
theorem fallD_b (h : DevW S w g d mb n D bl vl) (hok : d.Ok) (caps : Array Value) (done : DS → DS) (hcall : ∀ W, DevW S W g d.act mb n D bl vl → Only S w W → Calls Try.prog 40 caps W fun e w' => e = .returned (.tuple #[]) ∧ DevAt (Grow S W) w' g (done d.act) ∧ Only S W w') (hfit : (done d.act).Fit) (hkeep : (done d.act).keep = d.keep) (htorn : (done d.act).torn = d.torn) (hgo : d.goes = true) (hk : 0 < d.keep) :
    Calls Try.prog 37 #[.pointer (some ⟨g, 0, none⟩), .func (.func 40) #[] caps] w fun e w' => e = .returned (.int .i64 7) ∧ DevAt (Grow S w) w' g ((done d.act).ends) ∧ Only S w w' := by
  have HW := Aside0.mk h
  have HOk := Aside0.mk hok
  have HGo := Aside0.mk hgo
  have HC := Aside0.mk hcall
  have HFit := Aside0.mk hfit
  have HKeep := Aside0.mk hkeep
  have HTorn := Aside0.mk htorn
  clear h hok hgo hcall hfit hkeep htorn
  obtain ⟨kp, hkp⟩ : ∃ kp, kp = d.keep := ⟨_, rfl⟩
  rw [← hkp] at hk
  have HKp := Aside0.mk hkp
  clear hkp
  go_enter Try.func37, Try.ntmps37
  go_wp2_with (first
    | (go_at_call 33; refine (act_Q HW.out HOk.out).mono ?_; rintro e w4 ⟨rfl, h4, ho4⟩; rw [HGo.out]; have z5 := h4.cell 5; change w4.cell? ⟨g, 5, none⟩ = some (.int .i64 d.keep) at z5; rw [← HKp.out] at z5; have H4 := Aside0.mk h4; have HO4 := Aside0.mk ho4; clear h4 ho4)
    | (go_at_call 40; refine (HC.out _ H4.out HO4.out).mono ?_; rintro e w5 ⟨rfl, h5, ho5⟩; have H5 := Aside0.mk h5; have HO5 := Aside0.mk ho5; clear h5 ho5))
  obtain ⟨mb5, n5, D5, bl5, vl5, hd5⟩ := H5.out
  clear z5
  have z5 := hd5.cell 5
  have z6 := hd5.cell 6
  change w5.cell? ⟨g, 5, none⟩ = some (.int .i64 (done d.act).keep) at z5
  change w5.cell? ⟨g, 6, none⟩ = some (.bool (done d.act).torn) at z6
  have HD5 := Aside0.mk hd5
  clear hd5
  refine start_ (n := 10) (S := fun w' => w'.cell? ⟨g, 5, none⟩ = some (.int .i64 (done d.act).keep) ∧ w'.cell? ⟨g, 6, none⟩ = some (.bool (done d.act).torn)) (ds := [9]) #[false, false, false, false, false, false, false, false, false, false] (by kernel_rfl) rfl rfl ⟨z5, z6⟩ (fun hHeld => ?_)
  refine pure_ (i := 0) (N := some 17) (v := ?_) (a' := ?_) #[true, false, false, false, false, false, false, false, false, false] rfl rfl (by kernel_rfl) (fun _ _ _ h => h) (Or.inl ⟨by rfl, ?_⟩) ?_ ?_
  rotate_left
  · intro w'
    go_simp
    with_reducible rfl
  rotate_left
  · simp only [Act.put, List.setIfInBounds_toArray, List.set_cons_zero, List.set_cons_succ, i64_w, i32_w]
    rfl
  refine pure_ (i := 1) (N := some 18) (v := ?_) (a' := ?_) #[true, true, false, false, false, false, false, false, false, false] rfl rfl (by kernel_rfl) (fun _ _ _ h => h) (Or.inl ⟨by rfl, ?_⟩) ?_ ?_
  rotate_left
  · intro w'
    go_simp
    with_reducible rfl
  rotate_left
  · simp only [Act.put, List.setIfInBounds_toArray, List.set_cons_zero, List.set_cons_succ, i64_w, i32_w]
    rfl
  refine pure_ (i := 2) (N := some 19) (v := ?_) (a' := ?_) #[true, true, true, false, false, false, false, false, false, false] rfl rfl (by kernel_rfl) (fun _ _ _ h => h) (Or.inl ⟨by rfl, ?_⟩) ?_ ?_
  rotate_left
  · intro w'
    go_simp
    with_reducible rfl
  rotate_left
  · simp only [Act.put, List.setIfInBounds_toArray, List.set_cons_zero, List.set_cons_succ, i64_w, i32_w]
    rfl
  refine pure_ (i := 3) (N := some 20) (v := ?_) (a' := ?_) #[true, true, true, true, false, false, false, false, false, false] rfl rfl (by kernel_rfl) (fun _ _ _ h => h) (Or.inl ⟨by rfl, ?_⟩) ?_ ?_
  rotate_left
  · intro w'
    go_simp
    with_reducible rfl
  rotate_left
  · simp only [Act.put, List.setIfInBounds_toArray, List.set_cons_zero, List.set_cons_succ, i64_w, i32_w]
    rfl
  refine take_ (i := 4) (N := some 21) (v := ?_) (a' := ?_) #[true, true, true, true, true, false, false, false, false, false] rfl rfl (by kernel_rfl) (fun _ _ _ h => h) (Or.inl ⟨by rfl, ?_⟩) hHeld ?_ ?_
  rotate_left
  · intro w' s0
    obtain ⟨y0, y1⟩ := s0
    go_simp
    with_reducible rfl
  rotate_left
  · simp only [Act.put, List.setIfInBounds_toArray, List.set_cons_zero, List.set_cons_succ, i64_w, i32_w]
    rfl
  refine pure_ (i := 5) (N := some 22) (v := ?_) (a' := ?_) #[true, true, true, true, true, true, false, false, false, false] rfl rfl (by kernel_rfl) (fun _ _ _ h => h) (Or.inl ⟨by rfl, ?_⟩) ?_ ?_
  rotate_left
  · intro w'
    go_simp
    with_reducible rfl
  rotate_left
  · simp only [Act.put, List.setIfInBounds_toArray, List.set_cons_zero, List.set_cons_succ, i64_w, i32_w]
    rfl
  refine pure_ (i := 6) (N := some 23) (v := ?_) (a' := ?_) #[true, true, true, true, true, true, true, false, false, false] rfl rfl (by kernel_rfl) (fun _ _ _ h => h) (Or.inl ⟨by rfl, ?_⟩) ?_ ?_
  rotate_left
  · intro w'
    go_simp
    with_reducible rfl
  rotate_left
  · simp only [Act.put, List.setIfInBounds_toArray, List.set_cons_zero, List.set_cons_succ, i64_w, i32_w]
    rfl
  refine pure_ (i := 7) (N := some 24) (v := ?_) (a' := ?_) #[true, true, true, true, true, true, true, true, false, false] rfl rfl (by kernel_rfl) (fun _ _ _ h => h) (Or.inl ⟨by rfl, ?_⟩) ?_ ?_
  rotate_left
  · intro w'
    go_simp
    with_reducible rfl
  rotate_left
  · simp only [Act.put, List.setIfInBounds_toArray, List.set_cons_zero, List.set_cons_succ, i64_w, i32_w]
    rfl
  refine take_ (i := 8) (N := some 25) (v := ?_) (a' := ?_) #[true, true, true, true, true, true, true, true, true, false] rfl rfl (by kernel_rfl) (fun _ _ _ h => h) (Or.inl ⟨by rfl, ?_⟩) hHeld ?_ ?_
  rotate_left
  · intro w' s0
    obtain ⟨y0, y1⟩ := s0
    go_simp
    with_reducible rfl
  rotate_left
  · simp only [Act.put, List.setIfInBounds_toArray, List.set_cons_zero, List.set_cons_succ, i64_w, i32_w]
    rfl
  refine last_ (i := 9) (N := some 26) #[true, true, true, true, true, true, true, true, true, true] rfl rfl (by kernel_rfl) (by decide) (fun K hK => ?_)
  refine goes_ Try.func16 (by kernel_rfl) rfl #[.pointer (some ⟨g, 0, none⟩), .int .i64 (done d.act).keep, .bool (done d.act).torn] (by rfl) rfl rfl (by (try simp only [List.map_toArray, List.map_cons, List.map_nil]); first | done | rfl) ?_
  refine (Off_Q (HD5.out.below (below_drew1 (Below.refl _ _))) HFit.out (done d.act).keep (done d.act).torn).mono ?_
  rintro e wo ⟨rfl, hDo, hOo⟩
  refine ⟨_, rfl, ?_⟩
  have HDo := Aside0.mk hDo
  have HOo := Aside0.mk hOo
  clear hDo hOo
  refine hK.out _ _ ?_
  clear hK K
  refine done_ (by kernel_rfl) ?_
  go_wp2
  go_ret
  obtain ⟨e1, e2⟩ := off_end HO4.out HO5.out HDo.out HOo.out
  exact ⟨rfl, e1, e2⟩
set_option maxHeartbeats 4000000 in
set_option maxRecDepth 100000 in
theorem fallD_c (h : DevW S w g d mb n D bl vl) (hok : d.Ok) (caps : Array Value) (done : DS → DS) (hcall : ∀ W, DevW S W g d.act mb n D bl vl → Only S w W → Calls Try.prog 40 caps W fun e w' => e = .returned (.tuple #[]) ∧ DevAt (Grow S W) w' g (done d.act) ∧ Only S W w') (hfit : (done d.act).Fit) (hkeep : (done d.act).keep = d.keep) (htorn : (done d.act).torn = d.torn) (hgo : d.goes = true) (hk : ¬ 0 < d.keep) :
    Calls Try.prog 37 #[.pointer (some ⟨g, 0, none⟩), .func (.func 40) #[] caps] w fun e w' => e = .returned (.int .i64 7) ∧ DevAt (Grow S w) w' g (d.act.ends) ∧ Only S w w' := by
  have HW := Aside0.mk h
  have HOk := Aside0.mk hok
  have HGo := Aside0.mk hgo
  have HC := Aside0.mk hcall
  have HFit := Aside0.mk hfit
  have HKeep := Aside0.mk hkeep
  have HTorn := Aside0.mk htorn
  clear h hok hgo hcall hfit hkeep htorn
  obtain ⟨kp, hkp⟩ : ∃ kp, kp = d.keep := ⟨_, rfl⟩
  rw [← hkp] at hk
  have HKp := Aside0.mk hkp
  clear hkp
  go_enter Try.func37, Try.ntmps37
  go_wp2_with (first
    | (go_at_call 33; refine (act_Q HW.out HOk.out).mono ?_; rintro e w4 ⟨rfl, h4, ho4⟩; rw [HGo.out]; have z5 := h4.cell 5; change w4.cell? ⟨g, 5, none⟩ = some (.int .i64 d.keep) at z5; rw [← HKp.out] at z5; have H4 := Aside0.mk h4; have HO4 := Aside0.mk ho4; clear h4 ho4)
    | (go_at_call 40; refine (HC.out _ H4.out HO4.out).mono ?_; rintro e w5 ⟨rfl, h5, ho5⟩; have H5 := Aside0.mk h5; have HO5 := Aside0.mk ho5; clear h5 ho5))
  have z6 := H4.out.cell 6
  change w4.cell? ⟨g, 6, none⟩ = some (.bool d.torn) at z6
  refine start_ (n := 10) (S := fun w' => w'.cell? ⟨g, 5, none⟩ = some (.int .i64 kp) ∧ w'.cell? ⟨g, 6, none⟩ = some (.bool d.torn)) (ds := [9]) #[false, false, false, false, false, false, false, false, false, false] (by kernel_rfl) rfl rfl ⟨z5, z6⟩ (fun hHeld => ?_)
  refine pure_ (i := 0) (N := some 17) (v := ?_) (a' := ?_) #[true, false, false, false, false, false, false, false, false, false] rfl rfl (by kernel_rfl) (fun _ _ _ h => h) (Or.inl ⟨by rfl, ?_⟩) ?_ ?_
  rotate_left
  · intro w'
    go_simp
    with_reducible rfl
  rotate_left
  · simp only [Act.put, List.setIfInBounds_toArray, List.set_cons_zero, List.set_cons_succ, i64_w, i32_w]
    rfl
  refine pure_ (i := 1) (N := some 18) (v := ?_) (a' := ?_) #[true, true, false, false, false, false, false, false, false, false] rfl rfl (by kernel_rfl) (fun _ _ _ h => h) (Or.inl ⟨by rfl, ?_⟩) ?_ ?_
  rotate_left
  · intro w'
    go_simp
    with_reducible rfl
  rotate_left
  · simp only [Act.put, List.setIfInBounds_toArray, List.set_cons_zero, List.set_cons_succ, i64_w, i32_w]
    rfl
  refine pure_ (i := 2) (N := some 19) (v := ?_) (a' := ?_) #[true, true, true, false, false, false, false, false, false, false] rfl rfl (by kernel_rfl) (fun _ _ _ h => h) (Or.inl ⟨by rfl, ?_⟩) ?_ ?_
  rotate_left
  · intro w'
    go_simp
    with_reducible rfl
  rotate_left
  · simp only [Act.put, List.setIfInBounds_toArray, List.set_cons_zero, List.set_cons_succ, i64_w, i32_w]
    rfl
  refine pure_ (i := 3) (N := some 20) (v := ?_) (a' := ?_) #[true, true, true, true, false, false, false, false, false, false] rfl rfl (by kernel_rfl) (fun _ _ _ h => h) (Or.inl ⟨by rfl, ?_⟩) ?_ ?_
  rotate_left
  · intro w'
    go_simp
    with_reducible rfl
  rotate_left
  · simp only [Act.put, List.setIfInBounds_toArray, List.set_cons_zero, List.set_cons_succ, i64_w, i32_w]
    rfl
  refine take_ (i := 4) (N := some 21) (v := ?_) (a' := ?_) #[true, true, true, true, true, false, false, false, false, false] rfl rfl (by kernel_rfl) (fun _ _ _ h => h) (Or.inl ⟨by rfl, ?_⟩) hHeld ?_ ?_
  rotate_left
  · intro w' s0
    obtain ⟨y0, y1⟩ := s0
    go_simp
    with_reducible rfl
  rotate_left
  · simp only [Act.put, List.setIfInBounds_toArray, List.set_cons_zero, List.set_cons_succ, i64_w, i32_w]
    rfl
  refine pure_ (i := 5) (N := some 22) (v := ?_) (a' := ?_) #[true, true, true, true, true, true, false, false, false, false] rfl rfl (by kernel_rfl) (fun _ _ _ h => h) (Or.inl ⟨by rfl, ?_⟩) ?_ ?_
  rotate_left
  · intro w'
    go_simp
    with_reducible rfl
  rotate_left
  · simp only [Act.put, List.setIfInBounds_toArray, List.set_cons_zero, List.set_cons_succ, i64_w, i32_w]
    rfl
  refine pure_ (i := 6) (N := some 23) (v := ?_) (a' := ?_) #[true, true, true, true, true, true, true, false, false, false] rfl rfl (by kernel_rfl) (fun _ _ _ h => h) (Or.inl ⟨by rfl, ?_⟩) ?_ ?_
  rotate_left
  · intro w'
    go_simp
    with_reducible rfl
  rotate_left
  · simp only [Act.put, List.setIfInBounds_toArray, List.set_cons_zero, List.set_cons_succ, i64_w, i32_w]
    rfl
  refine pure_ (i := 7) (N := some 24) (v := ?_) (a' := ?_) #[true, true, true, true, true, true, true, true, false, false] rfl rfl (by kernel_rfl) (fun _ _ _ h => h) (Or.inl ⟨by rfl, ?_⟩) ?_ ?_
  rotate_left
  · intro w'
    go_simp
    with_reducible rfl
  rotate_left
  · simp only [Act.put, List.setIfInBounds_toArray, List.set_cons_zero, List.set_cons_succ, i64_w, i32_w]
    rfl
  refine take_ (i := 8) (N := some 25) (v := ?_) (a' := ?_) #[true, true, true, true, true, true, true, true, true, false] rfl rfl (by kernel_rfl) (fun _ _ _ h => h) (Or.inl ⟨by rfl, ?_⟩) hHeld ?_ ?_
  rotate_left
  · intro w' s0
    obtain ⟨y0, y1⟩ := s0
    go_simp
    with_reducible rfl
  rotate_left
  · simp only [Act.put, List.setIfInBounds_toArray, List.set_cons_zero, List.set_cons_succ, i64_w, i32_w]
    rfl
  refine last_ (i := 9) (N := some 26) #[true, true, true, true, true, true, true, true, true, true] rfl rfl (by kernel_rfl) (by decide) (fun K hK => ?_)
  refine goes_ Try.func16 (by kernel_rfl) rfl #[.pointer (some ⟨g, 0, none⟩), .int .i64 kp, .bool d.torn] (by rfl) rfl rfl (by (try simp only [List.map_toArray, List.map_cons, List.map_nil]); first | done | rfl) ?_
  refine (Off_Q (H4.out.below (below_drew1 (Below.refl _ _))) HOk.out.toFit.act kp d.torn).mono ?_
  rintro e wo ⟨rfl, hDo, hOo⟩
  refine ⟨_, rfl, ?_⟩
  have HDo := Aside0.mk hDo
  have HOo := Aside0.mk hOo
  clear hDo hOo
  refine hK.out _ _ ?_
  clear hK K
  refine done_ (by kernel_rfl) ?_
  go_wp2
  go_ret
  obtain ⟨e1, e2⟩ := off_end (Only.refl S w) HO4.out (HDo.out.mono (fun k hk => hk.imp .inl id)) (HOo.out.mono (fun k hk => .inl hk))
  refine ⟨rfl, ?_, e2⟩
  rw [show d.act.ends = d.act.off kp d.torn from by rw [HKp.out]; rfl]
  exact e1
theorem fallD_Q (h : DevW S w g d mb n D bl vl) (hok : d.Ok) (caps : Array Value) (done : DS → DS) (hcall : ∀ W, DevW S W g d.act mb n D bl vl → Only S w W → Calls Try.prog 40 caps W fun e w' => e = .returned (.tuple #[]) ∧ DevAt (Grow S W) w' g (done d.act) ∧ Only S W w') (hfit : (done d.act).Fit) (hkeep : (done d.act).keep = d.keep) (htorn : (done d.act).torn = d.torn) :
    Calls Try.prog 37 #[.pointer (some ⟨g, 0, none⟩), .func (.func 40) #[] caps] w fun e w' => e = .returned (.int .i64 (d.fall done).1) ∧ DevAt (Grow S w) w' g (d.fall done).2 ∧ Only S w w' := by
  unfold DS.fall
  cases hgo : d.goes with
  | false => rw [if_neg (by simp)]; exact fallD_a h hok caps done hcall hfit hkeep htorn hgo
  | true =>
    rw [if_pos rfl]
    by_cases hk : 0 < d.keep
    · rw [if_pos hk]
      exact fallD_b h hok caps done hcall hfit hkeep htorn hgo hk
    · rw [if_neg hk]
      exact fallD_c h hok caps done hcall hfit hkeep htorn hgo hk
end
end Go.Proofs.Ytoedkemjidgbeaa.Dk
