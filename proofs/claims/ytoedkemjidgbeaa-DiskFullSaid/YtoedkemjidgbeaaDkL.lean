/- Append, Read, Sync, On, Arm, Acts, Down. -/
import Derived.Test.YtoedkemjidgbeaaDkK
namespace Go.Proofs.Ytoedkemjidgbeaa.Dk
open Go Go.RowKit Go.Proofs.YtoedkemjidgbeaaW.PrintWords Go.Proofs.YtoedkemjidgbeaaW.PrintLast Go.Proofs.YtoedkemjidgbeaaW.PrintMore Go.Proofs.YtoedkemjidgbeaaMy Go.Proofs.Ytoedkemjidgbeaa Go.Proofs.YtoedkemjidgbeaaPw Go.Proofs.Ytoedkemjidgbeaa.PAll
attribute [local go_sem] max2_m min2_m max_two min_two
set_option linter.unusedVariables false
set_option linter.unusedSimpArgs false
section
variable {S : Nat → Prop} {w : World} {g : Nat} {d : DS} {mb n : Nat} {D : DataW Unit} {bl : ByteArray → Nat} {vl : ByteArray → Value}
theorem Append_Q (h : DevAt S w g d) (hok : d.Ok) (s : ByteArray) {A : Option Addr} {m c : Nat} {xs : List Int} (hx : Kd.F bK w (fun k => ¬ S k) A m xs) (hm : m ≤ 4294967296) (hxb : ∀ x ∈ xs, 0 ≤ x ∧ x ≤ 255) :
    Calls Try.prog 12 #[.pointer (some ⟨g, 0, none⟩), .string s, .slice A m c] w fun e w' => e = .returned (.int .i64 (d.append s xs).1) ∧ DevAt (Grow S w) w' g (d.append s xs).2 ∧ Only S w w' := by
  obtain ⟨mb, n, D, bl, vl, h⟩ := h
  have hln := Kd.F_len hx
  unfold DS.append
  by_cases hr : d.ready s = 0
  · rw [if_neg (fun h => h hr), hln]
    by_cases hl : (m : Int) ≤ d.free
    · rw [if_neg (by omega)]
      cases hgo : d.goes with
      | false =>
        rw [if_neg (by simp)]
        cases hf : (findF d.files s).isSome with
        | true => exact Append_3 h hok s hx hm hxb hr hl hf hgo
        | false => exact Append_5 h hok s hx hm hxb hr hl hf hgo
      | true =>
        rw [if_pos rfl]
        cases hf : (findF d.files s).isSome with
        | true => exact Append_4 h hok s hx hm hxb hr hl hf hgo
        | false => exact Append_6 h hok s hx hm hxb hr hl hf hgo
    · rw [if_pos (by omega)]
      exact Append_2 h hok.toFit s A m c hr hl
  · rw [if_pos hr]
    exact Append_1 h s A m c hr
/-! Read. -/
theorem there_ready {d : DS} {s : ByteArray} (h : d.there s = 0) : d.ready s = 0 ∧ ∃ f, findF d.files s = some f := by
  unfold DS.there at h
  by_cases c : d.ready s = 0
  · rw [if_neg (fun h => h c)] at h
    refine ⟨c, ?_⟩
    cases e : findF d.files s with
    | some f => exact ⟨f, rfl⟩
    | none => rw [e] at h; simp at h
  · rw [if_pos c] at h
    exact absurd h c
set_option maxHeartbeats 4000000 in
set_option maxRecDepth 100000 in
theorem Read_1 (h : DevW S w g d mb n D bl vl) (s : ByteArray) (hr : d.there s ≠ 0) : Calls Try.prog 13 #[.pointer (some ⟨g, 0, none⟩), .string s] w fun e w' => e = .returned (.tuple #[.slice none 0 0, .int .i64 (d.there s)]) ∧ Below w.heap.size w w' := by
  have HR := Aside0.mk (there_Q h s)
  rw [if_neg hr] at HR
  obtain ⟨r, hq⟩ : ∃ r, r = d.there s := ⟨_, rfl⟩
  rw [← hq] at HR hr ⊢
  clear hq h
  have cb : (r == 0) = false := beq_eq_false_iff_ne.mpr hr
  have cn : (r != 0) = true := bne_iff_ne.mpr hr
  clear hr
  go_enter Try.func13, Try.ntmps13
  go_wp2_with (first | (go_at_call 34; refine HR.out.mono ?_; rintro e w2 ⟨rfl, ⟨nd, rfl⟩⟩))
  go_ret2
  exact ⟨rfl, pw_below_drewN (Below.refl _ _) nd⟩
set_option maxHeartbeats 4000000 in
set_option maxRecDepth 100000 in
theorem Read_2 (h : DevW S w g d mb n D bl vl) (hok : d.Fit) (s : ByteArray) (hr : d.there s = 0) : Calls Try.prog 13 #[.pointer (some ⟨g, 0, none⟩), .string s] w fun e w' => (∃ v, e = .returned (.tuple #[v, .int .i64 0]) ∧ bK.R 5 w' w.heap.size (fun _ => True) v (d.fileOr s).b) ∧ Below w.heap.size w w' := by
  have HR := Aside0.mk (there_Q h s)
  rw [if_pos hr] at HR
  obtain ⟨f, hf⟩ := (there_ready hr).2
  rw [hr] at HR
  rw [fileOr_some hf]
  obtain ⟨hfm, rfl⟩ := findF_some hf
  have HW := Aside0.mk h
  have HFm := Aside0.mk hfm
  have HLen := Aside0.mk (size_le h.cells.1 hfm hok.fits hok.room)
  clear h hr hf hfm hok
  obtain ⟨b, hb⟩ : ∃ b, b = bl f.name := ⟨_, rfl⟩
  rw [← hb] at HR
  have HB := Aside0.mk hb
  clear hb
  go_enter Try.func13, Try.ntmps13
  go_wp2_with (first
    | (go_at_call 34; refine HR.out.mono ?_; rintro e w2 ⟨rfl, ⟨nd, rfl⟩⟩; obtain ⟨A1, cc, ev, zf, zs, zff, zsf, hrow, hcc, hA, hsafe⟩ := (HW.out.drewN nd).file HFm.out; rw [← HB.out] at zf; have HRow := Aside0.mk hrow; have HA := Aside0.mk hA; clear ev zs zff zsf hrow hcc hA hsafe)
    | (go_at_call 35; refine (Clone_Q _ A1 f.b.length cc _ (Kd.R_reads' HRow.out).2.2 HA.out (Nat.le_trans HLen.out (by decide))).mono ?_; rintro e w3 ⟨v1, rfl, hr3, hb3⟩))
  go_ret2
  exact ⟨⟨v1, rfl, hr3⟩, ⟨hb3.os, hb3.tape, hb3.output, hb3.size, hb3.block⟩⟩
/-! Sync. -/
set_option maxHeartbeats 4000000 in
set_option maxRecDepth 100000 in
theorem Sync_1 (h : DevW S w g d mb n D bl vl) (s : ByteArray) (hr : d.there s ≠ 0) : Calls Try.prog 15 #[.pointer (some ⟨g, 0, none⟩), .string s] w fun e w' => e = .returned (.int .i64 (d.there s)) ∧ DevAt (Grow S w) w' g d ∧ Only S w w' := by
  have HR := Aside0.mk (there_Q h s)
  have HW := Aside0.mk h
  rw [if_neg hr] at HR
  obtain ⟨r, hq⟩ : ∃ r, r = d.there s := ⟨_, rfl⟩
  rw [← hq] at HR hr ⊢
  clear hq h
  have cb : (r == 0) = false := beq_eq_false_iff_ne.mpr hr
  have cn : (r != 0) = true := bne_iff_ne.mpr hr
  clear hr
  go_enter Try.func15, Try.ntmps15
  go_wp2_with (first | (go_at_call 34; refine HR.out.mono ?_; rintro e w2 ⟨rfl, ⟨nd, rfl⟩⟩))
  go_ret
  exact ⟨rfl, ((HW.out.drewN nd).mono (fun _ h => .inl h)).at, (Only.refl _ _).drewN nd⟩
set_option maxHeartbeats 4000000 in
set_option maxRecDepth 100000 in
theorem Sync_2 (h : DevW S w g d mb n D bl vl) (hok : d.Ok) (s : ByteArray) (hr : d.there s = 0) (hgo : d.goes = false) : Calls Try.prog 15 #[.pointer (some ⟨g, 0, none⟩), .string s] w fun e w' => e = .returned (.int .i64 0) ∧ DevAt (Grow S w) w' g (d.act.put { d.fileOr s with safe := (d.fileOr s).b.length }) ∧ Only S w w' := by
  have HR := Aside0.mk (there_Q h s)
  rw [if_pos hr] at HR
  obtain ⟨f, hf⟩ := (there_ready hr).2
  rw [hr] at HR
  rw [fileOr_some hf]
  obtain ⟨hfm, rfl⟩ := findF_some hf
  have HW := Aside0.mk h
  have HFm := Aside0.mk hfm
  have HOk := Aside0.mk hok
  have HGo := Aside0.mk hgo
  clear h hr hf hfm hok hgo
  obtain ⟨b, hb⟩ : ∃ b, b = bl f.name := ⟨_, rfl⟩
  rw [← hb] at HR
  have HB := Aside0.mk hb
  clear hb
  obtain ⟨m, hm⟩ : ∃ m, m = f.b.length := ⟨_, rfl⟩
  have HM := Aside0.mk hm
  clear hm
  go_enter Try.func15, Try.ntmps15
  go_wp2_with (first
    | (go_at_call 34; refine HR.out.mono ?_; rintro e w2 ⟨rfl, ⟨nd, rfl⟩⟩)
    | (go_at_call 33; refine (act_Q (HW.out.drewN nd) HOk.out).mono ?_; rintro e w4 ⟨rfl, h4, ho4⟩; rw [HGo.out]; obtain ⟨A1, cc, ev, zf, zs, zff, zsf, hrow, hcc, hA, hsafe⟩ := h4.file (f := f) HFm.out; rw [← HB.out] at zf zs zff zsf; rw [← HM.out] at zf; have HN := Aside0.mk (end1 (((Only.refl S w).drewN nd).trans ho4) (h4.synced (f := f) HFm.out)); rw [← HB.out, ← HM.out] at HN; clear h4 ho4 ev hrow hcc hA hsafe))
  go_ret
  rw [← HM.out]
  exact ⟨rfl, HN.out.1.at, HN.out.2⟩
set_option maxHeartbeats 4000000 in
set_option maxRecDepth 100000 in
theorem Sync_3 (h : DevW S w g d mb n D bl vl) (hok : d.Ok) (s : ByteArray) (hr : d.there s = 0) (hgo : d.goes = true) : Calls Try.prog 15 #[.pointer (some ⟨g, 0, none⟩), .string s] w fun e w' => e = .returned (.int .i64 7) ∧ DevAt (Grow S w) w' g d.act.ends ∧ Only S w w' := by
  have HR := Aside0.mk (there_Q h s)
  rw [if_pos hr] at HR
  rw [hr] at HR
  have HW := Aside0.mk h
  have HOk := Aside0.mk hok
  have HGo := Aside0.mk hgo
  clear h hr hok hgo
  obtain ⟨b, hb⟩ : ∃ b, b = bl s := ⟨_, rfl⟩
  rw [← hb] at HR
  clear hb
  go_enter Try.func15, Try.ntmps15
  go_wp2_with (first
    | (go_at_call 34; refine HR.out.mono ?_; rintro e w2 ⟨rfl, ⟨nd, rfl⟩⟩)
    | (go_at_call 33; refine (act_Q (HW.out.drewN nd) HOk.out).mono ?_; rintro e w4 ⟨rfl, h4, ho4⟩; rw [HGo.out]; have z5 := h4.cell 5; have z6 := h4.cell 6; have HN1 := Aside0.mk h4; have HN2 := Aside0.mk (((Only.refl S w).drewN nd).trans ho4); clear h4 ho4))
  refine start_ (n := 10) (S := fun w' => w'.cell? ⟨g, 5, none⟩ = some (.int .i64 d.keep) ∧ w'.cell? ⟨g, 6, none⟩ = some (.bool d.torn)) (ds := [9]) #[false, false, false, false, false, false, false, false, false, false] (by kernel_rfl) rfl rfl ⟨z5, z6⟩ (fun hHeld => ?_)
  refine pure_ (i := 0) (N := some 18) (v := ?_) (a' := ?_) #[true, false, false, false, false, false, false, false, false, false] rfl rfl (by kernel_rfl) (fun _ _ _ h => h) (Or.inl ⟨by rfl, ?_⟩) ?_ ?_
  rotate_left
  · intro w'
    go_simp
    with_reducible rfl
  rotate_left
  · simp only [Act.put, List.setIfInBounds_toArray, List.set_cons_zero, List.set_cons_succ, i64_w, i32_w]
    rfl
  refine pure_ (i := 1) (N := some 19) (v := ?_) (a' := ?_) #[true, true, false, false, false, false, false, false, false, false] rfl rfl (by kernel_rfl) (fun _ _ _ h => h) (Or.inl ⟨by rfl, ?_⟩) ?_ ?_
  rotate_left
  · intro w'
    go_simp
    with_reducible rfl
  rotate_left
  · simp only [Act.put, List.setIfInBounds_toArray, List.set_cons_zero, List.set_cons_succ, i64_w, i32_w]
    rfl
  refine pure_ (i := 2) (N := some 20) (v := ?_) (a' := ?_) #[true, true, true, false, false, false, false, false, false, false] rfl rfl (by kernel_rfl) (fun _ _ _ h => h) (Or.inl ⟨by rfl, ?_⟩) ?_ ?_
  rotate_left
  · intro w'
    go_simp
    with_reducible rfl
  rotate_left
  · simp only [Act.put, List.setIfInBounds_toArray, List.set_cons_zero, List.set_cons_succ, i64_w, i32_w]
    rfl
  refine pure_ (i := 3) (N := some 21) (v := ?_) (a' := ?_) #[true, true, true, true, false, false, false, false, false, false] rfl rfl (by kernel_rfl) (fun _ _ _ h => h) (Or.inl ⟨by rfl, ?_⟩) ?_ ?_
  rotate_left
  · intro w'
    go_simp
    with_reducible rfl
  rotate_left
  · simp only [Act.put, List.setIfInBounds_toArray, List.set_cons_zero, List.set_cons_succ, i64_w, i32_w]
    rfl
  refine take_ (i := 4) (N := some 22) (v := ?_) (a' := ?_) #[true, true, true, true, true, false, false, false, false, false] rfl rfl (by kernel_rfl) (fun _ _ _ h => h) (Or.inl ⟨by rfl, ?_⟩) hHeld ?_ ?_
  rotate_left
  · intro w' s0
    obtain ⟨y0, y1⟩ := s0
    go_simp
    with_reducible rfl
  rotate_left
  · simp only [Act.put, List.setIfInBounds_toArray, List.set_cons_zero, List.set_cons_succ, i64_w, i32_w]
    rfl
  refine pure_ (i := 5) (N := some 23) (v := ?_) (a' := ?_) #[true, true, true, true, true, true, false, false, false, false] rfl rfl (by kernel_rfl) (fun _ _ _ h => h) (Or.inl ⟨by rfl, ?_⟩) ?_ ?_
  rotate_left
  · intro w'
    go_simp
    with_reducible rfl
  rotate_left
  · simp only [Act.put, List.setIfInBounds_toArray, List.set_cons_zero, List.set_cons_succ, i64_w, i32_w]
    rfl
  refine pure_ (i := 6) (N := some 24) (v := ?_) (a' := ?_) #[true, true, true, true, true, true, true, false, false, false] rfl rfl (by kernel_rfl) (fun _ _ _ h => h) (Or.inl ⟨by rfl, ?_⟩) ?_ ?_
  rotate_left
  · intro w'
    go_simp
    with_reducible rfl
  rotate_left
  · simp only [Act.put, List.setIfInBounds_toArray, List.set_cons_zero, List.set_cons_succ, i64_w, i32_w]
    rfl
  refine pure_ (i := 7) (N := some 25) (v := ?_) (a' := ?_) #[true, true, true, true, true, true, true, true, false, false] rfl rfl (by kernel_rfl) (fun _ _ _ h => h) (Or.inl ⟨by rfl, ?_⟩) ?_ ?_
  rotate_left
  · intro w'
    go_simp
    with_reducible rfl
  rotate_left
  · simp only [Act.put, List.setIfInBounds_toArray, List.set_cons_zero, List.set_cons_succ, i64_w, i32_w]
    rfl
  refine take_ (i := 8) (N := some 26) (v := ?_) (a' := ?_) #[true, true, true, true, true, true, true, true, true, false] rfl rfl (by kernel_rfl) (fun _ _ _ h => h) (Or.inl ⟨by rfl, ?_⟩) hHeld ?_ ?_
  rotate_left
  · intro w' s0
    obtain ⟨y0, y1⟩ := s0
    go_simp
    with_reducible rfl
  rotate_left
  · simp only [Act.put, List.setIfInBounds_toArray, List.set_cons_zero, List.set_cons_succ, i64_w, i32_w]
    rfl
  refine last_ (i := 9) (N := some 27) #[true, true, true, true, true, true, true, true, true, true] rfl rfl (by kernel_rfl) (by decide) (fun K hK => ?_)
  refine goes_ Try.func16 (by kernel_rfl) rfl #[.pointer (some ⟨g, 0, none⟩), .int .i64 d.keep, .bool d.torn] (by rfl) rfl rfl (by (try simp only [List.map_toArray, List.map_cons, List.map_nil]); first | done | rfl) ?_
  refine (Off_Q (HN1.out.below (below_drew1 (Below.refl _ _))) HOk.out.toFit.act d.keep d.torn).mono ?_
  rintro e wo ⟨rfl, hDo, hOo⟩
  refine ⟨_, rfl, ?_⟩
  have HDo := Aside0.mk hDo
  have HOo := Aside0.mk hOo
  clear hDo hOo
  refine hK.out _ _ ?_
  clear hK K
  refine done_ (by kernel_rfl) ?_
  go_wp2
  go_ret
  obtain ⟨e1, e2⟩ := off_end (Only.refl S w) HN2.out (HDo.out.mono (fun k hk => hk.imp .inl id)) (HOo.out.mono (fun k hk => .inl hk))
  exact ⟨rfl, e1, e2⟩
theorem Sync_Q (h : DevAt S w g d) (hok : d.Ok) (s : ByteArray) : Calls Try.prog 15 #[.pointer (some ⟨g, 0, none⟩), .string s] w fun e w' => e = .returned (.int .i64 (d.sync s).1) ∧ DevAt (Grow S w) w' g (d.sync s).2 ∧ Only S w w' := by
  obtain ⟨mb, n, D, bl, vl, h⟩ := h
  unfold DS.sync
  by_cases hr : d.there s = 0
  · rw [if_neg (fun h => h hr)]
    cases hgo : d.goes with
    | false => rw [if_neg (by simp)]; exact Sync_2 h hok s hr hgo
    | true => rw [if_pos rfl]; exact Sync_3 h hok s hr hgo
  · rw [if_pos hr]
    exact Sync_1 h s hr
/-! On, Arm, Acts, Down. -/
set_option maxHeartbeats 4000000 in
set_option maxRecDepth 100000 in
theorem On_Q (h : DevAt S w g d) : Calls Try.prog 17 #[.pointer (some ⟨g, 0, none⟩)] w fun e w' => e = .returned (.tuple #[]) ∧ DevAt (Grow S w) w' g d.on ∧ Only S w w' := by
  obtain ⟨mb, n, D, bl, vl, h⟩ := h
  have z2 : w.cell? ⟨g, 2, none⟩ = some (.bool d.down) := h.cell 2
  have f2 := h.frozen 2
  have H2 := Aside0.mk (h.set_ d.on 2 (.bool false) rfl (Int.le_refl _) rfl)
  have O2 := Aside0.mk ((Only.refl S w).setCell (g := g) (j := 2) (.inl h.sg) (.bool false))
  clear h
  go_enter Try.func17, Try.ntmps17
  go_wp2
  go_end0
  exact ⟨rfl, (H2.out.mono (fun _ h => .inl h)).at, O2.out⟩
set_option maxHeartbeats 4000000 in
set_option maxRecDepth 100000 in
theorem Arm_Q (h : DevAt S w g d) (k keep : Int) (torn : Bool) : Calls Try.prog 14 #[.pointer (some ⟨g, 0, none⟩), .int .i64 k, .int .i64 keep, .bool torn] w fun e w' => e = .returned (.tuple #[]) ∧ DevAt (Grow S w) w' g (d.arm k keep torn) ∧ Only S w w' := by
  obtain ⟨mb, n, D, bl, vl, h⟩ := h
  have z4 : w.cell? ⟨g, 4, none⟩ = some (.int .i64 d.fuse) := h.cell 4
  have z5 : w.cell? ⟨g, 5, none⟩ = some (.int .i64 d.keep) := h.cell 5
  have z6 : w.cell? ⟨g, 6, none⟩ = some (.bool d.torn) := h.cell 6
  have f4 := h.frozen 4
  have f5 := h.frozen 5
  have f6 := h.frozen 6
  have h4 := h.set_ { d with fuse := max k 0 } 4 (.int .i64 (max k 0)) rfl (Int.le_refl _) rfl
  have h5 := h4.set_ { d with fuse := max k 0, keep := keep } 5 (.int .i64 keep) rfl (Int.le_refl _) rfl
  have h6 := h5.set_ (d.arm k keep torn) 6 (.bool torn) rfl (Int.le_refl _) rfl
  have H6 := Aside0.mk h6
  have O6 := Aside0.mk ((((Only.refl S w).setCell (g := g) (j := 4) (.inl h.sg) (.int .i64 (max k 0))).setCell (g := g) (j := 5) (.inl h.sg) (.int .i64 keep)).setCell (g := g) (j := 6) (.inl h.sg) (.bool torn))
  clear h h4 h5 h6
  go_enter Try.func14, Try.ntmps14
  go_wp2
  go_end0
  exact ⟨rfl, (H6.out.mono (fun _ h => .inl h)).at, O6.out⟩
set_option maxHeartbeats 4000000 in
set_option maxRecDepth 100000 in
theorem Acts_Q (h : DevAt S w g d) : Calls Try.prog 26 #[.pointer (some ⟨g, 0, none⟩)] w fun e w' => e = .returned (.int .i64 d.acts) ∧ ∃ nd, w' = w.drewN nd := by
  obtain ⟨mb, n, D, bl, vl, h⟩ := h
  have z3 : w.cell? ⟨g, 3, none⟩ = some (.int .i64 d.acts) := h.cell 3
  clear h
  go_enter Try.func26, Try.ntmps26
  go_wp2
  go_ret
  exact ⟨rfl, 0, rfl⟩
set_option maxHeartbeats 4000000 in
set_option maxRecDepth 100000 in
theorem Down_Q (h : DevAt S w g d) : Calls Try.prog 28 #[.pointer (some ⟨g, 0, none⟩)] w fun e w' => e = .returned (.bool d.down) ∧ ∃ nd, w' = w.drewN nd := by
  obtain ⟨mb, n, D, bl, vl, h⟩ := h
  have z2 : w.cell? ⟨g, 2, none⟩ = some (.bool d.down) := h.cell 2
  clear h
  go_enter Try.func28, Try.ntmps28
  go_wp2
  go_ret
  exact ⟨rfl, 0, rfl⟩
end
end Go.Proofs.Ytoedkemjidgbeaa.Dk
