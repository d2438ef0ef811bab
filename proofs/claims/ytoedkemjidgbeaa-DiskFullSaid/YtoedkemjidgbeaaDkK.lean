/- Bytes are put behind a file's. -/
import Derived.Test.YtoedkemjidgbeaaDkJ
namespace Go.Proofs.Ytoedkemjidgbeaa.Dk
open Go Go.RowKit Go.Proofs.YtoedkemjidgbeaaW.PrintWords Go.Proofs.YtoedkemjidgbeaaW.PrintLast Go.Proofs.YtoedkemjidgbeaaW.PrintMore Go.Proofs.YtoedkemjidgbeaaMy Go.Proofs.Ytoedkemjidgbeaa Go.Proofs.YtoedkemjidgbeaaPw Go.Proofs.Ytoedkemjidgbeaa.PAll
attribute [local go_sem] max2_m min2_m max_two min_two
set_option linter.unusedVariables false
set_option linter.unusedSimpArgs false
theorem ready_size {d : DS} {s : ByteArray} (h : d.ready s = 0) : s.size ≤ 32 := by
  unfold DS.ready nameOk at h
  split at h
  · cases h
  · split at h
    · next h2 => exact (of_decide_eq_true h2).2
    · cases h
theorem R_slice3 {e base : Nat} {W : World} {v : Value} {xs : List Int} {ok : Nat → Prop} (h : bK.R e W base ok v xs) : ∃ A l c, v = .slice A l c := by
  obtain ⟨A, c, e⟩ := Kd.R_slice h
  exact ⟨A, _, c, e⟩
theorem append_len {m l : Nat} (hm : m ≤ 4294967296) (hl : l ≤ 1048576) : (l + m) * 1 ≤ 140737488355328 := by omega
section
variable {S : Nat → Prop} {w : World} {g : Nat} {d : DS} {mb n : Nat} {D : DataW Unit} {bl : ByteArray → Nat} {vl : ByteArray → Value}
theorem end1 {w4 w6 : World} {dd : DS} {D' : DataW Unit} {bl' : ByteArray → Nat} {vl' : ByteArray → Value} {n' : Nat} (h4 : Only S w w4) (h : DevW (Grow S w4) w6 g dd mb n' D' bl' vl' ∧ Only S w4 w6) : DevW (Grow S w) w6 g dd mb n' D' bl' vl' ∧ Only S w w6 :=
  ⟨h.1.mono (fun k hk => hk.imp id (fun h => Nat.le_trans h4.size h)), h4.trans h.2⟩
theorem end2 {w4 w5 w6 : World} {dd : DS} {D' : DataW Unit} {bl' : ByteArray → Nat} {vl' : ByteArray → Value} {n' : Nat} (h4 : Only S w w4) (h5 : Only S w4 w5) (h : DevW (Grow (Grow S w4) w5) w6 g dd mb n' D' bl' vl' ∧ Only (Grow S w4) w5 w6) : DevW (Grow S w) w6 g dd mb n' D' bl' vl' ∧ Only S w w6 := by
  have h1 := h4.size
  have h2 := h5.size
  refine ⟨h.1.mono (fun k hk => ?_), (h4.trans h5).thenN h.2 (fun k hk => hk.imp id (fun h => Nat.le_trans h1 h))⟩
  rcases hk with (hk | hk) | hk
  · exact .inl hk
  · exact .inr (by omega)
  · exact .inr (by omega)
theorem off_end {w4 w6 wo : World} {dd : DS} (h4 : Only S w w4) (h6 : Only S w4 w6) (hD : DevAt (Grow (Grow S w4) w6.drew) wo g dd) (hO : Only (Grow S w4) w6.drew wo) : DevAt (Grow S w) wo g dd ∧ Only S w wo := by
  have h1 := h4.size
  have h2 := h6.size
  have h3 : w6.drew.heap.size = w6.heap.size := rfl
  have h46 := h4.trans h6
  refine ⟨hD.mono (fun k hk => ?_), (h46.below (below_drew1 (Below.refl _ _))).thenN hO (fun k hk => ?_)⟩
  · rcases hk with (hk | hk) | hk
    · exact .inl hk
    · exact .inr (by omega)
    · exact .inr (by omega)
  · rcases hk with hk | hk
    · exact .inl hk
    · exact .inr (by omega)
set_option maxHeartbeats 4000000 in
set_option maxRecDepth 100000 in
theorem Append_1 (h : DevW S w g d mb n D bl vl) (s : ByteArray) (A : Option Addr) (m c : Nat) (hr : d.ready s ≠ 0) : Calls Try.prog 12 #[.pointer (some ⟨g, 0, none⟩), .string s, .slice A m c] w fun e w' => e = .returned (.int .i64 (d.ready s)) ∧ DevAt (Grow S w) w' g d ∧ Only S w w' := by
  have HR := Aside0.mk (ready_Q h.at s)
  have HW := Aside0.mk h
  clear h
  obtain ⟨r, hq⟩ : ∃ r, r = d.ready s := ⟨_, rfl⟩
  rw [← hq] at HR hr ⊢
  clear hq
  have cb : (r == 0) = false := beq_eq_false_iff_ne.mpr hr
  have cn : (r != 0) = true := bne_iff_ne.mpr hr
  clear hr
  go_enter Try.func12, Try.ntmps12
  go_wp2_with (first | (go_at_call 32; refine HR.out.mono ?_; rintro e w2 ⟨rfl, ⟨nd, rfl⟩⟩))
  go_ret
  exact ⟨rfl, ((HW.out.drewN nd).mono (fun _ h => .inl h)).at, (Only.refl _ _).drewN nd⟩
set_option maxHeartbeats 4000000 in
set_option maxRecDepth 100000 in
theorem Append_2 (h : DevW S w g d mb n D bl vl) (hok : d.Fit) (s : ByteArray) (A : Option Addr) (m c : Nat) (hr : d.ready s = 0) (hl : ¬ (m : Int) ≤ d.free) : Calls Try.prog 12 #[.pointer (some ⟨g, 0, none⟩), .string s, .slice A m c] w fun e w' => e = .returned (.int .i64 6) ∧ DevAt (Grow S w) w' g d ∧ Only S w w' := by
  have HR := Aside0.mk (ready_Q h.at s)
  rw [hr] at HR
  have HW := Aside0.mk h
  have HOk := Aside0.mk hok
  clear h hr hok
  have HF := Aside0.mk (fun nd => Free_Q (HW.out.drewN nd) HOk.out)
  obtain ⟨r, hq⟩ : ∃ r, r = d.free := ⟨_, rfl⟩
  rw [← hq] at HF hl
  clear hq
  have cb : decide ((m : Int) ≤ r) = false := decide_eq_false hl
  go_enter Try.func12, Try.ntmps12
  go_wp2_with (first | (go_at_call 32; refine HR.out.mono ?_; rintro e w2 ⟨rfl, ⟨nd, rfl⟩⟩) | (go_at_call 22; refine (HF.out _).mono ?_; rintro e w3 ⟨rfl, hb3⟩))
  go_ret
  refine ⟨rfl, (((HW.out.drewN nd).below hb3).mono (fun _ h => .inl h)).at, ?_⟩
  exact ((Only.refl _ _).drewN nd).below hb3
theorem append_frozen {w4 : World} (h : DevW S w4 g d mb n D bl vl) {f : Fl} (hf : f ∈ d.files) (w5 : World) (hg : w4.grownBy w5 (vl f.name).ownBlock) : w5.frozen? ⟨bl f.name, 0, none⟩ = false ∧ w5.cell? ⟨bl f.name, 0, none⟩ = some (vl f.name) :=
  ⟨blk_frozen (blk_grown (h.cells.2.1 f hf).1 hg (fun e => h.cells.blk_row hf hf e.symm)) 0, (blk_cell (blk_grown (h.cells.2.1 f hf).1 hg (fun e => h.cells.blk_row hf hf e.symm)) 0).trans rfl⟩
-- CASES
set_option maxHeartbeats 4000000 in
set_option maxRecDepth 100000 in
theorem Append_3 (h : DevW S w g d mb n D bl vl) (hok : d.Ok) (s : ByteArray) {A : Option Addr} {m c : Nat} {xs : List Int} (hx : Kd.F bK w (fun k => ¬ S k) A m xs) (hm : m ≤ 4294967296) (hxb : ∀ x ∈ xs, 0 ≤ x ∧ x ≤ 255) (hr : d.ready s = 0) (hl : (m : Int) ≤ d.free) (hf : (findF d.files s).isSome = true) (hgo : d.goes = false) :
    Calls Try.prog 12 #[.pointer (some ⟨g, 0, none⟩), .string s, .slice A m c] w fun e w' => e = .returned (.int .i64 0) ∧ DevAt (Grow S w) w' g (d.act.put { d.fileOr s with b := (d.fileOr s).b ++ xs }) ∧ Only S w w' := by
  have HR := Aside0.mk (ready_Q h.at s)
  rw [hr] at HR
  have HSz := Aside0.mk (ready_size hr)
  have HFit := Aside0.mk (hok.toFit.act.append h.cells.1 s hxb (by rw [Kd.F_len hx]; exact hl))
  have HW := Aside0.mk h
  have HOk := Aside0.mk hok
  have HX := Aside0.mk hx
  have HM := Aside0.mk hm
  clear h hr hok hx hm
  have HF := Aside0.mk (fun nd => Free_Q (HW.out.drewN nd) HOk.out.toFit)
  obtain ⟨r, hq⟩ : ∃ r, r = d.free := ⟨_, rfl⟩
  rw [← hq] at HF hl
  clear hq
  obtain ⟨f0, hf0⟩ := Option.isSome_iff_exists.1 hf
  have hfm : d.fileOr s ∈ d.files := by rw [fileOr_some hf0]; exact (findF_some hf0).1
  have hnm := fileOr_name d s
  have hfo : d.act.fileOr s = d.fileOr s := rfl
  rw [hfo] at HFit
  obtain ⟨f, hfe⟩ : ∃ f, f = d.fileOr s := ⟨_, rfl⟩
  rw [← hfe] at hnm HFit ⊢ hfm
  clear hfe hfo
  subst hnm
  have HFm := Aside0.mk hfm
  clear hfm hf0
  have HFl := Aside0.mk hf
  have HGo := Aside0.mk hgo
  clear hf hgo
  go_enter Try.func12, Try.ntmps12
  go_wp2_with (first
    | (go_at_call 32; refine HR.out.mono ?_; rintro e w2 ⟨rfl, ⟨nd, rfl⟩⟩)
    | (go_at_call 22; refine (HF.out _).mono ?_; rintro e w3 ⟨rfl, hb3⟩; have H3 := Aside0.mk ((HW.out.drewN nd).below hb3); have HO3 := Aside0.mk (((Only.refl S w).drewN nd).below hb3); clear hb3)
    | (go_at_call 33; refine (act_Q H3.out HOk.out).mono ?_; rintro e w4 ⟨rfl, h4, ho4⟩; rw [HGo.out]; have z0 : w4.cell? ⟨g, 0, none⟩ = some (.map (some mb)) := h4.cell 0; have hlk := h4.look f.name HSz.out; have HO4 := Aside0.mk (HO3.out.trans ho4); have HFlen := Aside0.mk (size_le h4.cells.1 (show f ∈ d.act.files from HFm.out) HOk.out.fits HOk.out.room); rw [show fileP d.act bl f.name = .pointer (some ⟨bl f.name, 0, none⟩) from if_pos HFl.out] at hlk; have HX4 := Aside0.mk (Kd.F_now (F_only HX.out HO4.out (fun k hk => hk))); obtain ⟨A1, cc, ev, zf, zs, zff, zsf, hrow, hcc, hA, hsafe⟩ := h4.file (show f ∈ d.act.files from HFm.out); have HEnd := Aside0.mk (fun v1 w5 hr5 hg5 hat5 => h4.appended (f := f) HFm.out (W1 := w5) (v1 := v1) (ys := xs) hr5 (by rw [ev]; exact hg5) (by rw [ev]; exact hat5)); have HFz := Aside0.mk (fun w5 (hg5 : w4.grownBy w5 (Value.slice A1 f.b.length cc).ownBlock) => ev ▸ append_frozen h4 HFm.out w5 (by rw [ev]; exact hg5)); have HLen := Aside0.mk (append_len HM.out HFlen.out); have HRow := Aside0.mk hrow; have H4 := Aside0.mk h4; obtain ⟨b, hb⟩ : ∃ b, b = bl f.name := ⟨_, rfl⟩; have HB := Aside0.mk hb; rw [← hb] at hlk zf zs zff zsf HFz; obtain ⟨m1, hm1⟩ : ∃ m1, m1 = f.b.length := ⟨_, rfl⟩; rw [← hm1] at zf HEnd HFz HRow; clear h4 ho4 ev hrow hcc hA hsafe hb hm1)
    | ((with_reducible refine gate_builtin (b := .append) (xs := #[.tmp 43, .tmp 44]) rfl ?_); (try (refine gate_guard (by rfl) ?_; dsimp only)); at_builtin; refine Kd.R_append_row (Value.int .u8) 0 (w0 := w4) 0 rfl (.tmp 43) (.tmp 44) 22 5 (.int .u8 0) 1 rfl Try.underlying22 info5_ rfl (by decide) (.slice A1 m1 cc) f.b xs A m c (fun _ => True) rfl rfl (fun _ _ => trivial) HRow.out HX4.out (Below.refl _ _) (Nat.zero_le _) HLen.out ?_; intro v1 w5 hr5 hb5 hg5 hat5; obtain ⟨A5, l5, c5, ev5⟩ := R_slice3 hr5; subst ev5; obtain ⟨zff5, zf5⟩ := HFz.out w5 hg5; have HN := Aside0.mk (end1 HO4.out (HEnd.out _ w5 hr5 hg5 hat5)); rw [← HB.out] at HN; clear hr5 hb5 hg5 hat5))
  all_goals (go_ret; exact ⟨rfl, HN.out.1.at, HN.out.2⟩)
set_option maxHeartbeats 4000000 in
set_option maxRecDepth 100000 in
theorem Append_4 (h : DevW S w g d mb n D bl vl) (hok : d.Ok) (s : ByteArray) {A : Option Addr} {m c : Nat} {xs : List Int} (hx : Kd.F bK w (fun k => ¬ S k) A m xs) (hm : m ≤ 4294967296) (hxb : ∀ x ∈ xs, 0 ≤ x ∧ x ≤ 255) (hr : d.ready s = 0) (hl : (m : Int) ≤ d.free) (hf : (findF d.files s).isSome = true) (hgo : d.goes = true) :
    Calls Try.prog 12 #[.pointer (some ⟨g, 0, none⟩), .string s, .slice A m c] w fun e w' => e = .returned (.int .i64 7) ∧ DevAt (Grow S w) w' g ((d.act.put { d.fileOr s with b := (d.fileOr s).b ++ xs }).ends) ∧ Only S w w' := by
  have HR := Aside0.mk (ready_Q h.at s)
  rw [hr] at HR
  have HSz := Aside0.mk (ready_size hr)
  have HFit := Aside0.mk (hok.toFit.act.append h.cells.1 s hxb (by rw [Kd.F_len hx]; exact hl))
  have HW := Aside0.mk h
  have HOk := Aside0.mk hok
  have HX := Aside0.mk hx
  have HM := Aside0.mk hm
  clear h hr hok hx hm
  have HF := Aside0.mk (fun nd => Free_Q (HW.out.drewN nd) HOk.out.toFit)
  obtain ⟨r, hq⟩ : ∃ r, r = d.free := ⟨_, rfl⟩
  rw [← hq] at HF hl
  clear hq
  obtain ⟨f0, hf0⟩ := Option.isSome_iff_exists.1 hf
  have hfm : d.fileOr s ∈ d.files := by rw [fileOr_some hf0]; exact (findF_some hf0).1
  have hnm := fileOr_name d s
  have hfo : d.act.fileOr s = d.fileOr s := rfl
  rw [hfo] at HFit
  obtain ⟨f, hfe⟩ : ∃ f, f = d.fileOr s := ⟨_, rfl⟩
  rw [← hfe] at hnm HFit ⊢ hfm
  clear hfe hfo
  subst hnm
  have HFm := Aside0.mk hfm
  clear hfm hf0
  have HFl := Aside0.mk hf
  have HGo := Aside0.mk hgo
  clear hf hgo
  go_enter Try.func12, Try.ntmps12
  go_wp2_with (first
    | (go_at_call 32; refine HR.out.mono ?_; rintro e w2 ⟨rfl, ⟨nd, rfl⟩⟩)
    | (go_at_call 22; refine (HF.out _).mono ?_; rintro e w3 ⟨rfl, hb3⟩; have H3 := Aside0.mk ((HW.out.drewN nd).below hb3); have HO3 := Aside0.mk (((Only.refl S w).drewN nd).below hb3); clear hb3)
    | (go_at_call 33; refine (act_Q H3.out HOk.out).mono ?_; rintro e w4 ⟨rfl, h4, ho4⟩; rw [HGo.out]; have z0 : w4.cell? ⟨g, 0, none⟩ = some (.map (some mb)) := h4.cell 0; have hlk := h4.look f.name HSz.out; have HO4 := Aside0.mk (HO3.out.trans ho4); have HFlen := Aside0.mk (size_le h4.cells.1 (show f ∈ d.act.files from HFm.out) HOk.out.fits HOk.out.room); rw [show fileP d.act bl f.name = .pointer (some ⟨bl f.name, 0, none⟩) from if_pos HFl.out] at hlk; have HX4 := Aside0.mk (Kd.F_now (F_only HX.out HO4.out (fun k hk => hk))); obtain ⟨A1, cc, ev, zf, zs, zff, zsf, hrow, hcc, hA, hsafe⟩ := h4.file (show f ∈ d.act.files from HFm.out); have HEnd := Aside0.mk (fun v1 w5 hr5 hg5 hat5 => h4.appended (f := f) HFm.out (W1 := w5) (v1 := v1) (ys := xs) hr5 (by rw [ev]; exact hg5) (by rw [ev]; exact hat5)); have HFz := Aside0.mk (fun w5 (hg5 : w4.grownBy w5 (Value.slice A1 f.b.length cc).ownBlock) => ev ▸ append_frozen h4 HFm.out w5 (by rw [ev]; exact hg5)); have HLen := Aside0.mk (append_len HM.out HFlen.out); have HRow := Aside0.mk hrow; have H4 := Aside0.mk h4; obtain ⟨b, hb⟩ : ∃ b, b = bl f.name := ⟨_, rfl⟩; have HB := Aside0.mk hb; rw [← hb] at hlk zf zs zff zsf HFz; obtain ⟨m1, hm1⟩ : ∃ m1, m1 = f.b.length := ⟨_, rfl⟩; rw [← hm1] at zf HEnd HFz HRow; clear h4 ho4 ev hrow hcc hA hsafe hb hm1)
    | ((with_reducible refine gate_builtin (b := .append) (xs := #[.tmp 43, .tmp 44]) rfl ?_); (try (refine gate_guard (by rfl) ?_; dsimp only)); at_builtin; refine Kd.R_append_row (Value.int .u8) 0 (w0 := w4) 0 rfl (.tmp 43) (.tmp 44) 22 5 (.int .u8 0) 1 rfl Try.underlying22 info5_ rfl (by decide) (.slice A1 m1 cc) f.b xs A m c (fun _ => True) rfl rfl (fun _ _ => trivial) HRow.out HX4.out (Below.refl _ _) (Nat.zero_le _) HLen.out ?_; intro v1 w5 hr5 hb5 hg5 hat5; obtain ⟨A5, l5, c5, ev5⟩ := R_slice3 hr5; subst ev5; obtain ⟨zff5, zf5⟩ := HFz.out w5 hg5; have HN := Aside0.mk (end1 HO4.out (HEnd.out _ w5 hr5 hg5 hat5)); rw [← HB.out] at HN; clear hr5 hb5 hg5 hat5))
  have HN1 := Aside0.mk HN.out.1
  have HN2 := Aside0.mk HN.out.2
  clear HN
  have z5 := HN1.out.cell 5
  have z6 := HN1.out.cell 6
  refine start_ (n := 10) (S := fun w' => w'.cell? ⟨g, 5, none⟩ = some (.int .i64 d.keep) ∧ w'.cell? ⟨g, 6, none⟩ = some (.bool d.torn)) (ds := [9]) #[false, false, false, false, false, false, false, false, false, false] (by kernel_rfl) rfl rfl ⟨z5, z6⟩ (fun hHeld => ?_)
  refine pure_ (i := 0) (N := some 49) (v := ?_) (a' := ?_) #[true, false, false, false, false, false, false, false, false, false] rfl rfl (by kernel_rfl) (fun _ _ _ h => h) (Or.inl ⟨by rfl, ?_⟩) ?_ ?_
  rotate_left
  · intro w'
    go_simp
    with_reducible rfl
  rotate_left
  · simp only [Act.put, List.setIfInBounds_toArray, List.set_cons_zero, List.set_cons_succ, i64_w, i32_w]
    rfl
  refine pure_ (i := 1) (N := some 50) (v := ?_) (a' := ?_) #[true, true, false, false, false, false, false, false, false, false] rfl rfl (by kernel_rfl) (fun _ _ _ h => h) (Or.inl ⟨by rfl, ?_⟩) ?_ ?_
  rotate_left
  · intro w'
    go_simp
    with_reducible rfl
  rotate_left
  · simp only [Act.put, List.setIfInBounds_toArray, List.set_cons_zero, List.set_cons_succ, i64_w, i32_w]
    rfl
  refine pure_ (i := 2) (N := some 51) (v := ?_) (a' := ?_) #[true, true, true, false, false, false, false, false, false, false] rfl rfl (by kernel_rfl) (fun _ _ _ h => h) (Or.inl ⟨by rfl, ?_⟩) ?_ ?_
  rotate_left
  · intro w'
    go_simp
    with_reducible rfl
  rotate_left
  · simp only [Act.put, List.setIfInBounds_toArray, List.set_cons_zero, List.set_cons_succ, i64_w, i32_w]
    rfl
  refine pure_ (i := 3) (N := some 52) (v := ?_) (a' := ?_) #[true, true, true, true, false, false, false, false, false, false] rfl rfl (by kernel_rfl) (fun _ _ _ h => h) (Or.inl ⟨by rfl, ?_⟩) ?_ ?_
  rotate_left
  · intro w'
    go_simp
    with_reducible rfl
  rotate_left
  · simp only [Act.put, List.setIfInBounds_toArray, List.set_cons_zero, List.set_cons_succ, i64_w, i32_w]
    rfl
  refine take_ (i := 4) (N := some 53) (v := ?_) (a' := ?_) #[true, true, true, true, true, false, false, false, false, false] rfl rfl (by kernel_rfl) (fun _ _ _ h => h) (Or.inl ⟨by rfl, ?_⟩) hHeld ?_ ?_
  rotate_left
  · intro w' s0
    obtain ⟨y0, y1⟩ := s0
    go_simp
    with_reducible rfl
  rotate_left
  · simp only [Act.put, List.setIfInBounds_toArray, List.set_cons_zero, List.set_cons_succ, i64_w, i32_w]
    rfl
  refine pure_ (i := 5) (N := some 54) (v := ?_) (a' := ?_) #[true, true, true, true, true, true, false, false, false, false] rfl rfl (by kernel_rfl) (fun _ _ _ h => h) (Or.inl ⟨by rfl, ?_⟩) ?_ ?_
  rotate_left
  · intro w'
    go_simp
    with_reducible rfl
  rotate_left
  · simp only [Act.put, List.setIfInBounds_toArray, List.set_cons_zero, List.set_cons_succ, i64_w, i32_w]
    rfl
  refine pure_ (i := 6) (N := some 55) (v := ?_) (a' := ?_) #[true, true, true, true, true, true, true, false, false, false] rfl rfl (by kernel_rfl) (fun _ _ _ h => h) (Or.inl ⟨by rfl, ?_⟩) ?_ ?_
  rotate_left
  · intro w'
    go_simp
    with_reducible rfl
  rotate_left
  · simp only [Act.put, List.setIfInBounds_toArray, List.set_cons_zero, List.set_cons_succ, i64_w, i32_w]
    rfl
  refine pure_ (i := 7) (N := some 56) (v := ?_) (a' := ?_) #[true, true, true, true, true, true, true, true, false, false] rfl rfl (by kernel_rfl) (fun _ _ _ h => h) (Or.inl ⟨by rfl, ?_⟩) ?_ ?_
  rotate_left
  · intro w'
    go_simp
    with_reducible rfl
  rotate_left
  · simp only [Act.put, List.setIfInBounds_toArray, List.set_cons_zero, List.set_cons_succ, i64_w, i32_w]
    rfl
  refine take_ (i := 8) (N := some 57) (v := ?_) (a' := ?_) #[true, true, true, true, true, true, true, true, true, false] rfl rfl (by kernel_rfl) (fun _ _ _ h => h) (Or.inl ⟨by rfl, ?_⟩) hHeld ?_ ?_
  rotate_left
  · intro w' s0
    obtain ⟨y0, y1⟩ := s0
    go_simp
    with_reducible rfl
  rotate_left
  · simp only [Act.put, List.setIfInBounds_toArray, List.set_cons_zero, List.set_cons_succ, i64_w, i32_w]
    rfl
  refine last_ (i := 9) (N := some 58) #[true, true, true, true, true, true, true, true, true, true] rfl rfl (by kernel_rfl) (by decide) (fun K hK => ?_)
  refine goes_ Try.func16 (by kernel_rfl) rfl #[.pointer (some ⟨g, 0, none⟩), .int .i64 d.keep, .bool d.torn] (by rfl) rfl rfl (by (try simp only [List.map_toArray, List.map_cons, List.map_nil]); first | done | rfl) ?_
  refine (Off_Q (HN1.out.below (below_drew1 (Below.refl _ _))) HFit.out d.keep d.torn).mono ?_
  rintro e wo ⟨rfl, hDo, hOo⟩
  refine ⟨_, rfl, ?_⟩
  have HDo := Aside0.mk hDo
  have HOo := Aside0.mk hOo
  clear hDo hOo
  refine hK.out _ _ ?_
  clear hK K
  refine done_ (by kernel_rfl) ?_
  go_wp2
  go_ret
  obtain ⟨e1, e2⟩ := off_end (Only.refl S w) HN2.out HDo.out HOo.out
  exact ⟨rfl, e1, e2⟩
set_option maxHeartbeats 4000000 in
set_option maxRecDepth 100000 in
theorem Append_5 (h : DevW S w g d mb n D bl vl) (hok : d.Ok) (s : ByteArray) {A : Option Addr} {m c : Nat} {xs : List Int} (hx : Kd.F bK w (fun k => ¬ S k) A m xs) (hm : m ≤ 4294967296) (hxb : ∀ x ∈ xs, 0 ≤ x ∧ x ≤ 255) (hr : d.ready s = 0) (hl : (m : Int) ≤ d.free) (hf : (findF d.files s).isSome = false) (hgo : d.goes = false) :
    Calls Try.prog 12 #[.pointer (some ⟨g, 0, none⟩), .string s, .slice A m c] w fun e w' => e = .returned (.int .i64 0) ∧ DevAt (Grow S w) w' g (d.act.put { d.fileOr s with b := (d.fileOr s).b ++ xs }) ∧ Only S w w' := by
  have HR := Aside0.mk (ready_Q h.at s)
  rw [hr] at HR
  have HSz := Aside0.mk (ready_size hr)
  have HFit := Aside0.mk (hok.toFit.act.append h.cells.1 s hxb (by rw [Kd.F_len hx]; exact hl))
  have HW := Aside0.mk h
  have HOk := Aside0.mk hok
  have HX := Aside0.mk hx
  have HM := Aside0.mk hm
  clear h hr hok hx hm
  have HF := Aside0.mk (fun nd => Free_Q (HW.out.drewN nd) HOk.out.toFit)
  obtain ⟨r, hq⟩ : ∃ r, r = d.free := ⟨_, rfl⟩
  rw [← hq] at HF hl
  clear hq
  have hf0 : findF d.files s = none := Option.isNone_iff_eq_none.1 (Option.not_isSome_iff_eq_none.1 (by rw [hf]; simp) ▸ rfl)
  have hf1 : d.fileOr s = ⟨s, [], 0⟩ := fileOr_none hf0
  have hnm := fileOr_name d s
  have hfo : d.act.fileOr s = d.fileOr s := rfl
  rw [hfo] at HFit
  obtain ⟨f, hfe⟩ : ∃ f, f = d.fileOr s := ⟨_, rfl⟩
  rw [← hfe] at hnm HFit ⊢ hf1
  clear hfe hfo
  subst hnm
  have HF0 := Aside0.mk hf0
  have HF1 := Aside0.mk hf1
  clear hf0 hf1
  have HFl := Aside0.mk hf
  have HGo := Aside0.mk hgo
  clear hf hgo
  go_enter Try.func12, Try.ntmps12
  go_wp2_with (first
    | (go_at_call 32; refine HR.out.mono ?_; rintro e w2 ⟨rfl, ⟨nd, rfl⟩⟩)
    | (go_at_call 22; refine (HF.out _).mono ?_; rintro e w3 ⟨rfl, hb3⟩; have H3 := Aside0.mk ((HW.out.drewN nd).below hb3); have HO3 := Aside0.mk (((Only.refl S w).drewN nd).below hb3); clear hb3)
    | (go_at_call 33; refine (act_Q H3.out HOk.out).mono ?_; rintro e w4 ⟨rfl, h4, ho4⟩; rw [HGo.out]; have z0 : w4.cell? ⟨g, 0, none⟩ = some (.map (some mb)) := h4.cell 0; have hlk := h4.look f.name HSz.out; have HO4 := Aside0.mk (HO3.out.trans ho4); rw [show fileP d.act bl f.name = .pointer none from if_neg (fun h => Bool.noConfusion (HFl.out.symm.trans h))] at hlk; have hown4 := h4.own.alloc fileCells; have HNew := Aside0.mk (fun W1 h2 hg => h4.newFile (W1 := W1) f.name HF0.out (by have := HW.out.cnt; show (n : Int) + 1 ≤ d.acts + 1; omega) h2 hg); have HH4 := Aside0.mk h4; have z0a : (w4.alloc fileCells).cell? ⟨g, 0, none⟩ = some (.map (some mb)) := pw_cell_below (below_alloc (Below.refl w4.heap.size w4) fileCells) z0; have hnn : n < maxLen := (by have h1 := HW.out.cnt; have h2 := HOk.out.acts; unfold maxLen; omega); have hkk := ky_of (s := f.name) (by have := HSz.out; omega); have HO4a := HO4; clear h4 ho4 HO4)
    | (at_mapUpdate; refine wpList_mapUpdate_own _ rfl _ _ _ 59 rfl 9 62 keyed Try.underlying59 ptrR mb n D rfl hown4 hnn _ _ _ rfl rfl hkk (.lit (.int .i64 (w4.heap.size : Int))) [] rfl ?_; intro w4' hown5 hg5; obtain ⟨h4, ho4⟩ := HNew.out w4' hown5 hg5; rw [← HF1.out] at h4; have HO4 := Aside0.mk (HO4a.out.trans ho4); have HO45 := Aside0.mk ho4; have HFm := Aside0.mk (show f ∈ (d.act.put f).files from (putF_mem HW.out.cells.1 f f).2 (.inl rfl)); have HFlen := Aside0.mk (show f.b.length ≤ 1048576 from by rw [HF1.out]; exact Nat.zero_le _); have HX4 := Aside0.mk (Kd.F_now (F_only HX.out HO4.out (fun k hk => hk))); obtain ⟨A1, cc, ev, zf, zs, zff, zsf, hrow, hcc, hA, hsafe⟩ := h4.file (show f ∈ (d.act.put f).files from HFm.out); have HEnd := Aside0.mk (fun v1 w5 hr5 hg5 hat5 => DS.put_put d.act (f := f) (f' := { f with b := f.b ++ xs }) rfl ▸ h4.appended (f := f) HFm.out (W1 := w5) (v1 := v1) (ys := xs) hr5 (by rw [ev]; exact hg5) (by rw [ev]; exact hat5)); have HFz := Aside0.mk (fun w5 (hg5 : w4'.grownBy w5 (Value.slice A1 f.b.length cc).ownBlock) => ev ▸ append_frozen h4 HFm.out w5 (by rw [ev]; exact hg5)); have HLen := Aside0.mk (append_len HM.out HFlen.out); have HRow := Aside0.mk hrow; have H4 := Aside0.mk h4; have hub : upd bl f.name w4.heap.size f.name = w4.heap.size := upd_same _ _ _; rw [hub] at zf zs zff zsf HFz; obtain ⟨b, hb⟩ : ∃ b, b = w4.heap.size := ⟨_, rfl⟩; have HB := Aside0.mk (hb.trans hub.symm); rw [← hb] at zf zs zff zsf HFz; try rw [← hb]; obtain ⟨m1, hm1⟩ : ∃ m1, m1 = f.b.length := ⟨_, rfl⟩; rw [← hm1] at zf HEnd HFz HRow; clear h4 ho4 ev hrow hcc hA hsafe hb hm1 hub hown5 hg5)
    | ((with_reducible refine gate_builtin (b := .append) (xs := #[.tmp 43, .tmp 44]) rfl ?_); (try (refine gate_guard (by rfl) ?_; dsimp only)); at_builtin; refine Kd.R_append_row (Value.int .u8) 0 (w0 := w4') 0 rfl (.tmp 43) (.tmp 44) 22 5 (.int .u8 0) 1 rfl Try.underlying22 info5_ rfl (by decide) (.slice A1 m1 cc) f.b xs A m c (fun _ => True) rfl rfl (fun _ _ => trivial) HRow.out HX4.out (Below.refl _ _) (Nat.zero_le _) HLen.out ?_; intro v1 w5 hr5 hb5 hg5 hat5; obtain ⟨A5, l5, c5, ev5⟩ := R_slice3 hr5; subst ev5; obtain ⟨zff5, zf5⟩ := HFz.out w5 hg5; have HN := Aside0.mk (end2 HO4a.out HO45.out (HEnd.out _ w5 hr5 hg5 hat5)); rw [← HB.out] at HN; clear hr5 hb5 hg5 hat5))
  all_goals (go_ret; exact ⟨rfl, HN.out.1.at, HN.out.2⟩)
set_option maxHeartbeats 4000000 in
set_option maxRecDepth 100000 in
theorem Append_6 (h : DevW S w g d mb n D bl vl) (hok : d.Ok) (s : ByteArray) {A : Option Addr} {m c : Nat} {xs : List Int} (hx : Kd.F bK w (fun k => ¬ S k) A m xs) (hm : m ≤ 4294967296) (hxb : ∀ x ∈ xs, 0 ≤ x ∧ x ≤ 255) (hr : d.ready s = 0) (hl : (m : Int) ≤ d.free) (hf : (findF d.files s).isSome = false) (hgo : d.goes = true) :
    Calls Try.prog 12 #[.pointer (some ⟨g, 0, none⟩), .string s, .slice A m c] w fun e w' => e = .returned (.int .i64 7) ∧ DevAt (Grow S w) w' g ((d.act.put { d.fileOr s with b := (d.fileOr s).b ++ xs }).ends) ∧ Only S w w' := by
  have HR := Aside0.mk (ready_Q h.at s)
  rw [hr] at HR
  have HSz := Aside0.mk (ready_size hr)
  have HFit := Aside0.mk (hok.toFit.act.append h.cells.1 s hxb (by rw [Kd.F_len hx]; exact hl))
  have HW := Aside0.mk h
  have HOk := Aside0.mk hok
  have HX := Aside0.mk hx
  have HM := Aside0.mk hm
  clear h hr hok hx hm
  have HF := Aside0.mk (fun nd => Free_Q (HW.out.drewN nd) HOk.out.toFit)
  obtain ⟨r, hq⟩ : ∃ r, r = d.free := ⟨_, rfl⟩
  rw [← hq] at HF hl
  clear hq
  have hf0 : findF d.files s = none := Option.isNone_iff_eq_none.1 (Option.not_isSome_iff_eq_none.1 (by rw [hf]; simp) ▸ rfl)
  have hf1 : d.fileOr s = ⟨s, [], 0⟩ := fileOr_none hf0
  have hnm := fileOr_name d s
  have hfo : d.act.fileOr s = d.fileOr s := rfl
  rw [hfo] at HFit
  obtain ⟨f, hfe⟩ : ∃ f, f = d.fileOr s := ⟨_, rfl⟩
  rw [← hfe] at hnm HFit ⊢ hf1
  clear hfe hfo
  subst hnm
  have HF0 := Aside0.mk hf0
  have HF1 := Aside0.mk hf1
  clear hf0 hf1
  have HFl := Aside0.mk hf
  have HGo := Aside0.mk hgo
  clear hf hgo
  go_enter Try.func12, Try.ntmps12
  go_wp2_with (first
    | (go_at_call 32; refine HR.out.mono ?_; rintro e w2 ⟨rfl, ⟨nd, rfl⟩⟩)
    | (go_at_call 22; refine (HF.out _).mono ?_; rintro e w3 ⟨rfl, hb3⟩; have H3 := Aside0.mk ((HW.out.drewN nd).below hb3); have HO3 := Aside0.mk (((Only.refl S w).drewN nd).below hb3); clear hb3)
    | (go_at_call 33; refine (act_Q H3.out HOk.out).mono ?_; rintro e w4 ⟨rfl, h4, ho4⟩; rw [HGo.out]; have z0 : w4.cell? ⟨g, 0, none⟩ = some (.map (some mb)) := h4.cell 0; have hlk := h4.look f.name HSz.out; have HO4 := Aside0.mk (HO3.out.trans ho4); rw [show fileP d.act bl f.name = .pointer none from if_neg (fun h => Bool.noConfusion (HFl.out.symm.trans h))] at hlk; have hown4 := h4.own.alloc fileCells; have HNew := Aside0.mk (fun W1 h2 hg => h4.newFile (W1 := W1) f.name HF0.out (by have := HW.out.cnt; show (n : Int) + 1 ≤ d.acts + 1; omega) h2 hg); have HH4 := Aside0.mk h4; have z0a : (w4.alloc fileCells).cell? ⟨g, 0, none⟩ = some (.map (some mb)) := pw_cell_below (below_alloc (Below.refl w4.heap.size w4) fileCells) z0; have hnn : n < maxLen := (by have h1 := HW.out.cnt; have h2 := HOk.out.acts; unfold maxLen; omega); have hkk := ky_of (s := f.name) (by have := HSz.out; omega); have HO4a := HO4; clear h4 ho4 HO4)
    | (at_mapUpdate; refine wpList_mapUpdate_own _ rfl _ _ _ 59 rfl 9 62 keyed Try.underlying59 ptrR mb n D rfl hown4 hnn _ _ _ rfl rfl hkk (.lit (.int .i64 (w4.heap.size : Int))) [] rfl ?_; intro w4' hown5 hg5; obtain ⟨h4, ho4⟩ := HNew.out w4' hown5 hg5; rw [← HF1.out] at h4; have HO4 := Aside0.mk (HO4a.out.trans ho4); have HO45 := Aside0.mk ho4; have HFm := Aside0.mk (show f ∈ (d.act.put f).files from (putF_mem HW.out.cells.1 f f).2 (.inl rfl)); have HFlen := Aside0.mk (show f.b.length ≤ 1048576 from by rw [HF1.out]; exact Nat.zero_le _); have HX4 := Aside0.mk (Kd.F_now (F_only HX.out HO4.out (fun k hk => hk))); obtain ⟨A1, cc, ev, zf, zs, zff, zsf, hrow, hcc, hA, hsafe⟩ := h4.file (show f ∈ (d.act.put f).files from HFm.out); have HEnd := Aside0.mk (fun v1 w5 hr5 hg5 hat5 => DS.put_put d.act (f := f) (f' := { f with b := f.b ++ xs }) rfl ▸ h4.appended (f := f) HFm.out (W1 := w5) (v1 := v1) (ys := xs) hr5 (by rw [ev]; exact hg5) (by rw [ev]; exact hat5)); have HFz := Aside0.mk (fun w5 (hg5 : w4'.grownBy w5 (Value.slice A1 f.b.length cc).ownBlock) => ev ▸ append_frozen h4 HFm.out w5 (by rw [ev]; exact hg5)); have HLen := Aside0.mk (append_len HM.out HFlen.out); have HRow := Aside0.mk hrow; have H4 := Aside0.mk h4; have hub : upd bl f.name w4.heap.size f.name = w4.heap.size := upd_same _ _ _; rw [hub] at zf zs zff zsf HFz; obtain ⟨b, hb⟩ : ∃ b, b = w4.heap.size := ⟨_, rfl⟩; have HB := Aside0.mk (hb.trans hub.symm); rw [← hb] at zf zs zff zsf HFz; try rw [← hb]; obtain ⟨m1, hm1⟩ : ∃ m1, m1 = f.b.length := ⟨_, rfl⟩; rw [← hm1] at zf HEnd HFz HRow; clear h4 ho4 ev hrow hcc hA hsafe hb hm1 hub hown5 hg5)
    | ((with_reducible refine gate_builtin (b := .append) (xs := #[.tmp 43, .tmp 44]) rfl ?_); (try (refine gate_guard (by rfl) ?_; dsimp only)); at_builtin; refine Kd.R_append_row (Value.int .u8) 0 (w0 := w4') 0 rfl (.tmp 43) (.tmp 44) 22 5 (.int .u8 0) 1 rfl Try.underlying22 info5_ rfl (by decide) (.slice A1 m1 cc) f.b xs A m c (fun _ => True) rfl rfl (fun _ _ => trivial) HRow.out HX4.out (Below.refl _ _) (Nat.zero_le _) HLen.out ?_; intro v1 w5 hr5 hb5 hg5 hat5; obtain ⟨A5, l5, c5, ev5⟩ := R_slice3 hr5; subst ev5; obtain ⟨zff5, zf5⟩ := HFz.out w5 hg5; have HN := Aside0.mk (end2 HO4a.out HO45.out (HEnd.out _ w5 hr5 hg5 hat5)); rw [← HB.out] at HN; clear hr5 hb5 hg5 hat5))
  have HN1 := Aside0.mk HN.out.1
  have HN2 := Aside0.mk HN.out.2
  clear HN
  have z5 := HN1.out.cell 5
  have z6 := HN1.out.cell 6
  refine start_ (n := 10) (S := fun w' => w'.cell? ⟨g, 5, none⟩ = some (.int .i64 d.keep) ∧ w'.cell? ⟨g, 6, none⟩ = some (.bool d.torn)) (ds := [9]) #[false, false, false, false, false, false, false, false, false, false] (by kernel_rfl) rfl rfl ⟨z5, z6⟩ (fun hHeld => ?_)
  refine pure_ (i := 0) (N := some 49) (v := ?_) (a' := ?_) #[true, false, false, false, false, false, false, false, false, false] rfl rfl (by kernel_rfl) (fun _ _ _ h => h) (Or.inl ⟨by rfl, ?_⟩) ?_ ?_
  rotate_left
  · intro w'
    go_simp
    with_reducible rfl
  rotate_left
  · simp only [Act.put, List.setIfInBounds_toArray, List.set_cons_zero, List.set_cons_succ, i64_w, i32_w]
    rfl
  refine pure_ (i := 1) (N := some 50) (v := ?_) (a' := ?_) #[true, true, false, false, false, false, false, false, false, false] rfl rfl (by kernel_rfl) (fun _ _ _ h => h) (Or.inl ⟨by rfl, ?_⟩) ?_ ?_
  rotate_left
  · intro w'
    go_simp
    with_reducible rfl
  rotate_left
  · simp only [Act.put, List.setIfInBounds_toArray, List.set_cons_zero, List.set_cons_succ, i64_w, i32_w]
    rfl
  refine pure_ (i := 2) (N := some 51) (v := ?_) (a' := ?_) #[true, true, true, false, false, false, false, false, false, false] rfl rfl (by kernel_rfl) (fun _ _ _ h => h) (Or.inl ⟨by rfl, ?_⟩) ?_ ?_
  rotate_left
  · intro w'
    go_simp
    with_reducible rfl
  rotate_left
  · simp only [Act.put, List.setIfInBounds_toArray, List.set_cons_zero, List.set_cons_succ, i64_w, i32_w]
    rfl
  refine pure_ (i := 3) (N := some 52) (v := ?_) (a' := ?_) #[true, true, true, true, false, false, false, false, false, false] rfl rfl (by kernel_rfl) (fun _ _ _ h => h) (Or.inl ⟨by rfl, ?_⟩) ?_ ?_
  rotate_left
  · intro w'
    go_simp
    with_reducible rfl
  rotate_left
  · simp only [Act.put, List.setIfInBounds_toArray, List.set_cons_zero, List.set_cons_succ, i64_w, i32_w]
    rfl
  refine take_ (i := 4) (N := some 53) (v := ?_) (a' := ?_) #[true, true, true, true, true, false, false, false, false, false] rfl rfl (by kernel_rfl) (fun _ _ _ h => h) (Or.inl ⟨by rfl, ?_⟩) hHeld ?_ ?_
  rotate_left
  · intro w' s0
    obtain ⟨y0, y1⟩ := s0
    go_simp
    with_reducible rfl
  rotate_left
  · simp only [Act.put, List.setIfInBounds_toArray, List.set_cons_zero, List.set_cons_succ, i64_w, i32_w]
    rfl
  refine pure_ (i := 5) (N := some 54) (v := ?_) (a' := ?_) #[true, true, true, true, true, true, false, false, false, false] rfl rfl (by kernel_rfl) (fun _ _ _ h => h) (Or.inl ⟨by rfl, ?_⟩) ?_ ?_
  rotate_left
  · intro w'
    go_simp
    with_reducible rfl
  rotate_left
  · simp only [Act.put, List.setIfInBounds_toArray, List.set_cons_zero, List.set_cons_succ, i64_w, i32_w]
    rfl
  refine pure_ (i := 6) (N := some 55) (v := ?_) (a' := ?_) #[true, true, true, true, true, true, true, false, false, false] rfl rfl (by kernel_rfl) (fun _ _ _ h => h) (Or.inl ⟨by rfl, ?_⟩) ?_ ?_
  rotate_left
  · intro w'
    go_simp
    with_reducible rfl
  rotate_left
  · simp only [Act.put, List.setIfInBounds_toArray, List.set_cons_zero, List.set_cons_succ, i64_w, i32_w]
    rfl
  refine pure_ (i := 7) (N := some 56) (v := ?_) (a' := ?_) #[true, true, true, true, true, true, true, true, false, false] rfl rfl (by kernel_rfl) (fun _ _ _ h => h) (Or.inl ⟨by rfl, ?_⟩) ?_ ?_
  rotate_left
  · intro w'
    go_simp
    with_reducible rfl
  rotate_left
  · simp only [Act.put, List.setIfInBounds_toArray, List.set_cons_zero, List.set_cons_succ, i64_w, i32_w]
    rfl
  refine take_ (i := 8) (N := some 57) (v := ?_) (a' := ?_) #[true, true, true, true, true, true, true, true, true, false] rfl rfl (by kernel_rfl) (fun _ _ _ h => h) (Or.inl ⟨by rfl, ?_⟩) hHeld ?_ ?_
  rotate_left
  · intro w' s0
    obtain ⟨y0, y1⟩ := s0
    go_simp
    with_reducible rfl
  rotate_left
  · simp only [Act.put, List.setIfInBounds_toArray, List.set_cons_zero, List.set_cons_succ, i64_w, i32_w]
    rfl
  refine last_ (i := 9) (N := some 58) #[true, true, true, true, true, true, true, true, true, true] rfl rfl (by kernel_rfl) (by decide) (fun K hK => ?_)
  refine goes_ Try.func16 (by kernel_rfl) rfl #[.pointer (some ⟨g, 0, none⟩), .int .i64 d.keep, .bool d.torn] (by rfl) rfl rfl (by (try simp only [List.map_toArray, List.map_cons, List.map_nil]); first | done | rfl) ?_
  refine (Off_Q (HN1.out.below (below_drew1 (Below.refl _ _))) HFit.out d.keep d.torn).mono ?_
  rintro e wo ⟨rfl, hDo, hOo⟩
  refine ⟨_, rfl, ?_⟩
  have HDo := Aside0.mk hDo
  have HOo := Aside0.mk hOo
  clear hDo hOo
  refine hK.out _ _ ?_
  clear hK K
  refine done_ (by kernel_rfl) ?_
  go_wp2
  go_ret
  obtain ⟨e1, e2⟩ := off_end (Only.refl S w) HN2.out HDo.out HOo.out
  exact ⟨rfl, e1, e2⟩
end
end Go.Proofs.Ytoedkemjidgbeaa.Dk
