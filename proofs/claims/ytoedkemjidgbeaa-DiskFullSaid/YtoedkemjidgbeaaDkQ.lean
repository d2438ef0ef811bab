/- Cut, Rename, Remove. -/
import Derived.Test.YtoedkemjidgbeaaDkO
namespace Go.Proofs.Ytoedkemjidgbeaa.Dk
open Go Go.RowKit Go.Proofs.YtoedkemjidgbeaaW.PrintWords Go.Proofs.YtoedkemjidgbeaaW.PrintLast Go.Proofs.YtoedkemjidgbeaaW.PrintMore Go.Proofs.YtoedkemjidgbeaaMy Go.Proofs.Ytoedkemjidgbeaa Go.Proofs.YtoedkemjidgbeaaPw Go.Proofs.Ytoedkemjidgbeaa.PAll
attribute [local go_sem] max2_m min2_m max_two min_two
set_option linter.unusedVariables false
set_option linter.unusedSimpArgs false
abbrev box1 (v : Value) (t : TypeId) : Obj := .cells #[v] t (0, 0)
theorem box_at (w : World) (v : Value) (t : TypeId) : (w.alloc (box1 v t)).cell? ⟨w.heap.size, 0, none⟩ = some v := (blk_cell (blk_new w (box1 v t)) 0).trans rfl
theorem box_past {w : World} (o : Obj) {a : Addr} {v : Value} (h : w.cell? a = some v) : (w.alloc o).cell? a = some v := pw_cell_below (below_alloc (Below.refl w.heap.size w) o) h
theorem box_drew {w : World} (nd : Nat) {a : Addr} {v : Value} (h : w.cell? a = some v) : (w.drewN nd).cell? a = some v := h
section
variable {S : Nat → Prop} {w : World} {g : Nat} {d : DS} {mb n : Nat} {D : DataW Unit} {bl : ByteArray → Nat} {vl : ByteArray → Value}
theorem fall_end {w5 w' : World} {dd : DS} (hb : Below w.heap.size w w5) (hD : DevAt (Grow (fun k => S k ∧ k < w.heap.size) w5) w' g dd) (hO : Only (fun k => S k ∧ k < w.heap.size) w5 w') : DevAt (Grow S w) w' g dd ∧ Only S w w' :=
  ⟨hD.mono (fun k hk => hk.imp (fun h => h.1) (fun h => Nat.le_trans hb.size h)), ((Only.refl S w).below hb).trans (hO.mono (fun k hk => hk.1))⟩
theorem there_name {d : DS} {s : ByteArray} (h : d.there s = 0) : s.size ≤ 32 := ready_size (there_ready h).1
theorem file_fileOr {d : DS} {s : ByteArray} {f : Fl} (h : findF d.files s = some f) : d.act.fileOr s = f := fileOr_some (d := d.act) h
set_option maxHeartbeats 4000000 in
set_option maxRecDepth 100000 in
theorem Cut_1 (h : DevW S w g d mb n D bl vl) (s : ByteArray) (k : Int) (hr : d.there s ≠ 0) : Calls Try.prog 19 #[.pointer (some ⟨g, 0, none⟩), .string s, .int .i64 k] w fun e w' => e = .returned (.int .i64 (d.there s)) ∧ Below w.heap.size w w' := by
  have hb1 : Below w.heap.size w (w.alloc (box1 (.int .i64 k) 3)) := (below_alloc (Below.refl _ _) _)
  have HR := Aside0.mk (there_Q (h.below hb1) s)
  rw [if_neg hr] at HR
  have HB := Aside0.mk hb1
  obtain ⟨r, hq⟩ : ∃ r, r = d.there s := ⟨_, rfl⟩
  rw [← hq] at HR hr ⊢
  clear hq h hb1
  have cb : (r == 0) = false := beq_eq_false_iff_ne.mpr hr
  have cn : (r != 0) = true := bne_iff_ne.mpr hr
  clear hr
  go_enter Try.func19, Try.ntmps19
  go_wp2_with (first | (go_at_call 34; refine HR.out.mono ?_; rintro e w2 ⟨rfl, ⟨nd, rfl⟩⟩))
  go_ret
  exact ⟨rfl, by first | exact pw_below_drewN HB.out nd | exact below_alloc (pw_below_drewN HB.out nd) _⟩
set_option maxHeartbeats 4000000 in
set_option maxRecDepth 100000 in
theorem Cut_2 (h : DevW S w g d mb n D bl vl) (s : ByteArray) (k : Int) (hr : d.there s = 0) (hk : k < 0) : Calls Try.prog 19 #[.pointer (some ⟨g, 0, none⟩), .string s, .int .i64 k] w fun e w' => e = .returned (.int .i64 1) ∧ Below w.heap.size w w' := by
  have hb1 : Below w.heap.size w (w.alloc (box1 (.int .i64 k) 3)) := (below_alloc (Below.refl _ _) _)
  have HR := Aside0.mk (there_Q (h.below hb1) s)
  rw [if_pos hr, hr] at HR
  have HB := Aside0.mk hb1
  have kb : decide (k < 0) = true := decide_eq_true hk
  obtain ⟨b0, hb0⟩ : ∃ x, x = bl s := ⟨_, rfl⟩
  rw [← hb0] at HR
  clear h hb1 hr hb0
  go_enter Try.func19, Try.ntmps19
  go_wp2_with (first
    | (go_at_call 34; refine HR.out.mono ?_; rintro e w2 ⟨rfl, ⟨nd, rfl⟩⟩))
  go_ret
  exact ⟨rfl, by first | exact below_alloc (pw_below_drewN HB.out nd) _ | exact pw_below_drewN (below_alloc (pw_below_drewN HB.out nd) _) _⟩
set_option maxHeartbeats 4000000 in
set_option maxRecDepth 100000 in
theorem Cut_3 (h : DevW S w g d mb n D bl vl) (hok : d.Ok) (s : ByteArray) (k : Int) (hr : d.there s = 0) (hk : 0 ≤ k) : Calls Try.prog 19 #[.pointer (some ⟨g, 0, none⟩), .string s, .int .i64 k] w fun e w' => e = .returned (.int .i64 (d.fall fun e => e.put (cutTo (e.fileOr s) k)).1) ∧ DevAt (Grow S w) w' g (d.fall fun e => e.put (cutTo (e.fileOr s) k)).2 ∧ Only S w w' := by
  have hb1 : Below w.heap.size w (w.alloc (box1 (.int .i64 k) 3)) := (below_alloc (Below.refl _ _) _)
  have HR := Aside0.mk (there_Q (h.below hb1) s)
  rw [if_pos hr, hr] at HR
  have HSz := Aside0.mk (there_name hr)
  obtain ⟨f, hf⟩ := (there_ready hr).2
  have HFl := Aside0.mk hf
  obtain ⟨hfm, rfl⟩ := findF_some hf
  have HB := Aside0.mk hb1
  have HW := Aside0.mk h
  have HOk := Aside0.mk hok
  have HFm := Aside0.mk hfm
  have kb : decide (k < 0) = false := decide_eq_false (by omega)
  have HK := Aside0.mk hk
  obtain ⟨b0, hb0⟩ : ∃ x, x = bl f.name := ⟨_, rfl⟩
  rw [← hb0] at HR
  have HB0 := Aside0.mk hb0
  clear h hb1 hr hb0 hf hfm hok hk
  go_enter Try.func19, Try.ntmps19
  go_wp2_with (first
    | (go_at_call 34; refine HR.out.mono ?_; rintro e w2 ⟨rfl, ⟨nd, rfl⟩⟩)
    | (go_at_call 37; have hbw := Aside0.mk (show Below w.heap.size w (((w.alloc (box1 (.int .i64 k) 3)).drewN nd).alloc (box1 (.pointer (some ⟨b0, 0, none⟩)) 62)) from below_alloc (pw_below_drewN HB.out nd) _); have k2 : (((w.alloc (box1 (.int .i64 k) 3)).drewN nd).alloc (box1 (.pointer (some ⟨b0, 0, none⟩)) 62)).cell? ⟨w.heap.size, 0, none⟩ = some (.int .i64 k) := box_past _ (box_drew nd (box_at w _ _)); have k1 : (((w.alloc (box1 (.int .i64 k) 3)).drewN nd).alloc (box1 (.pointer (some ⟨b0, 0, none⟩)) 62)).cell? ⟨w.heap.size + 1, 0, none⟩ = some (.pointer (some ⟨b0, 0, none⟩)) := (show (w.alloc (box1 (.int .i64 k) 3)).heap.size = w.heap.size + 1 from by simp) ▸ box_at _ _ _; refine (fallC_Q (w := (((w.alloc (box1 (.int .i64 k) 3)).drewN nd).alloc (box1 (.pointer (some ⟨b0, 0, none⟩)) 62))) (HW.out.shrink.below hbw.out) HOk.out #[.pointer (some ⟨w.heap.size + 1, 0, none⟩), .pointer (some ⟨w.heap.size, 0, none⟩)] (fun e => e.put (cutTo (e.fileOr f.name) k)) (fun W hW ho => by rw [show (d.act.fileOr f.name) = f from file_fileOr HFl.out]; have kc := ho.cell k1 (by intro h; have := h.2; omega); rw [HB0.out] at kc; exact CutIn_Q hW HOk.out.toFit.act HFm.out k HK.out kc (ho.cell k2 (by intro h; have := h.2; omega)) (by intro h; have := h.2; omega) (by intro h; have := h.2; omega)) (by rw [show (d.act.fileOr f.name) = f from file_fileOr HFl.out]; exact HOk.out.toFit.act.less HW.out.cells.1 (f := f) HFm.out rfl (fun x hx => List.mem_of_mem_take hx) (by unfold cutTo; rw [List.length_take]; omega)) rfl rfl).mono ?_; rintro e w6 ⟨rfl, hD6, hO6⟩; obtain ⟨e1, e2⟩ := fall_end hbw.out hD6 hO6; have HE1 := Aside0.mk e1; have HE2 := Aside0.mk e2; clear hD6 hO6 e1 e2))
  go_ret
  exact ⟨rfl, HE1.out, HE2.out⟩
theorem Cut_Q (h : DevAt S w g d) (hok : d.Ok) (s : ByteArray) (k : Int) : Calls Try.prog 19 #[.pointer (some ⟨g, 0, none⟩), .string s, .int .i64 k] w fun e w' => e = .returned (.int .i64 (d.cut s k).1) ∧ DevAt (Grow S w) w' g (d.cut s k).2 ∧ Only S w w' := by
  obtain ⟨mb, n, D, bl, vl, h⟩ := h
  have same : ∀ {w' : World}, Below w.heap.size w w' → DevAt (Grow S w) w' g d ∧ Only S w w' := fun hb => ⟨((h.below hb).mono (fun _ h => .inl h)).at, (Only.refl S w).below hb⟩
  unfold DS.cut
  by_cases hr : d.there s = 0
  · rw [if_neg (fun h => h hr)]
    by_cases hk : k < 0
    · rw [if_pos hk]
      refine (Cut_2 h s k hr hk).mono ?_
      rintro e w' ⟨rfl, hb⟩
      exact ⟨rfl, same hb⟩
    · rw [if_neg hk]
      exact Cut_3 h hok s k hr (by omega)
  · rw [if_pos hr]
    refine (Cut_1 h s k hr).mono ?_
    rintro e w' ⟨rfl, hb⟩
    exact ⟨rfl, same hb⟩
set_option maxHeartbeats 4000000 in
set_option maxRecDepth 100000 in
theorem Rename_1 (h : DevW S w g d mb n D bl vl) (s b : ByteArray) (hr : d.there s ≠ 0) : Calls Try.prog 18 #[.pointer (some ⟨g, 0, none⟩), .string s, .string b] w fun e w' => e = .returned (.int .i64 (d.there s)) ∧ Below w.heap.size w w' := by
  have hb1 : Below w.heap.size w (((w.alloc (box1 (.pointer (some ⟨g, 0, none⟩)) 24)).alloc (box1 (.string s) 9)).alloc (box1 (.string b) 9)) := (below_alloc (below_alloc (below_alloc (Below.refl _ _) _) _) _)
  have HR := Aside0.mk (there_Q (h.below hb1) s)
  rw [if_neg hr] at HR
  have HB := Aside0.mk hb1
  obtain ⟨r, hq⟩ : ∃ r, r = d.there s := ⟨_, rfl⟩
  rw [← hq] at HR hr ⊢
  clear hq h hb1
  have cb : (r == 0) = false := beq_eq_false_iff_ne.mpr hr
  have cn : (r != 0) = true := bne_iff_ne.mpr hr
  clear hr
  go_enter Try.func18, Try.ntmps18
  go_wp2_with (first | (go_at_call 34; refine HR.out.mono ?_; rintro e w2 ⟨rfl, ⟨nd, rfl⟩⟩))
  go_ret
  exact ⟨rfl, by first | exact pw_below_drewN HB.out nd | exact below_alloc (pw_below_drewN HB.out nd) _⟩
set_option maxHeartbeats 4000000 in
set_option maxRecDepth 100000 in
theorem Rename_2 (h : DevW S w g d mb n D bl vl) (s b : ByteArray) (hr : d.there s = 0) (hk : nameOk b = false) : Calls Try.prog 18 #[.pointer (some ⟨g, 0, none⟩), .string s, .string b] w fun e w' => e = .returned (.int .i64 1) ∧ Below w.heap.size w w' := by
  have hb1 : Below w.heap.size w (((w.alloc (box1 (.pointer (some ⟨g, 0, none⟩)) 24)).alloc (box1 (.string s) 9)).alloc (box1 (.string b) 9)) := (below_alloc (below_alloc (below_alloc (Below.refl _ _) _) _) _)
  have HR := Aside0.mk (there_Q (h.below hb1) s)
  rw [if_pos hr, hr] at HR
  have HB := Aside0.mk hb1
  have HN := Aside0.mk (name_f b)
  rw [hk] at HN
  obtain ⟨b0, hb0⟩ : ∃ x, x = bl s := ⟨_, rfl⟩
  rw [← hb0] at HR
  clear h hb1 hr hb0
  go_enter Try.func18, Try.ntmps18
  go_wp2_with (first
    | (go_at_call 34; refine HR.out.mono ?_; rintro e w2 ⟨rfl, ⟨nd, rfl⟩⟩)
    | (go_at_call 36; refine (disk_name.calls b _ _ HN.out).mono ?_; rintro e w3 ⟨rfl, ⟨nd3, rfl⟩⟩))
  go_ret
  exact ⟨rfl, by first | exact below_alloc (pw_below_drewN HB.out nd) _ | exact pw_below_drewN (below_alloc (pw_below_drewN HB.out nd) _) _⟩
set_option maxHeartbeats 4000000 in
set_option maxRecDepth 100000 in
theorem Rename_3 (h : DevW S w g d mb n D bl vl) (hok : d.Ok) (s b : ByteArray) (hr : d.there s = 0) (hk : nameOk b = true) : Calls Try.prog 18 #[.pointer (some ⟨g, 0, none⟩), .string s, .string b] w fun e w' => e = .returned (.int .i64 (d.fall fun e => (e.drop s).put ⟨b, (e.fileOr s).b, (e.fileOr s).safe⟩).1) ∧ DevAt (Grow S w) w' g (d.fall fun e => (e.drop s).put ⟨b, (e.fileOr s).b, (e.fileOr s).safe⟩).2 ∧ Only S w w' := by
  have hb1 : Below w.heap.size w (((w.alloc (box1 (.pointer (some ⟨g, 0, none⟩)) 24)).alloc (box1 (.string s) 9)).alloc (box1 (.string b) 9)) := (below_alloc (below_alloc (below_alloc (Below.refl _ _) _) _) _)
  have HR := Aside0.mk (there_Q (h.below hb1) s)
  rw [if_pos hr, hr] at HR
  have HSz := Aside0.mk (there_name hr)
  obtain ⟨f, hf⟩ := (there_ready hr).2
  have HFl := Aside0.mk hf
  obtain ⟨hfm, rfl⟩ := findF_some hf
  have HB := Aside0.mk hb1
  have HW := Aside0.mk h
  have HOk := Aside0.mk hok
  have HFm := Aside0.mk hfm
  have HN := Aside0.mk (name_f b)
  rw [hk] at HN
  have HK := Aside0.mk (show b.size ≤ 32 from (of_decide_eq_true hk).2)
  have HNn := Aside0.mk (show n < maxLen from by have h1 := h.cnt; have h2 := hok.acts; unfold maxLen; omega)
  have HCn := Aside0.mk (show (n : Int) + 1 ≤ d.act.acts from by have h1 := h.cnt; show (n : Int) + 1 ≤ d.acts + 1; omega)
  have HS1 := Aside0.mk (show (w.alloc (box1 (.pointer (some ⟨g, 0, none⟩)) 24)).heap.size = w.heap.size + 1 from by simp)
  have HS2 := Aside0.mk (show ((w.alloc (box1 (.pointer (some ⟨g, 0, none⟩)) 24)).alloc (box1 (.string f.name) 9)).heap.size = w.heap.size + 2 from by simp)
  have HS3 := Aside0.mk (fun nd => show ((((w.alloc (box1 (.pointer (some ⟨g, 0, none⟩)) 24)).alloc (box1 (.string f.name) 9)).alloc (box1 (.string b) 9)).drewN nd).heap.size = w.heap.size + 3 from by simp [World.drewN])
  obtain ⟨b0, hb0⟩ : ∃ x, x = bl f.name := ⟨_, rfl⟩
  rw [← hb0] at HR
  have HB0 := Aside0.mk hb0
  clear h hb1 hr hb0 hf hfm hok hk
  go_enter Try.func18, Try.ntmps18
  go_wp2_with (first
    | (go_at_call 34; refine HR.out.mono ?_; rintro e w2 ⟨rfl, ⟨nd, rfl⟩⟩)
    | (go_at_call 36; refine (disk_name.calls b _ _ HN.out).mono ?_; rintro e w3 ⟨rfl, ⟨nd3, rfl⟩⟩)
    | (go_at_call 37; have hbw := Aside0.mk (show Below w.heap.size w ((((((w.alloc (box1 (.pointer (some ⟨g, 0, none⟩)) 24)).alloc (box1 (.string f.name) 9)).alloc (box1 (.string b) 9)).drewN nd).alloc (box1 (.pointer (some ⟨b0, 0, none⟩)) 62)).drewN nd3) from pw_below_drewN (below_alloc (pw_below_drewN HB.out nd) _) nd3); have k1 : ((((((w.alloc (box1 (.pointer (some ⟨g, 0, none⟩)) 24)).alloc (box1 (.string f.name) 9)).alloc (box1 (.string b) 9)).drewN nd).alloc (box1 (.pointer (some ⟨b0, 0, none⟩)) 62)).drewN nd3).cell? ⟨w.heap.size, 0, none⟩ = some (.pointer (some ⟨g, 0, none⟩)) := box_drew nd3 (box_past _ (box_drew nd (box_past _ (box_past _ (box_at w _ _))))); have k2 : ((((((w.alloc (box1 (.pointer (some ⟨g, 0, none⟩)) 24)).alloc (box1 (.string f.name) 9)).alloc (box1 (.string b) 9)).drewN nd).alloc (box1 (.pointer (some ⟨b0, 0, none⟩)) 62)).drewN nd3).cell? ⟨w.heap.size + 1, 0, none⟩ = some (.string f.name) := box_drew nd3 (box_past _ (box_drew nd (box_past _ (HS1.out ▸ box_at _ _ _)))); have k4 : ((((((w.alloc (box1 (.pointer (some ⟨g, 0, none⟩)) 24)).alloc (box1 (.string f.name) 9)).alloc (box1 (.string b) 9)).drewN nd).alloc (box1 (.pointer (some ⟨b0, 0, none⟩)) 62)).drewN nd3).cell? ⟨w.heap.size + 2, 0, none⟩ = some (.string b) := box_drew nd3 (box_past _ (box_drew nd (HS2.out ▸ box_at _ _ _))); have k3 : ((((((w.alloc (box1 (.pointer (some ⟨g, 0, none⟩)) 24)).alloc (box1 (.string f.name) 9)).alloc (box1 (.string b) 9)).drewN nd).alloc (box1 (.pointer (some ⟨b0, 0, none⟩)) 62)).drewN nd3).cell? ⟨w.heap.size + 3, 0, none⟩ = some (.pointer (some ⟨b0, 0, none⟩)) := box_drew nd3 (HS3.out nd ▸ box_at _ _ _); refine (fallR_Q (w := ((((((w.alloc (box1 (.pointer (some ⟨g, 0, none⟩)) 24)).alloc (box1 (.string f.name) 9)).alloc (box1 (.string b) 9)).drewN nd).alloc (box1 (.pointer (some ⟨b0, 0, none⟩)) 62)).drewN nd3)) (HW.out.shrink.below hbw.out) HOk.out #[.pointer (some ⟨w.heap.size, 0, none⟩), .pointer (some ⟨w.heap.size + 1, 0, none⟩), .pointer (some ⟨w.heap.size + 3, 0, none⟩), .pointer (some ⟨w.heap.size + 2, 0, none⟩)] (fun e => (e.drop f.name).put ⟨b, (e.fileOr f.name).b, (e.fileOr f.name).safe⟩) (fun W hW ho => by rw [show (d.act.fileOr f.name) = f from file_fileOr HFl.out]; have kc := ho.cell k3 (by intro h; have := h.2; omega); rw [HB0.out] at kc; exact RenameIn_Q hW HFm.out HSz.out b HK.out HNn.out HCn.out (ho.cell k1 (by intro h; have := h.2; omega)) (ho.cell k2 (by intro h; have := h.2; omega)) kc (ho.cell k4 (by intro h; have := h.2; omega)) (by intro h; have := h.2; omega) (by intro h; have := h.2; omega) (by intro h; have := h.2; omega) (by intro h; have := h.2; omega)) (by rw [show (d.act.fileOr f.name) = f from file_fileOr HFl.out]; exact HOk.out.toFit.act.move HW.out.cells.1 (f := f) HFm.out b) rfl rfl).mono ?_; rintro e w6 ⟨rfl, hD6, hO6⟩; obtain ⟨e1, e2⟩ := fall_end hbw.out hD6 hO6; have HE1 := Aside0.mk e1; have HE2 := Aside0.mk e2; clear hD6 hO6 e1 e2))
  go_ret
  exact ⟨rfl, HE1.out, HE2.out⟩
theorem Rename_Q (h : DevAt S w g d) (hok : d.Ok) (s b : ByteArray) : Calls Try.prog 18 #[.pointer (some ⟨g, 0, none⟩), .string s, .string b] w fun e w' => e = .returned (.int .i64 (d.rename s b).1) ∧ DevAt (Grow S w) w' g (d.rename s b).2 ∧ Only S w w' := by
  obtain ⟨mb, n, D, bl, vl, h⟩ := h
  have same : ∀ {w' : World}, Below w.heap.size w w' → DevAt (Grow S w) w' g d ∧ Only S w w' := fun hb => ⟨((h.below hb).mono (fun _ h => .inl h)).at, (Only.refl S w).below hb⟩
  unfold DS.rename
  by_cases hr : d.there s = 0
  · rw [if_neg (fun h => h hr)]
    cases hk : nameOk b with
    | false =>
      rw [if_pos rfl]
      refine (Rename_2 h s b hr hk).mono ?_
      rintro e w' ⟨rfl, hb⟩
      exact ⟨rfl, same hb⟩
    | true =>
      rw [if_neg (by simp)]
      exact Rename_3 h hok s b hr hk
  · rw [if_pos hr]
    refine (Rename_1 h s b hr).mono ?_
    rintro e w' ⟨rfl, hb⟩
    exact ⟨rfl, same hb⟩
set_option maxHeartbeats 4000000 in
set_option maxRecDepth 100000 in
theorem Remove_1 (h : DevW S w g d mb n D bl vl) (s : ByteArray) (hr : d.there s ≠ 0) : Calls Try.prog 20 #[.pointer (some ⟨g, 0, none⟩), .string s] w fun e w' => e = .returned (.int .i64 (d.there s)) ∧ Below w.heap.size w w' := by
  have hb1 : Below w.heap.size w ((w.alloc (box1 (.pointer (some ⟨g, 0, none⟩)) 24)).alloc (box1 (.string s) 9)) := (below_alloc (below_alloc (Below.refl _ _) _) _)
  have HR := Aside0.mk (there_Q (h.below hb1) s)
  rw [if_neg hr] at HR
  have HB := Aside0.mk hb1
  obtain ⟨r, hq⟩ : ∃ r, r = d.there s := ⟨_, rfl⟩
  rw [← hq] at HR hr ⊢
  clear hq h hb1
  have cb : (r == 0) = false := beq_eq_false_iff_ne.mpr hr
  have cn : (r != 0) = true := bne_iff_ne.mpr hr
  clear hr
  go_enter Try.func20, Try.ntmps20
  go_wp2_with (first | (go_at_call 34; refine HR.out.mono ?_; rintro e w2 ⟨rfl, ⟨nd, rfl⟩⟩))
  go_ret
  exact ⟨rfl, by first | exact pw_below_drewN HB.out nd | exact below_alloc (pw_below_drewN HB.out nd) _⟩
set_option maxHeartbeats 4000000 in
set_option maxRecDepth 100000 in
theorem Remove_3 (h : DevW S w g d mb n D bl vl) (hok : d.Ok) (s : ByteArray) (hr : d.there s = 0) : Calls Try.prog 20 #[.pointer (some ⟨g, 0, none⟩), .string s] w fun e w' => e = .returned (.int .i64 (d.fall fun e => e.drop s).1) ∧ DevAt (Grow S w) w' g (d.fall fun e => e.drop s).2 ∧ Only S w w' := by
  have hb1 : Below w.heap.size w ((w.alloc (box1 (.pointer (some ⟨g, 0, none⟩)) 24)).alloc (box1 (.string s) 9)) := (below_alloc (below_alloc (Below.refl _ _) _) _)
  have HR := Aside0.mk (there_Q (h.below hb1) s)
  rw [if_pos hr, hr] at HR
  have HSz := Aside0.mk (there_name hr)
  obtain ⟨f, hf⟩ := (there_ready hr).2
  have HFl := Aside0.mk hf
  obtain ⟨hfm, rfl⟩ := findF_some hf
  have HB := Aside0.mk hb1
  have HW := Aside0.mk h
  have HOk := Aside0.mk hok
  have HFm := Aside0.mk hfm
  have HS1 := Aside0.mk (show (w.alloc (box1 (.pointer (some ⟨g, 0, none⟩)) 24)).heap.size = w.heap.size + 1 from by simp)
  obtain ⟨b0, hb0⟩ : ∃ x, x = bl f.name := ⟨_, rfl⟩
  rw [← hb0] at HR
  have HB0 := Aside0.mk hb0
  clear h hb1 hr hb0 hf hfm hok
  go_enter Try.func20, Try.ntmps20
  go_wp2_with (first
    | (go_at_call 34; refine HR.out.mono ?_; rintro e w2 ⟨rfl, ⟨nd, rfl⟩⟩)
    | (go_at_call 37; have hbw := Aside0.mk (show Below w.heap.size w (((w.alloc (box1 (.pointer (some ⟨g, 0, none⟩)) 24)).alloc (box1 (.string f.name) 9)).drewN nd) from pw_below_drewN HB.out nd); have k1 : (((w.alloc (box1 (.pointer (some ⟨g, 0, none⟩)) 24)).alloc (box1 (.string f.name) 9)).drewN nd).cell? ⟨w.heap.size, 0, none⟩ = some (.pointer (some ⟨g, 0, none⟩)) := box_drew nd (box_past _ (box_at w _ _)); have k2 : (((w.alloc (box1 (.pointer (some ⟨g, 0, none⟩)) 24)).alloc (box1 (.string f.name) 9)).drewN nd).cell? ⟨w.heap.size + 1, 0, none⟩ = some (.string f.name) := box_drew nd (HS1.out ▸ box_at _ _ _); refine (fallD_Q (w := (((w.alloc (box1 (.pointer (some ⟨g, 0, none⟩)) 24)).alloc (box1 (.string f.name) 9)).drewN nd)) (HW.out.shrink.below hbw.out) HOk.out #[.pointer (some ⟨w.heap.size, 0, none⟩), .pointer (some ⟨w.heap.size + 1, 0, none⟩)] (fun e => e.drop f.name) (fun W hW ho => RemoveIn_Q hW f.name HSz.out (ho.cell k1 (by intro h; have := h.2; omega)) (ho.cell k2 (by intro h; have := h.2; omega))) (HOk.out.toFit.act.drop _) rfl rfl).mono ?_; rintro e w6 ⟨rfl, hD6, hO6⟩; obtain ⟨e1, e2⟩ := fall_end hbw.out hD6 hO6; have HE1 := Aside0.mk e1; have HE2 := Aside0.mk e2; clear hD6 hO6 e1 e2))
  go_ret
  exact ⟨rfl, HE1.out, HE2.out⟩
theorem Remove_Q (h : DevAt S w g d) (hok : d.Ok) (s : ByteArray) : Calls Try.prog 20 #[.pointer (some ⟨g, 0, none⟩), .string s] w fun e w' => e = .returned (.int .i64 (d.remove s).1) ∧ DevAt (Grow S w) w' g (d.remove s).2 ∧ Only S w w' := by
  obtain ⟨mb, n, D, bl, vl, h⟩ := h
  have same : ∀ {w' : World}, Below w.heap.size w w' → DevAt (Grow S w) w' g d ∧ Only S w w' := fun hb => ⟨((h.below hb).mono (fun _ h => .inl h)).at, (Only.refl S w).below hb⟩
  unfold DS.remove
  by_cases hr : d.there s = 0
  · rw [if_neg (fun h => h hr)]
    exact Remove_3 h hok s hr
  · rw [if_pos hr]
    refine (Remove_1 h s hr).mono ?_
    rintro e w' ⟨rfl, hb⟩
    exact ⟨rfl, same hb⟩
end
end Go.Proofs.Ytoedkemjidgbeaa.Dk
