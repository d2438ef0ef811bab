/- What a device's small methods do. -/
import Derived.Test.YtoedkemjidgbeaaDkB
import Derived.Test.YtoedkemjidgbeaaPAllx1
namespace Go.Proofs.Ytoedkemjidgbeaa.Dk
open Go Go.RowKit Go.Proofs.YtoedkemjidgbeaaW.PrintWords Go.Proofs.YtoedkemjidgbeaaW.PrintLast Go.Proofs.YtoedkemjidgbeaaW.PrintMore Go.Proofs.YtoedkemjidgbeaaMy Go.Proofs.Ytoedkemjidgbeaa Go.Proofs.YtoedkemjidgbeaaPw Go.Proofs.Ytoedkemjidgbeaa.PAll
attribute [local go_sem] max2_int min2_int max_two min_two max_three min_three
set_option linter.unusedVariables false
set_option linter.unusedSimpArgs false
theorem name_f (s : ByteArray) : disk_name.f s = some (nameOk s) := by
  unfold disk_name.f nameOk
  have e : s.toList = [] ↔ s.size = 0 := by
    rw [ba_toList, List.eq_nil_iff_length_eq_zero]
    rfl
  by_cases c : s.toList = []
  · rw [if_pos c]
    have := e.1 c
    rw [decide_eq_false (by omega)]
  · rw [if_neg c]
    have h : 0 < s.size := Nat.pos_of_ne_zero (fun h => c (e.2 h))
    congr 1
    by_cases c2 : s.size ≤ 32
    · rw [decide_eq_true (by omega), decide_eq_true ⟨h, c2⟩]
    · rw [decide_eq_false (by omega), decide_eq_false (fun h => c2 h.2)]
theorem infoPtr : (Try.prog.info? 62).map (fun i => (i.zero, i.size, i.bytes)) = some (some (.pointer none), 1, 8) := by kernel_rfl
theorem zero_run {P : Program} {t : TypeId} {z : Value} {a b : Nat} (h : (P.info? t).map (fun i => (i.zero, i.size, i.bytes)) = some (some z, a, b)) (w : World) : (zeroValue t).run P w = .ok z w := by
  obtain ⟨i, hi, hz⟩ := Option.map_eq_some_iff.1 h
  simp only [Prod.mk.injEq] at hz
  simp [zeroValue, typeInfo, hi, hz.1]
def fileP (d : DS) (bl : ByteArray → Nat) (s : ByteArray) : Value := if (findF d.files s).isSome then .pointer (some ⟨bl s, 0, none⟩) else .pointer none
section
variable {S : Nat → Prop} {w : World} {g : Nat} {d : DS}
set_option maxHeartbeats 2000000 in
set_option maxRecDepth 100000 in
theorem ready_Q (h : DevAt S w g d) (s : ByteArray) : Calls Try.prog 32 #[.pointer (some ⟨g, 0, none⟩), .string s] w fun e w' => e = .returned (.int .i64 (d.ready s)) ∧ ∃ nd, w' = w.drewN nd := by
  obtain ⟨mb, n, D, bl, vl, h⟩ := h
  have z2 : w.cell? ⟨g, 2, none⟩ = some (.bool d.down) := h.cell 2
  have HN := Aside0.mk (name_f s)
  clear h
  unfold DS.ready
  obtain ⟨dn, hd⟩ : ∃ b, b = d.down := ⟨_, rfl⟩
  rw [← hd] at z2 ⊢
  clear hd
  obtain ⟨nk, hk⟩ : ∃ b, b = nameOk s := ⟨_, rfl⟩
  rw [← hk] at HN ⊢
  clear hk
  cases dn <;> cases nk
  all_goals
    go_enter Try.func32, Try.ntmps32
    go_wp2_with (first | (go_at_call 36; refine (disk_name.calls s _ _ HN.out).mono ?_; rintro e w2 ⟨rfl, ⟨nd, rfl⟩⟩))
    go_ret
    first | exact ⟨by simp, _, rfl⟩ | exact ⟨by simp, 0, rfl⟩
/-- What a device's files keep to. -/
structure DS.Fit (d : DS) : Prop where
  room : d.room ≤ 1048576
  fits : sizes d.files ≤ d.room
  bytes : ∀ f ∈ d.files, ∀ x ∈ f.b, 0 ≤ x ∧ x ≤ 255
/-- What the numbers of a device keep to. -/
structure DS.Ok (d : DS) : Prop extends DS.Fit d where
  acts : 0 ≤ d.acts ∧ d.acts < 4611686018427387904
  fuse : 0 ≤ d.fuse ∧ d.fuse ≤ 9223372036854775807
variable {mb n : Nat} {D : DataW Unit} {bl : ByteArray → Nat} {vl : ByteArray → Value}
theorem DevW.look (h : DevW S w g d mb n D bl vl) (s : ByteArray) (hs : s.size ≤ 32) : (Instr.lookup 59 (.map (some mb)) (.string s) false).run Try.prog w = .ok (fileP d bl s) w := by
  obtain ⟨v, ps, hrun, hv⟩ := World.ownsMap.lookup (t := 59) (e := 62) h.own keyed Try.underlying59 (zero_run infoPtr w) (zd := .nil) (zp := []) rfl (ky_of (s := s) (by omega))
  rw [h.rep.1 s] at hv
  have e : v = fileP d bl s := by
    unfold fileP
    by_cases c : (findF d.files s).isSome = true
    · rw [if_pos c] at hv ⊢
      obtain ⟨f, rfl, e⟩ := ptrR_lit hv
      rw [show bl s = f by omega]
    · rw [if_neg c] at hv ⊢
      exact ptrR_nil hv
  rw [hrun, e]
set_option maxHeartbeats 2000000 in
set_option maxRecDepth 100000 in
theorem there_Q (h : DevW S w g d mb n D bl vl) (s : ByteArray) : Calls Try.prog 34 #[.pointer (some ⟨g, 0, none⟩), .string s] w fun e w' => e = .returned (.tuple #[if d.there s = 0 then .pointer (some ⟨bl s, 0, none⟩) else .pointer none, .int .i64 (d.there s)]) ∧ ∃ nd, w' = w.drewN nd := by
  have z0 : w.cell? ⟨g, 0, none⟩ = some (.map (some mb)) := h.cell 0
  have HR := Aside0.mk (ready_Q h.at s)
  have HW := Aside0.mk h
  clear h
  have hr : d.ready s = 0 → s.size ≤ 32 := by
    unfold DS.ready nameOk
    intro h
    split at h
    · cases h
    · split at h
      · next h2 => exact (of_decide_eq_true h2).2
      · cases h
  obtain ⟨r, hq⟩ : ∃ r, r = d.ready s := ⟨_, rfl⟩
  have ht : d.there s = if r ≠ 0 then r else if (findF d.files s).isSome then 0 else 5 := by rw [hq]; rfl
  rw [← hq] at HR hr
  clear hq
  by_cases c : r = 0
  · subst c
    have hs := hr rfl
    clear hr
    by_cases c2 : (findF d.files s).isSome = true
    · have e : fileP d bl s = .pointer (some ⟨bl s, 0, none⟩) := if_pos c2
      rw [if_neg (by simp), if_pos c2] at ht
      rw [ht, if_pos rfl]
      clear c2 ht
      obtain ⟨x, hx⟩ : ∃ x, x = bl s := ⟨_, rfl⟩
      rw [← hx] at e ⊢
      clear hx
      have HS := Aside0.mk hs
      have HE := Aside0.mk e
      clear hs e
      go_enter Try.func34, Try.ntmps34
      go_wp2_with (first | (go_at_call 32; refine HR.out.mono ?_; rintro e w2 ⟨rfl, ⟨nd, rfl⟩⟩; have hl := (HW.out.drewN nd).look s HS.out; rw [HE.out] at hl))
      go_ret2
      exact ⟨rfl, _, rfl⟩
    · have e : fileP d bl s = .pointer none := if_neg c2
      rw [if_neg (by simp), if_neg c2] at ht
      rw [ht, if_neg (by decide)]
      clear c2 ht
      have HS := Aside0.mk hs
      have HE := Aside0.mk e
      clear hs e
      go_enter Try.func34, Try.ntmps34
      go_wp2_with (first | (go_at_call 32; refine HR.out.mono ?_; rintro e w2 ⟨rfl, ⟨nd, rfl⟩⟩; have hl := (HW.out.drewN nd).look s HS.out; rw [HE.out] at hl))
      go_ret2
      exact ⟨rfl, _, rfl⟩
  · rw [if_pos c] at ht
    rw [ht, if_neg c]
    clear ht
    have cb : (r == 0) = false := beq_eq_false_iff_ne.mpr c
    have cn : (r != 0) = true := bne_iff_ne.mpr c
    clear c hr
    go_enter Try.func34, Try.ntmps34
    go_wp2_with (first | (go_at_call 32; refine HR.out.mono ?_; rintro e w2 ⟨rfl, ⟨nd, rfl⟩⟩))
    go_ret2
    exact ⟨rfl, _, rfl⟩
set_option maxHeartbeats 2000000 in
set_option maxRecDepth 100000 in
theorem act_Q (h : DevW S w g d mb n D bl vl) (hok : d.Ok) : Calls Try.prog 33 #[.pointer (some ⟨g, 0, none⟩)] w fun e w' => e = .returned (.bool d.goes) ∧ DevW S w' g d.act mb n D bl vl ∧ Only S w w' := by
  have z3 : w.cell? ⟨g, 3, none⟩ = some (.int .i64 d.acts) := h.cell 3
  have z4 : w.cell? ⟨g, 4, none⟩ = some (.int .i64 d.fuse) := h.cell 4
  have f3 := h.frozen 3
  have f4 := h.frozen 4
  have ha := w64 (x := d.acts + 1) (by have := hok.acts; omega) (by have := hok.acts; omega)
  have hb := w64 (x := d.fuse - 1) (by have := hok.fuse; omega) (by have := hok.fuse; omega)
  have h3 := h.set_ { d with acts := d.acts + 1 } 3 (.int .i64 (d.acts + 1)) rfl (by simp; omega) rfl
  have o3 := (Only.refl S w).setCell (g := g) (j := 3) (.inl h.sg) (.int .i64 (d.acts + 1))
  by_cases c : d.fuse = 0
  · have cb : (d.fuse == 0) = true := beq_iff_eq.mpr c
    have e1 : d.act = { d with acts := d.acts + 1 } := by
      unfold DS.act
      rw [if_pos c, ← c]
    have e2 : d.goes = false := decide_eq_false (by omega)
    rw [e1, e2]
    have H3 := Aside0.mk h3
    have O3 := Aside0.mk o3
    clear h h3 o3 hok c e1 e2 hb
    go_enter Try.func33, Try.ntmps33
    go_wp2
    go_ret
    exact ⟨rfl, H3.out, O3.out⟩
  · have cb : (d.fuse == 0) = false := beq_eq_false_iff_ne.mpr c
    have e1 : d.act = { d with acts := d.acts + 1, fuse := d.fuse - 1 } := by
      unfold DS.act
      rw [if_neg c]
    have h4 := h3.set_ { d with acts := d.acts + 1, fuse := d.fuse - 1 } 4 (.int .i64 (d.fuse - 1)) rfl (Int.le_refl _) rfl
    have o4 := o3.setCell (g := g) (j := 4) (.inl h.sg) (.int .i64 (d.fuse - 1))
    have e2 : d.goes = (d.fuse - 1 == 0) := by
      unfold DS.goes
      by_cases c1 : d.fuse = 1
      · rw [c1]; rfl
      · rw [decide_eq_false c1, beq_eq_false_iff_ne.mpr (by omega)]
    rw [e1, e2]
    have H4 := Aside0.mk h4
    have O4 := Aside0.mk o4
    clear h h3 o3 hok c e1 e2 h4 o4
    go_enter Try.func33, Try.ntmps33
    go_wp2
    go_ret
    exact ⟨rfl, H4.out, O4.out⟩
end
end Go.Proofs.Ytoedkemjidgbeaa.Dk
