/- Eval: what a stack of bools tells of a constraint's parts. -/
import Derived.Test.YtcpemjolabofnaaExT
import Derived.Test.YtcpemjolabofnaaExQ
namespace Go.Proofs.Ytcpemjolabofnaa.PAll
open Go Go.RowKit Go.Proofs.YtcpemjolabofnaaW.PrintWords Go.Proofs.YtcpemjolabofnaaW.PrintLast Go.Proofs.YtcpemjolabofnaaW.PrintMore Go.Proofs.YtcpemjolabofnaaMy Go.Proofs.Ytcpemjolabofnaa Go.Proofs.YtcpemjolabofnaaPw
set_option linter.unusedVariables false
set_option linter.unusedSimpArgs false
theorem infoBool : (Try.prog.info? 4).map (fun i => (i.zero, i.size, i.bytes)) = some (some (.bool false), 1, 1) := by kernel_rfl
def memB (l : List ByteArray) (a : ByteArray) : Bool := l.any fun x => decide (a = x)
def evStep (on : List ByteArray) (st : List Bool) (s : ByteArray) : Option (List Bool) :=
  if s = sNot ∧ 0 < st.length then some (st.set (st.length - 1) (!st.getD (st.length - 1) false))
  else if s = sAnd ∧ 1 < st.length then some (st.take (st.length - 2) ++ [st.getD (st.length - 2) false && st.getD (st.length - 1) false])
  else if s = sOr ∧ 1 < st.length then some (st.take (st.length - 2) ++ [st.getD (st.length - 2) false || st.getD (st.length - 1) false])
  else if rTag s = true then some (st ++ [memB on s]) else none
def evL (on : List ByteArray) : List ByteArray → List Bool → Bool × Int
  | [], st => if st.length = 1 then (st.getD 0 false, 0) else (false, 4)
  | s :: r, st => match evStep on st s with
    | none => (false, 4)
    | some st' => evL on r st'
theorem ev_stop {on : List ByteArray} {s : ByteArray} {r : List ByteArray} {st : List Bool} (h : evStep on st s = none) : evL on (s :: r) st = (false, 4) := by
  simp only [evL, h]
theorem ev_go {on : List ByteArray} {s : ByteArray} {r : List ByteArray} {st st' : List Bool} {x : Bool × Int} (h : evL on (s :: r) st = x) (h2 : evStep on st s = some st') : evL on r st' = x := by
  simp only [evL, h2] at h
  exact h
theorem lit_sNot {s : ByteArray} : s.toList = ([33] : List UInt8) ↔ s = sNot := by rw [show ([33] : List UInt8) = sNot.toList by rw [ba_toList]; rfl, ba_iff]
theorem lit_sAnd {s : ByteArray} : s.toList = ([38, 38] : List UInt8) ↔ s = sAnd := by rw [show ([38, 38] : List UInt8) = sAnd.toList by rw [ba_toList]; rfl, ba_iff]
theorem lit_sOr {s : ByteArray} : s.toList = ([124, 124] : List UInt8) ↔ s = sOr := by rw [show ([124, 124] : List UInt8) = sOr.toList by rw [ba_toList]; rfl, ba_iff]
theorem bool_some {W : World} {base n c : Nat} {ok : Nat → Prop} {A : Option Addr} {st : List Bool} (h : Kd.R Kd.bool 4 W base ok (.slice A n c) st) (hn : 0 < n) : ∃ g, A = some ⟨g, 0, none⟩ := by
  have hl := (Kd.R_reads' h).1
  obtain ⟨_, inner, ho, hr⟩ := h
  rcases ho.2 with ⟨e, _⟩ | ⟨g, _, _, e, _⟩
  · injection e with e1 e2 e3
    omega
  · injection e with e1 e2 e3
    exact ⟨g, e1⟩
theorem bool_row {W : World} {base g n c : Nat} {ok : Nat → Prop} {st : List Bool} (h : Kd.R Kd.bool 4 W base ok (.slice (some ⟨g, 0, none⟩) n c) st) (i : Int) (h0 : 0 ≤ i) (h1 : i < n) : W.cell? ⟨g, i.toNat, none⟩ = some (.bool (st.getD i.toNat false)) ∧ W.frozen? ⟨g, i.toNat, none⟩ = false := by
  obtain ⟨cs, _, hm, hc, hf⟩ := Kd.R_elem h false i h0 h1
  have hm : cs = [.bool (st.getD i.toNat false)] := hm
  subst hm
  have e1 := hc 0 _ rfl
  have e2 := hf 0
  have hz : Kd.bool.sz = 1 := rfl
  rw [hz, Nat.mul_one, Nat.add_zero] at e1 e2
  exact ⟨e1, e2⟩
theorem contains_l0 (l : List ByteArray) (hl : l.length ≤ 4294967296) (a : ByteArray) : ∀ (m i : Nat), l.length - i = m → i ≤ l.length → ∃ x : Int, Ev (fun k => slices_Index_string_string.l0 k l a (l.length : Int) (i : Int)) x ∧ decide (x ≥ 0) = memB (l.drop i) a
  | 0, i, hm, hi => by
    refine ⟨-1, Ev.step (fun _ => rfl) (ev_neg (by omega) (ev_ret rfl)), ?_⟩
    rw [List.drop_of_length_le (by omega)]
    rfl
  | m + 1, i, hm, hi => by
    have hlt : i < l.length := by omega
    have hd := drop_rdOf ByteArray.empty l i hlt
    by_cases e : a = rdOf ByteArray.empty l (i : Int)
    · refine ⟨(i : Int), Ev.step (fun _ => rfl) (ev_pos (by omega) (ev_pos (by omega) (ev_pos (by omega) (ev_pos (by rw [← e]) (ev_ret rfl))))), ?_⟩
      rw [hd, ← e]
      simp only [memB, List.any_cons, decide_true, Bool.true_or]
      exact decide_eq_true (by omega)
    · obtain ⟨x, hx, hy⟩ := contains_l0 l hl a m (i + 1) (by omega) (by omega)
      refine ⟨x, Ev.step (fun _ => rfl) (ev_pos (by omega) (ev_pos (by omega) (ev_pos (by omega) (ev_neg (fun h => e (ba_inj h)) ?_)))), ?_⟩
      · rw [show wrap64 ((i : Int) + 1) = ((i + 1 : Nat) : Int) by rw [w64 (by omega) (by omega)]; omega]
        exact hx
      · rw [hy, hd]
        simp only [memB, List.any_cons, decide_eq_false e, Bool.false_or]
theorem contains_ev (l : List ByteArray) (hl : l.length ≤ 4294967296) (a : ByteArray) : Ev (fun k => slices_Contains_string_string.f k l a) (memB l a) := by
  obtain ⟨x, hx, hy⟩ := contains_l0 l hl a _ 0 rfl (Nat.zero_le _)
  refine ev_call hx (ev_ret ?_)
  rw [hy, List.drop_zero]
def expr_Eval.f (l0 l1 : List ByteArray) : Option (Bool × Int) := if l0.length ≤ 4294967296 ∧ l1.length ≤ 4294967296 ∧ (∀ s ∈ l0, s.size ≤ 140737488351232) then some (evL l1 l0 []) else none
set_option maxHeartbeats 8000000 in
set_option maxRecDepth 100000 in
theorem eval_walk (A0 : Option Addr) (c0 : Nat) (parts : List ByteArray) (A1 : Option Addr) (c1 : Nat) (on : List ByteArray) (rb : Bool) (re : Int) (w : World) (hr0 : Kd.C Kd.string w A0 parts.length parts) (hc0 : parts.length ≤ c0) (hr1 : Kd.C Kd.string w A1 on.length on) (hc1 : on.length ≤ c1)
    (hl0 : parts.length ≤ 4294967296) (hl1 : on.length ≤ 4294967296) (hsz : ∀ s ∈ parts, s.size ≤ 140737488351232) (h : evL on parts [] = (rb, re)) :
    Calls Try.prog 16 #[.slice A0 parts.length c0, .slice A1 on.length c1] w fun e w' => e = .returned (.tuple #[.bool rb, .int .i64 re]) ∧ Below w.heap.size w w' := by
  have hu := Try.underlying50
  obtain ⟨i0, hi0, _, hsz0, _⟩ := info_parts infoBool
  have HR0 := Aside0.mk hr0
  have HR1 := Aside0.mk hr1
  have HC1 := Aside0.mk hc1
  have HZA := Aside0.mk hsz
  have H := Aside0.mk h
  obtain ⟨n, hn⟩ : ∃ n : Nat, n = parts.length := ⟨_, rfl⟩
  have HNn := Aside0.mk hn
  have HL0 := Aside0.mk (show n ≤ 4294967296 by omega)
  have HL1 := Aside0.mk hl1
  rw [← hn]
  clear hr0 hr1 hc0 hc1 hsz h hl0 hl1 hn
  go_enter Try.func16, Try.ntmps16
  go_wp2
  go_loopg [6, 12] n (fun kq u6 u12 w' => ∃ (q : Nat) (x : Int) (st : List Bool), u12 = .int .i64 x ∧ Aside0 (x = (q : Int) ∧ q ≤ n ∧ n - q ≤ kq ∧ st.length ≤ q) ∧ Aside0 (Kd.R Kd.bool 4 w' w.heap.size (fun _ => True) u6 st) ∧ Aside0 (evL on (parts.drop q) st = (rb, re)) ∧ Aside0 (Below w.heap.size w w'))
  case atStart => exact ⟨0, 0, [], rfl, ⟨rfl, Nat.zero_le _, Nat.le_refl _, Nat.le_refl _⟩, ⟨Kd.R_nil _ _ _ _ _⟩, H, ⟨Below.refl _ _⟩⟩
  case round =>
    obtain ⟨q, x, st, rfl, HX, HV, HE, HB⟩ := hrel
    obtain ⟨A2, k2, e2⟩ := Kd.R_slice HV.out
    subst e2
    have hw_ := HX.out
    have hq4 := HL0.out
    obtain ⟨N, hNl⟩ : ∃ N : Nat, N = st.length := ⟨_, rfl⟩
    rw [← hNl] at HV ⊢
    have HNl := Aside0.mk hNl
    by_cases c1 : q < n
    · obtain ⟨s, hs⟩ : ∃ s, s = rdOf ByteArray.empty parts x := ⟨_, rfl⟩
      have hd := drop_rdOf ByteArray.empty parts q (by have := HNn.out; omega)
      rw [← hw_.1, ← hs] at hd
      have HZ := Aside0.mk (show s.size ≤ 140737488351232 from HZA.out s (by rw [hs, hw_.1]; exact rdOf_mem _ _ _ (by have := HNn.out; omega)))
      rw [hd] at HE
      have HC2 := Kd.C_below HR0.out HB.out
      obtain ⟨adp, rfl, _⟩ := HC2.2.2 (by have := HNn.out; omega)
      have hx := Kd.foot_string HC2 x (by omega) (by have := HNn.out; omega)
      rw [← hs] at hx
      have c1b : decide (x < (n : Int)) = true := decide_eq_true (by omega)
      have px0 : (0 ≤ x) = True := eq_true (by omega)
      have px1 : (x < (n : Int)) = True := eq_true (by omega)
      have HW : Aside0 (wrap64 (x + 1) = ((q + 1 : Nat) : Int)) := ⟨by rw [w64 (by omega) (by omega)]; omega⟩
      have HQ := Aside0.mk c1
      clear HC2 hd hs c1
      by_cases hs1 : s = sNot
      · by_cases hN : 0 < N
        · have t0 : (s.toList == ([33] : List UInt8)) = true := beq_iff_eq.mpr (lit_sNot.2 hs1)
          have t1 : (s.toList == ([38, 38] : List UInt8)) = false := beq_eq_false_iff_ne.mpr (fun h => (by decide : sNot ≠ sAnd) (hs1.symm.trans (lit_sAnd.1 h)))
          have t2 : (s.toList == ([124, 124] : List UInt8)) = false := beq_eq_false_iff_ne.mpr (fun h => (by decide : sNot ≠ sOr) (hs1.symm.trans (lit_sOr.1 h)))
          obtain ⟨y, hy⟩ : ∃ y : Int, y = (N : Int) - 1 := ⟨_, rfl⟩
          have hw1 : wrap64 ((N : Int) - 1) = y := by rw [hy, w64 (by omega) (by omega)]
          have c0N : decide (0 < (N : Int)) = true := decide_eq_true (by omega)
          have c0M : decide (0 < N) = true := decide_eq_true (by omega)
          have p10 : (0 ≤ y) = True := eq_true (by omega)
          have p11 : (y < (N : Int)) = True := eq_true (by omega)
          obtain ⟨g, rfl⟩ := bool_some HV.out (by omega)
          obtain ⟨z1, f1⟩ := bool_row HV.out y (by omega) (by omega)
          have HR := Aside0.mk (show evStep on st s = some (st.set y.toNat (!st.getD y.toNat false)) from by
            unfold evStep
            rw [if_pos ⟨hs1, by omega⟩, show y.toNat = st.length - 1 by omega])
          have HS := Aside0.mk (ev_go HE.out HR.out)
          have HP := Aside0.mk (Kd.R_putg HV.out y (!st.getD y.toNat false))
          have hgb := (Kd.R_own HV.out).choose_spec
          have HG : Aside0 (w.heap.size ≤ g) := ⟨own_base hgb g rfl⟩
          have HL2 := Aside0.mk (show (st.set y.toNat (!st.getD y.toNat false)).length ≤ q + 1 from by rw [List.length_set]; omega)
          clear hNl hw_ hq4 hy hN hs1 HR hgb
          go_wp2
          go_roundg (gk - 1)
          case measure => have := HX.out; have := HQ.out; omega
          case rel => exact ⟨q + 1, _, _, rfl, ⟨HW.out, HQ.out, by have := HX.out; omega, HL2.out⟩, ⟨HP.out.1⟩, HS, ⟨below_set HB.out HG.out⟩⟩
        · have c0N : decide (0 < (N : Int)) = false := decide_eq_false (by omega)
          have c0M : decide (0 < N) = false := decide_eq_false (by omega)
          have HN0 : evStep on st s = none := by
            unfold evStep
            rw [if_neg (fun h => hN (by have := h.2; omega)), if_neg (fun h => (by decide : sNot ≠ sAnd) (hs1.symm.trans h.1)), if_neg (fun h => (by decide : sNot ≠ sOr) (hs1.symm.trans h.1)), if_neg (by rw [hs1]; decide)]
          clear hNl hw_ hq4 hN
          have t0 : (s.toList == ([33] : List UInt8)) = true := beq_iff_eq.mpr (lit_sNot.2 hs1)
          have t1 : (s.toList == ([38, 38] : List UInt8)) = false := beq_eq_false_iff_ne.mpr (fun h => (by decide : sNot ≠ sAnd) (hs1.symm.trans (lit_sAnd.1 h)))
          have t2 : (s.toList == ([124, 124] : List UInt8)) = false := beq_eq_false_iff_ne.mpr (fun h => (by decide : sNot ≠ sOr) (hs1.symm.trans (lit_sOr.1 h)))
          have HS := Aside0.mk (show (rb, re) = (false, 4) from by
            rw [← HE.out, ev_stop]
            exact (HN0 : evStep on st s = none))
          have htag : rTag s = false := by rw [hs1]; rfl
          have HT := Aside0.mk (show expr_Tag.f s = some false from by unfold expr_Tag.f; rw [if_pos HZ.out, htag])
          simp only [Prod.mk.injEq] at HS
          obtain ⟨rfl, rfl⟩ := HS.out
          clear htag hs1
          go_wp2_with (first | (go_at_call 14; refine (expr_Tag.calls s false _ HT.out).mono ?_; rintro e w2 ⟨rfl, hb⟩))
          go_ret2
          exact ⟨rfl, below_then HB.out (below_size HB.out) hb⟩
      · by_cases hs2 : s = sAnd
        · by_cases hN : 1 < N
          · have t0 : (s.toList == ([33] : List UInt8)) = false := beq_eq_false_iff_ne.mpr (fun h => (by decide : sAnd ≠ sNot) (hs2.symm.trans (lit_sNot.1 h)))
            have t1 : (s.toList == ([38, 38] : List UInt8)) = true := beq_iff_eq.mpr (lit_sAnd.2 hs2)
            have t2 : (s.toList == ([124, 124] : List UInt8)) = false := beq_eq_false_iff_ne.mpr (fun h => (by decide : sAnd ≠ sOr) (hs2.symm.trans (lit_sOr.1 h)))
            have hN2 : 1 < N := hN
            obtain ⟨y1, hy1⟩ : ∃ y : Int, y = (N : Int) - 1 := ⟨_, rfl⟩
            obtain ⟨y2, hy2⟩ : ∃ y : Int, y = (N : Int) - 2 := ⟨_, rfl⟩
            have hw1 : wrap64 ((N : Int) - 1) = y1 := by rw [hy1, w64 (by omega) (by omega)]
            have hw2 : wrap64 ((N : Int) - 2) = y2 := by rw [hy2, w64 (by omega) (by omega)]
            have c1N : decide (1 < (N : Int)) = true := decide_eq_true (by omega)
            have c1M : decide (1 < N) = true := decide_eq_true (by omega)
            have p10 : (0 ≤ y1) = True := eq_true (by omega)
            have p11 : (y1 < (N : Int)) = True := eq_true (by omega)
            have p20 : (0 ≤ y2) = True := eq_true (by omega)
            have p21 : (y2 < (N : Int)) = True := eq_true (by omega)
            have p22 : (y2 ≤ (N : Int)) = True := eq_true (by omega)
            obtain ⟨g, rfl⟩ := bool_some HV.out (by omega)
            obtain ⟨z1, _⟩ := bool_row HV.out y1 (by omega) (by omega)
            obtain ⟨z2, _⟩ := bool_row HV.out y2 (by omega) (by omega)
            have hcap := (Kd.R_reads' HV.out).2.1
            have hcut := cut_to (P := Try.prog) 50 4 .i64 Try.underlying50 hi0 (some ⟨g, 0, none⟩) N k2 y2 (by omega) (by omega) hcap
            have h2 := Kd.R_take (m := y2.toNat) HV.out (by omega)
            have HL := Aside0.mk (show ((st.take y2.toNat).length + 1) * 1 ≤ 140737488355328 by rw [List.length_take]; omega)
            have HR := Aside0.mk (show evStep on st s = some (st.take y2.toNat ++ [st.getD y2.toNat false && st.getD y1.toNat false]) from by
              unfold evStep
              rw [if_neg (fun h => (by decide : sAnd ≠ sNot) (hs2.symm.trans h.1)), if_pos ⟨hs2, by omega⟩]
              rw [show y1.toNat = st.length - 1 by omega, show y2.toNat = st.length - 2 by omega])
            have HS := Aside0.mk (ev_go HE.out HR.out)
            have HL2 := Aside0.mk (show (st.take y2.toNat ++ [st.getD y2.toNat false && st.getD y1.toNat false]).length ≤ q + 1 from by rw [List.length_append, List.length_take, List.length_singleton]; omega)
            obtain ⟨ba, hba⟩ : ∃ b, b = st.getD y2.toNat false := ⟨_, rfl⟩
            obtain ⟨bb, hbb⟩ : ∃ b, b = st.getD y1.toNat false := ⟨_, rfl⟩
            rw [← hba, ← hbb] at HS HL2
            rw [← hba] at z2
            rw [← hbb] at z1
            clear hba hbb hs2 hN hN2 HR hcap hNl hw_ hq4 hy1 hy2
            cases ba with
            | true =>
              go_upto_region 10 with (fail)
              replace h2 := Kd.R_drew h2
              have hB := below_drew1 HB.out
              replace z2 := pw_cell_below (below_drew1 (Below.refl _ _)) z2
              replace z1 := pw_cell_below (below_drew1 (Below.refl _ _)) z1
              refine start_ (n := 19) (S := fun w' => w'.cell? ⟨g, y2.toNat, none⟩ = some (.bool true) ∧ w'.cell? ⟨g, y1.toNat, none⟩ = some (.bool bb)) (ds := [17]) #[false, false, false, false, false, false, false, false, false, false, false, false, false, false, false, false, false, false, false] (by kernel_rfl) rfl rfl ⟨z2, z1⟩ (fun hHeld => ?_)
              generalize World.drew _ = wd at h2 hB z2 z1 hHeld ⊢
              refine pure_ (i := 0) (N := some 42) (v := ?_) (a' := ?_) #[true, false, false, false, false, false, false, false, false, false, false, false, false, false, false, false, false, false, false] rfl rfl (by kernel_rfl) (fun _ _ _ h => h) (Or.inl ⟨by rfl, ?_⟩) ?_ ?_
              rotate_left
              · intro w'
                go_simp
                with_reducible rfl
              rotate_left
              · simp only [Act.put, List.setIfInBounds_toArray, List.set_cons_zero, List.set_cons_succ, i64_w, i32_w]
                rfl
              refine pure_ (i := 1) (N := some 43) (v := ?_) (a' := ?_) #[true, true, false, false, false, false, false, false, false, false, false, false, false, false, false, false, false, false, false] rfl rfl (by kernel_rfl) (fun _ _ _ h => h) (Or.inl ⟨by rfl, ?_⟩) ?_ ?_
              rotate_left
              · intro w'
                go_simp
                with_reducible rfl
              rotate_left
              · simp only [Act.put, List.setIfInBounds_toArray, List.set_cons_zero, List.set_cons_succ, i64_w, i32_w]
                rfl
              refine pure_ (i := 2) (N := some 44) (v := ?_) (a' := ?_) #[true, true, true, false, false, false, false, false, false, false, false, false, false, false, false, false, false, false, false] rfl rfl (by kernel_rfl) (fun _ _ _ h => h) (Or.inl ⟨by rfl, ?_⟩) ?_ ?_
              rotate_left
              · intro w'
                go_simp
                with_reducible rfl
              rotate_left
              · simp only [Act.put, List.setIfInBounds_toArray, List.set_cons_zero, List.set_cons_succ, i64_w, i32_w]
                rfl
              refine pure_ (i := 3) (N := some 45) (v := ?_) (a' := ?_) #[true, true, true, true, false, false, false, false, false, false, false, false, false, false, false, false, false, false, false] rfl rfl (by kernel_rfl) (fun _ _ _ h => h) (Or.inl ⟨by rfl, ?_⟩) ?_ ?_
              rotate_left
              · intro w'
                go_simp
                with_reducible rfl
              rotate_left
              · simp only [Act.put, List.setIfInBounds_toArray, List.set_cons_zero, List.set_cons_succ, i64_w, i32_w]
                rfl
              refine pure_ (i := 4) (N := some 46) (v := ?_) (a' := ?_) #[true, true, true, true, true, false, false, false, false, false, false, false, false, false, false, false, false, false, false] rfl rfl (by kernel_rfl) (fun _ _ _ h => h) (Or.inl ⟨by rfl, ?_⟩) ?_ ?_
              rotate_left
              · intro w'
                go_simp
                with_reducible rfl
              rotate_left
              · simp only [Act.put, List.setIfInBounds_toArray, List.set_cons_zero, List.set_cons_succ, i64_w, i32_w]
                rfl
              refine pure_ (i := 5) (N := some 47) (v := ?_) (a' := ?_) #[true, true, true, true, true, true, false, false, false, false, false, false, false, false, false, false, false, false, false] rfl rfl (by kernel_rfl) (fun _ _ _ h => h) (Or.inl ⟨by rfl, ?_⟩) ?_ ?_
              rotate_left
              · intro w'
                go_simp
                with_reducible rfl
              rotate_left
              · simp only [Act.put, List.setIfInBounds_toArray, List.set_cons_zero, List.set_cons_succ, i64_w, i32_w]
                rfl
              refine pure_ (i := 6) (N := some 48) (v := ?_) (a' := ?_) #[true, true, true, true, true, true, true, false, false, false, false, false, false, false, false, false, false, false, false] rfl rfl (by kernel_rfl) (fun _ _ _ h => h) (Or.inl ⟨by rfl, ?_⟩) ?_ ?_
              rotate_left
              · intro w'
                go_simp
                with_reducible rfl
              rotate_left
              · simp only [Act.put, List.setIfInBounds_toArray, List.set_cons_zero, List.set_cons_succ, i64_w, i32_w]
                rfl
              refine pure_ (i := 7) (N := some 49) (v := ?_) (a' := ?_) #[true, true, true, true, true, true, true, true, false, false, false, false, false, false, false, false, false, false, false] rfl rfl (by kernel_rfl) (fun _ _ _ h => h) (Or.inl ⟨by rfl, ?_⟩) ?_ ?_
              rotate_left
              · intro w'
                go_simp
                with_reducible rfl
              rotate_left
              · simp only [Act.put, List.setIfInBounds_toArray, List.set_cons_zero, List.set_cons_succ, i64_w, i32_w]
                rfl
              refine take_ (i := 8) (N := some 50) (v := ?_) (a' := ?_) #[true, true, true, true, true, true, true, true, true, false, false, false, false, false, false, false, false, false, false] rfl rfl (by kernel_rfl) (fun _ _ _ h => h) (Or.inl ⟨by rfl, ?_⟩) hHeld ?_ ?_
              rotate_left
              · rintro w' ⟨s0, s1⟩
                go_simp
                with_reducible rfl
              rotate_left
              · simp only [Act.put, List.setIfInBounds_toArray, List.set_cons_zero, List.set_cons_succ, i64_w, i32_w]
                rfl
              refine pure_ (i := 9) (N := some 51) (v := ?_) (a' := ?_) #[true, true, true, true, true, true, true, true, true, true, false, false, false, false, false, false, false, false, false] rfl rfl (by kernel_rfl) (fun _ _ _ h => h) (Or.inl ⟨by rfl, ?_⟩) ?_ ?_
              rotate_left
              · intro w'
                go_simp
                with_reducible rfl
              rotate_left
              · simp only [Act.put, List.setIfInBounds_toArray, List.set_cons_zero, List.set_cons_succ, i64_w, i32_w]
                rfl
              refine pure_ (i := 10) (N := some 52) (v := ?_) (a' := ?_) #[true, true, true, true, true, true, true, true, true, true, true, false, false, false, false, false, false, false, false] rfl rfl (by kernel_rfl) (fun _ _ _ h => h) (Or.inl ⟨by rfl, ?_⟩) ?_ ?_
              rotate_left
              · intro w'
                go_simp
                with_reducible rfl
              rotate_left
              · simp only [Act.put, List.setIfInBounds_toArray, List.set_cons_zero, List.set_cons_succ, i64_w, i32_w]
                rfl
              refine pure_ (i := 11) (N := some 53) (v := ?_) (a' := ?_) #[true, true, true, true, true, true, true, true, true, true, true, true, false, false, false, false, false, false, false] rfl rfl (by kernel_rfl) (fun _ _ _ h => h) (Or.inl ⟨by rfl, ?_⟩) ?_ ?_
              rotate_left
              · intro w'
                go_simp
                with_reducible rfl
              rotate_left
              · simp only [Act.put, List.setIfInBounds_toArray, List.set_cons_zero, List.set_cons_succ, i64_w, i32_w]
                rfl
              refine pure_ (i := 12) (N := some 54) (v := ?_) (a' := ?_) #[true, true, true, true, true, true, true, true, true, true, true, true, true, false, false, false, false, false, false] rfl rfl (by kernel_rfl) (fun _ _ _ h => h) (Or.inl ⟨by rfl, ?_⟩) ?_ ?_
              rotate_left
              · intro w'
                go_simp
                with_reducible rfl
              rotate_left
              · simp only [Act.put, List.setIfInBounds_toArray, List.set_cons_zero, List.set_cons_succ, i64_w, i32_w]
                rfl
              refine pure_ (i := 13) (N := some 55) (v := ?_) (a' := ?_) #[true, true, true, true, true, true, true, true, true, true, true, true, true, true, false, false, false, false, false] rfl rfl (by kernel_rfl) (fun _ _ _ h => h) (Or.inl ⟨by rfl, ?_⟩) ?_ ?_
              rotate_left
              · intro w'
                go_simp
                with_reducible rfl
              rotate_left
              · simp only [Act.put, List.setIfInBounds_toArray, List.set_cons_zero, List.set_cons_succ, i64_w, i32_w]
                rfl
              refine take_ (i := 14) (N := some 56) (v := ?_) (a' := ?_) #[true, true, true, true, true, true, true, true, true, true, true, true, true, true, true, false, false, false, false] rfl rfl (by kernel_rfl) (fun _ _ _ h => h) (Or.inl ⟨by rfl, ?_⟩) hHeld ?_ ?_
              rotate_left
              · rintro w' ⟨s0, s1⟩
                go_simp
                with_reducible rfl
              rotate_left
              · simp only [Act.put, List.setIfInBounds_toArray, List.set_cons_zero, List.set_cons_succ, i64_w, i32_w]
                rfl
              refine pure_ (i := 15) (N := some 57) (v := ?_) (a' := ?_) #[true, true, true, true, true, true, true, true, true, true, true, true, true, true, true, true, false, false, false] rfl rfl (by kernel_rfl) (fun _ _ _ h => h) (Or.inl ⟨by rfl, ?_⟩) ?_ ?_
              rotate_left
              · intro w'
                go_simp
                with_reducible rfl
              rotate_left
              · simp only [Act.put, List.setIfInBounds_toArray, List.set_cons_zero, List.set_cons_succ, i64_w, i32_w]
                rfl
              refine one_ (i := 16) (N := some 58) #[true, true, true, true, true, true, true, true, true, true, true, true, true, true, true, true, true, false, false] rfl rfl (by kernel_rfl) (by decide) (fun K hK => ?_)
              refine value_ (w1 := ?_) (v := ?_) (by rfl) rfl ?_ ?_
              rotate_left 2
              · go_simp
                constructor
                · rfl
                · rfl
              refine hK.out _ _ ⟨pw_cell_below (below_alloc (Below.refl _ _) _) z2, pw_cell_below (below_alloc (Below.refl _ _) _) z1⟩ (fun hHeld => ?_)
              clear hK K
              refine norm_ (a' := ?_) ?_ ?_
              rotate_left
              · show Act.put _ (some 58) _ = _
                simp only [Act.put, List.setIfInBounds_toArray, List.set_cons_zero, List.set_cons_succ, i64_w, i32_w]
                rfl
              refine last_ (i := 17) (N := some 59) #[true, true, true, true, true, true, true, true, true, true, true, true, true, true, true, true, true, true, false] rfl rfl (by kernel_rfl) (by decide) (fun K hK => ?_)
              refine Kd.R_append_step Kd.bool (w0 := w) w.heap.size (by rfl) (.tmp 45) (.tmp 58) 50 4 (.bool false) 1 rfl Try.underlying50 infoBool rfl (by decide) (by omega) (.slice (some ⟨g, 0, none⟩) y2.toNat k2) (st.take y2.toNat) bb [.bool bb] (fun _ => True) (fun _ => False) rfl rfl ?aP (fun _ hk => hk.elim) ?aF ?aO ?aB ?aS ?aL ?_
              (case aP => exact rfl)
              (case aB => exact hB)
              (case aF => intro k hk; trivial)
              (case aO => exact h2)
              (case aS => exact below_size hB)
              (case aL => exact HL.out)
              intro v1 w1 ho hb hg hat
              refine hK.out _ _ ?_
              clear hK K
              refine norm_ (a' := ?_) ?_ ?_
              rotate_left
              · show Act.put _ (some 59) _ = _
                simp only [Act.put, List.setIfInBounds_toArray, List.set_cons_zero, List.set_cons_succ, i64_w, i32_w]
                rfl
              refine pure_ (i := 18) (N := some 6) (v := ?_) (a' := ?_) #[true, true, true, true, true, true, true, true, true, true, true, true, true, true, true, true, true, true, true] rfl rfl (by kernel_rfl) (fun _ _ _ h => h) (Or.inl ⟨by rfl, ?_⟩) ?_ ?_
              rotate_left
              · intro w'
                go_simp
                with_reducible rfl
              rotate_left
              · simp only [Act.put, List.setIfInBounds_toArray, List.set_cons_zero, List.set_cons_succ, i64_w, i32_w]
                rfl
              refine done_ (by kernel_rfl) ?_
              go_wp2
              go_roundg (gk - 1)
              case measure => have := HX.out; have := HQ.out; omega
              case rel => exact ⟨q + 1, _, _, rfl, ⟨HW.out, HQ.out, by have := HX.out; omega, HL2.out⟩, ⟨ho⟩, ⟨HS.out⟩, ⟨hb⟩⟩
            | false =>
              go_upto_region 10 with (fail)
              replace h2 := Kd.R_drew h2
              have hB := below_drew1 HB.out
              replace z2 := pw_cell_below (below_drew1 (Below.refl _ _)) z2
              replace z1 := pw_cell_below (below_drew1 (Below.refl _ _)) z1
              refine start_ (n := 19) (S := fun w' => w'.cell? ⟨g, y2.toNat, none⟩ = some (.bool false) ∧ w'.cell? ⟨g, y1.toNat, none⟩ = some (.bool bb)) (ds := [17]) #[false, false, false, false, false, false, false, false, false, false, false, false, false, false, false, false, false, false, false] (by kernel_rfl) rfl rfl ⟨z2, z1⟩ (fun hHeld => ?_)
              generalize World.drew _ = wd at h2 hB z2 z1 hHeld ⊢
              refine pure_ (i := 0) (N := some 42) (v := ?_) (a' := ?_) #[true, false, false, false, false, false, false, false, false, false, false, false, false, false, false, false, false, false, false] rfl rfl (by kernel_rfl) (fun _ _ _ h => h) (Or.inl ⟨by rfl, ?_⟩) ?_ ?_
              rotate_left
              · intro w'
                go_simp
                with_reducible rfl
              rotate_left
              · simp only [Act.put, List.setIfInBounds_toArray, List.set_cons_zero, List.set_cons_succ, i64_w, i32_w]
                rfl
              refine pure_ (i := 1) (N := some 43) (v := ?_) (a' := ?_) #[true, true, false, false, false, false, false, false, false, false, false, false, false, false, false, false, false, false, false] rfl rfl (by kernel_rfl) (fun _ _ _ h => h) (Or.inl ⟨by rfl, ?_⟩) ?_ ?_
              rotate_left
              · intro w'
                go_simp
                with_reducible rfl
              rotate_left
              · simp only [Act.put, List.setIfInBounds_toArray, List.set_cons_zero, List.set_cons_succ, i64_w, i32_w]
                rfl
              refine pure_ (i := 2) (N := some 44) (v := ?_) (a' := ?_) #[true, true, true, false, false, false, false, false, false, false, false, false, false, false, false, false, false, false, false] rfl rfl (by kernel_rfl) (fun _ _ _ h => h) (Or.inl ⟨by rfl, ?_⟩) ?_ ?_
              rotate_left
              · intro w'
                go_simp
                with_reducible rfl
              rotate_left
              · simp only [Act.put, List.setIfInBounds_toArray, List.set_cons_zero, List.set_cons_succ, i64_w, i32_w]
                rfl
              refine pure_ (i := 3) (N := some 45) (v := ?_) (a' := ?_) #[true, true, true, true, false, false, false, false, false, false, false, false, false, false, false, false, false, false, false] rfl rfl (by kernel_rfl) (fun _ _ _ h => h) (Or.inl ⟨by rfl, ?_⟩) ?_ ?_
              rotate_left
              · intro w'
                go_simp
                with_reducible rfl
              rotate_left
              · simp only [Act.put, List.setIfInBounds_toArray, List.set_cons_zero, List.set_cons_succ, i64_w, i32_w]
                rfl
              refine pure_ (i := 4) (N := some 46) (v := ?_) (a' := ?_) #[true, true, true, true, true, false, false, false, false, false, false, false, false, false, false, false, false, false, false] rfl rfl (by kernel_rfl) (fun _ _ _ h => h) (Or.inl ⟨by rfl, ?_⟩) ?_ ?_
              rotate_left
              · intro w'
                go_simp
                with_reducible rfl
              rotate_left
              · simp only [Act.put, List.setIfInBounds_toArray, List.set_cons_zero, List.set_cons_succ, i64_w, i32_w]
                rfl
              refine pure_ (i := 5) (N := some 47) (v := ?_) (a' := ?_) #[true, true, true, true, true, true, false, false, false, false, false, false, false, false, false, false, false, false, false] rfl rfl (by kernel_rfl) (fun _ _ _ h => h) (Or.inl ⟨by rfl, ?_⟩) ?_ ?_
              rotate_left
              · intro w'
                go_simp
                with_reducible rfl
              rotate_left
              · simp only [Act.put, List.setIfInBounds_toArray, List.set_cons_zero, List.set_cons_succ, i64_w, i32_w]
                rfl
              refine pure_ (i := 6) (N := some 48) (v := ?_) (a' := ?_) #[true, true, true, true, true, true, true, false, false, false, false, false, false, false, false, false, false, false, false] rfl rfl (by kernel_rfl) (fun _ _ _ h => h) (Or.inl ⟨by rfl, ?_⟩) ?_ ?_
              rotate_left
              · intro w'
                go_simp
                with_reducible rfl
              rotate_left
              · simp only [Act.put, List.setIfInBounds_toArray, List.set_cons_zero, List.set_cons_succ, i64_w, i32_w]
                rfl
              refine pure_ (i := 7) (N := some 49) (v := ?_) (a' := ?_) #[true, true, true, true, true, true, true, true, false, false, false, false, false, false, false, false, false, false, false] rfl rfl (by kernel_rfl) (fun _ _ _ h => h) (Or.inl ⟨by rfl, ?_⟩) ?_ ?_
              rotate_left
              · intro w'
                go_simp
                with_reducible rfl
              rotate_left
              · simp only [Act.put, List.setIfInBounds_toArray, List.set_cons_zero, List.set_cons_succ, i64_w, i32_w]
                rfl
              refine take_ (i := 8) (N := some 50) (v := ?_) (a' := ?_) #[true, true, true, true, true, true, true, true, true, false, false, false, false, false, false, false, false, false, false] rfl rfl (by kernel_rfl) (fun _ _ _ h => h) (Or.inl ⟨by rfl, ?_⟩) hHeld ?_ ?_
              rotate_left
              · rintro w' ⟨s0, s1⟩
                go_simp
                with_reducible rfl
              rotate_left
              · simp only [Act.put, List.setIfInBounds_toArray, List.set_cons_zero, List.set_cons_succ, i64_w, i32_w]
                rfl
              refine pure_ (i := 9) (N := some 51) (v := ?_) (a' := ?_) #[true, true, true, true, true, true, true, true, true, true, false, false, false, false, false, false, false, false, false] rfl rfl (by kernel_rfl) (fun _ _ _ h => h) (Or.inl ⟨by rfl, ?_⟩) ?_ ?_
              rotate_left
              · intro w'
                go_simp
                with_reducible rfl
              rotate_left
              · simp only [Act.put, List.setIfInBounds_toArray, List.set_cons_zero, List.set_cons_succ, i64_w, i32_w]
                rfl
              refine pure_ (i := 10) (N := some 52) (v := undef) (a' := ?_) #[true, true, true, true, true, true, true, true, true, true, true, false, false, false, false, false, false, false, false] rfl rfl (by kernel_rfl) (fun _ _ _ h => h) (Or.inr ⟨by rfl, rfl⟩) ?_ ?_
              rotate_left
              · simp only [Act.put, List.setIfInBounds_toArray, List.set_cons_zero, List.set_cons_succ, i64_w, i32_w]
                rfl
              refine pure_ (i := 11) (N := some 53) (v := undef) (a' := ?_) #[true, true, true, true, true, true, true, true, true, true, true, true, false, false, false, false, false, false, false] rfl rfl (by kernel_rfl) (fun _ _ _ h => h) (Or.inr ⟨by rfl, rfl⟩) ?_ ?_
              rotate_left
              · simp only [Act.put, List.setIfInBounds_toArray, List.set_cons_zero, List.set_cons_succ, i64_w, i32_w]
                rfl
              refine pure_ (i := 12) (N := some 54) (v := undef) (a' := ?_) #[true, true, true, true, true, true, true, true, true, true, true, true, true, false, false, false, false, false, false] rfl rfl (by kernel_rfl) (fun _ _ _ h => h) (Or.inr ⟨by rfl, rfl⟩) ?_ ?_
              rotate_left
              · simp only [Act.put, List.setIfInBounds_toArray, List.set_cons_zero, List.set_cons_succ, i64_w, i32_w]
                rfl
              refine pure_ (i := 13) (N := some 55) (v := undef) (a' := ?_) #[true, true, true, true, true, true, true, true, true, true, true, true, true, true, false, false, false, false, false] rfl rfl (by kernel_rfl) (fun _ _ _ h => h) (Or.inr ⟨by rfl, rfl⟩) ?_ ?_
              rotate_left
              · simp only [Act.put, List.setIfInBounds_toArray, List.set_cons_zero, List.set_cons_succ, i64_w, i32_w]
                rfl
              refine pure_ (i := 14) (N := some 56) (v := undef) (a' := ?_) #[true, true, true, true, true, true, true, true, true, true, true, true, true, true, true, false, false, false, false] rfl rfl (by kernel_rfl) (fun _ _ _ h => h) (Or.inr ⟨by rfl, rfl⟩) ?_ ?_
              rotate_left
              · simp only [Act.put, List.setIfInBounds_toArray, List.set_cons_zero, List.set_cons_succ, i64_w, i32_w]
                rfl
              refine pure_ (i := 15) (N := some 57) (v := ?_) (a' := ?_) #[true, true, true, true, true, true, true, true, true, true, true, true, true, true, true, true, false, false, false] rfl rfl (by kernel_rfl) (fun _ _ _ h => h) (Or.inl ⟨by rfl, ?_⟩) ?_ ?_
              rotate_left
              · intro w'
                go_simp
                with_reducible rfl
              rotate_left
              · simp only [Act.put, List.setIfInBounds_toArray, List.set_cons_zero, List.set_cons_succ, i64_w, i32_w]
                rfl
              refine one_ (i := 16) (N := some 58) #[true, true, true, true, true, true, true, true, true, true, true, true, true, true, true, true, true, false, false] rfl rfl (by kernel_rfl) (by decide) (fun K hK => ?_)
              refine value_ (w1 := ?_) (v := ?_) (by rfl) rfl ?_ ?_
              rotate_left 2
              · go_simp
                constructor
                · rfl
                · rfl
              refine hK.out _ _ ⟨pw_cell_below (below_alloc (Below.refl _ _) _) z2, pw_cell_below (below_alloc (Below.refl _ _) _) z1⟩ (fun hHeld => ?_)
              clear hK K
              refine norm_ (a' := ?_) ?_ ?_
              rotate_left
              · show Act.put _ (some 58) _ = _
                simp only [Act.put, List.setIfInBounds_toArray, List.set_cons_zero, List.set_cons_succ, i64_w, i32_w]
                rfl
              refine last_ (i := 17) (N := some 59) #[true, true, true, true, true, true, true, true, true, true, true, true, true, true, true, true, true, true, false] rfl rfl (by kernel_rfl) (by decide) (fun K hK => ?_)
              refine Kd.R_append_step Kd.bool (w0 := w) w.heap.size (by rfl) (.tmp 45) (.tmp 58) 50 4 (.bool false) 1 rfl Try.underlying50 infoBool rfl (by decide) (by omega) (.slice (some ⟨g, 0, none⟩) y2.toNat k2) (st.take y2.toNat) false [.bool false] (fun _ => True) (fun _ => False) rfl rfl ?aP (fun _ hk => hk.elim) ?aF ?aO ?aB ?aS ?aL ?_
              (case aP => exact rfl)
              (case aB => exact hB)
              (case aF => intro k hk; trivial)
              (case aO => exact h2)
              (case aS => exact below_size hB)
              (case aL => exact HL.out)
              intro v1 w1 ho hb hg hat
              refine hK.out _ _ ?_
              clear hK K
              refine norm_ (a' := ?_) ?_ ?_
              rotate_left
              · show Act.put _ (some 59) _ = _
                simp only [Act.put, List.setIfInBounds_toArray, List.set_cons_zero, List.set_cons_succ, i64_w, i32_w]
                rfl
              refine pure_ (i := 18) (N := some 6) (v := ?_) (a' := ?_) #[true, true, true, true, true, true, true, true, true, true, true, true, true, true, true, true, true, true, true] rfl rfl (by kernel_rfl) (fun _ _ _ h => h) (Or.inl ⟨by rfl, ?_⟩) ?_ ?_
              rotate_left
              · intro w'
                go_simp
                with_reducible rfl
              rotate_left
              · simp only [Act.put, List.setIfInBounds_toArray, List.set_cons_zero, List.set_cons_succ, i64_w, i32_w]
                rfl
              refine done_ (by kernel_rfl) ?_
              go_wp2
              go_roundg (gk - 1)
              case measure => have := HX.out; have := HQ.out; omega
              case rel => exact ⟨q + 1, _, _, rfl, ⟨HW.out, HQ.out, by have := HX.out; omega, HL2.out⟩, ⟨ho⟩, ⟨HS.out⟩, ⟨hb⟩⟩
          · have c0N : decide (1 < (N : Int)) = false := decide_eq_false (by omega)
            have c0M : decide (1 < N) = false := decide_eq_false (by omega)
            have HN0 : evStep on st s = none := by
              unfold evStep
              rw [if_neg (fun h => hs1 h.1), if_neg (fun h => hN (by have := h.2; omega)), if_neg (fun h => (by decide : sAnd ≠ sOr) (hs2.symm.trans h.1)), if_neg (by rw [hs2]; decide)]
            clear hNl hw_ hq4 hN hs1
            have t0 : (s.toList == ([33] : List UInt8)) = false := beq_eq_false_iff_ne.mpr (fun h => (by decide : sAnd ≠ sNot) (hs2.symm.trans (lit_sNot.1 h)))
            have t1 : (s.toList == ([38, 38] : List UInt8)) = true := beq_iff_eq.mpr (lit_sAnd.2 hs2)
            have t2 : (s.toList == ([124, 124] : List UInt8)) = false := beq_eq_false_iff_ne.mpr (fun h => (by decide : sAnd ≠ sOr) (hs2.symm.trans (lit_sOr.1 h)))
            have HS := Aside0.mk (show (rb, re) = (false, 4) from by
              rw [← HE.out, ev_stop]
              exact (HN0 : evStep on st s = none))
            have htag : rTag s = false := by rw [hs2]; rfl
            have HT := Aside0.mk (show expr_Tag.f s = some false from by unfold expr_Tag.f; rw [if_pos HZ.out, htag])
            simp only [Prod.mk.injEq] at HS
            obtain ⟨rfl, rfl⟩ := HS.out
            clear htag hs2
            go_wp2_with (first | (go_at_call 14; refine (expr_Tag.calls s false _ HT.out).mono ?_; rintro e w2 ⟨rfl, hb⟩))
            go_ret2
            exact ⟨rfl, below_then HB.out (below_size HB.out) hb⟩
        · by_cases hs3 : s = sOr
          · by_cases hN : 1 < N
            · have t0 : (s.toList == ([33] : List UInt8)) = false := beq_eq_false_iff_ne.mpr (fun h => (by decide : sOr ≠ sNot) (hs3.symm.trans (lit_sNot.1 h)))
              have t1 : (s.toList == ([38, 38] : List UInt8)) = false := beq_eq_false_iff_ne.mpr (fun h => (by decide : sOr ≠ sAnd) (hs3.symm.trans (lit_sAnd.1 h)))
              have t2 : (s.toList == ([124, 124] : List UInt8)) = true := beq_iff_eq.mpr (lit_sOr.2 hs3)
              have hN2 : 1 < N := hN
              obtain ⟨y1, hy1⟩ : ∃ y : Int, y = (N : Int) - 1 := ⟨_, rfl⟩
              obtain ⟨y2, hy2⟩ : ∃ y : Int, y = (N : Int) - 2 := ⟨_, rfl⟩
              have hw1 : wrap64 ((N : Int) - 1) = y1 := by rw [hy1, w64 (by omega) (by omega)]
              have hw2 : wrap64 ((N : Int) - 2) = y2 := by rw [hy2, w64 (by omega) (by omega)]
              have c1N : decide (1 < (N : Int)) = true := decide_eq_true (by omega)
              have c1M : decide (1 < N) = true := decide_eq_true (by omega)
              have p10 : (0 ≤ y1) = True := eq_true (by omega)
              have p11 : (y1 < (N : Int)) = True := eq_true (by omega)
              have p20 : (0 ≤ y2) = True := eq_true (by omega)
              have p21 : (y2 < (N : Int)) = True := eq_true (by omega)
              have p22 : (y2 ≤ (N : Int)) = True := eq_true (by omega)
              obtain ⟨g, rfl⟩ := bool_some HV.out (by omega)
              obtain ⟨z1, _⟩ := bool_row HV.out y1 (by omega) (by omega)
              obtain ⟨z2, _⟩ := bool_row HV.out y2 (by omega) (by omega)
              have hcap := (Kd.R_reads' HV.out).2.1
              have hcut := cut_to (P := Try.prog) 50 4 .i64 Try.underlying50 hi0 (some ⟨g, 0, none⟩) N k2 y2 (by omega) (by omega) hcap
              have h2 := Kd.R_take (m := y2.toNat) HV.out (by omega)
              have HL := Aside0.mk (show ((st.take y2.toNat).length + 1) * 1 ≤ 140737488355328 by rw [List.length_take]; omega)
              have HR := Aside0.mk (show evStep on st s = some (st.take y2.toNat ++ [st.getD y2.toNat false || st.getD y1.toNat false]) from by
                unfold evStep
                rw [if_neg (fun h => (by decide : sOr ≠ sNot) (hs3.symm.trans h.1)), if_neg (fun h => (by decide : sOr ≠ sAnd) (hs3.symm.trans h.1)), if_pos ⟨hs3, by omega⟩]
                rw [show y1.toNat = st.length - 1 by omega, show y2.toNat = st.length - 2 by omega])
              have HS := Aside0.mk (ev_go HE.out HR.out)
              have HL2 := Aside0.mk (show (st.take y2.toNat ++ [st.getD y2.toNat false || st.getD y1.toNat false]).length ≤ q + 1 from by rw [List.length_append, List.length_take, List.length_singleton]; omega)
              obtain ⟨ba, hba⟩ : ∃ b, b = st.getD y2.toNat false := ⟨_, rfl⟩
              obtain ⟨bb, hbb⟩ : ∃ b, b = st.getD y1.toNat false := ⟨_, rfl⟩
              rw [← hba, ← hbb] at HS HL2
              rw [← hba] at z2
              rw [← hbb] at z1
              clear hba hbb hs3 hN hN2 HR hcap hNl hw_ hq4 hy1 hy2
              cases ba with
              | true =>
                go_upto_region 12 with (fail)
                replace h2 := Kd.R_drew h2
                have hB := below_drew1 HB.out
                replace z2 := pw_cell_below (below_drew1 (Below.refl _ _)) z2
                replace z1 := pw_cell_below (below_drew1 (Below.refl _ _)) z1
                refine start_ (n := 19) (S := fun w' => w'.cell? ⟨g, y2.toNat, none⟩ = some (.bool true) ∧ w'.cell? ⟨g, y1.toNat, none⟩ = some (.bool bb)) (ds := [17]) #[false, false, false, false, false, false, false, false, false, false, false, false, false, false, false, false, false, false, false] (by kernel_rfl) rfl rfl ⟨z2, z1⟩ (fun hHeld => ?_)
                generalize World.drew _ = wd at h2 hB z2 z1 hHeld ⊢
                refine pure_ (i := 0) (N := some 67) (v := ?_) (a' := ?_) #[true, false, false, false, false, false, false, false, false, false, false, false, false, false, false, false, false, false, false] rfl rfl (by kernel_rfl) (fun _ _ _ h => h) (Or.inl ⟨by rfl, ?_⟩) ?_ ?_
                rotate_left
                · intro w'
                  go_simp
                  with_reducible rfl
                rotate_left
                · simp only [Act.put, List.setIfInBounds_toArray, List.set_cons_zero, List.set_cons_succ, i64_w, i32_w]
                  rfl
                refine pure_ (i := 1) (N := some 68) (v := ?_) (a' := ?_) #[true, true, false, false, false, false, false, false, false, false, false, false, false, false, false, false, false, false, false] rfl rfl (by kernel_rfl) (fun _ _ _ h => h) (Or.inl ⟨by rfl, ?_⟩) ?_ ?_
                rotate_left
                · intro w'
                  go_simp
                  with_reducible rfl
                rotate_left
                · simp only [Act.put, List.setIfInBounds_toArray, List.set_cons_zero, List.set_cons_succ, i64_w, i32_w]
                  rfl
                refine pure_ (i := 2) (N := some 69) (v := ?_) (a' := ?_) #[true, true, true, false, false, false, false, false, false, false, false, false, false, false, false, false, false, false, false] rfl rfl (by kernel_rfl) (fun _ _ _ h => h) (Or.inl ⟨by rfl, ?_⟩) ?_ ?_
                rotate_left
                · intro w'
                  go_simp
                  with_reducible rfl
                rotate_left
                · simp only [Act.put, List.setIfInBounds_toArray, List.set_cons_zero, List.set_cons_succ, i64_w, i32_w]
                  rfl
                refine pure_ (i := 3) (N := some 70) (v := ?_) (a' := ?_) #[true, true, true, true, false, false, false, false, false, false, false, false, false, false, false, false, false, false, false] rfl rfl (by kernel_rfl) (fun _ _ _ h => h) (Or.inl ⟨by rfl, ?_⟩) ?_ ?_
                rotate_left
                · intro w'
                  go_simp
                  with_reducible rfl
                rotate_left
                · simp only [Act.put, List.setIfInBounds_toArray, List.set_cons_zero, List.set_cons_succ, i64_w, i32_w]
                  rfl
                refine pure_ (i := 4) (N := some 71) (v := ?_) (a' := ?_) #[true, true, true, true, true, false, false, false, false, false, false, false, false, false, false, false, false, false, false] rfl rfl (by kernel_rfl) (fun _ _ _ h => h) (Or.inl ⟨by rfl, ?_⟩) ?_ ?_
                rotate_left
                · intro w'
                  go_simp
                  with_reducible rfl
                rotate_left
                · simp only [Act.put, List.setIfInBounds_toArray, List.set_cons_zero, List.set_cons_succ, i64_w, i32_w]
                  rfl
                refine pure_ (i := 5) (N := some 72) (v := ?_) (a' := ?_) #[true, true, true, true, true, true, false, false, false, false, false, false, false, false, false, false, false, false, false] rfl rfl (by kernel_rfl) (fun _ _ _ h => h) (Or.inl ⟨by rfl, ?_⟩) ?_ ?_
                rotate_left
                · intro w'
                  go_simp
                  with_reducible rfl
                rotate_left
                · simp only [Act.put, List.setIfInBounds_toArray, List.set_cons_zero, List.set_cons_succ, i64_w, i32_w]
                  rfl
                refine pure_ (i := 6) (N := some 73) (v := ?_) (a' := ?_) #[true, true, true, true, true, true, true, false, false, false, false, false, false, false, false, false, false, false, false] rfl rfl (by kernel_rfl) (fun _ _ _ h => h) (Or.inl ⟨by rfl, ?_⟩) ?_ ?_
                rotate_left
                · intro w'
                  go_simp
                  with_reducible rfl
                rotate_left
                · simp only [Act.put, List.setIfInBounds_toArray, List.set_cons_zero, List.set_cons_succ, i64_w, i32_w]
                  rfl
                refine pure_ (i := 7) (N := some 74) (v := ?_) (a' := ?_) #[true, true, true, true, true, true, true, true, false, false, false, false, false, false, false, false, false, false, false] rfl rfl (by kernel_rfl) (fun _ _ _ h => h) (Or.inl ⟨by rfl, ?_⟩) ?_ ?_
                rotate_left
                · intro w'
                  go_simp
                  with_reducible rfl
                rotate_left
                · simp only [Act.put, List.setIfInBounds_toArray, List.set_cons_zero, List.set_cons_succ, i64_w, i32_w]
                  rfl
                refine take_ (i := 8) (N := some 75) (v := ?_) (a' := ?_) #[true, true, true, true, true, true, true, true, true, false, false, false, false, false, false, false, false, false, false] rfl rfl (by kernel_rfl) (fun _ _ _ h => h) (Or.inl ⟨by rfl, ?_⟩) hHeld ?_ ?_
                rotate_left
                · rintro w' ⟨s0, s1⟩
                  go_simp
                  with_reducible rfl
                rotate_left
                · simp only [Act.put, List.setIfInBounds_toArray, List.set_cons_zero, List.set_cons_succ, i64_w, i32_w]
                  rfl
                refine pure_ (i := 9) (N := some 76) (v := ?_) (a' := ?_) #[true, true, true, true, true, true, true, true, true, true, false, false, false, false, false, false, false, false, false] rfl rfl (by kernel_rfl) (fun _ _ _ h => h) (Or.inl ⟨by rfl, ?_⟩) ?_ ?_
                rotate_left
                · intro w'
                  go_simp
                  with_reducible rfl
                rotate_left
                · simp only [Act.put, List.setIfInBounds_toArray, List.set_cons_zero, List.set_cons_succ, i64_w, i32_w]
                  rfl
                refine pure_ (i := 10) (N := some 77) (v := undef) (a' := ?_) #[true, true, true, true, true, true, true, true, true, true, true, false, false, false, false, false, false, false, false] rfl rfl (by kernel_rfl) (fun _ _ _ h => h) (Or.inr ⟨by rfl, rfl⟩) ?_ ?_
                rotate_left
                · simp only [Act.put, List.setIfInBounds_toArray, List.set_cons_zero, List.set_cons_succ, i64_w, i32_w]
                  rfl
                refine pure_ (i := 11) (N := some 78) (v := undef) (a' := ?_) #[true, true, true, true, true, true, true, true, true, true, true, true, false, false, false, false, false, false, false] rfl rfl (by kernel_rfl) (fun _ _ _ h => h) (Or.inr ⟨by rfl, rfl⟩) ?_ ?_
                rotate_left
                · simp only [Act.put, List.setIfInBounds_toArray, List.set_cons_zero, List.set_cons_succ, i64_w, i32_w]
                  rfl
                refine pure_ (i := 12) (N := some 79) (v := undef) (a' := ?_) #[true, true, true, true, true, true, true, true, true, true, true, true, true, false, false, false, false, false, false] rfl rfl (by kernel_rfl) (fun _ _ _ h => h) (Or.inr ⟨by rfl, rfl⟩) ?_ ?_
                rotate_left
                · simp only [Act.put, List.setIfInBounds_toArray, List.set_cons_zero, List.set_cons_succ, i64_w, i32_w]
                  rfl
                refine pure_ (i := 13) (N := some 80) (v := undef) (a' := ?_) #[true, true, true, true, true, true, true, true, true, true, true, true, true, true, false, false, false, false, false] rfl rfl (by kernel_rfl) (fun _ _ _ h => h) (Or.inr ⟨by rfl, rfl⟩) ?_ ?_
                rotate_left
                · simp only [Act.put, List.setIfInBounds_toArray, List.set_cons_zero, List.set_cons_succ, i64_w, i32_w]
                  rfl
                refine pure_ (i := 14) (N := some 81) (v := undef) (a' := ?_) #[true, true, true, true, true, true, true, true, true, true, true, true, true, true, true, false, false, false, false] rfl rfl (by kernel_rfl) (fun _ _ _ h => h) (Or.inr ⟨by rfl, rfl⟩) ?_ ?_
                rotate_left
                · simp only [Act.put, List.setIfInBounds_toArray, List.set_cons_zero, List.set_cons_succ, i64_w, i32_w]
                  rfl
                refine pure_ (i := 15) (N := some 82) (v := ?_) (a' := ?_) #[true, true, true, true, true, true, true, true, true, true, true, true, true, true, true, true, false, false, false] rfl rfl (by kernel_rfl) (fun _ _ _ h => h) (Or.inl ⟨by rfl, ?_⟩) ?_ ?_
                rotate_left
                · intro w'
                  go_simp
                  with_reducible rfl
                rotate_left
                · simp only [Act.put, List.setIfInBounds_toArray, List.set_cons_zero, List.set_cons_succ, i64_w, i32_w]
                  rfl
                refine one_ (i := 16) (N := some 83) #[true, true, true, true, true, true, true, true, true, true, true, true, true, true, true, true, true, false, false] rfl rfl (by kernel_rfl) (by decide) (fun K hK => ?_)
                refine value_ (w1 := ?_) (v := ?_) (by rfl) rfl ?_ ?_
                rotate_left 2
                · go_simp
                  constructor
                  · rfl
                  · rfl
                refine hK.out _ _ ⟨pw_cell_below (below_alloc (Below.refl _ _) _) z2, pw_cell_below (below_alloc (Below.refl _ _) _) z1⟩ (fun hHeld => ?_)
                clear hK K
                refine norm_ (a' := ?_) ?_ ?_
                rotate_left
                · show Act.put _ (some 83) _ = _
                  simp only [Act.put, List.setIfInBounds_toArray, List.set_cons_zero, List.set_cons_succ, i64_w, i32_w]
                  rfl
                refine last_ (i := 17) (N := some 84) #[true, true, true, true, true, true, true, true, true, true, true, true, true, true, true, true, true, true, false] rfl rfl (by kernel_rfl) (by decide) (fun K hK => ?_)
                refine Kd.R_append_step Kd.bool (w0 := w) w.heap.size (by rfl) (.tmp 70) (.tmp 83) 50 4 (.bool false) 1 rfl Try.underlying50 infoBool rfl (by decide) (by omega) (.slice (some ⟨g, 0, none⟩) y2.toNat k2) (st.take y2.toNat) true [.bool true] (fun _ => True) (fun _ => False) rfl rfl ?aP (fun _ hk => hk.elim) ?aF ?aO ?aB ?aS ?aL ?_
                (case aP => exact rfl)
                (case aB => exact hB)
                (case aF => intro k hk; trivial)
                (case aO => exact h2)
                (case aS => exact below_size hB)
                (case aL => exact HL.out)
                intro v1 w1 ho hb hg hat
                refine hK.out _ _ ?_
                clear hK K
                refine norm_ (a' := ?_) ?_ ?_
                rotate_left
                · show Act.put _ (some 84) _ = _
                  simp only [Act.put, List.setIfInBounds_toArray, List.set_cons_zero, List.set_cons_succ, i64_w, i32_w]
                  rfl
                refine pure_ (i := 18) (N := some 6) (v := ?_) (a' := ?_) #[true, true, true, true, true, true, true, true, true, true, true, true, true, true, true, true, true, true, true] rfl rfl (by kernel_rfl) (fun _ _ _ h => h) (Or.inl ⟨by rfl, ?_⟩) ?_ ?_
                rotate_left
                · intro w'
                  go_simp
                  with_reducible rfl
                rotate_left
                · simp only [Act.put, List.setIfInBounds_toArray, List.set_cons_zero, List.set_cons_succ, i64_w, i32_w]
                  rfl
                refine done_ (by kernel_rfl) ?_
                go_wp2
                go_roundg (gk - 1)
                case measure => have := HX.out; have := HQ.out; omega
                case rel => exact ⟨q + 1, _, _, rfl, ⟨HW.out, HQ.out, by have := HX.out; omega, HL2.out⟩, ⟨ho⟩, ⟨HS.out⟩, ⟨hb⟩⟩
              | false =>
                go_upto_region 12 with (fail)
                replace h2 := Kd.R_drew h2
                have hB := below_drew1 HB.out
                replace z2 := pw_cell_below (below_drew1 (Below.refl _ _)) z2
                replace z1 := pw_cell_below (below_drew1 (Below.refl _ _)) z1
                refine start_ (n := 19) (S := fun w' => w'.cell? ⟨g, y2.toNat, none⟩ = some (.bool false) ∧ w'.cell? ⟨g, y1.toNat, none⟩ = some (.bool bb)) (ds := [17]) #[false, false, false, false, false, false, false, false, false, false, false, false, false, false, false, false, false, false, false] (by kernel_rfl) rfl rfl ⟨z2, z1⟩ (fun hHeld => ?_)
                generalize World.drew _ = wd at h2 hB z2 z1 hHeld ⊢
                refine pure_ (i := 0) (N := some 67) (v := ?_) (a' := ?_) #[true, false, false, false, false, false, false, false, false, false, false, false, false, false, false, false, false, false, false] rfl rfl (by kernel_rfl) (fun _ _ _ h => h) (Or.inl ⟨by rfl, ?_⟩) ?_ ?_
                rotate_left
                · intro w'
                  go_simp
                  with_reducible rfl
                rotate_left
                · simp only [Act.put, List.setIfInBounds_toArray, List.set_cons_zero, List.set_cons_succ, i64_w, i32_w]
                  rfl
                refine pure_ (i := 1) (N := some 68) (v := ?_) (a' := ?_) #[true, true, false, false, false, false, false, false, false, false, false, false, false, false, false, false, false, false, false] rfl rfl (by kernel_rfl) (fun _ _ _ h => h) (Or.inl ⟨by rfl, ?_⟩) ?_ ?_
                rotate_left
                · intro w'
                  go_simp
                  with_reducible rfl
                rotate_left
                · simp only [Act.put, List.setIfInBounds_toArray, List.set_cons_zero, List.set_cons_succ, i64_w, i32_w]
                  rfl
                refine pure_ (i := 2) (N := some 69) (v := ?_) (a' := ?_) #[true, true, true, false, false, false, false, false, false, false, false, false, false, false, false, false, false, false, false] rfl rfl (by kernel_rfl) (fun _ _ _ h => h) (Or.inl ⟨by rfl, ?_⟩) ?_ ?_
                rotate_left
                · intro w'
                  go_simp
                  with_reducible rfl
                rotate_left
                · simp only [Act.put, List.setIfInBounds_toArray, List.set_cons_zero, List.set_cons_succ, i64_w, i32_w]
                  rfl
                refine pure_ (i := 3) (N := some 70) (v := ?_) (a' := ?_) #[true, true, true, true, false, false, false, false, false, false, false, false, false, false, false, false, false, false, false] rfl rfl (by kernel_rfl) (fun _ _ _ h => h) (Or.inl ⟨by rfl, ?_⟩) ?_ ?_
                rotate_left
                · intro w'
                  go_simp
                  with_reducible rfl
                rotate_left
                · simp only [Act.put, List.setIfInBounds_toArray, List.set_cons_zero, List.set_cons_succ, i64_w, i32_w]
                  rfl
                refine pure_ (i := 4) (N := some 71) (v := ?_) (a' := ?_) #[true, true, true, true, true, false, false, false, false, false, false, false, false, false, false, false, false, false, false] rfl rfl (by kernel_rfl) (fun _ _ _ h => h) (Or.inl ⟨by rfl, ?_⟩) ?_ ?_
                rotate_left
                · intro w'
                  go_simp
                  with_reducible rfl
                rotate_left
                · simp only [Act.put, List.setIfInBounds_toArray, List.set_cons_zero, List.set_cons_succ, i64_w, i32_w]
                  rfl
                refine pure_ (i := 5) (N := some 72) (v := ?_) (a' := ?_) #[true, true, true, true, true, true, false, false, false, false, false, false, false, false, false, false, false, false, false] rfl rfl (by kernel_rfl) (fun _ _ _ h => h) (Or.inl ⟨by rfl, ?_⟩) ?_ ?_
                rotate_left
                · intro w'
                  go_simp
                  with_reducible rfl
                rotate_left
                · simp only [Act.put, List.setIfInBounds_toArray, List.set_cons_zero, List.set_cons_succ, i64_w, i32_w]
                  rfl
                refine pure_ (i := 6) (N := some 73) (v := ?_) (a' := ?_) #[true, true, true, true, true, true, true, false, false, false, false, false, false, false, false, false, false, false, false] rfl rfl (by kernel_rfl) (fun _ _ _ h => h) (Or.inl ⟨by rfl, ?_⟩) ?_ ?_
                rotate_left
                · intro w'
                  go_simp
                  with_reducible rfl
                rotate_left
                · simp only [Act.put, List.setIfInBounds_toArray, List.set_cons_zero, List.set_cons_succ, i64_w, i32_w]
                  rfl
                refine pure_ (i := 7) (N := some 74) (v := ?_) (a' := ?_) #[true, true, true, true, true, true, true, true, false, false, false, false, false, false, false, false, false, false, false] rfl rfl (by kernel_rfl) (fun _ _ _ h => h) (Or.inl ⟨by rfl, ?_⟩) ?_ ?_
                rotate_left
                · intro w'
                  go_simp
                  with_reducible rfl
                rotate_left
                · simp only [Act.put, List.setIfInBounds_toArray, List.set_cons_zero, List.set_cons_succ, i64_w, i32_w]
                  rfl
                refine take_ (i := 8) (N := some 75) (v := ?_) (a' := ?_) #[true, true, true, true, true, true, true, true, true, false, false, false, false, false, false, false, false, false, false] rfl rfl (by kernel_rfl) (fun _ _ _ h => h) (Or.inl ⟨by rfl, ?_⟩) hHeld ?_ ?_
                rotate_left
                · rintro w' ⟨s0, s1⟩
                  go_simp
                  with_reducible rfl
                rotate_left
                · simp only [Act.put, List.setIfInBounds_toArray, List.set_cons_zero, List.set_cons_succ, i64_w, i32_w]
                  rfl
                refine pure_ (i := 9) (N := some 76) (v := ?_) (a' := ?_) #[true, true, true, true, true, true, true, true, true, true, false, false, false, false, false, false, false, false, false] rfl rfl (by kernel_rfl) (fun _ _ _ h => h) (Or.inl ⟨by rfl, ?_⟩) ?_ ?_
                rotate_left
                · intro w'
                  go_simp
                  with_reducible rfl
                rotate_left
                · simp only [Act.put, List.setIfInBounds_toArray, List.set_cons_zero, List.set_cons_succ, i64_w, i32_w]
                  rfl
                refine pure_ (i := 10) (N := some 77) (v := ?_) (a' := ?_) #[true, true, true, true, true, true, true, true, true, true, true, false, false, false, false, false, false, false, false] rfl rfl (by kernel_rfl) (fun _ _ _ h => h) (Or.inl ⟨by rfl, ?_⟩) ?_ ?_
                rotate_left
                · intro w'
                  go_simp
                  with_reducible rfl
                rotate_left
                · simp only [Act.put, List.setIfInBounds_toArray, List.set_cons_zero, List.set_cons_succ, i64_w, i32_w]
                  rfl
                refine pure_ (i := 11) (N := some 78) (v := ?_) (a' := ?_) #[true, true, true, true, true, true, true, true, true, true, true, true, false, false, false, false, false, false, false] rfl rfl (by kernel_rfl) (fun _ _ _ h => h) (Or.inl ⟨by rfl, ?_⟩) ?_ ?_
                rotate_left
                · intro w'
                  go_simp
                  with_reducible rfl
                rotate_left
                · simp only [Act.put, List.setIfInBounds_toArray, List.set_cons_zero, List.set_cons_succ, i64_w, i32_w]
                  rfl
                refine pure_ (i := 12) (N := some 79) (v := ?_) (a' := ?_) #[true, true, true, true, true, true, true, true, true, true, true, true, true, false, false, false, false, false, false] rfl rfl (by kernel_rfl) (fun _ _ _ h => h) (Or.inl ⟨by rfl, ?_⟩) ?_ ?_
                rotate_left
                · intro w'
                  go_simp
                  with_reducible rfl
                rotate_left
                · simp only [Act.put, List.setIfInBounds_toArray, List.set_cons_zero, List.set_cons_succ, i64_w, i32_w]
                  rfl
                refine pure_ (i := 13) (N := some 80) (v := ?_) (a' := ?_) #[true, true, true, true, true, true, true, true, true, true, true, true, true, true, false, false, false, false, false] rfl rfl (by kernel_rfl) (fun _ _ _ h => h) (Or.inl ⟨by rfl, ?_⟩) ?_ ?_
                rotate_left
                · intro w'
                  go_simp
                  with_reducible rfl
                rotate_left
                · simp only [Act.put, List.setIfInBounds_toArray, List.set_cons_zero, List.set_cons_succ, i64_w, i32_w]
                  rfl
                refine take_ (i := 14) (N := some 81) (v := ?_) (a' := ?_) #[true, true, true, true, true, true, true, true, true, true, true, true, true, true, true, false, false, false, false] rfl rfl (by kernel_rfl) (fun _ _ _ h => h) (Or.inl ⟨by rfl, ?_⟩) hHeld ?_ ?_
                rotate_left
                · rintro w' ⟨s0, s1⟩
                  go_simp
                  with_reducible rfl
                rotate_left
                · simp only [Act.put, List.setIfInBounds_toArray, List.set_cons_zero, List.set_cons_succ, i64_w, i32_w]
                  rfl
                refine pure_ (i := 15) (N := some 82) (v := ?_) (a' := ?_) #[true, true, true, true, true, true, true, true, true, true, true, true, true, true, true, true, false, false, false] rfl rfl (by kernel_rfl) (fun _ _ _ h => h) (Or.inl ⟨by rfl, ?_⟩) ?_ ?_
                rotate_left
                · intro w'
                  go_simp
                  with_reducible rfl
                rotate_left
                · simp only [Act.put, List.setIfInBounds_toArray, List.set_cons_zero, List.set_cons_succ, i64_w, i32_w]
                  rfl
                refine one_ (i := 16) (N := some 83) #[true, true, true, true, true, true, true, true, true, true, true, true, true, true, true, true, true, false, false] rfl rfl (by kernel_rfl) (by decide) (fun K hK => ?_)
                refine value_ (w1 := ?_) (v := ?_) (by rfl) rfl ?_ ?_
                rotate_left 2
                · go_simp
                  constructor
                  · rfl
                  · rfl
                refine hK.out _ _ ⟨pw_cell_below (below_alloc (Below.refl _ _) _) z2, pw_cell_below (below_alloc (Below.refl _ _) _) z1⟩ (fun hHeld => ?_)
                clear hK K
                refine norm_ (a' := ?_) ?_ ?_
                rotate_left
                · show Act.put _ (some 83) _ = _
                  simp only [Act.put, List.setIfInBounds_toArray, List.set_cons_zero, List.set_cons_succ, i64_w, i32_w]
                  rfl
                refine last_ (i := 17) (N := some 84) #[true, true, true, true, true, true, true, true, true, true, true, true, true, true, true, true, true, true, false] rfl rfl (by kernel_rfl) (by decide) (fun K hK => ?_)
                refine Kd.R_append_step Kd.bool (w0 := w) w.heap.size (by rfl) (.tmp 70) (.tmp 83) 50 4 (.bool false) 1 rfl Try.underlying50 infoBool rfl (by decide) (by omega) (.slice (some ⟨g, 0, none⟩) y2.toNat k2) (st.take y2.toNat) bb [.bool bb] (fun _ => True) (fun _ => False) rfl rfl ?aP (fun _ hk => hk.elim) ?aF ?aO ?aB ?aS ?aL ?_
                (case aP => exact rfl)
                (case aB => exact hB)
                (case aF => intro k hk; trivial)
                (case aO => exact h2)
                (case aS => exact below_size hB)
                (case aL => exact HL.out)
                intro v1 w1 ho hb hg hat
                refine hK.out _ _ ?_
                clear hK K
                refine norm_ (a' := ?_) ?_ ?_
                rotate_left
                · show Act.put _ (some 84) _ = _
                  simp only [Act.put, List.setIfInBounds_toArray, List.set_cons_zero, List.set_cons_succ, i64_w, i32_w]
                  rfl
                refine pure_ (i := 18) (N := some 6) (v := ?_) (a' := ?_) #[true, true, true, true, true, true, true, true, true, true, true, true, true, true, true, true, true, true, true] rfl rfl (by kernel_rfl) (fun _ _ _ h => h) (Or.inl ⟨by rfl, ?_⟩) ?_ ?_
                rotate_left
                · intro w'
                  go_simp
                  with_reducible rfl
                rotate_left
                · simp only [Act.put, List.setIfInBounds_toArray, List.set_cons_zero, List.set_cons_succ, i64_w, i32_w]
                  rfl
                refine done_ (by kernel_rfl) ?_
                go_wp2
                go_roundg (gk - 1)
                case measure => have := HX.out; have := HQ.out; omega
                case rel => exact ⟨q + 1, _, _, rfl, ⟨HW.out, HQ.out, by have := HX.out; omega, HL2.out⟩, ⟨ho⟩, ⟨HS.out⟩, ⟨hb⟩⟩
            · have c0N : decide (1 < (N : Int)) = false := decide_eq_false (by omega)
              have c0M : decide (1 < N) = false := decide_eq_false (by omega)
              have HN0 : evStep on st s = none := by
                unfold evStep
                rw [if_neg (fun h => hs1 h.1), if_neg (fun h => hs2 h.1), if_neg (fun h => hN (by have := h.2; omega)), if_neg (by rw [hs3]; decide)]
              clear hNl hw_ hq4 hN hs1 hs2
              have t0 : (s.toList == ([33] : List UInt8)) = false := beq_eq_false_iff_ne.mpr (fun h => (by decide : sOr ≠ sNot) (hs3.symm.trans (lit_sNot.1 h)))
              have t1 : (s.toList == ([38, 38] : List UInt8)) = false := beq_eq_false_iff_ne.mpr (fun h => (by decide : sOr ≠ sAnd) (hs3.symm.trans (lit_sAnd.1 h)))
              have t2 : (s.toList == ([124, 124] : List UInt8)) = true := beq_iff_eq.mpr (lit_sOr.2 hs3)
              have HS := Aside0.mk (show (rb, re) = (false, 4) from by
                rw [← HE.out, ev_stop]
                exact (HN0 : evStep on st s = none))
              have htag : rTag s = false := by rw [hs3]; rfl
              have HT := Aside0.mk (show expr_Tag.f s = some false from by unfold expr_Tag.f; rw [if_pos HZ.out, htag])
              simp only [Prod.mk.injEq] at HS
              obtain ⟨rfl, rfl⟩ := HS.out
              clear htag hs3
              go_wp2_with (first | (go_at_call 14; refine (expr_Tag.calls s false _ HT.out).mono ?_; rintro e w2 ⟨rfl, hb⟩))
              go_ret2
              exact ⟨rfl, below_then HB.out (below_size HB.out) hb⟩
          · have n0 := hs1
            have n1 := hs2
            have n2 := hs3
            by_cases ct : rTag s = true
            · have t0 : (s.toList == ([33] : List UInt8)) = false := beq_eq_false_iff_ne.mpr (fun h => n0 (lit_sNot.1 h))
              have t1 : (s.toList == ([38, 38] : List UInt8)) = false := beq_eq_false_iff_ne.mpr (fun h => n1 (lit_sAnd.1 h))
              have t2 : (s.toList == ([124, 124] : List UInt8)) = false := beq_eq_false_iff_ne.mpr (fun h => n2 (lit_sOr.1 h))
              have HT := Aside0.mk (show expr_Tag.f s = some true from by unfold expr_Tag.f; rw [if_pos HZ.out, ct])
              have HR := Aside0.mk (show evStep on st s = some (st ++ [memB on s]) from by
                unfold evStep
                rw [if_neg (fun h => hs1 h.1), if_neg (fun h => hs2 h.1), if_neg (fun h => hs3 h.1), if_pos ct])
              have HS := Aside0.mk (ev_go HE.out HR.out)
              have HL2 := Aside0.mk (show (st ++ [memB on s]).length ≤ q + 1 from by rw [List.length_append, List.length_singleton]; omega)
              have HL := Aside0.mk (show (st.length + 1) * 1 ≤ 140737488355328 by omega)
              obtain ⟨K, hK⟩ := contains_ev on HL1.out s
              have HK := Aside0.mk (hK K (Nat.le_refl _))
              obtain ⟨b, hb_⟩ : ∃ b, b = memB on s := ⟨_, rfl⟩
              rw [← hb_] at HS HK HL2
              obtain ⟨m, hm⟩ : ∃ m : Nat, m = on.length := ⟨_, rfl⟩
              have HM := Aside0.mk hm
              rw [← hm]
              clear hNl hw_ hq4 hs1 hs2 hs3 n0 n1 n2 HR hK hb_ ct hm
              go_wp2_with (first | (go_at_call 14; refine (expr_Tag.calls s true _ HT.out).mono ?_; rintro e w2 ⟨rfl, hb⟩; have HB2 := Aside0.mk (below_then HB.out (below_size HB.out) hb); have HV2 := Aside0.mk (Kd.R_below HV.out hb); clear HV HB hb) | (go_at_call 27; rw [HM.out]; refine (slices_Contains_string_string.calls K A1 c1 on s b _ (Kd.C_below HR1.out HB2.out) HC1.out HK.out).mono ?_; rintro e w3 ⟨rfl, ⟨nd, rfl⟩⟩; have HB := Aside0.mk (pw_below_drewN HB2.out nd); have HV := Aside0.mk (Kd.R_drewN HV2.out nd); clear HV2 HB2) | ((with_reducible refine gate_builtin (b := .append) (xs := #[.tmp 88, .tmp 92]) rfl ?_); (try (refine gate_guard (by rfl) ?_; dsimp only)); at_builtin; refine Kd.R_append Kd.bool (w0 := w) w.heap.size rfl (.tmp 88) (.tmp 92) 50 4 (.bool false) 1 rfl Try.underlying50 infoBool rfl (by decide) (by omega) (.slice A2 N k2) st b [.bool b] (fun _ => True) (fun _ => False) rfl rfl ?aP (fun _ hk => hk.elim) ?aF ?aO ?aB ?aS ?aL ?_; (case aP => exact rfl); (case aB => exact HB.out); (case aF => intro k hk; trivial); (case aO => exact HV.out); (case aS => exact below_size HB.out); (case aL => exact HL.out); intro v1 w1 ho hb hg hat))
              go_roundg (gk - 1)
              case measure => have := HX.out; have := HQ.out; omega
              case rel => exact ⟨q + 1, _, _, rfl, ⟨HW.out, HQ.out, by have := HX.out; omega, HL2.out⟩, ⟨ho⟩, HS, ⟨hb⟩⟩
            · have HN0 : evStep on st s = none := by
                unfold evStep
                rw [if_neg (fun h => hs1 h.1), if_neg (fun h => hs2 h.1), if_neg (fun h => hs3 h.1), if_neg ct]
              clear hNl hw_ hq4 hs1 hs2 hs3
              have t0 : (s.toList == ([33] : List UInt8)) = false := beq_eq_false_iff_ne.mpr (fun h => n0 (lit_sNot.1 h))
              have t1 : (s.toList == ([38, 38] : List UInt8)) = false := beq_eq_false_iff_ne.mpr (fun h => n1 (lit_sAnd.1 h))
              have t2 : (s.toList == ([124, 124] : List UInt8)) = false := beq_eq_false_iff_ne.mpr (fun h => n2 (lit_sOr.1 h))
              have HS := Aside0.mk (show (rb, re) = (false, 4) from by
                rw [← HE.out, ev_stop]
                exact (HN0 : evStep on st s = none))
              have htag : rTag s = false := Bool.eq_false_iff.2 ct
              have HT := Aside0.mk (show expr_Tag.f s = some false from by unfold expr_Tag.f; rw [if_pos HZ.out, htag])
              simp only [Prod.mk.injEq] at HS
              obtain ⟨rfl, rfl⟩ := HS.out
              clear htag n0 n1 n2 ct
              go_wp2_with (first | (go_at_call 14; refine (expr_Tag.calls s false _ HT.out).mono ?_; rintro e w2 ⟨rfl, hb⟩))
              go_ret2
              exact ⟨rfl, below_then HB.out (below_size HB.out) hb⟩
    · have c1b : decide (x < (n : Int)) = false := decide_eq_false (by omega)
      have HE2 := HE.out
      rw [List.drop_of_length_le (by have := HNn.out; omega)] at HE2
      simp only [evL] at HE2
      by_cases c3 : st.length = 1
      · rw [if_pos c3] at HE2
        simp only [Prod.mk.injEq] at HE2
        obtain ⟨rfl, rfl⟩ := HE2
        have hN1 : N = 1 := by omega
        subst hN1
        obtain ⟨g, rfl⟩ := bool_some HV.out (by omega)
        have z0 := (bool_row HV.out 0 (by omega) (by omega)).1
        simp only [Int.toNat_zero] at z0
        clear hw_ hq4 c1 c3 hNl
        go_wp2
        go_ret2
        exact ⟨rfl, HB.out⟩
      · rw [if_neg c3] at HE2
        simp only [Prod.mk.injEq] at HE2
        obtain ⟨rfl, rfl⟩ := HE2
        have c3b : ((N : Int) != 1) = true := bne_iff_ne.mpr (by omega)
        have c3c : (N != 1) = true := bne_iff_ne.mpr (by omega)
        clear hw_ hq4 c1 c3 hNl
        go_wp2
        go_ret2
        exact ⟨rfl, HB.out⟩
theorem expr_Eval.calls (A0 : Option Addr) (c0 : Nat) (l0 : List ByteArray) (A1 : Option Addr) (c1 : Nat) (l1 : List ByteArray) (r1 : Bool) (r2 : Int) (w : World) (hr0 : Kd.C Kd.string w A0 l0.length l0) (hc0 : l0.length ≤ c0) (hr1 : Kd.C Kd.string w A1 l1.length l1) (hc1 : l1.length ≤ c1) (h : expr_Eval.f l0 l1 = some (r1, r2)) :
    Calls Try.prog 16 #[.slice A0 l0.length c0, .slice A1 l1.length c1] w fun e w' => e = .returned (.tuple #[.bool r1, .int .i64 r2]) ∧ Below w.heap.size w w' := by
  unfold expr_Eval.f at h
  by_cases c : l0.length ≤ 4294967296 ∧ l1.length ≤ 4294967296 ∧ (∀ s ∈ l0, s.size ≤ 140737488351232)
  · rw [if_pos c] at h
    exact eval_walk A0 c0 l0 A1 c1 l1 r1 r2 w hr0 hc0 hr1 hc1 c.1 c.2.1 c.2.2 (Option.some.inj h)
  · rw [if_neg c] at h
    exact absurd h (by simp)
end Go.Proofs.Ytcpemjolabofnaa.PAll
