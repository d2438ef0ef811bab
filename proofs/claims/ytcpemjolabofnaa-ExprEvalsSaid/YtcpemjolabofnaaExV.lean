/- The reference's Eval. -/
import Derived.Test.YtcpemjolabofnaaExU
import Derived.Test.YtcpemjolabofnaaPAllx4
namespace Go.Proofs.Ytcpemjolabofnaa.PAll
open Go Go.RowKit Go.Proofs.YtcpemjolabofnaaW.PrintWords Go.Proofs.YtcpemjolabofnaaW.PrintLast Go.Proofs.YtcpemjolabofnaaW.PrintMore Go.Proofs.YtcpemjolabofnaaMy Go.Proofs.Ytcpemjolabofnaa Go.Proofs.YtcpemjolabofnaaPw
set_option linter.unusedVariables false
set_option linter.unusedSimpArgs false
theorem in_l0 (l : List ByteArray) (hl : l.length ≤ 4294967296) (a : ByteArray) : ∀ (m i : Nat), l.length - i = m → i ≤ l.length → Ev (fun k => seicheref13_In.l0 k a l (l.length : Int) (i : Int)) (memB (l.drop i) a)
  | 0, i, hm, hi => by
    refine Ev.step (fun _ => rfl) (ev_neg (by omega) (ev_ret ?_))
    rw [List.drop_of_length_le (by omega)]
    rfl
  | m + 1, i, hm, hi => by
    have hlt : i < l.length := by omega
    have hd := drop_rdOf ByteArray.empty l i hlt
    refine Ev.step (fun _ => rfl) (ev_pos (by omega) (ev_pos (by omega) (ev_pos (by omega) ?_)))
    rw [hd]
    by_cases e : a = rdOf ByteArray.empty l (i : Int)
    · refine ev_pos (by rw [← e]) (ev_ret ?_)
      rw [← e]
      simp [memB]
    · refine ev_neg (fun h => e (ba_inj h).symm) ?_
      rw [show wrap64 ((i : Int) + 1) = ((i + 1 : Nat) : Int) by rw [w64 (by omega) (by omega)]; omega]
      have := in_l0 l hl a m (i + 1) (by omega) (by omega)
      simp only [memB, List.any_cons, decide_eq_false e, Bool.false_or]
      exact this
theorem in_ev (l : List ByteArray) (hl : l.length ≤ 4294967296) (a : ByteArray) : Ev (fun k => seicheref13_In.f k l a) (memB l a) := in_l0 l hl a _ 0 rfl (Nat.zero_le _)
theorem set_last (st : List Bool) (h : 0 < st.length) : st.set (st.length - 1) (!st.getD (st.length - 1) false) = st.take (st.length - 1) ++ [!st.getD (st.length - 1) false] := by
  rw [List.set_eq_take_append_cons_drop, if_pos (by omega), List.drop_of_length_le (by omega)]
theorem alloc_size (W : World) (o : Obj) : (W.alloc o).heap.size = W.heap.size + 1 := by simp [World.alloc, -World.alloc_eq]
theorem row_C {W : World} {base n c : Nat} {ok : Nat → Prop} {A : Option Addr} {st : List Bool} (h : Kd.R Kd.bool 4 W base ok (.slice A n c) st) : Kd.bool.C W A n st := by
  obtain ⟨rfl, _, hC⟩ := Kd.R_reads' h
  exact hC
theorem ne_some {a b : Nat} (h : a ≠ b) : some a ≠ some b := fun e => h (Option.some.inj e)
theorem ne_new {g k n c : Nat} (h : g < k) : some g ≠ (Value.slice (some ⟨k, 0, none⟩) n c).ownBlock := by
  intro e
  have : g = k := Option.some.inj e
  omega
theorem empty_row (W : World) (base : Nat) (hb : base ≤ W.heap.size) : Kd.R Kd.bool 4 (W.alloc (.cells #[] 4 (0, 0))) base (fun _ => True) (.slice (some ⟨W.heap.size, 0, none⟩) 0 0) [] :=
  Kd.R_of_own (h1 := fun _ => rfl) (own_lit_of (enc := Value.bool) W base 4 [] hb (by decide)) (fun _ _ => trivial)
theorem one_row {W : World} {a : Nat} {b : Bool} (h : W.heap[a]? = some (.cells #[.bool b] 4 (0, 0))) : ReadsRow (fun x cs => cs = [Value.bool x]) 1 W (some ⟨a, 0, none⟩) 1 [b] := by
  refine ⟨rfl, by decide, fun _ => ⟨_, rfl, fun j p hj => ?_⟩⟩
  have hj0 : j = 0 := by
    have := (List.getElem?_eq_some_iff.1 hj).1
    simp at this
    exact this
  subst hj0
  simp at hj
  subst hj
  refine ⟨[.bool b], rfl, rfl, fun i u hi => ?_⟩
  have hi0 : i = 0 := by
    have := (List.getElem?_eq_some_iff.1 hi).1
    simp at this
    exact this
  subst hi0
  simp at hi
  subst hi
  rw [add_plain]
  exact (blk_cell h 0).trans rfl
set_option maxHeartbeats 8000000 in
set_option maxRecDepth 100000 in
theorem reval_walk (A0 : Option Addr) (c0 : Nat) (parts : List ByteArray) (A1 : Option Addr) (c1 : Nat) (on : List ByteArray) (rb : Bool) (re : Int) (w : World) (hr0 : Kd.C Kd.string w A0 parts.length parts) (hc0 : parts.length ≤ c0) (hr1 : Kd.C Kd.string w A1 on.length on) (hc1 : on.length ≤ c1)
    (hl0 : parts.length ≤ 4294967296) (hl1 : on.length ≤ 4294967296) (hsz : ∀ s ∈ parts, s.size ≤ 140737488351232) (h : evL on parts [] = (rb, re)) :
    Calls Try.prog 17 #[.slice A0 parts.length c0, .slice A1 on.length c1] w fun e w' => e = .returned (.tuple #[.bool rb, .bool (re == 0)]) ∧ Below w.heap.size w w' := by
  have hu := Try.underlying50
  obtain ⟨i0, hi0, _, hsz0, _⟩ := info_parts infoBool
  have HR0 := Aside0.mk hr0
  have HR1 := Aside0.mk hr1
  have HC1 := Aside0.mk hc1
  have HZA := Aside0.mk hsz
  have H := Aside0.mk h
  obtain ⟨n, hn⟩ : ∃ n : Nat, n = parts.length := ⟨_, rfl⟩
  have HNn := Aside0.mk hn
  have HL0 := Aside0.mk (show n ≤ 4294967296 by omega)
  have HL1 := Aside0.mk hl1
  rw [← hn]
  clear hr0 hr1 hc0 hc1 hsz h hl0 hl1 hn
  go_enter Try.func17, Try.ntmps17
  go_wp2
  go_loopg [6, 12] n (fun kq u6 u12 w' => ∃ (q : Nat) (x : Int) (st : List Bool), u12 = .int .i64 x ∧ Aside0 (x = (q : Int) ∧ q ≤ n ∧ n - q ≤ kq ∧ st.length ≤ q) ∧ Aside0 (Kd.R Kd.bool 4 w' w.heap.size (fun _ => True) u6 st) ∧ Aside0 (evL on (parts.drop q) st = (rb, re)) ∧ Aside0 (Below w.heap.size w w'))
  case atStart => exact ⟨0, 0, [], rfl, ⟨rfl, Nat.zero_le _, Nat.le_refl _, Nat.le_refl _⟩, ⟨Kd.R_nil _ _ _ _ _⟩, H, ⟨Below.refl _ _⟩⟩
  case round =>
    obtain ⟨q, x, st, rfl, HX, HV, HE, HB⟩ := hrel
    obtain ⟨A2, k2, e2⟩ := Kd.R_slice HV.out
    subst e2
    have hw_ := HX.out
    have hq4 := HL0.out
    obtain ⟨N, hNl⟩ : ∃ N : Nat, N = st.length := ⟨_, rfl⟩
    rw [← hNl] at HV ⊢
    have HNl := Aside0.mk hNl
    by_cases c1 : q < n
    · obtain ⟨s, hs⟩ : ∃ s, s = rdOf ByteArray.empty parts x := ⟨_, rfl⟩
      have hd := drop_rdOf ByteArray.empty parts q (by have := HNn.out; omega)
      rw [← hw_.1, ← hs] at hd
      have HZ := Aside0.mk (show s.size ≤ 140737488351232 from HZA.out s (by rw [hs, hw_.1]; exact rdOf_mem _ _ _ (by have := HNn.out; omega)))
      rw [hd] at HE
      have HC2 := Kd.C_below HR0.out HB.out
      obtain ⟨adp, rfl, _⟩ := HC2.2.2 (by have := HNn.out; omega)
      have hx := Kd.foot_string HC2 x (by omega) (by have := HNn.out; omega)
      rw [← hs] at hx
      have c1b : decide (x < (n : Int)) = true := decide_eq_true (by omega)
      have px0 : (0 ≤ x) = True := eq_true (by omega)
      have px1 : (x < (n : Int)) = True := eq_true (by omega)
      obtain ⟨KT, hKT⟩ := refTag_ev s HZ.out
      have HKT := Aside0.mk (show seicheref13_Tag.f KT s = some (rTag s) from hKT KT (Nat.le_refl _))
      clear hKT
      have HW : Aside0 (wrap64 (x + 1) = ((q + 1 : Nat) : Int)) := ⟨by rw [w64 (by omega) (by omega)]; omega⟩
      have HQ := Aside0.mk c1
      clear HC2 hd hs c1
      by_cases hs1 : s = sNot
      · by_cases hN : 0 < N
        · have t0 : (s.toList == ([33] : List UInt8)) = true := beq_iff_eq.mpr (lit_sNot.2 hs1)
          have t1 : (s.toList == ([38, 38] : List UInt8)) = false := beq_eq_false_iff_ne.mpr (fun h => (by decide : sNot ≠ sAnd) (hs1.symm.trans (lit_sAnd.1 h)))
          have t2 : (s.toList == ([124, 124] : List UInt8)) = false := beq_eq_false_iff_ne.mpr (fun h => (by decide : sNot ≠ sOr) (hs1.symm.trans (lit_sOr.1 h)))
          obtain ⟨y, hy⟩ : ∃ y : Int, y = (N : Int) - 1 := ⟨_, rfl⟩
          have hw1 : wrap64 ((N : Int) - 1) = y := by rw [hy, w64 (by omega) (by omega)]
          have c0N : decide (1 ≤ (N : Int)) = true := decide_eq_true (by omega)
          have c0M : decide (1 ≤ N) = true := decide_eq_true (by omega)
          have p10 : (0 ≤ y) = True := eq_true (by omega)
          have p11 : (y < (N : Int)) = True := eq_true (by omega)
          have p12 : (y ≤ (N : Int)) = True := eq_true (by omega)
          obtain ⟨g, rfl⟩ := bool_some HV.out (by omega)
          have hcap := (Kd.R_reads' HV.out).2.1
          have hcut := cut_to (P := Try.prog) 50 4 .i64 Try.underlying50 hi0 (some ⟨g, 0, none⟩) N k2 y (by omega) (by omega) hcap
          have htag : rTag s = false := by rw [hs1]; rfl
          have HT := Aside0.mk (show seicheref13_Tag.f KT s = some false from by rw [HKT.out, htag])
          have HL := Aside0.mk (show st.length * 1 ≤ 8589934592 ∧ y.toNat ≤ 8589934592 ∧ y.toNat ≤ st.length ∧ 0 ≤ y ∧ y < N from by omega)
          have HR := Aside0.mk (show evStep on st s = some (st.take y.toNat ++ [!st.getD y.toNat false]) from by
            unfold evStep
            rw [if_pos ⟨hs1, by omega⟩, show y.toNat = st.length - 1 by omega, set_last st (by omega)])
          have HS := Aside0.mk (ev_go HE.out HR.out)
          have HL2 := Aside0.mk (show (st.take y.toNat ++ [!st.getD y.toNat false]).length ≤ q + 1 from by rw [List.length_append, List.length_take, List.length_singleton]; omega)
          obtain ⟨b0, hb0⟩ : ∃ b, b = st.getD y.toNat false := ⟨_, rfl⟩
          rw [← hb0] at HS HL2
          have HBA := Aside0.mk hb0
          clear hNl hw_ hq4 hy hN hs1 HR hcap hb0 htag
          go_upto_region 9 with (first | (go_at_call 15; refine (seicheref13_Tag.calls KT s false _ HT.out).mono ?_; rintro e w2 ⟨rfl, ⟨nd, rfl⟩⟩))
          replace HB := Aside0.mk (pw_below_drewN HB.out nd)
          replace HV := Aside0.mk (Kd.R_drewN HV.out nd)
          generalize World.drewN _ _ = wr at HB HV ⊢
          obtain ⟨z1, _⟩ := bool_row HV.out y HL.out.2.2.2.1 HL.out.2.2.2.2
          rw [← HBA.out] at z1
          have hltw : g < wr.heap.size := Kd.R_lt HV.out g rfl
          have h2 := Kd.R_take (m := y.toNat) HV.out HL.out.2.2.1
          replace h2 := Kd.R_drew h2
          have hB := below_drew1 HB.out
          have hlt : g < wr.drew.heap.size := hltw
          replace z1 := pw_cell_below (below_drew1 (Below.refl _ _)) z1
          refine start_ (n := 15) (S := fun w' => w'.cell? ⟨g, y.toNat, none⟩ = some (.bool b0)) (ds := [13]) #[false, false, false, false, false, false, false, false, false, false, false, false, false, false, false] (by kernel_rfl) rfl rfl (z1) (fun hHeld => ?_)
          generalize World.drew _ = wd at h2 hB z1 hHeld hlt ⊢
          have B := hB
          have Z := z1
          have L := hlt
          have C := row_C h2
          refine pure_ (i := 1) (N := some 33) (v := ?_) (a' := ?_) #[false, true, false, false, false, false, false, false, false, false, false, false, false, false, false] rfl rfl (by kernel_rfl) (fun _ _ _ h => h) (Or.inl ⟨by rfl, ?_⟩) ?_ ?_
          rotate_left
          · intro w'
            go_simp
            with_reducible rfl
          rotate_left
          · simp only [Act.put, List.setIfInBounds_toArray, List.set_cons_zero, List.set_cons_succ, i64_w, i32_w]
            rfl
          refine pure_ (i := 2) (N := some 34) (v := ?_) (a' := ?_) #[false, true, true, false, false, false, false, false, false, false, false, false, false, false, false] rfl rfl (by kernel_rfl) (fun _ _ _ h => h) (Or.inl ⟨by rfl, ?_⟩) ?_ ?_
          rotate_left
          · intro w'
            go_simp
            with_reducible rfl
          rotate_left
          · simp only [Act.put, List.setIfInBounds_toArray, List.set_cons_zero, List.set_cons_succ, i64_w, i32_w]
            rfl
          refine pure_ (i := 3) (N := some 35) (v := ?_) (a' := ?_) #[false, true, true, true, false, false, false, false, false, false, false, false, false, false, false] rfl rfl (by kernel_rfl) (fun _ _ _ h => h) (Or.inl ⟨by rfl, ?_⟩) ?_ ?_
          rotate_left
          · intro w'
            go_simp
            with_reducible rfl
          rotate_left
          · simp only [Act.put, List.setIfInBounds_toArray, List.set_cons_zero, List.set_cons_succ, i64_w, i32_w]
            rfl
          refine pure_ (i := 4) (N := some 36) (v := ?_) (a' := ?_) #[false, true, true, true, true, false, false, false, false, false, false, false, false, false, false] rfl rfl (by kernel_rfl) (fun _ _ _ h => h) (Or.inl ⟨by rfl, ?_⟩) ?_ ?_
          rotate_left
          · intro w'
            go_simp
            with_reducible rfl
          rotate_left
          · simp only [Act.put, List.setIfInBounds_toArray, List.set_cons_zero, List.set_cons_succ, i64_w, i32_w]
            rfl
          refine pure_ (i := 6) (N := some 38) (v := ?_) (a' := ?_) #[false, true, true, true, true, false, true, false, false, false, false, false, false, false, false] rfl rfl (by kernel_rfl) (fun _ _ _ h => h) (Or.inl ⟨by rfl, ?_⟩) ?_ ?_
          rotate_left
          · intro w'
            go_simp
            with_reducible rfl
          rotate_left
          · simp only [Act.put, List.setIfInBounds_toArray, List.set_cons_zero, List.set_cons_succ, i64_w, i32_w]
            rfl
          refine pure_ (i := 7) (N := some 39) (v := ?_) (a' := ?_) #[false, true, true, true, true, false, true, true, false, false, false, false, false, false, false] rfl rfl (by kernel_rfl) (fun _ _ _ h => h) (Or.inl ⟨by rfl, ?_⟩) ?_ ?_
          rotate_left
          · intro w'
            go_simp
            with_reducible rfl
          rotate_left
          · simp only [Act.put, List.setIfInBounds_toArray, List.set_cons_zero, List.set_cons_succ, i64_w, i32_w]
            rfl
          refine pure_ (i := 8) (N := some 40) (v := ?_) (a' := ?_) #[false, true, true, true, true, false, true, true, true, false, false, false, false, false, false] rfl rfl (by kernel_rfl) (fun _ _ _ h => h) (Or.inl ⟨by rfl, ?_⟩) ?_ ?_
          rotate_left
          · intro w'
            go_simp
            with_reducible rfl
          rotate_left
          · simp only [Act.put, List.setIfInBounds_toArray, List.set_cons_zero, List.set_cons_succ, i64_w, i32_w]
            rfl
          refine pure_ (i := 9) (N := some 41) (v := ?_) (a' := ?_) #[false, true, true, true, true, false, true, true, true, true, false, false, false, false, false] rfl rfl (by kernel_rfl) (fun _ _ _ h => h) (Or.inl ⟨by rfl, ?_⟩) ?_ ?_
          rotate_left
          · intro w'
            go_simp
            with_reducible rfl
          rotate_left
          · simp only [Act.put, List.setIfInBounds_toArray, List.set_cons_zero, List.set_cons_succ, i64_w, i32_w]
            rfl
          refine take_ (i := 10) (N := some 42) (v := ?_) (a' := ?_) #[false, true, true, true, true, false, true, true, true, true, true, false, false, false, false] rfl rfl (by kernel_rfl) (fun _ _ _ h => h) (Or.inl ⟨by rfl, ?_⟩) hHeld ?_ ?_
          rotate_left
          · intro w' s0
            go_simp
            with_reducible rfl
          rotate_left
          · simp only [Act.put, List.setIfInBounds_toArray, List.set_cons_zero, List.set_cons_succ, i64_w, i32_w]
            rfl
          refine pure_ (i := 11) (N := some 43) (v := ?_) (a' := ?_) #[false, true, true, true, true, false, true, true, true, true, true, true, false, false, false] rfl rfl (by kernel_rfl) (fun _ _ _ h => h) (Or.inl ⟨by rfl, ?_⟩) ?_ ?_
          rotate_left
          · intro w'
            go_simp
            with_reducible rfl
          rotate_left
          · simp only [Act.put, List.setIfInBounds_toArray, List.set_cons_zero, List.set_cons_succ, i64_w, i32_w]
            rfl
          refine join_ (σ := Nat × Value × Nat) 2 #[true, true, true, true, true, true, true, true, true, true, true, true, true, false, false] (fun s => [(32, .slice (some ⟨s.2.2, 0, none⟩) 0 0), (37, s.2.1), (44, .slice (some ⟨s.1, 0, none⟩) 1 1)]) (fun s w' => Kd.R Kd.bool 4 w' w.heap.size (fun _ => True) s.2.1 ([] ++ st.take y.toNat) ∧ w'.heap[s.1]? = some (.cells #[.bool (!b0)] 4 (0, 0)) ∧ some s.1 ≠ s.2.1.ownBlock ∧ Below w.heap.size w w' ∧ w'.cell? ⟨g, y.toNat, none⟩ = some (.bool b0)) ?_ ?_
          rotate_left
          · intro hCont
            refine two_ (i := 0) (j := 12) (Ni := some 32) (Nj := some 44) #[true, true, true, true, true, false, true, true, true, true, true, true, false, false, false] #[false, true, true, true, true, false, true, true, true, true, true, true, true, false, false] rfl rfl rfl rfl (by kernel_rfl) (by decide) (by decide) (fun K hK => ?_) (fun K hK => ?_)
            · skip
              refine value_ (w1 := ?_) (v := ?_) (by rfl) rfl ?_ ?_
              rotate_left 2
              · go_simp
                constructor
                · rfl
                · rfl
              have B_0 := below_alloc B (.cells #[] 4 (0, 0))
              have Z_0 := pw_cell_below (below_alloc (Below.refl wd.heap.size wd) (.cells #[] 4 (0, 0))) Z
              have C_0 := Kd.C_below C (below_alloc (Below.refl wd.heap.size wd) (.cells #[] 4 (0, 0)))
              have L_0 : g < (wd.alloc (.cells #[] 4 (0, 0))).heap.size := by simp only [alloc_size]; first | exact Nat.lt_succ_of_lt L | omega
              have E_0 := empty_row wd w.heap.size (below_size B)
              refine hK.out _ _ (Z_0) (fun hHeld => ?_)
              clear hK K
              refine norm_ (a' := ?_) ?_ ?_
              rotate_left
              · show Act.put _ (some 32) _ = _
                simp only [Act.put, List.setIfInBounds_toArray, List.set_cons_zero, List.set_cons_succ, i64_w, i32_w]
                rfl
              refine two_ (i := 5) (j := 12) (Ni := some 37) (Nj := some 44) #[true, true, true, true, true, true, true, true, true, true, true, true, false, false, false] #[true, true, true, true, true, false, true, true, true, true, true, true, true, false, false] rfl rfl rfl rfl (by kernel_rfl) (by decide) (by decide) (fun K hK => ?_) (fun K hK => ?_)
              · skip
                refine Kd.R_append_rows_step Kd.bool (Rr := fun x cs => cs = [Value.bool x]) (w0 := w) w.heap.size (by rfl) (.tmp 32) (.tmp 36) 50 4 (.bool false) 1 rfl Try.underlying50 infoBool rfl (by decide) (by omega) (.slice (some ⟨wd.heap.size, 0, none⟩) 0 0) [] (st.take y.toNat) (some ⟨g, 0, none⟩) y.toNat k2 (fun _ => True) (fun _ => False) rfl rfl (E_0) (C_0) (fun _ _ h => h) (fun _ h => h.elim) (fun _ _ => trivial) (B_0) (below_size (B_0)) (by have := HL.out; simp only [List.length_nil]; omega) ?_
                intro v5 w5 E_0_5 B_0_5 hg5 hat5
                have Z_0_5 := cell_grown hg5 Z_0 (ne_new (by first | exact hlt | (simp only [alloc_size]; omega)))
                refine hK.out _ _ (Z_0_5) (fun hHeld => ?_)
                clear hK K
                refine norm_ (a' := ?_) ?_ ?_
                rotate_left
                · show Act.put _ (some 37) _ = _
                  simp only [Act.put, List.setIfInBounds_toArray, List.set_cons_zero, List.set_cons_succ, i64_w, i32_w]
                  rfl
                refine one_ (i := 12) (N := some 44) #[true, true, true, true, true, true, true, true, true, true, true, true, true, false, false] rfl rfl (by kernel_rfl) (by decide) (fun K hK => ?_)
                refine value_ (w1 := ?_) (v := ?_) (by rfl) rfl ?_ ?_
                rotate_left 2
                · go_simp
                  constructor
                  · rfl
                  · rfl
                have B_0_5_12 := below_alloc B_0_5 (.cells #[.bool (!b0)] 4 (0, 0))
                have Z_0_5_12 := pw_cell_below (below_alloc (Below.refl w5.heap.size w5) (.cells #[.bool (!b0)] 4 (0, 0))) Z_0_5
                have E_0_5_12 := Kd.R_alloc E_0_5 (.cells #[.bool (!b0)] 4 (0, 0))
                have A_0_5_12 := blk_new w5 (.cells #[.bool (!b0)] 4 (0, 0))
                refine hK.out _ _ (Z_0_5_12) (fun hHeld => ?_)
                clear hK K
                refine norm_ (a' := ?_) ?_ ?_
                rotate_left
                · show Act.put _ (some 44) _ = _
                  simp only [Act.put, List.setIfInBounds_toArray, List.set_cons_zero, List.set_cons_succ, i64_w, i32_w]
                  rfl
                exact norm_ (by simp only [putAll, Act.put, List.setIfInBounds_toArray, List.set_cons_zero, List.set_cons_succ]) (hCont ⟨w5.heap.size, v5, wd.heap.size⟩ _ ⟨E_0_5_12, A_0_5_12, (fun h => Nat.lt_irrefl _ (Kd.R_lt E_0_5 _ h.symm)), B_0_5_12, Z_0_5_12⟩)
              · skip
                refine value_ (w1 := ?_) (v := ?_) (by rfl) rfl ?_ ?_
                rotate_left 2
                · go_simp
                  constructor
                  · rfl
                  · rfl
                have B_0_12 := below_alloc B_0 (.cells #[.bool (!b0)] 4 (0, 0))
                have Z_0_12 := pw_cell_below (below_alloc (Below.refl (wd.alloc (.cells #[] 4 (0, 0))).heap.size (wd.alloc (.cells #[] 4 (0, 0)))) (.cells #[.bool (!b0)] 4 (0, 0))) Z_0
                have C_0_12 := Kd.C_below C_0 (below_alloc (Below.refl (wd.alloc (.cells #[] 4 (0, 0))).heap.size (wd.alloc (.cells #[] 4 (0, 0)))) (.cells #[.bool (!b0)] 4 (0, 0)))
                have L_0_12 : g < ((wd.alloc (.cells #[] 4 (0, 0))).alloc (.cells #[.bool (!b0)] 4 (0, 0))).heap.size := by simp only [alloc_size]; first | exact Nat.lt_succ_of_lt L_0 | omega
                have E_0_12 := Kd.R_alloc E_0 (.cells #[.bool (!b0)] 4 (0, 0))
                have A_0_12 := by have h_ := blk_new (wd.alloc (.cells #[] 4 (0, 0))) (.cells #[.bool (!b0)] 4 (0, 0)); rw [alloc_size] at h_; exact h_
                refine hK.out _ _ (Z_0_12) (fun hHeld => ?_)
                clear hK K
                refine norm_ (a' := ?_) ?_ ?_
                rotate_left
                · show Act.put _ (some 44) _ = _
                  simp only [Act.put, List.setIfInBounds_toArray, List.set_cons_zero, List.set_cons_succ, i64_w, i32_w]
                  rfl
                refine one_ (i := 5) (N := some 37) #[true, true, true, true, true, true, true, true, true, true, true, true, true, false, false] rfl rfl (by kernel_rfl) (by decide) (fun K hK => ?_)
                refine Kd.R_append_rows_step Kd.bool (Rr := fun x cs => cs = [Value.bool x]) (w0 := w) w.heap.size (by rfl) (.tmp 32) (.tmp 36) 50 4 (.bool false) 1 rfl Try.underlying50 infoBool rfl (by decide) (by omega) (.slice (some ⟨wd.heap.size, 0, none⟩) 0 0) [] (st.take y.toNat) (some ⟨g, 0, none⟩) y.toNat k2 (fun _ => True) (fun _ => False) rfl rfl (E_0_12) (C_0_12) (fun _ _ h => h) (fun _ h => h.elim) (fun _ _ => trivial) (B_0_12) (below_size (B_0_12)) (by have := HL.out; simp only [List.length_nil]; omega) ?_
                intro v5 w5 E_0_12_5 B_0_12_5 hg5 hat5
                have Z_0_12_5 := cell_grown hg5 Z_0_12 (ne_new (by first | exact hlt | (simp only [alloc_size]; omega)))
                have A_0_12_5 := blk_grown A_0_12 hg5 (ne_some (by simp only [alloc_size]; omega))
                refine hK.out _ _ (Z_0_12_5) (fun hHeld => ?_)
                clear hK K
                refine norm_ (a' := ?_) ?_ ?_
                rotate_left
                · show Act.put _ (some 37) _ = _
                  simp only [Act.put, List.setIfInBounds_toArray, List.set_cons_zero, List.set_cons_succ, i64_w, i32_w]
                  rfl
                exact norm_ (by simp only [putAll, Act.put, List.setIfInBounds_toArray, List.set_cons_zero, List.set_cons_succ]) (hCont ⟨(wd.heap.size + 1), v5, wd.heap.size⟩ _ ⟨E_0_12_5, A_0_12_5, (by rcases hat5 with h | ⟨b, h, hb⟩ <;> rw [h] <;> (first | exact ne_some (by simp only [alloc_size]; omega) | (simp only [alloc_size] at hb ⊢; exact ne_some (by omega)))), B_0_12_5, Z_0_12_5⟩)
            · skip
              refine value_ (w1 := ?_) (v := ?_) (by rfl) rfl ?_ ?_
              rotate_left 2
              · go_simp
                constructor
                · rfl
                · rfl
              have B_12 := below_alloc B (.cells #[.bool (!b0)] 4 (0, 0))
              have Z_12 := pw_cell_below (below_alloc (Below.refl wd.heap.size wd) (.cells #[.bool (!b0)] 4 (0, 0))) Z
              have C_12 := Kd.C_below C (below_alloc (Below.refl wd.heap.size wd) (.cells #[.bool (!b0)] 4 (0, 0)))
              have L_12 : g < (wd.alloc (.cells #[.bool (!b0)] 4 (0, 0))).heap.size := by simp only [alloc_size]; first | exact Nat.lt_succ_of_lt L | omega
              have A_12 := blk_new wd (.cells #[.bool (!b0)] 4 (0, 0))
              refine hK.out _ _ (Z_12) (fun hHeld => ?_)
              clear hK K
              refine norm_ (a' := ?_) ?_ ?_
              rotate_left
              · show Act.put _ (some 44) _ = _
                simp only [Act.put, List.setIfInBounds_toArray, List.set_cons_zero, List.set_cons_succ, i64_w, i32_w]
                rfl
              refine one_ (i := 0) (N := some 32) #[true, true, true, true, true, false, true, true, true, true, true, true, true, false, false] rfl rfl (by kernel_rfl) (by decide) (fun K hK => ?_)
              refine value_ (w1 := ?_) (v := ?_) (by rfl) rfl ?_ ?_
              rotate_left 2
              · go_simp
                constructor
                · rfl
                · rfl
              have B_12_0 := below_alloc B_12 (.cells #[] 4 (0, 0))
              have Z_12_0 := pw_cell_below (below_alloc (Below.refl (wd.alloc (.cells #[.bool (!b0)] 4 (0, 0))).heap.size (wd.alloc (.cells #[.bool (!b0)] 4 (0, 0)))) (.cells #[] 4 (0, 0))) Z_12
              have C_12_0 := Kd.C_below C_12 (below_alloc (Below.refl (wd.alloc (.cells #[.bool (!b0)] 4 (0, 0))).heap.size (wd.alloc (.cells #[.bool (!b0)] 4 (0, 0)))) (.cells #[] 4 (0, 0)))
              have L_12_0 : g < ((wd.alloc (.cells #[.bool (!b0)] 4 (0, 0))).alloc (.cells #[] 4 (0, 0))).heap.size := by simp only [alloc_size]; first | exact Nat.lt_succ_of_lt L_12 | omega
              have E_12_0 := by have h_ := empty_row (wd.alloc (.cells #[.bool (!b0)] 4 (0, 0))) w.heap.size (below_size B_12); rw [alloc_size] at h_; exact h_
              have A_12_0 := blk_alloc A_12 (.cells #[] 4 (0, 0))
              refine hK.out _ _ (Z_12_0) (fun hHeld => ?_)
              clear hK K
              refine norm_ (a' := ?_) ?_ ?_
              rotate_left
              · show Act.put _ (some 32) _ = _
                simp only [Act.put, List.setIfInBounds_toArray, List.set_cons_zero, List.set_cons_succ, i64_w, i32_w]
                rfl
              refine one_ (i := 5) (N := some 37) #[true, true, true, true, true, true, true, true, true, true, true, true, true, false, false] rfl rfl (by kernel_rfl) (by decide) (fun K hK => ?_)
              refine Kd.R_append_rows_step Kd.bool (Rr := fun x cs => cs = [Value.bool x]) (w0 := w) w.heap.size (by rfl) (.tmp 32) (.tmp 36) 50 4 (.bool false) 1 rfl Try.underlying50 infoBool rfl (by decide) (by omega) (.slice (some ⟨(wd.heap.size + 1), 0, none⟩) 0 0) [] (st.take y.toNat) (some ⟨g, 0, none⟩) y.toNat k2 (fun _ => True) (fun _ => False) rfl rfl (E_12_0) (C_12_0) (fun _ _ h => h) (fun _ h => h.elim) (fun _ _ => trivial) (B_12_0) (below_size (B_12_0)) (by have := HL.out; simp only [List.length_nil]; omega) ?_
              intro v5 w5 E_12_0_5 B_12_0_5 hg5 hat5
              have Z_12_0_5 := cell_grown hg5 Z_12_0 (ne_new (by first | exact hlt | (simp only [alloc_size]; omega)))
              have A_12_0_5 := blk_grown A_12_0 hg5 (ne_some (by simp only [alloc_size]; omega))
              refine hK.out _ _ (Z_12_0_5) (fun hHeld => ?_)
              clear hK K
              refine norm_ (a' := ?_) ?_ ?_
              rotate_left
              · show Act.put _ (some 37) _ = _
                simp only [Act.put, List.setIfInBounds_toArray, List.set_cons_zero, List.set_cons_succ, i64_w, i32_w]
                rfl
              exact norm_ (by simp only [putAll, Act.put, List.setIfInBounds_toArray, List.set_cons_zero, List.set_cons_succ]) (hCont ⟨wd.heap.size, v5, (wd.heap.size + 1)⟩ _ ⟨E_12_0_5, A_12_0_5, (by rcases hat5 with h | ⟨b, h, hb⟩ <;> rw [h] <;> (first | exact ne_some (by simp only [alloc_size]; omega) | (simp only [alloc_size] at hb ⊢; exact ne_some (by omega)))), B_12_0_5, Z_12_0_5⟩)
          rintro ⟨a, v5, kE⟩ w5 ⟨ho5, A5, N5, hb5, Z5⟩
          have hHeld := Z5
          refine norm_ (a' := ?_) ?_ ?_
          rotate_left
          · simp only [putAll, Act.put, List.setIfInBounds_toArray, List.set_cons_zero, List.set_cons_succ]
            rfl
          refine last_ (i := 13) (N := some 45) #[true, true, true, true, true, true, true, true, true, true, true, true, true, true, false] rfl rfl (by kernel_rfl) (by decide) (fun K hK => ?_)
          refine Kd.R_append_rows_step Kd.bool (Rr := fun x cs => cs = [Value.bool x]) (w0 := w) w.heap.size (by rfl) (.tmp 37) (.tmp 44) 50 4 (.bool false) 1 rfl Try.underlying50 infoBool rfl (by decide) (by omega) (v5) ([] ++ st.take y.toNat) [!b0] (some ⟨a, 0, none⟩) 1 1 (fun _ => True) (fun _ => False) rfl rfl (ho5) (one_row A5) (fun _ _ h => h) (fun _ h => h.elim) (fun _ _ => trivial) (hb5) (below_size (hb5)) (by have := HL.out; simp only [List.nil_append, List.length_take]; omega) ?_
          intro v1 w1 ho hb hg hat
          refine hK.out _ _ ?_
          clear hK K
          refine norm_ (a' := ?_) ?_ ?_
          rotate_left
          · show Act.put _ (some 45) _ = _
            simp only [Act.put, List.setIfInBounds_toArray, List.set_cons_zero, List.set_cons_succ, i64_w, i32_w]
            rfl
          refine pure_ (i := 14) (N := some 6) (v := ?_) (a' := ?_) #[true, true, true, true, true, true, true, true, true, true, true, true, true, true, true] rfl rfl (by kernel_rfl) (fun _ _ _ h => h) (Or.inl ⟨by rfl, ?_⟩) ?_ ?_
          rotate_left
          · intro w'
            go_simp
            with_reducible rfl
          rotate_left
          · simp only [Act.put, List.setIfInBounds_toArray, List.set_cons_zero, List.set_cons_succ, i64_w, i32_w]
            rfl
          refine done_ (by kernel_rfl) ?_
          rw [List.nil_append] at ho
          go_wp2
          go_roundg (gk - 1)
          case measure => have := HX.out; have := HQ.out; omega
          case rel => exact ⟨q + 1, _, _, rfl, ⟨HW.out, HQ.out, by have := HX.out; omega, HL2.out⟩, ⟨ho⟩, HS, ⟨hb⟩⟩
        · have c0N : decide (1 ≤ (N : Int)) = false := decide_eq_false (by omega)
          have c0M : decide (1 ≤ N) = false := decide_eq_false (by omega)
          have HN0 : evStep on st s = none := by
            unfold evStep
            rw [if_neg (fun h => hN (by have := h.2; omega)), if_neg (fun h => (by decide : sNot ≠ sAnd) (hs1.symm.trans h.1)), if_neg (fun h => (by decide : sNot ≠ sOr) (hs1.symm.trans h.1)), if_neg (by rw [hs1]; decide)]
          clear hNl hw_ hq4 hN
          have t0 : (s.toList == ([33] : List UInt8)) = true := beq_iff_eq.mpr (lit_sNot.2 hs1)
          have t1 : (s.toList == ([38, 38] : List UInt8)) = false := beq_eq_false_iff_ne.mpr (fun h => (by decide : sNot ≠ sAnd) (hs1.symm.trans (lit_sAnd.1 h)))
          have t2 : (s.toList == ([124, 124] : List UInt8)) = false := beq_eq_false_iff_ne.mpr (fun h => (by decide : sNot ≠ sOr) (hs1.symm.trans (lit_sOr.1 h)))
          have HS := Aside0.mk (show (rb, re) = (false, 4) from by
            rw [← HE.out, ev_stop]
            exact (HN0 : evStep on st s = none))
          have htag : rTag s = false := by rw [hs1]; rfl
          have HT := Aside0.mk (show seicheref13_Tag.f KT s = some false from by rw [HKT.out, htag])
          simp only [Prod.mk.injEq] at HS
          obtain ⟨rfl, rfl⟩ := HS.out
          clear htag hs1
          go_wp2_with (first | (go_at_call 15; refine (seicheref13_Tag.calls KT s false _ HT.out).mono ?_; rintro e w2 ⟨rfl, ⟨nd, rfl⟩⟩))
          go_ret2
          exact ⟨rfl, pw_below_drewN HB.out _⟩
      · by_cases hs2 : s = sAnd
        · by_cases hN : 1 < N
          · have t0 : (s.toList == ([33] : List UInt8)) = false := beq_eq_false_iff_ne.mpr (fun h => (by decide : sAnd ≠ sNot) (hs2.symm.trans (lit_sNot.1 h)))
            have t1 : (s.toList == ([38, 38] : List UInt8)) = true := beq_iff_eq.mpr (lit_sAnd.2 hs2)
            have t2 : (s.toList == ([124, 124] : List UInt8)) = false := beq_eq_false_iff_ne.mpr (fun h => (by decide : sAnd ≠ sOr) (hs2.symm.trans (lit_sOr.1 h)))
            have hN2 : 1 < N := hN
            obtain ⟨y1, hy1⟩ : ∃ y : Int, y = (N : Int) - 1 := ⟨_, rfl⟩
            obtain ⟨y2, hy2⟩ : ∃ y : Int, y = (N : Int) - 2 := ⟨_, rfl⟩
            have hw1 : wrap64 ((N : Int) - 1) = y1 := by rw [hy1, w64 (by omega) (by omega)]
            have hw2 : wrap64 ((N : Int) - 2) = y2 := by rw [hy2, w64 (by omega) (by omega)]
            have c1N : decide (2 ≤ (N : Int)) = true := decide_eq_true (by omega)
            have c1M : decide (2 ≤ N) = true := decide_eq_true (by omega)
            have p10 : (0 ≤ y1) = True := eq_true (by omega)
            have p11 : (y1 < (N : Int)) = True := eq_true (by omega)
            have p20 : (0 ≤ y2) = True := eq_true (by omega)
            have p21 : (y2 < (N : Int)) = True := eq_true (by omega)
            have p22 : (y2 ≤ (N : Int)) = True := eq_true (by omega)
            obtain ⟨g, rfl⟩ := bool_some HV.out (by omega)
            have hcap := (Kd.R_reads' HV.out).2.1
            have hcut := cut_to (P := Try.prog) 50 4 .i64 Try.underlying50 hi0 (some ⟨g, 0, none⟩) N k2 y2 (by omega) (by omega) hcap
            have htag : rTag s = false := by rw [hs2]; rfl
            have HT := Aside0.mk (show seicheref13_Tag.f KT s = some false from by rw [HKT.out, htag])
            have HL := Aside0.mk (show st.length * 1 ≤ 8589934592 ∧ y2.toNat ≤ 8589934592 ∧ y2.toNat ≤ st.length ∧ (y1.toNat : Int) = y1 ∧ 0 ≤ y1 ∧ 0 ≤ y2 ∧ y1 < N ∧ y2 < N from by omega)
            have HR := Aside0.mk (show evStep on st s = some (st.take y2.toNat ++ [st.getD y2.toNat false && st.getD y1.toNat false]) from by
              unfold evStep
              rw [if_neg (fun h => (by decide : sAnd ≠ sNot) (hs2.symm.trans h.1)), if_pos ⟨hs2, by omega⟩]
              rw [show y1.toNat = st.length - 1 by omega, show y2.toNat = st.length - 2 by omega])
            have HS := Aside0.mk (ev_go HE.out HR.out)
            have HL2 := Aside0.mk (show (st.take y2.toNat ++ [st.getD y2.toNat false && st.getD y1.toNat false]).length ≤ q + 1 from by rw [List.length_append, List.length_take, List.length_singleton]; omega)
            obtain ⟨ba, hba⟩ : ∃ b, b = st.getD y2.toNat false := ⟨_, rfl⟩
            obtain ⟨bb, hbb⟩ : ∃ b, b = st.getD y1.toNat false := ⟨_, rfl⟩
            rw [← hba, ← hbb] at HS HL2
            have HBA := Aside0.mk hba
            have HBB := Aside0.mk hbb
            clear hba hbb hs2 hN hN2 HR hcap hNl hw_ hq4 hy1 hy2 htag
            cases ba with
            | true =>
              go_upto_region 11 with (first | (go_at_call 15; refine (seicheref13_Tag.calls KT s false _ HT.out).mono ?_; rintro e w2 ⟨rfl, ⟨nd, rfl⟩⟩))
              replace HB := Aside0.mk (pw_below_drewN HB.out nd)
              replace HV := Aside0.mk (Kd.R_drewN HV.out nd)
              generalize World.drewN _ _ = wr at HB HV ⊢
              obtain ⟨z1, _⟩ := bool_row HV.out y1 HL.out.2.2.2.2.1 HL.out.2.2.2.2.2.2.1
              obtain ⟨z2, _⟩ := bool_row HV.out y2 HL.out.2.2.2.2.2.1 HL.out.2.2.2.2.2.2.2
              rw [← HBB.out] at z1
              rw [← HBA.out] at z2
              have hltw : g < wr.heap.size := Kd.R_lt HV.out g rfl
              have h2 := Kd.R_take (m := y2.toNat) HV.out HL.out.2.2.1
              replace h2 := Kd.R_drew h2
              have hB := below_drew1 HB.out
              have hlt : g < wr.drew.heap.size := hltw
              replace z2 := pw_cell_below (below_drew1 (Below.refl _ _)) z2
              replace z1 := pw_cell_below (below_drew1 (Below.refl _ _)) z1
              refine start_ (n := 21) (S := fun w' => w'.cell? ⟨g, y2.toNat, none⟩ = some (.bool true) ∧ w'.cell? ⟨g, y1.toNat, none⟩ = some (.bool bb)) (ds := [19]) #[false, false, false, false, false, false, false, false, false, false, false, false, false, false, false, false, false, false, false, false, false] (by kernel_rfl) rfl rfl ⟨z2, z1⟩ (fun hHeld => ?_)
              generalize World.drew _ = wd at h2 hB z2 z1 hHeld hlt ⊢
              refine pure_ (i := 1) (N := some 53) (v := ?_) (a' := ?_) #[false, true, false, false, false, false, false, false, false, false, false, false, false, false, false, false, false, false, false, false, false] rfl rfl (by kernel_rfl) (fun _ _ _ h => h) (Or.inl ⟨by rfl, ?_⟩) ?_ ?_
              rotate_left
              · intro w'
                go_simp
                with_reducible rfl
              rotate_left
              · simp only [Act.put, List.setIfInBounds_toArray, List.set_cons_zero, List.set_cons_succ, i64_w, i32_w]
                rfl
              refine pure_ (i := 2) (N := some 54) (v := ?_) (a' := ?_) #[false, true, true, false, false, false, false, false, false, false, false, false, false, false, false, false, false, false, false, false, false] rfl rfl (by kernel_rfl) (fun _ _ _ h => h) (Or.inl ⟨by rfl, ?_⟩) ?_ ?_
              rotate_left
              · intro w'
                go_simp
                with_reducible rfl
              rotate_left
              · simp only [Act.put, List.setIfInBounds_toArray, List.set_cons_zero, List.set_cons_succ, i64_w, i32_w]
                rfl
              refine pure_ (i := 3) (N := some 55) (v := ?_) (a' := ?_) #[false, true, true, true, false, false, false, false, false, false, false, false, false, false, false, false, false, false, false, false, false] rfl rfl (by kernel_rfl) (fun _ _ _ h => h) (Or.inl ⟨by rfl, ?_⟩) ?_ ?_
              rotate_left
              · intro w'
                go_simp
                with_reducible rfl
              rotate_left
              · simp only [Act.put, List.setIfInBounds_toArray, List.set_cons_zero, List.set_cons_succ, i64_w, i32_w]
                rfl
              refine pure_ (i := 4) (N := some 56) (v := ?_) (a' := ?_) #[false, true, true, true, true, false, false, false, false, false, false, false, false, false, false, false, false, false, false, false, false] rfl rfl (by kernel_rfl) (fun _ _ _ h => h) (Or.inl ⟨by rfl, ?_⟩) ?_ ?_
              rotate_left
              · intro w'
                go_simp
                with_reducible rfl
              rotate_left
              · simp only [Act.put, List.setIfInBounds_toArray, List.set_cons_zero, List.set_cons_succ, i64_w, i32_w]
                rfl
              refine pure_ (i := 6) (N := some 58) (v := ?_) (a' := ?_) #[false, true, true, true, true, false, true, false, false, false, false, false, false, false, false, false, false, false, false, false, false] rfl rfl (by kernel_rfl) (fun _ _ _ h => h) (Or.inl ⟨by rfl, ?_⟩) ?_ ?_
              rotate_left
              · intro w'
                go_simp
                with_reducible rfl
              rotate_left
              · simp only [Act.put, List.setIfInBounds_toArray, List.set_cons_zero, List.set_cons_succ, i64_w, i32_w]
                rfl
              refine pure_ (i := 7) (N := some 59) (v := ?_) (a' := ?_) #[false, true, true, true, true, false, true, true, false, false, false, false, false, false, false, false, false, false, false, false, false] rfl rfl (by kernel_rfl) (fun _ _ _ h => h) (Or.inl ⟨by rfl, ?_⟩) ?_ ?_
              rotate_left
              · intro w'
                go_simp
                with_reducible rfl
              rotate_left
              · simp only [Act.put, List.setIfInBounds_toArray, List.set_cons_zero, List.set_cons_succ, i64_w, i32_w]
                rfl
              refine pure_ (i := 8) (N := some 60) (v := ?_) (a' := ?_) #[false, true, true, true, true, false, true, true, true, false, false, false, false, false, false, false, false, false, false, false, false] rfl rfl (by kernel_rfl) (fun _ _ _ h => h) (Or.inl ⟨by rfl, ?_⟩) ?_ ?_
              rotate_left
              · intro w'
                go_simp
                with_reducible rfl
              rotate_left
              · simp only [Act.put, List.setIfInBounds_toArray, List.set_cons_zero, List.set_cons_succ, i64_w, i32_w]
                rfl
              refine pure_ (i := 9) (N := some 61) (v := ?_) (a' := ?_) #[false, true, true, true, true, false, true, true, true, true, false, false, false, false, false, false, false, false, false, false, false] rfl rfl (by kernel_rfl) (fun _ _ _ h => h) (Or.inl ⟨by rfl, ?_⟩) ?_ ?_
              rotate_left
              · intro w'
                go_simp
                with_reducible rfl
              rotate_left
              · simp only [Act.put, List.setIfInBounds_toArray, List.set_cons_zero, List.set_cons_succ, i64_w, i32_w]
                rfl
              refine take_ (i := 10) (N := some 62) (v := ?_) (a' := ?_) #[false, true, true, true, true, false, true, true, true, true, true, false, false, false, false, false, false, false, false, false, false] rfl rfl (by kernel_rfl) (fun _ _ _ h => h) (Or.inl ⟨by rfl, ?_⟩) hHeld ?_ ?_
              rotate_left
              · rintro w' ⟨s0, s1⟩
                go_simp
                with_reducible rfl
              rotate_left
              · simp only [Act.put, List.setIfInBounds_toArray, List.set_cons_zero, List.set_cons_succ, i64_w, i32_w]
                rfl
              refine one_ (i := 0) (N := some 52) #[true, true, true, true, true, false, true, true, true, true, true, false, false, false, false, false, false, false, false, false, false] rfl rfl (by kernel_rfl) (by decide) (fun K hK => ?_)
              refine value_ (w1 := ?_) (v := ?_) (by rfl) rfl ?_ ?_
              rotate_left 2
              · go_simp
                constructor
                · rfl
                · rfl
              have B1 : Below w.heap.size w (wd.alloc (.cells #[] 4 (0, 0))) := below_alloc hB _
              have E1 := empty_row wd w.heap.size (below_size hB)
              have C1 := Kd.C_below (row_C h2) (below_alloc (Below.refl wd.heap.size wd) (.cells #[] 4 (0, 0)))
              refine hK.out _ _ ⟨pw_cell_below (below_alloc (Below.refl _ _) _) z2, pw_cell_below (below_alloc (Below.refl _ _) _) z1⟩ (fun hHeld => ?_)
              clear hK K
              refine norm_ (a' := ?_) ?_ ?_
              rotate_left
              · show Act.put _ (some 52) _ = _
                simp only [Act.put, List.setIfInBounds_toArray, List.set_cons_zero, List.set_cons_succ, i64_w, i32_w]
                rfl
              refine one_ (i := 5) (N := some 57) #[true, true, true, true, true, true, true, true, true, true, true, false, false, false, false, false, false, false, false, false, false] rfl rfl (by kernel_rfl) (by decide) (fun K hK => ?_)
              refine Kd.R_append_rows_step Kd.bool (Rr := fun x cs => cs = [Value.bool x]) (w0 := w) w.heap.size (by rfl) (.tmp 52) (.tmp 56) 50 4 (.bool false) 1 rfl Try.underlying50 infoBool rfl (by decide) (by omega) (.slice (some ⟨wd.heap.size, 0, none⟩) 0 0) [] (st.take y2.toNat) (some ⟨g, 0, none⟩) y2.toNat k2 (fun _ => True) (fun _ => False) rfl rfl (E1) (C1) (fun _ _ h => h) (fun _ h => h.elim) (fun _ _ => trivial) (B1) (below_size (B1)) (by have := HL.out; simp only [List.length_nil]; omega) ?_
              intro v5 w5 ho5 hb5 hg5 hat5
              have d2 := cell_grown hg5 (pw_cell_below (below_alloc (Below.refl wd.heap.size wd) (.cells #[] 4 (0, 0))) z2) (ne_new hlt)
              have d1 := cell_grown hg5 (pw_cell_below (below_alloc (Below.refl wd.heap.size wd) (.cells #[] 4 (0, 0))) z1) (ne_new hlt)
              refine hK.out _ _ ⟨d2, d1⟩ (fun hHeld => ?_)
              clear hK K
              refine norm_ (a' := ?_) ?_ ?_
              rotate_left
              · show Act.put _ (some 57) _ = _
                simp only [Act.put, List.setIfInBounds_toArray, List.set_cons_zero, List.set_cons_succ, i64_w, i32_w]
                rfl
              refine pure_ (i := 11) (N := some 63) (v := ?_) (a' := ?_) #[true, true, true, true, true, true, true, true, true, true, true, true, false, false, false, false, false, false, false, false, false] rfl rfl (by kernel_rfl) (fun _ _ _ h => h) (Or.inl ⟨by rfl, ?_⟩) ?_ ?_
              rotate_left
              · intro w'
                go_simp
                with_reducible rfl
              rotate_left
              · simp only [Act.put, List.setIfInBounds_toArray, List.set_cons_zero, List.set_cons_succ, i64_w, i32_w]
                rfl
              refine pure_ (i := 12) (N := some 64) (v := ?_) (a' := ?_) #[true, true, true, true, true, true, true, true, true, true, true, true, true, false, false, false, false, false, false, false, false] rfl rfl (by kernel_rfl) (fun _ _ _ h => h) (Or.inl ⟨by rfl, ?_⟩) ?_ ?_
              rotate_left
              · intro w'
                go_simp
                with_reducible rfl
              rotate_left
              · simp only [Act.put, List.setIfInBounds_toArray, List.set_cons_zero, List.set_cons_succ, i64_w, i32_w]
                rfl
              refine pure_ (i := 13) (N := some 65) (v := ?_) (a' := ?_) #[true, true, true, true, true, true, true, true, true, true, true, true, true, true, false, false, false, false, false, false, false] rfl rfl (by kernel_rfl) (fun _ _ _ h => h) (Or.inl ⟨by rfl, ?_⟩) ?_ ?_
              rotate_left
              · intro w'
                go_simp
                with_reducible rfl
              rotate_left
              · simp only [Act.put, List.setIfInBounds_toArray, List.set_cons_zero, List.set_cons_succ, i64_w, i32_w]
                rfl
              refine pure_ (i := 14) (N := some 66) (v := ?_) (a' := ?_) #[true, true, true, true, true, true, true, true, true, true, true, true, true, true, true, false, false, false, false, false, false] rfl rfl (by kernel_rfl) (fun _ _ _ h => h) (Or.inl ⟨by rfl, ?_⟩) ?_ ?_
              rotate_left
              · intro w'
                go_simp
                with_reducible rfl
              rotate_left
              · simp only [Act.put, List.setIfInBounds_toArray, List.set_cons_zero, List.set_cons_succ, i64_w, i32_w]
                rfl
              refine pure_ (i := 15) (N := some 67) (v := ?_) (a' := ?_) #[true, true, true, true, true, true, true, true, true, true, true, true, true, true, true, true, false, false, false, false, false] rfl rfl (by kernel_rfl) (fun _ _ _ h => h) (Or.inl ⟨by rfl, ?_⟩) ?_ ?_
              rotate_left
              · intro w'
                go_simp
                with_reducible rfl
              rotate_left
              · simp only [Act.put, List.setIfInBounds_toArray, List.set_cons_zero, List.set_cons_succ, i64_w, i32_w]
                rfl
              refine take_ (i := 16) (N := some 68) (v := ?_) (a' := ?_) #[true, true, true, true, true, true, true, true, true, true, true, true, true, true, true, true, true, false, false, false, false] rfl rfl (by kernel_rfl) (fun _ _ _ h => h) (Or.inl ⟨by rfl, ?_⟩) hHeld ?_ ?_
              rotate_left
              · rintro w' ⟨s0, s1⟩
                go_simp
                with_reducible rfl
              rotate_left
              · simp only [Act.put, List.setIfInBounds_toArray, List.set_cons_zero, List.set_cons_succ, i64_w, i32_w]
                rfl
              refine pure_ (i := 17) (N := some 69) (v := ?_) (a' := ?_) #[true, true, true, true, true, true, true, true, true, true, true, true, true, true, true, true, true, true, false, false, false] rfl rfl (by kernel_rfl) (fun _ _ _ h => h) (Or.inl ⟨by rfl, ?_⟩) ?_ ?_
              rotate_left
              · intro w'
                go_simp
                with_reducible rfl
              rotate_left
              · simp only [Act.put, List.setIfInBounds_toArray, List.set_cons_zero, List.set_cons_succ, i64_w, i32_w]
                rfl
              refine one_ (i := 18) (N := some 70) #[true, true, true, true, true, true, true, true, true, true, true, true, true, true, true, true, true, true, true, false, false] rfl rfl (by kernel_rfl) (by decide) (fun K hK => ?_)
              refine value_ (w1 := ?_) (v := ?_) (by rfl) rfl ?_ ?_
              rotate_left 2
              · go_simp
                constructor
                · rfl
                · rfl
              refine hK.out _ _ ⟨pw_cell_below (below_alloc (Below.refl _ _) _) d2, pw_cell_below (below_alloc (Below.refl _ _) _) d1⟩ (fun hHeld => ?_)
              clear hK K
              refine norm_ (a' := ?_) ?_ ?_
              rotate_left
              · show Act.put _ (some 70) _ = _
                simp only [Act.put, List.setIfInBounds_toArray, List.set_cons_zero, List.set_cons_succ, i64_w, i32_w]
                rfl
              refine last_ (i := 19) (N := some 71) #[true, true, true, true, true, true, true, true, true, true, true, true, true, true, true, true, true, true, true, true, false] rfl rfl (by kernel_rfl) (by decide) (fun K hK => ?_)
              refine Kd.R_append_step Kd.bool (w0 := w) w.heap.size (by rfl) (.tmp 57) (.tmp 70) 50 4 (.bool false) 1 rfl Try.underlying50 infoBool rfl (by decide) (by omega) v5 ([] ++ st.take y2.toNat) bb [.bool bb] (fun _ => True) (fun _ => False) rfl rfl rfl (fun _ hk => hk.elim) (fun _ _ => trivial) ho5 hb5 (below_size hb5) (by have := HL.out; simp only [List.nil_append, List.length_take]; omega) ?_
              intro v1 w1 ho hb hg hat
              refine hK.out _ _ ?_
              clear hK K
              refine norm_ (a' := ?_) ?_ ?_
              rotate_left
              · show Act.put _ (some 71) _ = _
                simp only [Act.put, List.setIfInBounds_toArray, List.set_cons_zero, List.set_cons_succ, i64_w, i32_w]
                rfl
              refine pure_ (i := 20) (N := some 6) (v := ?_) (a' := ?_) #[true, true, true, true, true, true, true, true, true, true, true, true, true, true, true, true, true, true, true, true, true] rfl rfl (by kernel_rfl) (fun _ _ _ h => h) (Or.inl ⟨by rfl, ?_⟩) ?_ ?_
              rotate_left
              · intro w'
                go_simp
                with_reducible rfl
              rotate_left
              · simp only [Act.put, List.setIfInBounds_toArray, List.set_cons_zero, List.set_cons_succ, i64_w, i32_w]
                rfl
              refine done_ (by kernel_rfl) ?_
              rw [List.nil_append] at ho
              go_wp2
              go_roundg (gk - 1)
              case measure => have := HX.out; have := HQ.out; omega
              case rel => exact ⟨q + 1, _, _, rfl, ⟨HW.out, HQ.out, by have := HX.out; omega, HL2.out⟩, ⟨ho⟩, ⟨HS.out⟩, ⟨hb⟩⟩
            | false =>
              go_upto_region 11 with (first | (go_at_call 15; refine (seicheref13_Tag.calls KT s false _ HT.out).mono ?_; rintro e w2 ⟨rfl, ⟨nd, rfl⟩⟩))
              replace HB := Aside0.mk (pw_below_drewN HB.out nd)
              replace HV := Aside0.mk (Kd.R_drewN HV.out nd)
              generalize World.drewN _ _ = wr at HB HV ⊢
              obtain ⟨z1, _⟩ := bool_row HV.out y1 HL.out.2.2.2.2.1 HL.out.2.2.2.2.2.2.1
              obtain ⟨z2, _⟩ := bool_row HV.out y2 HL.out.2.2.2.2.2.1 HL.out.2.2.2.2.2.2.2
              rw [← HBB.out] at z1
              rw [← HBA.out] at z2
              have hltw : g < wr.heap.size := Kd.R_lt HV.out g rfl
              have h2 := Kd.R_take (m := y2.toNat) HV.out HL.out.2.2.1
              replace h2 := Kd.R_drew h2
              have hB := below_drew1 HB.out
              have hlt : g < wr.drew.heap.size := hltw
              replace z2 := pw_cell_below (below_drew1 (Below.refl _ _)) z2
              replace z1 := pw_cell_below (below_drew1 (Below.refl _ _)) z1
              refine start_ (n := 21) (S := fun w' => w'.cell? ⟨g, y2.toNat, none⟩ = some (.bool false) ∧ w'.cell? ⟨g, y1.toNat, none⟩ = some (.bool bb)) (ds := [19]) #[false, false, false, false, false, false, false, false, false, false, false, false, false, false, false, false, false, false, false, false, false] (by kernel_rfl) rfl rfl ⟨z2, z1⟩ (fun hHeld => ?_)
              generalize World.drew _ = wd at h2 hB z2 z1 hHeld hlt ⊢
              refine pure_ (i := 1) (N := some 53) (v := ?_) (a' := ?_) #[false, true, false, false, false, false, false, false, false, false, false, false, false, false, false, false, false, false, false, false, false] rfl rfl (by kernel_rfl) (fun _ _ _ h => h) (Or.inl ⟨by rfl, ?_⟩) ?_ ?_
              rotate_left
              · intro w'
                go_simp
                with_reducible rfl
              rotate_left
              · simp only [Act.put, List.setIfInBounds_toArray, List.set_cons_zero, List.set_cons_succ, i64_w, i32_w]
                rfl
              refine pure_ (i := 2) (N := some 54) (v := ?_) (a' := ?_) #[false, true, true, false, false, false, false, false, false, false, false, false, false, false, false, false, false, false, false, false, false] rfl rfl (by kernel_rfl) (fun _ _ _ h => h) (Or.inl ⟨by rfl, ?_⟩) ?_ ?_
              rotate_left
              · intro w'
                go_simp
                with_reducible rfl
              rotate_left
              · simp only [Act.put, List.setIfInBounds_toArray, List.set_cons_zero, List.set_cons_succ, i64_w, i32_w]
                rfl
              refine pure_ (i := 3) (N := some 55) (v := ?_) (a' := ?_) #[false, true, true, true, false, false, false, false, false, false, false, false, false, false, false, false, false, false, false, false, false] rfl rfl (by kernel_rfl) (fun _ _ _ h => h) (Or.inl ⟨by rfl, ?_⟩) ?_ ?_
              rotate_left
              · intro w'
                go_simp
                with_reducible rfl
              rotate_left
              · simp only [Act.put, List.setIfInBounds_toArray, List.set_cons_zero, List.set_cons_succ, i64_w, i32_w]
                rfl
              refine pure_ (i := 4) (N := some 56) (v := ?_) (a' := ?_) #[false, true, true, true, true, false, false, false, false, false, false, false, false, false, false, false, false, false, false, false, false] rfl rfl (by kernel_rfl) (fun _ _ _ h => h) (Or.inl ⟨by rfl, ?_⟩) ?_ ?_
              rotate_left
              · intro w'
                go_simp
                with_reducible rfl
              rotate_left
              · simp only [Act.put, List.setIfInBounds_toArray, List.set_cons_zero, List.set_cons_succ, i64_w, i32_w]
                rfl
              refine pure_ (i := 6) (N := some 58) (v := ?_) (a' := ?_) #[false, true, true, true, true, false, true, false, false, false, false, false, false, false, false, false, false, false, false, false, false] rfl rfl (by kernel_rfl) (fun _ _ _ h => h) (Or.inl ⟨by rfl, ?_⟩) ?_ ?_
              rotate_left
              · intro w'
                go_simp
                with_reducible rfl
              rotate_left
              · simp only [Act.put, List.setIfInBounds_toArray, List.set_cons_zero, List.set_cons_succ, i64_w, i32_w]
                rfl
              refine pure_ (i := 7) (N := some 59) (v := ?_) (a' := ?_) #[false, true, true, true, true, false, true, true, false, false, false, false, false, false, false, false, false, false, false, false, false] rfl rfl (by kernel_rfl) (fun _ _ _ h => h) (Or.inl ⟨by rfl, ?_⟩) ?_ ?_
              rotate_left
              · intro w'
                go_simp
                with_reducible rfl
              rotate_left
              · simp only [Act.put, List.setIfInBounds_toArray, List.set_cons_zero, List.set_cons_succ, i64_w, i32_w]
                rfl
              refine pure_ (i := 8) (N := some 60) (v := ?_) (a' := ?_) #[false, true, true, true, true, false, true, true, true, false, false, false, false, false, false, false, false, false, false, false, false] rfl rfl (by kernel_rfl) (fun _ _ _ h => h) (Or.inl ⟨by rfl, ?_⟩) ?_ ?_
              rotate_left
              · intro w'
                go_simp
                with_reducible rfl
              rotate_left
              · simp only [Act.put, List.setIfInBounds_toArray, List.set_cons_zero, List.set_cons_succ, i64_w, i32_w]
                rfl
              refine pure_ (i := 9) (N := some 61) (v := ?_) (a' := ?_) #[false, true, true, true, true, false, true, true, true, true, false, false, false, false, false, false, false, false, false, false, false] rfl rfl (by kernel_rfl) (fun _ _ _ h => h) (Or.inl ⟨by rfl, ?_⟩) ?_ ?_
              rotate_left
              · intro w'
                go_simp
                with_reducible rfl
              rotate_left
              · simp only [Act.put, List.setIfInBounds_toArray, List.set_cons_zero, List.set_cons_succ, i64_w, i32_w]
                rfl
              refine take_ (i := 10) (N := some 62) (v := ?_) (a' := ?_) #[false, true, true, true, true, false, true, true, true, true, true, false, false, false, false, false, false, false, false, false, false] rfl rfl (by kernel_rfl) (fun _ _ _ h => h) (Or.inl ⟨by rfl, ?_⟩) hHeld ?_ ?_
              rotate_left
              · rintro w' ⟨s0, s1⟩
                go_simp
                with_reducible rfl
              rotate_left
              · simp only [Act.put, List.setIfInBounds_toArray, List.set_cons_zero, List.set_cons_succ, i64_w, i32_w]
                rfl
              refine one_ (i := 0) (N := some 52) #[true, true, true, true, true, false, true, true, true, true, true, false, false, false, false, false, false, false, false, false, false] rfl rfl (by kernel_rfl) (by decide) (fun K hK => ?_)
              refine value_ (w1 := ?_) (v := ?_) (by rfl) rfl ?_ ?_
              rotate_left 2
              · go_simp
                constructor
                · rfl
                · rfl
              have B1 : Below w.heap.size w (wd.alloc (.cells #[] 4 (0, 0))) := below_alloc hB _
              have E1 := empty_row wd w.heap.size (below_size hB)
              have C1 := Kd.C_below (row_C h2) (below_alloc (Below.refl wd.heap.size wd) (.cells #[] 4 (0, 0)))
              refine hK.out _ _ ⟨pw_cell_below (below_alloc (Below.refl _ _) _) z2, pw_cell_below (below_alloc (Below.refl _ _) _) z1⟩ (fun hHeld => ?_)
              clear hK K
              refine norm_ (a' := ?_) ?_ ?_
              rotate_left
              · show Act.put _ (some 52) _ = _
                simp only [Act.put, List.setIfInBounds_toArray, List.set_cons_zero, List.set_cons_succ, i64_w, i32_w]
                rfl
              refine one_ (i := 5) (N := some 57) #[true, true, true, true, true, true, true, true, true, true, true, false, false, false, false, false, false, false, false, false, false] rfl rfl (by kernel_rfl) (by decide) (fun K hK => ?_)
              refine Kd.R_append_rows_step Kd.bool (Rr := fun x cs => cs = [Value.bool x]) (w0 := w) w.heap.size (by rfl) (.tmp 52) (.tmp 56) 50 4 (.bool false) 1 rfl Try.underlying50 infoBool rfl (by decide) (by omega) (.slice (some ⟨wd.heap.size, 0, none⟩) 0 0) [] (st.take y2.toNat) (some ⟨g, 0, none⟩) y2.toNat k2 (fun _ => True) (fun _ => False) rfl rfl (E1) (C1) (fun _ _ h => h) (fun _ h => h.elim) (fun _ _ => trivial) (B1) (below_size (B1)) (by have := HL.out; simp only [List.length_nil]; omega) ?_
              intro v5 w5 ho5 hb5 hg5 hat5
              have d2 := cell_grown hg5 (pw_cell_below (below_alloc (Below.refl wd.heap.size wd) (.cells #[] 4 (0, 0))) z2) (ne_new hlt)
              have d1 := cell_grown hg5 (pw_cell_below (below_alloc (Below.refl wd.heap.size wd) (.cells #[] 4 (0, 0))) z1) (ne_new hlt)
              refine hK.out _ _ ⟨d2, d1⟩ (fun hHeld => ?_)
              clear hK K
              refine norm_ (a' := ?_) ?_ ?_
              rotate_left
              · show Act.put _ (some 57) _ = _
                simp only [Act.put, List.setIfInBounds_toArray, List.set_cons_zero, List.set_cons_succ, i64_w, i32_w]
                rfl
              refine pure_ (i := 11) (N := some 63) (v := ?_) (a' := ?_) #[true, true, true, true, true, true, true, true, true, true, true, true, false, false, false, false, false, false, false, false, false] rfl rfl (by kernel_rfl) (fun _ _ _ h => h) (Or.inl ⟨by rfl, ?_⟩) ?_ ?_
              rotate_left
              · intro w'
                go_simp
                with_reducible rfl
              rotate_left
              · simp only [Act.put, List.setIfInBounds_toArray, List.set_cons_zero, List.set_cons_succ, i64_w, i32_w]
                rfl
              refine pure_ (i := 12) (N := some 64) (v := undef) (a' := ?_) #[true, true, true, true, true, true, true, true, true, true, true, true, true, false, false, false, false, false, false, false, false] rfl rfl (by kernel_rfl) (fun _ _ _ h => h) (Or.inr ⟨by rfl, rfl⟩) ?_ ?_
              rotate_left
              · simp only [Act.put, List.setIfInBounds_toArray, List.set_cons_zero, List.set_cons_succ, i64_w, i32_w]
                rfl
              refine pure_ (i := 13) (N := some 65) (v := undef) (a' := ?_) #[true, true, true, true, true, true, true, true, true, true, true, true, true, true, false, false, false, false, false, false, false] rfl rfl (by kernel_rfl) (fun _ _ _ h => h) (Or.inr ⟨by rfl, rfl⟩) ?_ ?_
              rotate_left
              · simp only [Act.put, List.setIfInBounds_toArray, List.set_cons_zero, List.set_cons_succ, i64_w, i32_w]
                rfl
              refine pure_ (i := 14) (N := some 66) (v := undef) (a' := ?_) #[true, true, true, true, true, true, true, true, true, true, true, true, true, true, true, false, false, false, false, false, false] rfl rfl (by kernel_rfl) (fun _ _ _ h => h) (Or.inr ⟨by rfl, rfl⟩) ?_ ?_
              rotate_left
              · simp only [Act.put, List.setIfInBounds_toArray, List.set_cons_zero, List.set_cons_succ, i64_w, i32_w]
                rfl
              refine pure_ (i := 15) (N := some 67) (v := undef) (a' := ?_) #[true, true, true, true, true, true, true, true, true, true, true, true, true, true, true, true, false, false, false, false, false] rfl rfl (by kernel_rfl) (fun _ _ _ h => h) (Or.inr ⟨by rfl, rfl⟩) ?_ ?_
              rotate_left
              · simp only [Act.put, List.setIfInBounds_toArray, List.set_cons_zero, List.set_cons_succ, i64_w, i32_w]
                rfl
              refine pure_ (i := 16) (N := some 68) (v := undef) (a' := ?_) #[true, true, true, true, true, true, true, true, true, true, true, true, true, true, true, true, true, false, false, false, false] rfl rfl (by kernel_rfl) (fun _ _ _ h => h) (Or.inr ⟨by rfl, rfl⟩) ?_ ?_
              rotate_left
              · simp only [Act.put, List.setIfInBounds_toArray, List.set_cons_zero, List.set_cons_succ, i64_w, i32_w]
                rfl
              refine pure_ (i := 17) (N := some 69) (v := ?_) (a' := ?_) #[true, true, true, true, true, true, true, true, true, true, true, true, true, true, true, true, true, true, false, false, false] rfl rfl (by kernel_rfl) (fun _ _ _ h => h) (Or.inl ⟨by rfl, ?_⟩) ?_ ?_
              rotate_left
              · intro w'
                go_simp
                with_reducible rfl
              rotate_left
              · simp only [Act.put, List.setIfInBounds_toArray, List.set_cons_zero, List.set_cons_succ, i64_w, i32_w]
                rfl
              refine one_ (i := 18) (N := some 70) #[true, true, true, true, true, true, true, true, true, true, true, true, true, true, true, true, true, true, true, false, false] rfl rfl (by kernel_rfl) (by decide) (fun K hK => ?_)
              refine value_ (w1 := ?_) (v := ?_) (by rfl) rfl ?_ ?_
              rotate_left 2
              · go_simp
                constructor
                · rfl
                · rfl
              refine hK.out _ _ ⟨pw_cell_below (below_alloc (Below.refl _ _) _) d2, pw_cell_below (below_alloc (Below.refl _ _) _) d1⟩ (fun hHeld => ?_)
              clear hK K
              refine norm_ (a' := ?_) ?_ ?_
              rotate_left
              · show Act.put _ (some 70) _ = _
                simp only [Act.put, List.setIfInBounds_toArray, List.set_cons_zero, List.set_cons_succ, i64_w, i32_w]
                rfl
              refine last_ (i := 19) (N := some 71) #[true, true, true, true, true, true, true, true, true, true, true, true, true, true, true, true, true, true, true, true, false] rfl rfl (by kernel_rfl) (by decide) (fun K hK => ?_)
              refine Kd.R_append_step Kd.bool (w0 := w) w.heap.size (by rfl) (.tmp 57) (.tmp 70) 50 4 (.bool false) 1 rfl Try.underlying50 infoBool rfl (by decide) (by omega) v5 ([] ++ st.take y2.toNat) false [.bool false] (fun _ => True) (fun _ => False) rfl rfl rfl (fun _ hk => hk.elim) (fun _ _ => trivial) ho5 hb5 (below_size hb5) (by have := HL.out; simp only [List.nil_append, List.length_take]; omega) ?_
              intro v1 w1 ho hb hg hat
              refine hK.out _ _ ?_
              clear hK K
              refine norm_ (a' := ?_) ?_ ?_
              rotate_left
              · show Act.put _ (some 71) _ = _
                simp only [Act.put, List.setIfInBounds_toArray, List.set_cons_zero, List.set_cons_succ, i64_w, i32_w]
                rfl
              refine pure_ (i := 20) (N := some 6) (v := ?_) (a' := ?_) #[true, true, true, true, true, true, true, true, true, true, true, true, true, true, true, true, true, true, true, true, true] rfl rfl (by kernel_rfl) (fun _ _ _ h => h) (Or.inl ⟨by rfl, ?_⟩) ?_ ?_
              rotate_left
              · intro w'
                go_simp
                with_reducible rfl
              rotate_left
              · simp only [Act.put, List.setIfInBounds_toArray, List.set_cons_zero, List.set_cons_succ, i64_w, i32_w]
                rfl
              refine done_ (by kernel_rfl) ?_
              rw [List.nil_append] at ho
              go_wp2
              go_roundg (gk - 1)
              case measure => have := HX.out; have := HQ.out; omega
              case rel => exact ⟨q + 1, _, _, rfl, ⟨HW.out, HQ.out, by have := HX.out; omega, HL2.out⟩, ⟨ho⟩, ⟨HS.out⟩, ⟨hb⟩⟩
          · have c0N : decide (2 ≤ (N : Int)) = false := decide_eq_false (by omega)
            have c0M : decide (2 ≤ N) = false := decide_eq_false (by omega)
            have HN0 : evStep on st s = none := by
              unfold evStep
              rw [if_neg (fun h => hs1 h.1), if_neg (fun h => hN (by have := h.2; omega)), if_neg (fun h => (by decide : sAnd ≠ sOr) (hs2.symm.trans h.1)), if_neg (by rw [hs2]; decide)]
            clear hNl hw_ hq4 hN hs1
            have t0 : (s.toList == ([33] : List UInt8)) = false := beq_eq_false_iff_ne.mpr (fun h => (by decide : sAnd ≠ sNot) (hs2.symm.trans (lit_sNot.1 h)))
            have t1 : (s.toList == ([38, 38] : List UInt8)) = true := beq_iff_eq.mpr (lit_sAnd.2 hs2)
            have t2 : (s.toList == ([124, 124] : List UInt8)) = false := beq_eq_false_iff_ne.mpr (fun h => (by decide : sAnd ≠ sOr) (hs2.symm.trans (lit_sOr.1 h)))
            have HS := Aside0.mk (show (rb, re) = (false, 4) from by
              rw [← HE.out, ev_stop]
              exact (HN0 : evStep on st s = none))
            have htag : rTag s = false := by rw [hs2]; rfl
            have HT := Aside0.mk (show seicheref13_Tag.f KT s = some false from by rw [HKT.out, htag])
            simp only [Prod.mk.injEq] at HS
            obtain ⟨rfl, rfl⟩ := HS.out
            clear htag hs2
            go_wp2_with (first | (go_at_call 15; refine (seicheref13_Tag.calls KT s false _ HT.out).mono ?_; rintro e w2 ⟨rfl, ⟨nd, rfl⟩⟩))
            go_ret2
            exact ⟨rfl, pw_below_drewN HB.out _⟩
        · by_cases hs3 : s = sOr
          · by_cases hN : 1 < N
            · have t0 : (s.toList == ([33] : List UInt8)) = false := beq_eq_false_iff_ne.mpr (fun h => (by decide : sOr ≠ sNot) (hs3.symm.trans (lit_sNot.1 h)))
              have t1 : (s.toList == ([38, 38] : List UInt8)) = false := beq_eq_false_iff_ne.mpr (fun h => (by decide : sOr ≠ sAnd) (hs3.symm.trans (lit_sAnd.1 h)))
              have t2 : (s.toList == ([124, 124] : List UInt8)) = true := beq_iff_eq.mpr (lit_sOr.2 hs3)
              have hN2 : 1 < N := hN
              obtain ⟨y1, hy1⟩ : ∃ y : Int, y = (N : Int) - 1 := ⟨_, rfl⟩
              obtain ⟨y2, hy2⟩ : ∃ y : Int, y = (N : Int) - 2 := ⟨_, rfl⟩
              have hw1 : wrap64 ((N : Int) - 1) = y1 := by rw [hy1, w64 (by omega) (by omega)]
              have hw2 : wrap64 ((N : Int) - 2) = y2 := by rw [hy2, w64 (by omega) (by omega)]
              have c1N : decide (2 ≤ (N : Int)) = true := decide_eq_true (by omega)
              have c1M : decide (2 ≤ N) = true := decide_eq_true (by omega)
              have p10 : (0 ≤ y1) = True := eq_true (by omega)
              have p11 : (y1 < (N : Int)) = True := eq_true (by omega)
              have p20 : (0 ≤ y2) = True := eq_true (by omega)
              have p21 : (y2 < (N : Int)) = True := eq_true (by omega)
              have p22 : (y2 ≤ (N : Int)) = True := eq_true (by omega)
              obtain ⟨g, rfl⟩ := bool_some HV.out (by omega)
              have hcap := (Kd.R_reads' HV.out).2.1
              have hcut := cut_to (P := Try.prog) 50 4 .i64 Try.underlying50 hi0 (some ⟨g, 0, none⟩) N k2 y2 (by omega) (by omega) hcap
              have htag : rTag s = false := by rw [hs3]; rfl
              have HT := Aside0.mk (show seicheref13_Tag.f KT s = some false from by rw [HKT.out, htag])
              have HL := Aside0.mk (show st.length * 1 ≤ 8589934592 ∧ y2.toNat ≤ 8589934592 ∧ y2.toNat ≤ st.length ∧ (y1.toNat : Int) = y1 ∧ 0 ≤ y1 ∧ 0 ≤ y2 ∧ y1 < N ∧ y2 < N from by omega)
              have HR := Aside0.mk (show evStep on st s = some (st.take y2.toNat ++ [st.getD y2.toNat false || st.getD y1.toNat false]) from by
                unfold evStep
                rw [if_neg (fun h => (by decide : sOr ≠ sNot) (hs3.symm.trans h.1)), if_neg (fun h => (by decide : sOr ≠ sAnd) (hs3.symm.trans h.1)), if_pos ⟨hs3, by omega⟩]
                rw [show y1.toNat = st.length - 1 by omega, show y2.toNat = st.length - 2 by omega])
              have HS := Aside0.mk (ev_go HE.out HR.out)
              have HL2 := Aside0.mk (show (st.take y2.toNat ++ [st.getD y2.toNat false || st.getD y1.toNat false]).length ≤ q + 1 from by rw [List.length_append, List.length_take, List.length_singleton]; omega)
              obtain ⟨ba, hba⟩ : ∃ b, b = st.getD y2.toNat false := ⟨_, rfl⟩
              obtain ⟨bb, hbb⟩ : ∃ b, b = st.getD y1.toNat false := ⟨_, rfl⟩
              rw [← hba, ← hbb] at HS HL2
              have HBA := Aside0.mk hba
              have HBB := Aside0.mk hbb
              clear hba hbb hs3 hN hN2 HR hcap hNl hw_ hq4 hy1 hy2 htag
              cases ba with
              | true =>
                go_upto_region 13 with (first | (go_at_call 15; refine (seicheref13_Tag.calls KT s false _ HT.out).mono ?_; rintro e w2 ⟨rfl, ⟨nd, rfl⟩⟩))
                replace HB := Aside0.mk (pw_below_drewN HB.out nd)
                replace HV := Aside0.mk (Kd.R_drewN HV.out nd)
                generalize World.drewN _ _ = wr at HB HV ⊢
                obtain ⟨z1, _⟩ := bool_row HV.out y1 HL.out.2.2.2.2.1 HL.out.2.2.2.2.2.2.1
                obtain ⟨z2, _⟩ := bool_row HV.out y2 HL.out.2.2.2.2.2.1 HL.out.2.2.2.2.2.2.2
                rw [← HBB.out] at z1
                rw [← HBA.out] at z2
                have hltw : g < wr.heap.size := Kd.R_lt HV.out g rfl
                have h2 := Kd.R_take (m := y2.toNat) HV.out HL.out.2.2.1
                replace h2 := Kd.R_drew h2
                have hB := below_drew1 HB.out
                have hlt : g < wr.drew.heap.size := hltw
                replace z2 := pw_cell_below (below_drew1 (Below.refl _ _)) z2
                replace z1 := pw_cell_below (below_drew1 (Below.refl _ _)) z1
                refine start_ (n := 21) (S := fun w' => w'.cell? ⟨g, y2.toNat, none⟩ = some (.bool true) ∧ w'.cell? ⟨g, y1.toNat, none⟩ = some (.bool bb)) (ds := [19]) #[false, false, false, false, false, false, false, false, false, false, false, false, false, false, false, false, false, false, false, false, false] (by kernel_rfl) rfl rfl ⟨z2, z1⟩ (fun hHeld => ?_)
                generalize World.drew _ = wd at h2 hB z2 z1 hHeld hlt ⊢
                refine pure_ (i := 1) (N := some 79) (v := ?_) (a' := ?_) #[false, true, false, false, false, false, false, false, false, false, false, false, false, false, false, false, false, false, false, false, false] rfl rfl (by kernel_rfl) (fun _ _ _ h => h) (Or.inl ⟨by rfl, ?_⟩) ?_ ?_
                rotate_left
                · intro w'
                  go_simp
                  with_reducible rfl
                rotate_left
                · simp only [Act.put, List.setIfInBounds_toArray, List.set_cons_zero, List.set_cons_succ, i64_w, i32_w]
                  rfl
                refine pure_ (i := 2) (N := some 80) (v := ?_) (a' := ?_) #[false, true, true, false, false, false, false, false, false, false, false, false, false, false, false, false, false, false, false, false, false] rfl rfl (by kernel_rfl) (fun _ _ _ h => h) (Or.inl ⟨by rfl, ?_⟩) ?_ ?_
                rotate_left
                · intro w'
                  go_simp
                  with_reducible rfl
                rotate_left
                · simp only [Act.put, List.setIfInBounds_toArray, List.set_cons_zero, List.set_cons_succ, i64_w, i32_w]
                  rfl
                refine pure_ (i := 3) (N := some 81) (v := ?_) (a' := ?_) #[false, true, true, true, false, false, false, false, false, false, false, false, false, false, false, false, false, false, false, false, false] rfl rfl (by kernel_rfl) (fun _ _ _ h => h) (Or.inl ⟨by rfl, ?_⟩) ?_ ?_
                rotate_left
                · intro w'
                  go_simp
                  with_reducible rfl
                rotate_left
                · simp only [Act.put, List.setIfInBounds_toArray, List.set_cons_zero, List.set_cons_succ, i64_w, i32_w]
                  rfl
                refine pure_ (i := 4) (N := some 82) (v := ?_) (a' := ?_) #[false, true, true, true, true, false, false, false, false, false, false, false, false, false, false, false, false, false, false, false, false] rfl rfl (by kernel_rfl) (fun _ _ _ h => h) (Or.inl ⟨by rfl, ?_⟩) ?_ ?_
                rotate_left
                · intro w'
                  go_simp
                  with_reducible rfl
                rotate_left
                · simp only [Act.put, List.setIfInBounds_toArray, List.set_cons_zero, List.set_cons_succ, i64_w, i32_w]
                  rfl
                refine pure_ (i := 6) (N := some 84) (v := ?_) (a' := ?_) #[false, true, true, true, true, false, true, false, false, false, false, false, false, false, false, false, false, false, false, false, false] rfl rfl (by kernel_rfl) (fun _ _ _ h => h) (Or.inl ⟨by rfl, ?_⟩) ?_ ?_
                rotate_left
                · intro w'
                  go_simp
                  with_reducible rfl
                rotate_left
                · simp only [Act.put, List.setIfInBounds_toArray, List.set_cons_zero, List.set_cons_succ, i64_w, i32_w]
                  rfl
                refine pure_ (i := 7) (N := some 85) (v := ?_) (a' := ?_) #[false, true, true, true, true, false, true, true, false, false, false, false, false, false, false, false, false, false, false, false, false] rfl rfl (by kernel_rfl) (fun _ _ _ h => h) (Or.inl ⟨by rfl, ?_⟩) ?_ ?_
                rotate_left
                · intro w'
                  go_simp
                  with_reducible rfl
                rotate_left
                · simp only [Act.put, List.setIfInBounds_toArray, List.set_cons_zero, List.set_cons_succ, i64_w, i32_w]
                  rfl
                refine pure_ (i := 8) (N := some 86) (v := ?_) (a' := ?_) #[false, true, true, true, true, false, true, true, true, false, false, false, false, false, false, false, false, false, false, false, false] rfl rfl (by kernel_rfl) (fun _ _ _ h => h) (Or.inl ⟨by rfl, ?_⟩) ?_ ?_
                rotate_left
                · intro w'
                  go_simp
                  with_reducible rfl
                rotate_left
                · simp only [Act.put, List.setIfInBounds_toArray, List.set_cons_zero, List.set_cons_succ, i64_w, i32_w]
                  rfl
                refine pure_ (i := 9) (N := some 87) (v := ?_) (a' := ?_) #[false, true, true, true, true, false, true, true, true, true, false, false, false, false, false, false, false, false, false, false, false] rfl rfl (by kernel_rfl) (fun _ _ _ h => h) (Or.inl ⟨by rfl, ?_⟩) ?_ ?_
                rotate_left
                · intro w'
                  go_simp
                  with_reducible rfl
                rotate_left
                · simp only [Act.put, List.setIfInBounds_toArray, List.set_cons_zero, List.set_cons_succ, i64_w, i32_w]
                  rfl
                refine take_ (i := 10) (N := some 88) (v := ?_) (a' := ?_) #[false, true, true, true, true, false, true, true, true, true, true, false, false, false, false, false, false, false, false, false, false] rfl rfl (by kernel_rfl) (fun _ _ _ h => h) (Or.inl ⟨by rfl, ?_⟩) hHeld ?_ ?_
                rotate_left
                · rintro w' ⟨s0, s1⟩
                  go_simp
                  with_reducible rfl
                rotate_left
                · simp only [Act.put, List.setIfInBounds_toArray, List.set_cons_zero, List.set_cons_succ, i64_w, i32_w]
                  rfl
                refine one_ (i := 0) (N := some 78) #[true, true, true, true, true, false, true, true, true, true, true, false, false, false, false, false, false, false, false, false, false] rfl rfl (by kernel_rfl) (by decide) (fun K hK => ?_)
                refine value_ (w1 := ?_) (v := ?_) (by rfl) rfl ?_ ?_
                rotate_left 2
                · go_simp
                  constructor
                  · rfl
                  · rfl
                have B1 : Below w.heap.size w (wd.alloc (.cells #[] 4 (0, 0))) := below_alloc hB _
                have E1 := empty_row wd w.heap.size (below_size hB)
                have C1 := Kd.C_below (row_C h2) (below_alloc (Below.refl wd.heap.size wd) (.cells #[] 4 (0, 0)))
                refine hK.out _ _ ⟨pw_cell_below (below_alloc (Below.refl _ _) _) z2, pw_cell_below (below_alloc (Below.refl _ _) _) z1⟩ (fun hHeld => ?_)
                clear hK K
                refine norm_ (a' := ?_) ?_ ?_
                rotate_left
                · show Act.put _ (some 78) _ = _
                  simp only [Act.put, List.setIfInBounds_toArray, List.set_cons_zero, List.set_cons_succ, i64_w, i32_w]
                  rfl
                refine one_ (i := 5) (N := some 83) #[true, true, true, true, true, true, true, true, true, true, true, false, false, false, false, false, false, false, false, false, false] rfl rfl (by kernel_rfl) (by decide) (fun K hK => ?_)
                refine Kd.R_append_rows_step Kd.bool (Rr := fun x cs => cs = [Value.bool x]) (w0 := w) w.heap.size (by rfl) (.tmp 78) (.tmp 82) 50 4 (.bool false) 1 rfl Try.underlying50 infoBool rfl (by decide) (by omega) (.slice (some ⟨wd.heap.size, 0, none⟩) 0 0) [] (st.take y2.toNat) (some ⟨g, 0, none⟩) y2.toNat k2 (fun _ => True) (fun _ => False) rfl rfl (E1) (C1) (fun _ _ h => h) (fun _ h => h.elim) (fun _ _ => trivial) (B1) (below_size (B1)) (by have := HL.out; simp only [List.length_nil]; omega) ?_
                intro v5 w5 ho5 hb5 hg5 hat5
                have d2 := cell_grown hg5 (pw_cell_below (below_alloc (Below.refl wd.heap.size wd) (.cells #[] 4 (0, 0))) z2) (ne_new hlt)
                have d1 := cell_grown hg5 (pw_cell_below (below_alloc (Below.refl wd.heap.size wd) (.cells #[] 4 (0, 0))) z1) (ne_new hlt)
                refine hK.out _ _ ⟨d2, d1⟩ (fun hHeld => ?_)
                clear hK K
                refine norm_ (a' := ?_) ?_ ?_
                rotate_left
                · show Act.put _ (some 83) _ = _
                  simp only [Act.put, List.setIfInBounds_toArray, List.set_cons_zero, List.set_cons_succ, i64_w, i32_w]
                  rfl
                refine pure_ (i := 11) (N := some 89) (v := ?_) (a' := ?_) #[true, true, true, true, true, true, true, true, true, true, true, true, false, false, false, false, false, false, false, false, false] rfl rfl (by kernel_rfl) (fun _ _ _ h => h) (Or.inl ⟨by rfl, ?_⟩) ?_ ?_
                rotate_left
                · intro w'
                  go_simp
                  with_reducible rfl
                rotate_left
                · simp only [Act.put, List.setIfInBounds_toArray, List.set_cons_zero, List.set_cons_succ, i64_w, i32_w]
                  rfl
                refine pure_ (i := 12) (N := some 90) (v := undef) (a' := ?_) #[true, true, true, true, true, true, true, true, true, true, true, true, true, false, false, false, false, false, false, false, false] rfl rfl (by kernel_rfl) (fun _ _ _ h => h) (Or.inr ⟨by rfl, rfl⟩) ?_ ?_
                rotate_left
                · simp only [Act.put, List.setIfInBounds_toArray, List.set_cons_zero, List.set_cons_succ, i64_w, i32_w]
                  rfl
                refine pure_ (i := 13) (N := some 91) (v := undef) (a' := ?_) #[true, true, true, true, true, true, true, true, true, true, true, true, true, true, false, false, false, false, false, false, false] rfl rfl (by kernel_rfl) (fun _ _ _ h => h) (Or.inr ⟨by rfl, rfl⟩) ?_ ?_
                rotate_left
                · simp only [Act.put, List.setIfInBounds_toArray, List.set_cons_zero, List.set_cons_succ, i64_w, i32_w]
                  rfl
                refine pure_ (i := 14) (N := some 92) (v := undef) (a' := ?_) #[true, true, true, true, true, true, true, true, true, true, true, true, true, true, true, false, false, false, false, false, false] rfl rfl (by kernel_rfl) (fun _ _ _ h => h) (Or.inr ⟨by rfl, rfl⟩) ?_ ?_
                rotate_left
                · simp only [Act.put, List.setIfInBounds_toArray, List.set_cons_zero, List.set_cons_succ, i64_w, i32_w]
                  rfl
                refine pure_ (i := 15) (N := some 93) (v := undef) (a' := ?_) #[true, true, true, true, true, true, true, true, true, true, true, true, true, true, true, true, false, false, false, false, false] rfl rfl (by kernel_rfl) (fun _ _ _ h => h) (Or.inr ⟨by rfl, rfl⟩) ?_ ?_
                rotate_left
                · simp only [Act.put, List.setIfInBounds_toArray, List.set_cons_zero, List.set_cons_succ, i64_w, i32_w]
                  rfl
                refine pure_ (i := 16) (N := some 94) (v := undef) (a' := ?_) #[true, true, true, true, true, true, true, true, true, true, true, true, true, true, true, true, true, false, false, false, false] rfl rfl (by kernel_rfl) (fun _ _ _ h => h) (Or.inr ⟨by rfl, rfl⟩) ?_ ?_
                rotate_left
                · simp only [Act.put, List.setIfInBounds_toArray, List.set_cons_zero, List.set_cons_succ, i64_w, i32_w]
                  rfl
                refine pure_ (i := 17) (N := some 95) (v := ?_) (a' := ?_) #[true, true, true, true, true, true, true, true, true, true, true, true, true, true, true, true, true, true, false, false, false] rfl rfl (by kernel_rfl) (fun _ _ _ h => h) (Or.inl ⟨by rfl, ?_⟩) ?_ ?_
                rotate_left
                · intro w'
                  go_simp
                  with_reducible rfl
                rotate_left
                · simp only [Act.put, List.setIfInBounds_toArray, List.set_cons_zero, List.set_cons_succ, i64_w, i32_w]
                  rfl
                refine one_ (i := 18) (N := some 96) #[true, true, true, true, true, true, true, true, true, true, true, true, true, true, true, true, true, true, true, false, false] rfl rfl (by kernel_rfl) (by decide) (fun K hK => ?_)
                refine value_ (w1 := ?_) (v := ?_) (by rfl) rfl ?_ ?_
                rotate_left 2
                · go_simp
                  constructor
                  · rfl
                  · rfl
                refine hK.out _ _ ⟨pw_cell_below (below_alloc (Below.refl _ _) _) d2, pw_cell_below (below_alloc (Below.refl _ _) _) d1⟩ (fun hHeld => ?_)
                clear hK K
                refine norm_ (a' := ?_) ?_ ?_
                rotate_left
                · show Act.put _ (some 96) _ = _
                  simp only [Act.put, List.setIfInBounds_toArray, List.set_cons_zero, List.set_cons_succ, i64_w, i32_w]
                  rfl
                refine last_ (i := 19) (N := some 97) #[true, true, true, true, true, true, true, true, true, true, true, true, true, true, true, true, true, true, true, true, false] rfl rfl (by kernel_rfl) (by decide) (fun K hK => ?_)
                refine Kd.R_append_step Kd.bool (w0 := w) w.heap.size (by rfl) (.tmp 83) (.tmp 96) 50 4 (.bool false) 1 rfl Try.underlying50 infoBool rfl (by decide) (by omega) v5 ([] ++ st.take y2.toNat) true [.bool true] (fun _ => True) (fun _ => False) rfl rfl rfl (fun _ hk => hk.elim) (fun _ _ => trivial) ho5 hb5 (below_size hb5) (by have := HL.out; simp only [List.nil_append, List.length_take]; omega) ?_
                intro v1 w1 ho hb hg hat
                refine hK.out _ _ ?_
                clear hK K
                refine norm_ (a' := ?_) ?_ ?_
                rotate_left
                · show Act.put _ (some 97) _ = _
                  simp only [Act.put, List.setIfInBounds_toArray, List.set_cons_zero, List.set_cons_succ, i64_w, i32_w]
                  rfl
                refine pure_ (i := 20) (N := some 6) (v := ?_) (a' := ?_) #[true, true, true, true, true, true, true, true, true, true, true, true, true, true, true, true, true, true, true, true, true] rfl rfl (by kernel_rfl) (fun _ _ _ h => h) (Or.inl ⟨by rfl, ?_⟩) ?_ ?_
                rotate_left
                · intro w'
                  go_simp
                  with_reducible rfl
                rotate_left
                · simp only [Act.put, List.setIfInBounds_toArray, List.set_cons_zero, List.set_cons_succ, i64_w, i32_w]
                  rfl
                refine done_ (by kernel_rfl) ?_
                rw [List.nil_append] at ho
                go_wp2
                go_roundg (gk - 1)
                case measure => have := HX.out; have := HQ.out; omega
                case rel => exact ⟨q + 1, _, _, rfl, ⟨HW.out, HQ.out, by have := HX.out; omega, HL2.out⟩, ⟨ho⟩, ⟨HS.out⟩, ⟨hb⟩⟩
              | false =>
                go_upto_region 13 with (first | (go_at_call 15; refine (seicheref13_Tag.calls KT s false _ HT.out).mono ?_; rintro e w2 ⟨rfl, ⟨nd, rfl⟩⟩))
                replace HB := Aside0.mk (pw_below_drewN HB.out nd)
                replace HV := Aside0.mk (Kd.R_drewN HV.out nd)
                generalize World.drewN _ _ = wr at HB HV ⊢
                obtain ⟨z1, _⟩ := bool_row HV.out y1 HL.out.2.2.2.2.1 HL.out.2.2.2.2.2.2.1
                obtain ⟨z2, _⟩ := bool_row HV.out y2 HL.out.2.2.2.2.2.1 HL.out.2.2.2.2.2.2.2
                rw [← HBB.out] at z1
                rw [← HBA.out] at z2
                have hltw : g < wr.heap.size := Kd.R_lt HV.out g rfl
                have h2 := Kd.R_take (m := y2.toNat) HV.out HL.out.2.2.1
                replace h2 := Kd.R_drew h2
                have hB := below_drew1 HB.out
                have hlt : g < wr.drew.heap.size := hltw
                replace z2 := pw_cell_below (below_drew1 (Below.refl _ _)) z2
                replace z1 := pw_cell_below (below_drew1 (Below.refl _ _)) z1
                refine start_ (n := 21) (S := fun w' => w'.cell? ⟨g, y2.toNat, none⟩ = some (.bool false) ∧ w'.cell? ⟨g, y1.toNat, none⟩ = some (.bool bb)) (ds := [19]) #[false, false, false, false, false, false, false, false, false, false, false, false, false, false, false, false, false, false, false, false, false] (by kernel_rfl) rfl rfl ⟨z2, z1⟩ (fun hHeld => ?_)
                generalize World.drew _ = wd at h2 hB z2 z1 hHeld hlt ⊢
                refine pure_ (i := 1) (N := some 79) (v := ?_) (a' := ?_) #[false, true, false, false, false, false, false, false, false, false, false, false, false, false, false, false, false, false, false, false, false] rfl rfl (by kernel_rfl) (fun _ _ _ h => h) (Or.inl ⟨by rfl, ?_⟩) ?_ ?_
                rotate_left
                · intro w'
                  go_simp
                  with_reducible rfl
                rotate_left
                · simp only [Act.put, List.setIfInBounds_toArray, List.set_cons_zero, List.set_cons_succ, i64_w, i32_w]
                  rfl
                refine pure_ (i := 2) (N := some 80) (v := ?_) (a' := ?_) #[false, true, true, false, false, false, false, false, false, false, false, false, false, false, false, false, false, false, false, false, false] rfl rfl (by kernel_rfl) (fun _ _ _ h => h) (Or.inl ⟨by rfl, ?_⟩) ?_ ?_
                rotate_left
                · intro w'
                  go_simp
                  with_reducible rfl
                rotate_left
                · simp only [Act.put, List.setIfInBounds_toArray, List.set_cons_zero, List.set_cons_succ, i64_w, i32_w]
                  rfl
                refine pure_ (i := 3) (N := some 81) (v := ?_) (a' := ?_) #[false, true, true, true, false, false, false, false, false, false, false, false, false, false, false, false, false, false, false, false, false] rfl rfl (by kernel_rfl) (fun _ _ _ h => h) (Or.inl ⟨by rfl, ?_⟩) ?_ ?_
                rotate_left
                · intro w'
                  go_simp
                  with_reducible rfl
                rotate_left
                · simp only [Act.put, List.setIfInBounds_toArray, List.set_cons_zero, List.set_cons_succ, i64_w, i32_w]
                  rfl
                refine pure_ (i := 4) (N := some 82) (v := ?_) (a' := ?_) #[false, true, true, true, true, false, false, false, false, false, false, false, false, false, false, false, false, false, false, false, false] rfl rfl (by kernel_rfl) (fun _ _ _ h => h) (Or.inl ⟨by rfl, ?_⟩) ?_ ?_
                rotate_left
                · intro w'
                  go_simp
                  with_reducible rfl
                rotate_left
                · simp only [Act.put, List.setIfInBounds_toArray, List.set_cons_zero, List.set_cons_succ, i64_w, i32_w]
                  rfl
                refine pure_ (i := 6) (N := some 84) (v := ?_) (a' := ?_) #[false, true, true, true, true, false, true, false, false, false, false, false, false, false, false, false, false, false, false, false, false] rfl rfl (by kernel_rfl) (fun _ _ _ h => h) (Or.inl ⟨by rfl, ?_⟩) ?_ ?_
                rotate_left
                · intro w'
                  go_simp
                  with_reducible rfl
                rotate_left
                · simp only [Act.put, List.setIfInBounds_toArray, List.set_cons_zero, List.set_cons_succ, i64_w, i32_w]
                  rfl
                refine pure_ (i := 7) (N := some 85) (v := ?_) (a' := ?_) #[false, true, true, true, true, false, true, true, false, false, false, false, false, false, false, false, false, false, false, false, false] rfl rfl (by kernel_rfl) (fun _ _ _ h => h) (Or.inl ⟨by rfl, ?_⟩) ?_ ?_
                rotate_left
                · intro w'
                  go_simp
                  with_reducible rfl
                rotate_left
                · simp only [Act.put, List.setIfInBounds_toArray, List.set_cons_zero, List.set_cons_succ, i64_w, i32_w]
                  rfl
                refine pure_ (i := 8) (N := some 86) (v := ?_) (a' := ?_) #[false, true, true, true, true, false, true, true, true, false, false, false, false, false, false, false, false, false, false, false, false] rfl rfl (by kernel_rfl) (fun _ _ _ h => h) (Or.inl ⟨by rfl, ?_⟩) ?_ ?_
                rotate_left
                · intro w'
                  go_simp
                  with_reducible rfl
                rotate_left
                · simp only [Act.put, List.setIfInBounds_toArray, List.set_cons_zero, List.set_cons_succ, i64_w, i32_w]
                  rfl
                refine pure_ (i := 9) (N := some 87) (v := ?_) (a' := ?_) #[false, true, true, true, true, false, true, true, true, true, false, false, false, false, false, false, false, false, false, false, false] rfl rfl (by kernel_rfl) (fun _ _ _ h => h) (Or.inl ⟨by rfl, ?_⟩) ?_ ?_
                rotate_left
                · intro w'
                  go_simp
                  with_reducible rfl
                rotate_left
                · simp only [Act.put, List.setIfInBounds_toArray, List.set_cons_zero, List.set_cons_succ, i64_w, i32_w]
                  rfl
                refine take_ (i := 10) (N := some 88) (v := ?_) (a' := ?_) #[false, true, true, true, true, false, true, true, true, true, true, false, false, false, false, false, false, false, false, false, false] rfl rfl (by kernel_rfl) (fun _ _ _ h => h) (Or.inl ⟨by rfl, ?_⟩) hHeld ?_ ?_
                rotate_left
                · rintro w' ⟨s0, s1⟩
                  go_simp
                  with_reducible rfl
                rotate_left
                · simp only [Act.put, List.setIfInBounds_toArray, List.set_cons_zero, List.set_cons_succ, i64_w, i32_w]
                  rfl
                refine one_ (i := 0) (N := some 78) #[true, true, true, true, true, false, true, true, true, true, true, false, false, false, false, false, false, false, false, false, false] rfl rfl (by kernel_rfl) (by decide) (fun K hK => ?_)
                refine value_ (w1 := ?_) (v := ?_) (by rfl) rfl ?_ ?_
                rotate_left 2
                · go_simp
                  constructor
                  · rfl
                  · rfl
                have B1 : Below w.heap.size w (wd.alloc (.cells #[] 4 (0, 0))) := below_alloc hB _
                have E1 := empty_row wd w.heap.size (below_size hB)
                have C1 := Kd.C_below (row_C h2) (below_alloc (Below.refl wd.heap.size wd) (.cells #[] 4 (0, 0)))
                refine hK.out _ _ ⟨pw_cell_below (below_alloc (Below.refl _ _) _) z2, pw_cell_below (below_alloc (Below.refl _ _) _) z1⟩ (fun hHeld => ?_)
                clear hK K
                refine norm_ (a' := ?_) ?_ ?_
                rotate_left
                · show Act.put _ (some 78) _ = _
                  simp only [Act.put, List.setIfInBounds_toArray, List.set_cons_zero, List.set_cons_succ, i64_w, i32_w]
                  rfl
                refine one_ (i := 5) (N := some 83) #[true, true, true, true, true, true, true, true, true, true, true, false, false, false, false, false, false, false, false, false, false] rfl rfl (by kernel_rfl) (by decide) (fun K hK => ?_)
                refine Kd.R_append_rows_step Kd.bool (Rr := fun x cs => cs = [Value.bool x]) (w0 := w) w.heap.size (by rfl) (.tmp 78) (.tmp 82) 50 4 (.bool false) 1 rfl Try.underlying50 infoBool rfl (by decide) (by omega) (.slice (some ⟨wd.heap.size, 0, none⟩) 0 0) [] (st.take y2.toNat) (some ⟨g, 0, none⟩) y2.toNat k2 (fun _ => True) (fun _ => False) rfl rfl (E1) (C1) (fun _ _ h => h) (fun _ h => h.elim) (fun _ _ => trivial) (B1) (below_size (B1)) (by have := HL.out; simp only [List.length_nil]; omega) ?_
                intro v5 w5 ho5 hb5 hg5 hat5
                have d2 := cell_grown hg5 (pw_cell_below (below_alloc (Below.refl wd.heap.size wd) (.cells #[] 4 (0, 0))) z2) (ne_new hlt)
                have d1 := cell_grown hg5 (pw_cell_below (below_alloc (Below.refl wd.heap.size wd) (.cells #[] 4 (0, 0))) z1) (ne_new hlt)
                refine hK.out _ _ ⟨d2, d1⟩ (fun hHeld => ?_)
                clear hK K
                refine norm_ (a' := ?_) ?_ ?_
                rotate_left
                · show Act.put _ (some 83) _ = _
                  simp only [Act.put, List.setIfInBounds_toArray, List.set_cons_zero, List.set_cons_succ, i64_w, i32_w]
                  rfl
                refine pure_ (i := 11) (N := some 89) (v := ?_) (a' := ?_) #[true, true, true, true, true, true, true, true, true, true, true, true, false, false, false, false, false, false, false, false, false] rfl rfl (by kernel_rfl) (fun _ _ _ h => h) (Or.inl ⟨by rfl, ?_⟩) ?_ ?_
                rotate_left
                · intro w'
                  go_simp
                  with_reducible rfl
                rotate_left
                · simp only [Act.put, List.setIfInBounds_toArray, List.set_cons_zero, List.set_cons_succ, i64_w, i32_w]
                  rfl
                refine pure_ (i := 12) (N := some 90) (v := ?_) (a' := ?_) #[true, true, true, true, true, true, true, true, true, true, true, true, true, false, false, false, false, false, false, false, false] rfl rfl (by kernel_rfl) (fun _ _ _ h => h) (Or.inl ⟨by rfl, ?_⟩) ?_ ?_
                rotate_left
                · intro w'
                  go_simp
                  with_reducible rfl
                rotate_left
                · simp only [Act.put, List.setIfInBounds_toArray, List.set_cons_zero, List.set_cons_succ, i64_w, i32_w]
                  rfl
                refine pure_ (i := 13) (N := some 91) (v := ?_) (a' := ?_) #[true, true, true, true, true, true, true, true, true, true, true, true, true, true, false, false, false, false, false, false, false] rfl rfl (by kernel_rfl) (fun _ _ _ h => h) (Or.inl ⟨by rfl, ?_⟩) ?_ ?_
                rotate_left
                · intro w'
                  go_simp
                  with_reducible rfl
                rotate_left
                · simp only [Act.put, List.setIfInBounds_toArray, List.set_cons_zero, List.set_cons_succ, i64_w, i32_w]
                  rfl
                refine pure_ (i := 14) (N := some 92) (v := ?_) (a' := ?_) #[true, true, true, true, true, true, true, true, true, true, true, true, true, true, true, false, false, false, false, false, false] rfl rfl (by kernel_rfl) (fun _ _ _ h => h) (Or.inl ⟨by rfl, ?_⟩) ?_ ?_
                rotate_left
                · intro w'
                  go_simp
                  with_reducible rfl
                rotate_left
                · simp only [Act.put, List.setIfInBounds_toArray, List.set_cons_zero, List.set_cons_succ, i64_w, i32_w]
                  rfl
                refine pure_ (i := 15) (N := some 93) (v := ?_) (a' := ?_) #[true, true, true, true, true, true, true, true, true, true, true, true, true, true, true, true, false, false, false, false, false] rfl rfl (by kernel_rfl) (fun _ _ _ h => h) (Or.inl ⟨by rfl, ?_⟩) ?_ ?_
                rotate_left
                · intro w'
                  go_simp
                  with_reducible rfl
                rotate_left
                · simp only [Act.put, List.setIfInBounds_toArray, List.set_cons_zero, List.set_cons_succ, i64_w, i32_w]
                  rfl
                refine take_ (i := 16) (N := some 94) (v := ?_) (a' := ?_) #[true, true, true, true, true, true, true, true, true, true, true, true, true, true, true, true, true, false, false, false, false] rfl rfl (by kernel_rfl) (fun _ _ _ h => h) (Or.inl ⟨by rfl, ?_⟩) hHeld ?_ ?_
                rotate_left
                · rintro w' ⟨s0, s1⟩
                  go_simp
                  with_reducible rfl
                rotate_left
                · simp only [Act.put, List.setIfInBounds_toArray, List.set_cons_zero, List.set_cons_succ, i64_w, i32_w]
                  rfl
                refine pure_ (i := 17) (N := some 95) (v := ?_) (a' := ?_) #[true, true, true, true, true, true, true, true, true, true, true, true, true, true, true, true, true, true, false, false, false] rfl rfl (by kernel_rfl) (fun _ _ _ h => h) (Or.inl ⟨by rfl, ?_⟩) ?_ ?_
                rotate_left
                · intro w'
                  go_simp
                  with_reducible rfl
                rotate_left
                · simp only [Act.put, List.setIfInBounds_toArray, List.set_cons_zero, List.set_cons_succ, i64_w, i32_w]
                  rfl
                refine one_ (i := 18) (N := some 96) #[true, true, true, true, true, true, true, true, true, true, true, true, true, true, true, true, true, true, true, false, false] rfl rfl (by kernel_rfl) (by decide) (fun K hK => ?_)
                refine value_ (w1 := ?_) (v := ?_) (by rfl) rfl ?_ ?_
                rotate_left 2
                · go_simp
                  constructor
                  · rfl
                  · rfl
                refine hK.out _ _ ⟨pw_cell_below (below_alloc (Below.refl _ _) _) d2, pw_cell_below (below_alloc (Below.refl _ _) _) d1⟩ (fun hHeld => ?_)
                clear hK K
                refine norm_ (a' := ?_) ?_ ?_
                rotate_left
                · show Act.put _ (some 96) _ = _
                  simp only [Act.put, List.setIfInBounds_toArray, List.set_cons_zero, List.set_cons_succ, i64_w, i32_w]
                  rfl
                refine last_ (i := 19) (N := some 97) #[true, true, true, true, true, true, true, true, true, true, true, true, true, true, true, true, true, true, true, true, false] rfl rfl (by kernel_rfl) (by decide) (fun K hK => ?_)
                refine Kd.R_append_step Kd.bool (w0 := w) w.heap.size (by rfl) (.tmp 83) (.tmp 96) 50 4 (.bool false) 1 rfl Try.underlying50 infoBool rfl (by decide) (by omega) v5 ([] ++ st.take y2.toNat) bb [.bool bb] (fun _ => True) (fun _ => False) rfl rfl rfl (fun _ hk => hk.elim) (fun _ _ => trivial) ho5 hb5 (below_size hb5) (by have := HL.out; simp only [List.nil_append, List.length_take]; omega) ?_
                intro v1 w1 ho hb hg hat
                refine hK.out _ _ ?_
                clear hK K
                refine norm_ (a' := ?_) ?_ ?_
                rotate_left
                · show Act.put _ (some 97) _ = _
                  simp only [Act.put, List.setIfInBounds_toArray, List.set_cons_zero, List.set_cons_succ, i64_w, i32_w]
                  rfl
                refine pure_ (i := 20) (N := some 6) (v := ?_) (a' := ?_) #[true, true, true, true, true, true, true, true, true, true, true, true, true, true, true, true, true, true, true, true, true] rfl rfl (by kernel_rfl) (fun _ _ _ h => h) (Or.inl ⟨by rfl, ?_⟩) ?_ ?_
                rotate_left
                · intro w'
                  go_simp
                  with_reducible rfl
                rotate_left
                · simp only [Act.put, List.setIfInBounds_toArray, List.set_cons_zero, List.set_cons_succ, i64_w, i32_w]
                  rfl
                refine done_ (by kernel_rfl) ?_
                rw [List.nil_append] at ho
                go_wp2
                go_roundg (gk - 1)
                case measure => have := HX.out; have := HQ.out; omega
                case rel => exact ⟨q + 1, _, _, rfl, ⟨HW.out, HQ.out, by have := HX.out; omega, HL2.out⟩, ⟨ho⟩, ⟨HS.out⟩, ⟨hb⟩⟩
            · have c0N : decide (2 ≤ (N : Int)) = false := decide_eq_false (by omega)
              have c0M : decide (2 ≤ N) = false := decide_eq_false (by omega)
              have HN0 : evStep on st s = none := by
                unfold evStep
                rw [if_neg (fun h => hs1 h.1), if_neg (fun h => hs2 h.1), if_neg (fun h => hN (by have := h.2; omega)), if_neg (by rw [hs3]; decide)]
              clear hNl hw_ hq4 hN hs1 hs2
              have t0 : (s.toList == ([33] : List UInt8)) = false := beq_eq_false_iff_ne.mpr (fun h => (by decide : sOr ≠ sNot) (hs3.symm.trans (lit_sNot.1 h)))
              have t1 : (s.toList == ([38, 38] : List UInt8)) = false := beq_eq_false_iff_ne.mpr (fun h => (by decide : sOr ≠ sAnd) (hs3.symm.trans (lit_sAnd.1 h)))
              have t2 : (s.toList == ([124, 124] : List UInt8)) = true := beq_iff_eq.mpr (lit_sOr.2 hs3)
              have HS := Aside0.mk (show (rb, re) = (false, 4) from by
                rw [← HE.out, ev_stop]
                exact (HN0 : evStep on st s = none))
              have htag : rTag s = false := by rw [hs3]; rfl
              have HT := Aside0.mk (show seicheref13_Tag.f KT s = some false from by rw [HKT.out, htag])
              simp only [Prod.mk.injEq] at HS
              obtain ⟨rfl, rfl⟩ := HS.out
              clear htag hs3
              go_wp2_with (first | (go_at_call 15; refine (seicheref13_Tag.calls KT s false _ HT.out).mono ?_; rintro e w2 ⟨rfl, ⟨nd, rfl⟩⟩))
              go_ret2
              exact ⟨rfl, pw_below_drewN HB.out _⟩
          · have n0 := hs1
            have n1 := hs2
            have n2 := hs3
            by_cases ct : rTag s = true
            · have t0 : (s.toList == ([33] : List UInt8)) = false := beq_eq_false_iff_ne.mpr (fun h => n0 (lit_sNot.1 h))
              have t1 : (s.toList == ([38, 38] : List UInt8)) = false := beq_eq_false_iff_ne.mpr (fun h => n1 (lit_sAnd.1 h))
              have t2 : (s.toList == ([124, 124] : List UInt8)) = false := beq_eq_false_iff_ne.mpr (fun h => n2 (lit_sOr.1 h))
              have HT := Aside0.mk (show seicheref13_Tag.f KT s = some true from by rw [HKT.out, ct])
              have HR := Aside0.mk (show evStep on st s = some (st ++ [memB on s]) from by
                unfold evStep
                rw [if_neg (fun h => hs1 h.1), if_neg (fun h => hs2 h.1), if_neg (fun h => hs3 h.1), if_pos ct])
              have HS := Aside0.mk (ev_go HE.out HR.out)
              have HL2 := Aside0.mk (show (st ++ [memB on s]).length ≤ q + 1 from by rw [List.length_append, List.length_singleton]; omega)
              have HL := Aside0.mk (show (st.length + 1) * 1 ≤ 140737488355328 by omega)
              obtain ⟨K, hK⟩ := in_ev on HL1.out s
              have HK := Aside0.mk (hK K (Nat.le_refl _))
              obtain ⟨b, hb_⟩ : ∃ b, b = memB on s := ⟨_, rfl⟩
              rw [← hb_] at HS HK HL2
              obtain ⟨m, hm⟩ : ∃ m : Nat, m = on.length := ⟨_, rfl⟩
              have HM := Aside0.mk hm
              rw [← hm]
              clear hNl hw_ hq4 hs1 hs2 hs3 n0 n1 n2 HR hK hb_ ct hm
              go_wp2_with (first | (go_at_call 15; refine (seicheref13_Tag.calls KT s true _ HT.out).mono ?_; rintro e w2 ⟨rfl, ⟨nd, rfl⟩⟩) | (go_at_call 18; rw [HM.out]; refine (seicheref13_In.calls K A1 c1 on s b _ (Kd.C_below HR1.out (pw_below_drewN HB.out _)) HC1.out HK.out).mono ?_; rintro e w3 ⟨rfl, ⟨nd3, rfl⟩⟩; have HB2 := Aside0.mk (pw_below_drewN HB.out (nd + nd3)); have HV2 := Aside0.mk (Kd.R_drewN HV.out (nd + nd3))) | ((with_reducible refine gate_builtin (b := .append) (xs := #[.tmp 20, .tmp 24]) rfl ?_); (try (refine gate_guard (by rfl) ?_; dsimp only)); at_builtin; refine Kd.R_append Kd.bool (w0 := w) w.heap.size rfl (.tmp 20) (.tmp 24) 50 4 (.bool false) 1 rfl Try.underlying50 infoBool rfl (by decide) (by omega) (.slice A2 N k2) st b [.bool b] (fun _ => True) (fun _ => False) rfl rfl ?aP (fun _ hk => hk.elim) ?aF ?aO ?aB ?aS ?aL ?_; (case aP => exact rfl); (case aB => exact HB2.out); (case aF => intro k hk; trivial); (case aO => exact HV2.out); (case aS => exact below_size HB2.out); (case aL => exact HL.out); intro v1 w1 ho hb hg hat))
              go_roundg (gk - 1)
              case measure => have := HX.out; have := HQ.out; omega
              case rel => exact ⟨q + 1, _, _, rfl, ⟨HW.out, HQ.out, by have := HX.out; omega, HL2.out⟩, ⟨ho⟩, HS, ⟨hb⟩⟩
            · have HN0 : evStep on st s = none := by
                unfold evStep
                rw [if_neg (fun h => hs1 h.1), if_neg (fun h => hs2 h.1), if_neg (fun h => hs3 h.1), if_neg ct]
              clear hNl hw_ hq4 hs1 hs2 hs3
              have t0 : (s.toList == ([33] : List UInt8)) = false := beq_eq_false_iff_ne.mpr (fun h => n0 (lit_sNot.1 h))
              have t1 : (s.toList == ([38, 38] : List UInt8)) = false := beq_eq_false_iff_ne.mpr (fun h => n1 (lit_sAnd.1 h))
              have t2 : (s.toList == ([124, 124] : List UInt8)) = false := beq_eq_false_iff_ne.mpr (fun h => n2 (lit_sOr.1 h))
              have HS := Aside0.mk (show (rb, re) = (false, 4) from by
                rw [← HE.out, ev_stop]
                exact (HN0 : evStep on st s = none))
              have htag : rTag s = false := Bool.eq_false_iff.2 ct
              have HT := Aside0.mk (show seicheref13_Tag.f KT s = some false from by rw [HKT.out, htag])
              simp only [Prod.mk.injEq] at HS
              obtain ⟨rfl, rfl⟩ := HS.out
              clear htag n0 n1 n2 ct
              go_wp2_with (first | (go_at_call 15; refine (seicheref13_Tag.calls KT s false _ HT.out).mono ?_; rintro e w2 ⟨rfl, ⟨nd, rfl⟩⟩))
              go_ret2
              exact ⟨rfl, pw_below_drewN HB.out _⟩
    · have c1b : decide (x < (n : Int)) = false := decide_eq_false (by omega)
      have HE2 := HE.out
      rw [List.drop_of_length_le (by have := HNn.out; omega)] at HE2
      simp only [evL] at HE2
      by_cases c3 : st.length = 1
      · rw [if_pos c3] at HE2
        simp only [Prod.mk.injEq] at HE2
        obtain ⟨rfl, rfl⟩ := HE2
        have hN1 : N = 1 := by omega
        subst hN1
        obtain ⟨g, rfl⟩ := bool_some HV.out (by omega)
        have z0 := (bool_row HV.out 0 (by omega) (by omega)).1
        simp only [Int.toNat_zero] at z0
        clear hw_ hq4 c1 c3 hNl
        go_wp2
        go_ret2
        exact ⟨rfl, HB.out⟩
      · rw [if_neg c3] at HE2
        simp only [Prod.mk.injEq] at HE2
        obtain ⟨rfl, rfl⟩ := HE2
        have c3b : ((N : Int) == 1) = false := beq_eq_false_iff_ne.mpr (by omega)
        have c3c : (N == 1) = false := beq_eq_false_iff_ne.mpr (by omega)
        clear hw_ hq4 c1 c3 hNl
        go_wp2
        go_ret2
        exact ⟨rfl, HB.out⟩
def seicheref13_Eval.f (l0 l1 : List ByteArray) : Option (Bool × Bool) := if l0.length ≤ 4294967296 ∧ l1.length ≤ 4294967296 ∧ (∀ s ∈ l0, s.size ≤ 140737488351232) then some ((evL l1 l0 []).1, (evL l1 l0 []).2 == 0) else none
theorem seicheref13_Eval.calls (A0 : Option Addr) (c0 : Nat) (l0 : List ByteArray) (A1 : Option Addr) (c1 : Nat) (l1 : List ByteArray) (r1 : Bool) (r2 : Bool) (w : World) (hr0 : Kd.C Kd.string w A0 l0.length l0) (hc0 : l0.length ≤ c0) (hr1 : Kd.C Kd.string w A1 l1.length l1) (hc1 : l1.length ≤ c1) (h : seicheref13_Eval.f l0 l1 = some (r1, r2)) :
    Calls Try.prog 17 #[.slice A0 l0.length c0, .slice A1 l1.length c1] w fun e w' => e = .returned (.tuple #[.bool r1, .bool r2]) ∧ Below w.heap.size w w' := by
  unfold seicheref13_Eval.f at h
  by_cases c : l0.length ≤ 4294967296 ∧ l1.length ≤ 4294967296 ∧ (∀ s ∈ l0, s.size ≤ 140737488351232)
  · rw [if_pos c] at h
    simp only [Option.some.injEq, Prod.mk.injEq] at h
    obtain ⟨rfl, rfl⟩ := h
    exact reval_walk A0 c0 l0 A1 c1 l1 _ _ w hr0 hc0 hr1 hc1 c.1 c.2.1 c.2.2 rfl
  · rw [if_neg c] at h
    exact absurd h (by simp)
end Go.Proofs.Ytcpemjolabofnaa.PAll
