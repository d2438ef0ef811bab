/- Joined texts of this claim, in build order. -/
import Derived.Test.YtclkcipakncjkaaMg3
namespace Go.Proofs.Ytclkcipakncjkaa.Kv
open Go Go.RowKit Go.Proofs.YtclkcipakncjkaaW.PrintWords Go.Proofs.YtclkcipakncjkaaW.PrintLast Go.Proofs.YtclkcipakncjkaaW.PrintMore Go.Proofs.YtclkcipakncjkaaMy Go.Proofs.Ytclkcipakncjkaa Go.Proofs.YtclkcipakncjkaaPw Go.Proofs.Ytclkcipakncjkaa.PAll Go.Proofs.Ytclkcipakncjkaa.Dk
set_option linter.unusedVariables false
set_option linter.unusedSimpArgs false
section
variable {w : World} {A : Option Addr} {n c : Nat} {sc : List C5} {m : Int}
set_option maxHeartbeats 16000000 in
set_option maxRecDepth 100000 in
theorem kl_1 (hg : ∀ w', Below w.heap.size w w' → Calls Try.prog 15 #[.slice A n c] w' fun e w2 => e = .returned (.bool true) ∧ Below w'.heap.size w' w2)  : Calls Try.prog 7 #[.int .i64 m, .slice A n c] w fun e w' => e = .returned (.bool true) ∧ Below w.heap.size w w' := by
  have HGr := Aside0.mk hg
  clear hg 
  go_enter Try.func7, Try.ntmps7
  go_wp2_with (first
    | (go_at_call 9; refine (alive_Q w).mono ?_; rintro e w1 ⟨rfl, hb⟩; have HA := Aside0.mk hb; clear hb)
    | (go_at_call 15; refine (HGr.out _ HA.out).mono ?_; rintro e w2 ⟨rfl, hb⟩; have HA2 := Aside0.mk (HA.out.trans (hb.mono HA.out.size)); clear hb HA))
  go_ret
  exact ⟨rfl, HA2.out⟩
set_option maxHeartbeats 16000000 in
set_option maxRecDepth 100000 in
theorem kl_2 (hg : ∀ w', Below w.heap.size w w' → Calls Try.prog 15 #[.slice A n c] w' fun e w2 => e = .returned (.bool false) ∧ Below w'.heap.size w' w2) (h : m < 1) : Calls Try.prog 7 #[.int .i64 m, .slice A n c] w fun e w' => e = .returned (.bool true) ∧ Below w.heap.size w w' := by
  have HGr := Aside0.mk hg
  have b1 : decide (m < 1) = true := decide_eq_true h
  clear hg h
  go_enter Try.func7, Try.ntmps7
  go_wp2_with (first
    | (go_at_call 9; refine (alive_Q w).mono ?_; rintro e w1 ⟨rfl, hb⟩; have HA := Aside0.mk hb; clear hb)
    | (go_at_call 15; refine (HGr.out _ HA.out).mono ?_; rintro e w2 ⟨rfl, hb⟩; have HA2 := Aside0.mk (HA.out.trans (hb.mono HA.out.size)); clear hb HA))
  go_ret
  exact ⟨rfl, HA2.out⟩
set_option maxHeartbeats 16000000 in
set_option maxRecDepth 100000 in
theorem kl_3 (hg : ∀ w', Below w.heap.size w w' → Calls Try.prog 15 #[.slice A n c] w' fun e w2 => e = .returned (.bool false) ∧ Below w'.heap.size w' w2) (h0 : 1 ≤ m) (h : 100 < m) : Calls Try.prog 7 #[.int .i64 m, .slice A n c] w fun e w' => e = .returned (.bool true) ∧ Below w.heap.size w w' := by
  have HGr := Aside0.mk hg
  have b1 : decide (m < 1) = false := decide_eq_false (by omega)
  have b2 : decide ((100 : Int) < m) = true := decide_eq_true h
  clear hg h0 h
  go_enter Try.func7, Try.ntmps7
  go_wp2_with (first
    | (go_at_call 9; refine (alive_Q w).mono ?_; rintro e w1 ⟨rfl, hb⟩; have HA := Aside0.mk hb; clear hb)
    | (go_at_call 15; refine (HGr.out _ HA.out).mono ?_; rintro e w2 ⟨rfl, hb⟩; have HA2 := Aside0.mk (HA.out.trans (hb.mono HA.out.size)); clear hb HA))
  go_ret
  exact ⟨rfl, HA2.out⟩
set_option maxHeartbeats 16000000 in
set_option maxRecDepth 100000 in
theorem kl_main (hs : Script w A n c sc) (hg : ∀ w', Below w.heap.size w w' → Calls Try.prog 15 #[.slice A n c] w' fun e w2 => e = .returned (.bool false) ∧ Below w'.heap.size w' w2) (hgr : tot sc ≤ 4096 ∧ sc.length ≤ 60) (h0 : 1 ≤ m) (h1 : m ≤ 100) : Calls Try.prog 7 #[.int .i64 m, .slice A n c] w fun e w' => e = .returned (.bool true) ∧ Below w.heap.size w w' := by
  have hu := Try.underlying42
  have hu2 := Try.underlying40
  have hu3 := Try.underlying54
  have HGr := Aside0.mk hg
  have HSc := Aside0.mk hs
  have HGt := Aside0.mk hgr
  have HNl := Aside0.mk hs.len
  have H60 := Aside0.mk (show n ≤ 60 from by rw [hs.len]; exact hgr.2)
  have HM := Aside0.mk (And.intro h0 h1)
  have b1 : decide (m < 1) = false := decide_eq_false (by omega)
  have b2 : decide ((100 : Int) < m) = false := decide_eq_false (by omega)
  clear hg h0 h1 hs hgr
  go_enter Try.func7, Try.ntmps7
  go_wp2_with (first
    | (go_at_call 9; refine (alive_Q w).mono ?_; rintro e w1 ⟨rfl, hb⟩; have HA := Aside0.mk hb; clear hb)
    | (go_at_call 15; refine (HGr.out _ HA.out).mono ?_; rintro e w2 ⟨rfl, hb⟩; have HA2 := Aside0.mk (HA.out.trans (hb.mono HA.out.size)); clear hb HA)
    | (go_at_call 11; refine (New_D w2 1048576).mono ?_; rintro e w3 ⟨gd, S0, rfl, hd, hb⟩; have HD0 := Aside0.mk (Dev.mk (B := w.heap.size) hd.at_ (fun j hj => Nat.le_trans HA2.out.size (hd.lo j hj)) hd.hi); have HB0 := Aside0.mk (HA2.out.trans (hb.mono HA2.out.size)); clear hd hb HA2)
    | (go_at_call 10; refine (Open_new HD0.out HB0.out.size (by have := HM.out; omega)).mono ?_; rintro e w4 ⟨rfl, S1, S2, hk, hs⟩; have hbx := blk_new w4 (.cells #[.int .i64 m, .slice none 0 0, .int .i64 0] 40 (0, 0)); have hba := below_alloc (Below.refl w4.heap.size w4) (.cells #[.int .i64 m, .slice none 0 0, .int .i64 0] 40 (0, 0)); have hkl := KL.first (KDM.make hk hba hbx (Nat.le_refl _)); rw [show (w4.alloc (.cells #[.int .i64 m, .slice none 0 0, .int .i64 0] 40 (0, 0))).heap.size = w4.heap.size + 1 from Array.size_push ..] at hkl; have HKL := Aside0.mk hkl; have HB1 := Aside0.mk (HB0.out.trans (hs.only.toBelow HD0.out.lo HB0.out.size)); have HB2 := Aside0.mk (HB1.out.trans ((below_alloc hba (.cells #[.slice none 0 0] 38 (0, 0))).mono HB1.out.size)); clear hk hs HD0 HB0 hbx hba hkl HB1))
  go_loopw [6, 9, 49] (fun s sv i wr => ∃ (j g gs o nn cap : Nat) (S1 S2 : Nat → Prop) (d : DS) (rs0 rs : List ByteArray) (l : List E) (z : Int) (SS : List (List E)), j ≤ n ∧ s = .pointer (some ⟨g, 0, none⟩) ∧ sv = .slice (some ⟨gs, o, none⟩) nn cap ∧ i = .int .i64 (j : Int) ∧ Aside0 (KL S1 S2 w.heap.size wr gd g w4.heap.size gs o nn cap d m l l z SS) ∧ Aside0 (DL kN m (costL (sc.take j)) (5 * (j : Int)) d rs0 rs l SS ∧ 0 ≤ z ∧ z ≤ 500000 * (j : Int) ∧ SS.length ≤ 1 + 202 * j) ∧ Aside0 (Below w.heap.size w wr)) (fun _ _ i _ => n - (intOf i).toNat)
  case atStart => exact ⟨0, _, _, 0, 1, 1, S1, S2, _, [], [], [], 0, [[]], Nat.zero_le _, rfl, rfl, rfl, HKL, ⟨DL.new kN HM.out.1, Int.le_refl _, by omega, by decide⟩, HB2⟩
  case round =>
    obtain ⟨j, g, gs, o, nn, cap, S1a, S2a, d, rs0, rs, l, z, SS, hj, rfl, rfl, rfl, HD, HI, HB⟩ := hrel
    clear HKL HB2
    by_cases hlt : j < n
    · have kb : decide ((j : Int) < (n : Int)) = true := decide_eq_true (Int.ofNat_lt.2 hlt)
      have kbn : decide (j < n) = true := decide_eq_true hlt
      have HSSl := Aside0.mk HI.out.1.len
      obtain ⟨kind, key, val, N, fuse, keep, torn, hr⟩ := CRow.get (show j < sc.length from by rw [← HNl.out]; exact hlt)
      have HR := Aside0.mk hr
      have HSz := Aside0.mk (show key.size + val.size ≤ 274877906944 from by have := hr.tot; have := HGt.out; omega)
      have HFu := Aside0.mk (CRow.fuse HSc.out hr)
      have hco : costL (sc.take j) + costC kind key val ≤ 500000 := by rw [← hr.cost]; have := costL_12 HGt.out (j + 1); omega
      obtain ⟨ad, eA, y0, y1, y2, y3, y4, y5, y6⟩ := HSc.out.cells HB.out hr
      subst eA
      by_cases h4 : kind = 4
      · have k4 : (kind == 4) = true := beq_iff_eq.mpr h4
        have HI2 := Aside0.mk (show DL kN m (costL (sc.take (j + 1))) (5 * (((j + 1 : Nat)) : Int)) d rs0 rs l SS ∧ 0 ≤ z ∧ z ≤ 500000 * (((j + 1 : Nat)) : Int) ∧ SS.length ≤ 1 + 202 * (j + 1) from ⟨HI.out.1.mono (by rw [hr.cost]; exact Nat.le_add_right _ _) (by omega), HI.out.2.1, by have := HI.out.2.2.1; omega, by have := HI.out.2.2.2; omega⟩)
        clear hr hco h4 HI
        go_wp2_with (first
          | ((with_reducible refine gate_dst (N := 11) rfl ?_); refine box_event ?hg (N := 11) ?hd (cs := #[.int .i64 0, .string (⟨#[]⟩ : ByteArray), .string (⟨#[]⟩ : ByteArray), .int .i64 0, .int .i64 0, .int .i64 0, .bool false]) (t := 42) ?hr ?_; (case hd => rfl); (case hg => rfl); (case hr => first | (go_simp; done) | (go_simp; rfl)); intro gb hg wq hbox hb; have HGb := Aside0.mk (Nat.le_of_eq hg.symm); have BX := Aside0.mk (box_seven (W := wr) hbox (Nat.le_of_eq hg.symm) hb (.int .i64 kind) (.string key) (.string val) (.int .i64 N) (.int .i64 fuse) (.int .i64 keep) (.bool torn)); have q0 : wq.cell? ⟨gb, 0, none⟩ = some (.int .i64 0) := (blk_cell hbox 0).trans rfl; have r0 := blk_frozen hbox 0; have q1 : wq.cell? ⟨gb, 1, none⟩ = some (.string (⟨#[]⟩ : ByteArray)) := (blk_cell hbox 1).trans rfl; have r1 := blk_frozen hbox 1; have q2 : wq.cell? ⟨gb, 2, none⟩ = some (.string (⟨#[]⟩ : ByteArray)) := (blk_cell hbox 2).trans rfl; have r2 := blk_frozen hbox 2; have q3 : wq.cell? ⟨gb, 3, none⟩ = some (.int .i64 0) := (blk_cell hbox 3).trans rfl; have r3 := blk_frozen hbox 3; have q4 : wq.cell? ⟨gb, 4, none⟩ = some (.int .i64 0) := (blk_cell hbox 4).trans rfl; have r4 := blk_frozen hbox 4; have q5 : wq.cell? ⟨gb, 5, none⟩ = some (.int .i64 0) := (blk_cell hbox 5).trans rfl; have r5 := blk_frozen hbox 5; have q6 : wq.cell? ⟨gb, 6, none⟩ = some (.bool false) := (blk_cell hbox 6).trans rfl; have r6 := blk_frozen hbox 6; clear hbox hb hg))
        go_roundw
        case rel => exact ⟨j + 1, g, gs, o, nn, cap, _, _, d, rs0, rs, l, z, SS, hlt, rfl, rfl, vE hlt (by have := H60.out; omega), ⟨HD.out.below BX.out.2⟩, HI2, ⟨HB.out.trans (BX.out.2.mono HB.out.size)⟩⟩
        case measure => exact mE hlt (by have := H60.out; omega)
      have k4 : (kind == 4) = false := beq_eq_false_iff_ne.mpr h4
      have HF := Aside0.mk ((HI.out.1.dc.arm fuse keep torn HFu.out).fine (z := z) kN_nm (by have := HM.out; omega) (by have := H60.out; omega) (by have := HI.out.2; have := H60.out; omega))
      have HKn := Aside0.mk HI.out.1.dc.lf.kn
      have HSh := Aside0.mk HI.out.1.dc.lf.fit.short
      have HLl := Aside0.mk (show l.length ≤ 100 from by have := HI.out.1.dc.lf.len; have := HM.out; omega)
      obtain ⟨y, z', x, lx, d', st, hst, hdR, hdS, hz1, hz2, hlf, hsg, hsl, hpre, hlast, hu1, hu2, hout⟩ := HI.out.1.round (z := z) kN_nm HM.out kind key val N fuse keep torn HFu.out hco HI.out.2.1
      have HSt := Aside0.mk hst
      have HdR := Aside0.mk hdR
      have HdS := Aside0.mk hdS
      have HZ := Aside0.mk (show 0 ≤ z' ∧ z' ≤ 500000 * (((j + 1 : Nat)) : Int) from ⟨hz1, by have := HI.out.2.2.1; omega⟩)
      have HLf := Aside0.mk hlf
      have HSg := Aside0.mk hsg
      have HSl := Aside0.mk hsl
      have HPre := Aside0.mk hpre
      have HLast := Aside0.mk hlast
      have HU1 := Aside0.mk hu1
      have HU2 := Aside0.mk hu2
      have HOut := Aside0.mk hout
      have HSn := Aside0.mk (show SS.length ≤ 1 + 202 * j from HI.out.2.2.2)
      clear hr hco hst hdR hdS hz1 hz2 hlf hsg hsl hpre hlast hu1 hu2 hout h4 HI
      by_cases c0 : kind = 0
      · as_aux_lemma =>
          have k0 : (kind == 0) = true := beq_iff_eq.mpr c0
          have k1 : (kind == 1) = false := beq_eq_false_iff_ne.mpr (by omega)
          by_cases c65 : 65536 < (recP key val).size
          · have kr : decide (((recP key val).size : Int) ≤ 65536) = false := decide_eq_false (by omega)
            have kr2 : decide ((recP key val).size ≤ 65536) = false := decide_eq_false (by omega)
            have HS0 := Aside0.mk (show st = [] from by have h := HSt.out; unfold stepsP at h; rw [if_pos c0, if_pos c65] at h; exact h.symm)
            have HQs := Aside0.mk (show 0 = st.length from by rw [HS0.out]; rfl)
            have HN23 := Aside0.mk (show ¬ (kind = 2 ∨ kind = 3) from by omega)
            clear c0 c65
            go_wp2_with (first
              | ((with_reducible refine gate_dst (N := 11) rfl ?_); refine box_event ?hg (N := 11) ?hd (cs := #[.int .i64 0, .string (⟨#[]⟩ : ByteArray), .string (⟨#[]⟩ : ByteArray), .int .i64 0, .int .i64 0, .int .i64 0, .bool false]) (t := 42) ?hr ?_; (case hd => rfl); (case hg => rfl); (case hr => first | (go_simp; done) | (go_simp; rfl)); intro gb hg wq hbox hb; have HGb := Aside0.mk (Nat.le_of_eq hg.symm); have BX := Aside0.mk (box_seven (W := wr) hbox (Nat.le_of_eq hg.symm) hb (.int .i64 kind) (.string key) (.string val) (.int .i64 N) (.int .i64 fuse) (.int .i64 keep) (.bool torn)); have q0 : wq.cell? ⟨gb, 0, none⟩ = some (.int .i64 0) := (blk_cell hbox 0).trans rfl; have r0 := blk_frozen hbox 0; have q1 : wq.cell? ⟨gb, 1, none⟩ = some (.string (⟨#[]⟩ : ByteArray)) := (blk_cell hbox 1).trans rfl; have r1 := blk_frozen hbox 1; have q2 : wq.cell? ⟨gb, 2, none⟩ = some (.string (⟨#[]⟩ : ByteArray)) := (blk_cell hbox 2).trans rfl; have r2 := blk_frozen hbox 2; have q3 : wq.cell? ⟨gb, 3, none⟩ = some (.int .i64 0) := (blk_cell hbox 3).trans rfl; have r3 := blk_frozen hbox 3; have q4 : wq.cell? ⟨gb, 4, none⟩ = some (.int .i64 0) := (blk_cell hbox 4).trans rfl; have r4 := blk_frozen hbox 4; have q5 : wq.cell? ⟨gb, 5, none⟩ = some (.int .i64 0) := (blk_cell hbox 5).trans rfl; have r5 := blk_frozen hbox 5; have q6 : wq.cell? ⟨gb, 6, none⟩ = some (.bool false) := (blk_cell hbox 6).trans rfl; have r6 := blk_frozen hbox 6; clear hbox hb hg)
              | (go_at_call 23; have HC0 := Aside0.mk (HD.out.below BX.out.2); have HBx := Aside0.mk (HB.out.trans (BX.out.2.mono HB.out.size)); have HCb := Aside0.mk (Out.mk (S := UR S1a S2a w4.heap.size gs) BX.out.1 (fun hk => Nat.lt_irrefl _ (Nat.lt_of_lt_of_le (HD.out.k.hiU _ hk) HGb.out))); clear BX HD HB; refine (RCopy_M HC0.out.k.ms).mono ?_; rintro e w6 ⟨gw, rfl, hgw, hrow, hb⟩; have HW6 := Aside0.mk (Was.of HC0.out.k.hiU hgw hrow); have HD6 := Aside0.mk (HC0.out.below hb); have HB6 := Aside0.mk (HBx.out.trans (hb.mono HBx.out.size)); have HC6 := Aside0.mk (HCb.out.step (Step.same hb)); obtain ⟨e0, e1, e2, e3, e4, e5, e6⟩ := HC6.out.call;  clear hgw hrow hb HC0 HBx HCb)
              | (go_at_call 24; refine (RRec_Q _ key val HSz.out).mono ?_; rintro e w7 ⟨rfl, hb⟩; have HD7 := Aside0.mk (HD6.out.below hb); have HB7 := Aside0.mk (HB6.out.trans (hb.mono HB6.out.size)); have HC7 := Aside0.mk (HC6.out.step (Step.same hb)); have HW7 := Aside0.mk (HW6.out.step (Step.same hb)); obtain ⟨e0, e1, e2, e3, e4, e5, e6⟩ := HC7.out.call; have HDp := HD7; have HBp := HB7; have HCp := HC7; have HWp := HW7;have HTp := Aside0.mk (show TRow (UR S1a S2a w4.heap.size gs) w7 none 0 st from by rw [HS0.out]; exact TRow.nil); clear hb HD6 HB6 HC6 HW6)
              | (go_at_call 27; have tk := HDp; clear tk; refine (Arm_D (j := fuse) (keep := keep) (torn := torn) HDp.out.k.kd.dev HDp.out.k.kd.size).mono ?_; rintro e w9 ⟨S19, rfl, hd, hs⟩; obtain ⟨hk, hst⟩ := HDp.out.dev hd hs; have HD9 := Aside0.mk hk; have HK9 := Aside0.mk (KB.step (KB.mk HCp.out HWp.out HTp.out) hst); have HB9 := Aside0.mk (HBp.out.trans (hst.only.toBelow HDp.out.k.loU HBp.out.size)); obtain ⟨e0, e1, e2, e3, e4, e5, e6⟩ := HK9.out.cb.call; clear hd hs hk hst HDp HBp HCp HWp HTp)
              | (go_at_call 16; refine (does_D HD9.out.k HF.out HSz.out HdS.out HdR.out).mono ?_; rintro e w10 ⟨rfl, S1b, S2b, hk7, hs7⟩; obtain ⟨hk, hst⟩ := HD9.out.does hk7 hs7; have HD10 := Aside0.mk hk; have HK10 := Aside0.mk (HK9.out.step hst); have HB10 := Aside0.mk (HB9.out.trans (hst.only.toBelow HD9.out.k.loU HB9.out.size)); clear hk7 hs7 hk hst HD9 HK9 HB9 HF HdS HdR)
              | (go_at_call 27; have tk := HD10; clear tk; refine (Arm_D (j := 0) (keep := 0) (torn := false) HD10.out.k.kd.dev HD10.out.k.kd.size).mono ?_; rintro e w11 ⟨S1c, rfl, hd, hs⟩; obtain ⟨hk, hst⟩ := HD10.out.dev hd hs; have HD11 := Aside0.mk hk; have HK11 := Aside0.mk (HK10.out.step hst); have HB11 := Aside0.mk (HB10.out.trans (hst.only.toBelow HD10.out.k.loU HB10.out.size)); obtain ⟨Aw, cw, qw, hqw, hcw, hrw, zw⟩ := HK11.out.ws.cell; have HQw := Aside0.mk hqw; have HCw := Aside0.mk hcw; have HRw := Aside0.mk hrw; clear hd hs hk hst hqw hcw hrw HD10 HK10 HB10))
            clear kr kr2
            go_loopw [9, 18, 125] (fun sv nv i wr => ∃ (a gs' o' nn' cap' : Nat) (An : Option Addr) (qn cn : Nat), a ≤ 0 ∧ sv = .slice (some ⟨gs', o', none⟩) nn' cap' ∧ nv = .slice An qn cn ∧ i = .int .i64 (a : Int) ∧ Aside0 (KL S1c S2b w.heap.size wr gd g w4.heap.size gs' o' nn' cap' (d'.arm 0 0 false) m lx (stepAll l st) z' (SS ++ (newS l st).take a)) ∧ Aside0 (KB (UR S1c S2b w4.heap.size gs') wr gb gw 0 kind key val N fuse keep torn m l none st) ∧ Aside0 (qn = (stepAll l (st.take a)).length ∧ (stepAll l (st.take a)).length ≤ cn ∧ ERow (UR S1c S2b w4.heap.size gs') wr An (stepAll l (st.take a)).length (stepAll l (st.take a))) ∧ Aside0 (Below w.heap.size w wr)) (fun _ _ i _ => 0 - (intOf i).toNat)
            case atStart => exact ⟨0, gs, o, nn, cap, Aw, qw, cw, Nat.zero_le _, rfl, rfl, rfl, ⟨by rw [List.take_zero, List.append_nil]; exact HD11.out⟩, HK11, ⟨by rw [List.take_zero]; exact ⟨HQw.out, HCw.out, HRw.out⟩⟩, HB11⟩
            case round =>
              obtain ⟨a, gs', o', nn', cap', An, qn, cn, ha, rfl, rfl, rfl, HD4, HK4, HN4, HB4⟩ := hrel
              clear HD11 HK11 HB11 HQw HCw HRw
              have kb : decide ((a : Int) < 0) = false := decide_eq_false (by omega)
              have kbn : decide (a < 0) = false := decide_eq_false (Nat.not_lt_zero _)
              have hfull : (newS l st).take a = newS l st := List.take_of_length_le (by rw [newS_len]; have := HQs.out; omega)
              have hd5 := HD4.out
              rw [hfull] at hd5
              have HLen2' : ∀ X ∈ SS ++ newS l st, X.length ≤ 1048576 := fun X hX => by
                rcases List.mem_append.1 hX with h | h
                · have := HSSl.out X h; omega
                · unfold newS at h
                  obtain ⟨i, _, rfl⟩ := List.mem_map.1 h
                  have := HPre.out (i + 1)
                  omega
              have hsn2 : (SS ++ newS l st).length ≤ 1 + 202 * (j + 1) := by rw [List.length_append, newS_len]; have := HSn.out; have := HSl.out; omega
              obtain ⟨SS2, hSS2⟩ : ∃ SS2, SS2 = SS ++ newS l st := ⟨_, rfl⟩
              have hla := HLast.out
              rw [← hSS2] at hd5 HLen2' hsn2 hla
              have HD5 := Aside0.mk hd5
              have HLen2 := Aside0.mk HLen2'
              have HSn2 := Aside0.mk hsn2
              have HLast2 := Aside0.mk hla
              have HNb := Aside0.mk (show nn' ≤ 1048576 from by have h1 := hd5.s.len; have := H60.out; omega)
              have HK5 := HK4
              have HB5 := HB4
              obtain ⟨e0, e1, e2, e3, e4, e5, e6⟩ := HK5.out.cb.call
              clear hfull hd5 HLen2' hsn2 hla HD4 HK4 HB4 HN4
              rcases HOut.out with h | h
              · obtain ⟨ex, elx, hy7, hy0, rs0', rs', hdl⟩ := h
                subst ex
                subst elx
                have x7 : (x != 7) = true := bne_iff_ne.mpr hy7
                have HY0 := Aside0.mk hy0
                have hdl : DL kN m (costL (sc.take (j + 1))) (5 * (((j + 1 : Nat)) : Int)) (d'.arm 0 0 false) rs0' rs' (stepAll l st) (if kind = 2 ∨ kind = 3 then [stepAll l st] else SS2) := by rw [HR.out.cost, hSS2]; exact hdl.mono (Nat.le_refl _) (by omega)
                obtain ⟨A6, c6, q6, hq6, hc6, hC6, zc⟩ := HD5.out.k.cell1
                have HQ := Aside0.mk hq6
                have HC := Aside0.mk hC6
                have HCc := Aside0.mk hc6
                have HLn := Aside0.mk (show (stepAll l st).length ≤ 1048576 from by have := HLf.out.len; have := HM.out; omega)
                clear hy7 hy0 hq6 hc6 hC6
                rw [if_neg HN23.out] at hdl
                have k2 : (kind == 2) = false := beq_eq_false_iff_ne.mpr (fun e => HN23.out (.inl e))
                have k3 : (kind == 3) = false := beq_eq_false_iff_ne.mpr (fun e => HN23.out (.inr e))
                by_cases hx0 : x = 0
                · subst hx0
                  have HDL := Aside0.mk hdl
                  clear hdl hSS2
                  go_wp2_with (first
                    | (go_at_call 17; refine (has_Q HD5.out.k.kd.st HLf.out.kn HQ.out HC.out HCc.out HLn.out HLn.out).mono ?_; rintro e w14 ⟨rfl, hb⟩; rw [decide_eq_true rfl]; have HD6 := Aside0.mk (HD5.out.below hb); have HK6 := Aside0.mk (HK5.out.step (Step.same hb)); have HB6 := Aside0.mk (HB5.out.trans (hb.mono HB5.out.size)); obtain ⟨e0, e1, e2, e3, e4, e5, e6⟩ := HK6.out.cb.call;  clear hb HD5 HK5 HB5 HQ HC HCc))
                  go_roundw
                  case rel => exact ⟨j + 1, g, gs', o', nn', cap', _, _, d'.arm 0 0 false, rs0', rs', stepAll l st, z', SS2, hlt, rfl, rfl, vE hlt (by have := H60.out; omega), ⟨HD6.out⟩, ⟨HDL.out, HZ.out.1, HZ.out.2, HSn2.out⟩, HB6⟩
                  case measure => exact mE hlt (by have := H60.out; omega)
                · have x0 : (x == 0) = false := beq_eq_false_iff_ne.mpr hx0
                  clear hx0
                  have HDL := Aside0.mk hdl
                  clear hdl hSS2
                  go_wp2_with (first
                    | (go_at_call 17; refine (has_Q HD5.out.k.kd.st HLf.out.kn HQ.out HC.out HCc.out HLn.out HLn.out).mono ?_; rintro e w14 ⟨rfl, hb⟩; rw [decide_eq_true rfl]; have HD6 := Aside0.mk (HD5.out.below hb); have HK6 := Aside0.mk (HK5.out.step (Step.same hb)); have HB6 := Aside0.mk (HB5.out.trans (hb.mono HB5.out.size)); obtain ⟨e0, e1, e2, e3, e4, e5, e6⟩ := HK6.out.cb.call;  clear hb HD5 HK5 HB5 HQ HC HCc))
                  go_roundw
                  case rel => exact ⟨j + 1, g, gs', o', nn', cap', _, _, d'.arm 0 0 false, rs0', rs', stepAll l st, z', SS2, hlt, rfl, rfl, vE hlt (by have := H60.out; omega), ⟨HD6.out⟩, ⟨HDL.out, HZ.out.1, HZ.out.2, HSn2.out⟩, HB6⟩
                  case measure => exact mE hlt (by have := H60.out; omega)
              · as_aux_lemma =>
                  obtain ⟨ex, elx, hu3, hu4, rsx, d3, lw, hop, hgx, hlw, hmem, hlfw, hdl⟩ := h
                  subst ex
                  subst elx
                  have HUo := Aside0.mk hu4
                  have HOp := Aside0.mk hop
                  have HGx := Aside0.mk hgx
                  have HLw := Aside0.mk hlw
                  have HLfw := Aside0.mk hlfw
                  have HDL := Aside0.mk (show DL kN m (costL (sc.take (j + 1))) (5 * (((j + 1 : Nat)) : Int)) d3 rsx [] lw [lw] from by rw [HR.out.cost]; exact hdl.mono (Nat.le_refl _) (by omega))
                  have HLen := Aside0.mk (show ∀ X ∈ SS2, X.length ≤ 1048576 from HLen2.out)
                  rw [← hSS2] at hmem
                  obtain ⟨q, hq⟩ : ∃ q, nn' = q + 1 := ⟨nn' - 1, by have h9 := HD5.out.s.len; obtain ⟨SS0, e9⟩ := HLast2.out; rw [e9, List.length_append, List.length_singleton] at h9; omega⟩
                  have hw1 : wrap64 ((nn' : Int) - 1) = (q : Int) := by have := HNb.out; rw [hq, w64 (by omega) (by omega)]; omega
                  have HQq := Aside0.mk hq
                  have HMem := Aside0.mk hmem
                  clear hu3 hu4 hop hgx hlw hmem hlfw hdl hSS2 hq
                  go_wp2_with (first
                    | (go_at_call 29; refine (Off_D (keep := keep) (torn := torn) HD5.out.k.kd.dev HD5.out.k.kd.size HU2.out rfl).mono ?_; rintro e w15 ⟨S1d, rfl, hd, hs⟩; obtain ⟨hk, hst⟩ := HD5.out.dev hd hs; have HD6 := Aside0.mk hk; have HB6 := Aside0.mk (HB5.out.trans (hst.only.toBelow HD5.out.k.loU HB5.out.size)); clear hd hs hk hst HD5 HB5 HK5)
                    | (go_at_call 30; refine (On_D HD6.out.k.kd.dev HD6.out.k.kd.size).mono ?_; rintro e w16 ⟨S1e, rfl, hd, hs⟩; obtain ⟨hk, hst⟩ := HD6.out.dev hd hs; have HD7 := Aside0.mk hk; have HB7 := Aside0.mk (HB6.out.trans (hst.only.toBelow HD6.out.k.loU HB6.out.size)); clear hd hs hk hst HD6 HB6)
                    | (go_at_call 10; refine (Open_P0 HD7.out.k.kd.dev HD7.out.k.kd.size HUo.out (by have := H60.out; omega) kN_nm (by have := HM.out; omega) HGx.out HOp.out).mono ?_; rintro e w17 ⟨rfl, S1f, S2f, hk, hs⟩; rw [HLw.out] at hk; obtain ⟨hk2, hst⟩ := HD7.out.open_ hk hs; have HD8 := Aside0.mk hk2; have HB8 := Aside0.mk (HB7.out.trans (hst.only.toBelow HD7.out.k.loU HB7.out.size)); clear hk hs hk2 hst HD7 HB7))
                  go_loopw [21] (fun i wr => ∃ (p : Nat), p ≤ q ∧ i = .int .i64 (p : Int) ∧ Aside0 (∃ (ix : Nat) (h : ix < SS2.length), ix ≤ p ∧ SS2[ix] = lw) ∧ Aside0 (KL S1f S2f w.heap.size wr gd w16.heap.size w4.heap.size gs' o' nn' cap' d3 m lw (stepAll lx st) z' SS2) ∧ Aside0 (Below w.heap.size w wr)) (fun i _ => (intOf i).toNat)
                  case atStart => exact ⟨q, Nat.le_refl _, by rw [hw1], ⟨by obtain ⟨ix, h, e⟩ := List.getElem_of_mem HMem.out; exact ⟨ix, h, by have := HD8.out.s.len; have := HQq.out; omega, e⟩⟩, HD8, HB8⟩
                  case round =>
                    obtain ⟨p, hpq, rfl, HIx, HD9, HB9⟩ := hrel
                    clear HD8 HB8 hw1
                    have hp : p < SS2.length := by have := HD9.out.s.len; have := HQq.out; omega
                    have hpn : p < nn' := by have := HQq.out; omega
                    have kge : decide ((0 : Int) ≤ (p : Int)) = true := decide_eq_true (Int.natCast_nonneg _)
                    have klt : decide ((p : Int) < 0) = false := decide_eq_false (by omega)
                    have kb : decide ((p : Int) < (nn' : Int)) = true := decide_eq_true (Int.ofNat_lt.2 hpn)
                    have kbn : decide (p < nn') = true := decide_eq_true hpn
                    have hw2 : wrap64 ((p : Int) - 1) = (p : Int) - 1 := by have := HNb.out; rw [w64 (by omega) (by omega)]
                    obtain ⟨Ap, cp, zp, hcp, hrp⟩ := HD9.out.s.get hp
                    have HCp := Aside0.mk hcp
                    have HRp := Aside0.mk hrp
                    have HLp := Aside0.mk (HLen.out _ (List.getElem_mem hp))
                    clear hcp hrp
                    by_cases hh : lw = SS2[p]'hp
                    · have HEq := Aside0.mk hh
                      clear hh
                      go_wp2_with (first
                        | (go_at_call 17; refine (has_Q HD9.out.k.kd.st HLfw.out.kn rfl HRp.out.C HCp.out (by have := HLfw.out.len; have := HM.out; omega) HLp.out).mono ?_; rintro e w18 ⟨rfl, hb⟩; rw [decide_eq_true HEq.out]; have HD10 := Aside0.mk (HD9.out.below hb); have HB10 := Aside0.mk (HB9.out.trans (hb.mono HB9.out.size)); have zd := pw_cell_below hb zp; have HR10 := Aside0.mk (HRp.out.below hb); obtain ⟨A7, c7, hc7, hb7, he7⟩ := HD10.out.k.ms.at_; have z1 : w18.cell? ⟨w4.heap.size, 1, none⟩ = some (.slice A7 (stepAll lx st).length c7) := (blk_cell hb7 1).trans rfl; have f1 := blk_frozen hb7 1; obtain ⟨hk11, hst11⟩ := HD10.out.listed HR10.out HCp.out; have hv11 : SV (UR S1f S2f w4.heap.size gs') _ (.slice Ap (SS2[p]'hp).length cp) (SS2[p]'hp) := ⟨Ap, cp, rfl, HCp.out, HR10.out.step hst11⟩; obtain ⟨hk12, hb12⟩ := hk11.lit2 hv11 (by rw [set_size]; exact HB10.out.size); rw [set_size] at hk12; have HD12 := Aside0.mk (hk12.same HEq.out); have HB12 := Aside0.mk (HB10.out.trans ((hst11.only.toBelow HD10.out.k.loU HB10.out.size).trans hb12)); clear hc7 he7 hk11 hst11 hv11 hk12 hb12; clear hb HD9 HB9))
                      go_roundw
                      case rel => exact ⟨j + 1, w16.heap.size, w18.heap.size, 0, 1, 1, _, _, d3, rsx, [], lw, z', [lw], hlt, rfl, rfl, vE hlt (by have := H60.out; omega), HD12, ⟨HDL.out, HZ.out.1, HZ.out.2, by show (1 : Nat) ≤ _; omega⟩, HB12⟩
                      case measure => exact mE hlt (by have := H60.out; omega)
                    · have HNe := Aside0.mk hh
                      clear hh
                      go_wp2_with (first
                        | (go_at_call 17; refine (has_Q HD9.out.k.kd.st HLfw.out.kn rfl HRp.out.C HCp.out (by have := HLfw.out.len; have := HM.out; omega) HLp.out).mono ?_; rintro e w18 ⟨rfl, hb⟩; rw [decide_eq_false HNe.out]; have HD10 := Aside0.mk (HD9.out.below hb); have HB10 := Aside0.mk (HB9.out.trans (hb.mono HB9.out.size));  clear hb HD9 HB9))
                      have hix : ∃ (ix : Nat) (h : ix < SS2.length), ix ≤ p - 1 ∧ SS2[ix] = lw := by
                        obtain ⟨ix, h, h1, e⟩ := HIx.out
                        rcases Nat.lt_or_ge ix p with h2 | h2
                        · exact ⟨ix, h, by omega, e⟩
                        · exact absurd (show lw = SS2[p]'hp from by rw [← e]; congr 1; omega) HNe.out
                      have hp1 : 1 ≤ p := by
                        obtain ⟨ix, h, h1, e⟩ := HIx.out
                        rcases Nat.eq_zero_or_pos p with e0 | e0
                        · exact absurd (show lw = SS2[p]'hp from by rw [← e]; congr 1; omega) HNe.out
                        · exact e0
                      have hp2 : wrap64 ((p : Int) - 1) = ((p - 1 : Nat) : Int) := by rw [hw2]; omega
                      have HIx2 := Aside0.mk hix
                      clear hix
                      go_roundw
                      case rel => exact ⟨p - 1, by omega, by rw [hp2], HIx2, HD10, HB10⟩
                      case measure =>
                        rw [hp2]
                        show (((p - 1 : Nat)) : Int).toNat < ((p : Int)).toNat
                        omega
          · have kr : decide (((recP key val).size : Int) ≤ 65536) = true := decide_eq_true (by omega)
            have kr2 : decide ((recP key val).size ≤ 65536) = true := decide_eq_true (by omega)
            have HSr := Aside0.mk (show stepsR l m key val = st from by have h := HSt.out; unfold stepsP at h; rw [if_pos c0, if_neg c65] at h; exact h)
            have HN23 := Aside0.mk (show ¬ (kind = 2 ∨ kind = 3) from by omega)
            clear c0 c65
            go_wp2_with (first
              | ((with_reducible refine gate_dst (N := 11) rfl ?_); refine box_event ?hg (N := 11) ?hd (cs := #[.int .i64 0, .string (⟨#[]⟩ : ByteArray), .string (⟨#[]⟩ : ByteArray), .int .i64 0, .int .i64 0, .int .i64 0, .bool false]) (t := 42) ?hr ?_; (case hd => rfl); (case hg => rfl); (case hr => first | (go_simp; done) | (go_simp; rfl)); intro gb hg wq hbox hb; have HGb := Aside0.mk (Nat.le_of_eq hg.symm); have BX := Aside0.mk (box_seven (W := wr) hbox (Nat.le_of_eq hg.symm) hb (.int .i64 kind) (.string key) (.string val) (.int .i64 N) (.int .i64 fuse) (.int .i64 keep) (.bool torn)); have q0 : wq.cell? ⟨gb, 0, none⟩ = some (.int .i64 0) := (blk_cell hbox 0).trans rfl; have r0 := blk_frozen hbox 0; have q1 : wq.cell? ⟨gb, 1, none⟩ = some (.string (⟨#[]⟩ : ByteArray)) := (blk_cell hbox 1).trans rfl; have r1 := blk_frozen hbox 1; have q2 : wq.cell? ⟨gb, 2, none⟩ = some (.string (⟨#[]⟩ : ByteArray)) := (blk_cell hbox 2).trans rfl; have r2 := blk_frozen hbox 2; have q3 : wq.cell? ⟨gb, 3, none⟩ = some (.int .i64 0) := (blk_cell hbox 3).trans rfl; have r3 := blk_frozen hbox 3; have q4 : wq.cell? ⟨gb, 4, none⟩ = some (.int .i64 0) := (blk_cell hbox 4).trans rfl; have r4 := blk_frozen hbox 4; have q5 : wq.cell? ⟨gb, 5, none⟩ = some (.int .i64 0) := (blk_cell hbox 5).trans rfl; have r5 := blk_frozen hbox 5; have q6 : wq.cell? ⟨gb, 6, none⟩ = some (.bool false) := (blk_cell hbox 6).trans rfl; have r6 := blk_frozen hbox 6; clear hbox hb hg)
              | (go_at_call 23; have HC0 := Aside0.mk (HD.out.below BX.out.2); have HBx := Aside0.mk (HB.out.trans (BX.out.2.mono HB.out.size)); have HCb := Aside0.mk (Out.mk (S := UR S1a S2a w4.heap.size gs) BX.out.1 (fun hk => Nat.lt_irrefl _ (Nat.lt_of_lt_of_le (HD.out.k.hiU _ hk) HGb.out))); clear BX HD HB; refine (RCopy_M HC0.out.k.ms).mono ?_; rintro e w6 ⟨gw, rfl, hgw, hrow, hb⟩; have HW6 := Aside0.mk (Was.of HC0.out.k.hiU hgw hrow); have HD6 := Aside0.mk (HC0.out.below hb); have HB6 := Aside0.mk (HBx.out.trans (hb.mono HBx.out.size)); have HC6 := Aside0.mk (HCb.out.step (Step.same hb)); obtain ⟨e0, e1, e2, e3, e4, e5, e6⟩ := HC6.out.call;  clear hgw hrow hb HC0 HBx HCb)
              | (go_at_call 24; refine (RRec_Q _ key val HSz.out).mono ?_; rintro e w7 ⟨rfl, hb⟩; have HD7 := Aside0.mk (HD6.out.below hb); have HB7 := Aside0.mk (HB6.out.trans (hb.mono HB6.out.size)); have HC7 := Aside0.mk (HC6.out.step (Step.same hb)); have HW7 := Aside0.mk (HW6.out.step (Step.same hb)); obtain ⟨e0, e1, e2, e3, e4, e5, e6⟩ := HC7.out.call;  clear hb HD6 HB6 HC6 HW6)
              | (go_at_call 25; refine (RSteps_Q HD7.out.k.ms (by have := HLl.out; omega) (by have := HM.out; omega) HSh.out HSz.out).mono ?_; rintro e w8 ⟨A8, n8, c8, rfl, hn8, hc8, hr8, hb⟩; rw [HSr.out] at hn8 hr8; have HTp := Aside0.mk (TRow.of (S := UR S1a S2a w4.heap.size gs) hr8 HD7.out.k.hiU); have HQs := Aside0.mk hn8; have HDp := Aside0.mk (HD7.out.below hb); have HBp := Aside0.mk (HB7.out.trans (hb.mono HB7.out.size)); have HCp := Aside0.mk (HC7.out.step (Step.same hb)); have HWp := Aside0.mk (HW7.out.step (Step.same hb)); obtain ⟨e0, e1, e2, e3, e4, e5, e6⟩ := HCp.out.call; clear hn8 hc8 hr8 hb HD7 HB7 HC7 HW7)
              | (go_at_call 27; have tk := HDp; clear tk; refine (Arm_D (j := fuse) (keep := keep) (torn := torn) HDp.out.k.kd.dev HDp.out.k.kd.size).mono ?_; rintro e w9 ⟨S19, rfl, hd, hs⟩; obtain ⟨hk, hst⟩ := HDp.out.dev hd hs; have HD9 := Aside0.mk hk; have HK9 := Aside0.mk (KB.step (KB.mk HCp.out HWp.out HTp.out) hst); have HB9 := Aside0.mk (HBp.out.trans (hst.only.toBelow HDp.out.k.loU HBp.out.size)); obtain ⟨e0, e1, e2, e3, e4, e5, e6⟩ := HK9.out.cb.call; clear hd hs hk hst HDp HBp HCp HWp HTp)
              | (go_at_call 16; refine (does_D HD9.out.k HF.out HSz.out HdS.out HdR.out).mono ?_; rintro e w10 ⟨rfl, S1b, S2b, hk7, hs7⟩; obtain ⟨hk, hst⟩ := HD9.out.does hk7 hs7; have HD10 := Aside0.mk hk; have HK10 := Aside0.mk (HK9.out.step hst); have HB10 := Aside0.mk (HB9.out.trans (hst.only.toBelow HD9.out.k.loU HB9.out.size)); clear hk7 hs7 hk hst HD9 HK9 HB9 HF HdS HdR)
              | (go_at_call 27; have tk := HD10; clear tk; refine (Arm_D (j := 0) (keep := 0) (torn := false) HD10.out.k.kd.dev HD10.out.k.kd.size).mono ?_; rintro e w11 ⟨S1c, rfl, hd, hs⟩; obtain ⟨hk, hst⟩ := HD10.out.dev hd hs; have HD11 := Aside0.mk hk; have HK11 := Aside0.mk (HK10.out.step hst); have HB11 := Aside0.mk (HB10.out.trans (hst.only.toBelow HD10.out.k.loU HB10.out.size)); obtain ⟨Aw, cw, qw, hqw, hcw, hrw, zw⟩ := HK11.out.ws.cell; have HQw := Aside0.mk hqw; have HCw := Aside0.mk hcw; have HRw := Aside0.mk hrw; clear hd hs hk hst hqw hcw hrw HD10 HK10 HB10))
            clear kr kr2
            go_loopw [9, 18, 125] (fun sv nv i wr => ∃ (a gs' o' nn' cap' : Nat) (An : Option Addr) (qn cn : Nat), a ≤ n8 ∧ sv = .slice (some ⟨gs', o', none⟩) nn' cap' ∧ nv = .slice An qn cn ∧ i = .int .i64 (a : Int) ∧ Aside0 (KL S1c S2b w.heap.size wr gd g w4.heap.size gs' o' nn' cap' (d'.arm 0 0 false) m lx (stepAll l st) z' (SS ++ (newS l st).take a)) ∧ Aside0 (KB (UR S1c S2b w4.heap.size gs') wr gb gw n8 kind key val N fuse keep torn m l A8 st) ∧ Aside0 (qn = (stepAll l (st.take a)).length ∧ (stepAll l (st.take a)).length ≤ cn ∧ ERow (UR S1c S2b w4.heap.size gs') wr An (stepAll l (st.take a)).length (stepAll l (st.take a))) ∧ Aside0 (Below w.heap.size w wr)) (fun _ _ i _ => n8 - (intOf i).toNat)
            case atStart => exact ⟨0, gs, o, nn, cap, Aw, qw, cw, Nat.zero_le _, rfl, rfl, rfl, ⟨by rw [List.take_zero, List.append_nil]; exact HD11.out⟩, HK11, ⟨by rw [List.take_zero]; exact ⟨HQw.out, HCw.out, HRw.out⟩⟩, HB11⟩
            case round =>
              obtain ⟨a, gs', o', nn', cap', An, qn, cn, ha, rfl, rfl, rfl, HD4, HK4, HN4, HB4⟩ := hrel
              clear HD11 HK11 HB11 HQw HCw HRw
              by_cases hl4 : a < n8
              · have kb : decide ((a : Int) < (n8 : Int)) = true := decide_eq_true (Int.ofNat_lt.2 hl4)
                have kbn : decide (a < n8) = true := decide_eq_true hl4
                have has : a < st.length := by have := HQs.out; omega
                obtain ⟨ad4, eA4, y4⟩ := HK4.out.tr.get has
                subst eA4
                have HRg := Aside0.mk (HSg.out _ (List.getElem_mem has))
                obtain ⟨X, hX⟩ : ∃ X, X = stepAll l (st.take a) := ⟨_, rfl⟩
                have hXs := stepE_step (l := l) has
                have hXn := newS_take l st has
                have HXk := Aside0.mk (show KN X from by rw [hX]; exact HKn.out.steps (fun r hr => HSg.out r (List.mem_of_mem_take hr)))
                have HXl := Aside0.mk (show X.length ≤ 1048576 from by rw [hX]; have := HPre.out a; omega)
                rw [← hX] at HN4 hXs
                obtain ⟨r, hr⟩ : ∃ r, r = st[a]'has := ⟨_, rfl⟩
                rw [← hr] at y4 HRg hXs
                rw [hXs] at hXn
                have HXs := Aside0.mk hXs
                have HXn := Aside0.mk hXn
                have HNn := Aside0.mk (show nn' + 1 ≤ 1048576 from by have h1 := HD4.out.s.len; have h2 := newS_len l st; have h3 := HSn.out; have h4 := HSl.out; have h5 := H60.out; rw [List.length_append, List.length_take, h2] at h1; omega)
                clear hX hXs hXn hr has
                go_wp2_with (first
                  | (go_at_call 28; refine (RDone_Q wr (n := qn) HN4.out.1 HXk.out HN4.out.2.2.C HN4.out.2.1 HRg.out HXl.out).mono ?_; rintro e w12 ⟨A12, c12, n12, rfl, hn12, hr12, hb⟩; have HD5 := Aside0.mk (HD4.out.below hb); have HK5 := Aside0.mk (HK4.out.step (Step.same hb)); have HB5 := Aside0.mk (HB4.out.trans (hb.mono HB4.out.size)); have hc12 := (R_entC hr12).1; have hew : ERow (UR S1c S2b w4.heap.size gs') w12 A12 n12 (stepE X r) := ERow.of hr12 HD4.out.k.hiU; have HV := Aside0.mk (show SV (UR S1c S2b w4.heap.size gs') w12 (.slice A12 n12 c12) (stepE X r) from ⟨A12, c12, by rw [hn12], by rw [← hn12]; exact hc12, by rw [← hn12]; exact hew⟩); have HN12 := Aside0.mk hn12; clear hn12 hr12 hb hc12 hew HD4 HK4 HB4 HN4)
                  | ((with_reducible refine gate_builtin (b := .append) (xs := #[.tmp 135, .tmp 137]) rfl ?_); (try (refine gate_guard (by rfl) ?_; dsimp only)); at_builtin; refine S_append (F := fun gg => UR S1c S2b w4.heap.size gg) (v := .slice A12 n12 c12) rfl (.tmp 135) (.tmp 137) rfl UR.fam UR.own HD5.out.s HV.out HNn.out rfl rfl ?_; intro gs2 o2 cap2 w13 hs13 hst13 ho13 hg13; have HD6 := Aside0.mk (HD5.out.grown hs13 hst13 ho13 hg13); have HK6 := Aside0.mk (HK5.out.step hst13); have HB6 := Aside0.mk (HB5.out.trans (hst13.only.toBelow HD5.out.k.loU HB5.out.size)); have HV6 := Aside0.mk (HV.out.step hst13); clear hs13 hst13 ho13 hg13 HD5 HK5 HB5 HV))
                go_roundw
                case rel => exact ⟨a + 1, gs2, o2, nn' + 1, cap2, A12, n12, c12, hl4, rfl, rfl, vE hl4 (by have := HSl.out; have := HQs.out; omega), ⟨by rw [HXn.out, ← List.append_assoc]; exact HD6.out⟩, HK6, ⟨by
                  obtain ⟨A9, c9, e9, hc9, hr9⟩ := HV6.out
                  injection e9 with e91 e92 e93
                  subst e91
                  subst e93
                  rw [HXs.out]
                  exact ⟨e92, hc9, hr9⟩⟩, HB6⟩
                case measure => exact mE hl4 (by have := HSl.out; have := HQs.out; omega)
              · have kb : decide ((a : Int) < (n8 : Int)) = false := decide_eq_false (fun h => hl4 (Int.ofNat_lt.1 h))
                have kbn : decide (a < n8) = false := decide_eq_false hl4
                have hfull : (newS l st).take a = newS l st := List.take_of_length_le (by rw [newS_len]; have := HQs.out; omega)
                have hd5 := HD4.out
                rw [hfull] at hd5
                have HLen2' : ∀ X ∈ SS ++ newS l st, X.length ≤ 1048576 := fun X hX => by
                  rcases List.mem_append.1 hX with h | h
                  · have := HSSl.out X h; omega
                  · unfold newS at h
                    obtain ⟨i, _, rfl⟩ := List.mem_map.1 h
                    have := HPre.out (i + 1)
                    omega
                have hsn2 : (SS ++ newS l st).length ≤ 1 + 202 * (j + 1) := by rw [List.length_append, newS_len]; have := HSn.out; have := HSl.out; omega
                obtain ⟨SS2, hSS2⟩ : ∃ SS2, SS2 = SS ++ newS l st := ⟨_, rfl⟩
                have hla := HLast.out
                rw [← hSS2] at hd5 HLen2' hsn2 hla
                have HD5 := Aside0.mk hd5
                have HLen2 := Aside0.mk HLen2'
                have HSn2 := Aside0.mk hsn2
                have HLast2 := Aside0.mk hla
                have HNb := Aside0.mk (show nn' ≤ 1048576 from by have h1 := hd5.s.len; have := H60.out; omega)
                have HK5 := HK4
                have HB5 := HB4
                obtain ⟨e0, e1, e2, e3, e4, e5, e6⟩ := HK5.out.cb.call
                clear hfull hd5 HLen2' hsn2 hla HD4 HK4 HB4 HN4
                rcases HOut.out with h | h
                · obtain ⟨ex, elx, hy7, hy0, rs0', rs', hdl⟩ := h
                  subst ex
                  subst elx
                  have x7 : (x != 7) = true := bne_iff_ne.mpr hy7
                  have HY0 := Aside0.mk hy0
                  have hdl : DL kN m (costL (sc.take (j + 1))) (5 * (((j + 1 : Nat)) : Int)) (d'.arm 0 0 false) rs0' rs' (stepAll l st) (if kind = 2 ∨ kind = 3 then [stepAll l st] else SS2) := by rw [HR.out.cost, hSS2]; exact hdl.mono (Nat.le_refl _) (by omega)
                  obtain ⟨A6, c6, q6, hq6, hc6, hC6, zc⟩ := HD5.out.k.cell1
                  have HQ := Aside0.mk hq6
                  have HC := Aside0.mk hC6
                  have HCc := Aside0.mk hc6
                  have HLn := Aside0.mk (show (stepAll l st).length ≤ 1048576 from by have := HLf.out.len; have := HM.out; omega)
                  clear hy7 hy0 hq6 hc6 hC6
                  rw [if_neg HN23.out] at hdl
                  have k2 : (kind == 2) = false := beq_eq_false_iff_ne.mpr (fun e => HN23.out (.inl e))
                  have k3 : (kind == 3) = false := beq_eq_false_iff_ne.mpr (fun e => HN23.out (.inr e))
                  by_cases hx0 : x = 0
                  · subst hx0
                    have HDL := Aside0.mk hdl
                    clear hdl hSS2
                    go_wp2_with (first
                      | (go_at_call 17; refine (has_Q HD5.out.k.kd.st HLf.out.kn HQ.out HC.out HCc.out HLn.out HLn.out).mono ?_; rintro e w14 ⟨rfl, hb⟩; rw [decide_eq_true rfl]; have HD6 := Aside0.mk (HD5.out.below hb); have HK6 := Aside0.mk (HK5.out.step (Step.same hb)); have HB6 := Aside0.mk (HB5.out.trans (hb.mono HB5.out.size)); obtain ⟨e0, e1, e2, e3, e4, e5, e6⟩ := HK6.out.cb.call;  clear hb HD5 HK5 HB5 HQ HC HCc))
                    go_roundw
                    case rel => exact ⟨j + 1, g, gs', o', nn', cap', _, _, d'.arm 0 0 false, rs0', rs', stepAll l st, z', SS2, hlt, rfl, rfl, vE hlt (by have := H60.out; omega), ⟨HD6.out⟩, ⟨HDL.out, HZ.out.1, HZ.out.2, HSn2.out⟩, HB6⟩
                    case measure => exact mE hlt (by have := H60.out; omega)
                  · have x0 : (x == 0) = false := beq_eq_false_iff_ne.mpr hx0
                    clear hx0
                    have HDL := Aside0.mk hdl
                    clear hdl hSS2
                    go_wp2_with (first
                      | (go_at_call 17; refine (has_Q HD5.out.k.kd.st HLf.out.kn HQ.out HC.out HCc.out HLn.out HLn.out).mono ?_; rintro e w14 ⟨rfl, hb⟩; rw [decide_eq_true rfl]; have HD6 := Aside0.mk (HD5.out.below hb); have HK6 := Aside0.mk (HK5.out.step (Step.same hb)); have HB6 := Aside0.mk (HB5.out.trans (hb.mono HB5.out.size)); obtain ⟨e0, e1, e2, e3, e4, e5, e6⟩ := HK6.out.cb.call;  clear hb HD5 HK5 HB5 HQ HC HCc))
                    go_roundw
                    case rel => exact ⟨j + 1, g, gs', o', nn', cap', _, _, d'.arm 0 0 false, rs0', rs', stepAll l st, z', SS2, hlt, rfl, rfl, vE hlt (by have := H60.out; omega), ⟨HD6.out⟩, ⟨HDL.out, HZ.out.1, HZ.out.2, HSn2.out⟩, HB6⟩
                    case measure => exact mE hlt (by have := H60.out; omega)
                · as_aux_lemma =>
                    obtain ⟨ex, elx, hu3, hu4, rsx, d3, lw, hop, hgx, hlw, hmem, hlfw, hdl⟩ := h
                    subst ex
                    subst elx
                    have HUo := Aside0.mk hu4
                    have HOp := Aside0.mk hop
                    have HGx := Aside0.mk hgx
                    have HLw := Aside0.mk hlw
                    have HLfw := Aside0.mk hlfw
                    have HDL := Aside0.mk (show DL kN m (costL (sc.take (j + 1))) (5 * (((j + 1 : Nat)) : Int)) d3 rsx [] lw [lw] from by rw [HR.out.cost]; exact hdl.mono (Nat.le_refl _) (by omega))
                    have HLen := Aside0.mk (show ∀ X ∈ SS2, X.length ≤ 1048576 from HLen2.out)
                    rw [← hSS2] at hmem
                    obtain ⟨q, hq⟩ : ∃ q, nn' = q + 1 := ⟨nn' - 1, by have h9 := HD5.out.s.len; obtain ⟨SS0, e9⟩ := HLast2.out; rw [e9, List.length_append, List.length_singleton] at h9; omega⟩
                    have hw1 : wrap64 ((nn' : Int) - 1) = (q : Int) := by have := HNb.out; rw [hq, w64 (by omega) (by omega)]; omega
                    have HQq := Aside0.mk hq
                    have HMem := Aside0.mk hmem
                    clear hu3 hu4 hop hgx hlw hmem hlfw hdl hSS2 hq
                    go_wp2_with (first
                      | (go_at_call 29; refine (Off_D (keep := keep) (torn := torn) HD5.out.k.kd.dev HD5.out.k.kd.size HU2.out rfl).mono ?_; rintro e w15 ⟨S1d, rfl, hd, hs⟩; obtain ⟨hk, hst⟩ := HD5.out.dev hd hs; have HD6 := Aside0.mk hk; have HB6 := Aside0.mk (HB5.out.trans (hst.only.toBelow HD5.out.k.loU HB5.out.size)); clear hd hs hk hst HD5 HB5 HK5)
                      | (go_at_call 30; refine (On_D HD6.out.k.kd.dev HD6.out.k.kd.size).mono ?_; rintro e w16 ⟨S1e, rfl, hd, hs⟩; obtain ⟨hk, hst⟩ := HD6.out.dev hd hs; have HD7 := Aside0.mk hk; have HB7 := Aside0.mk (HB6.out.trans (hst.only.toBelow HD6.out.k.loU HB6.out.size)); clear hd hs hk hst HD6 HB6)
                      | (go_at_call 10; refine (Open_P0 HD7.out.k.kd.dev HD7.out.k.kd.size HUo.out (by have := H60.out; omega) kN_nm (by have := HM.out; omega) HGx.out HOp.out).mono ?_; rintro e w17 ⟨rfl, S1f, S2f, hk, hs⟩; rw [HLw.out] at hk; obtain ⟨hk2, hst⟩ := HD7.out.open_ hk hs; have HD8 := Aside0.mk hk2; have HB8 := Aside0.mk (HB7.out.trans (hst.only.toBelow HD7.out.k.loU HB7.out.size)); clear hk hs hk2 hst HD7 HB7))
                    go_loopw [21] (fun i wr => ∃ (p : Nat), p ≤ q ∧ i = .int .i64 (p : Int) ∧ Aside0 (∃ (ix : Nat) (h : ix < SS2.length), ix ≤ p ∧ SS2[ix] = lw) ∧ Aside0 (KL S1f S2f w.heap.size wr gd w16.heap.size w4.heap.size gs' o' nn' cap' d3 m lw (stepAll lx st) z' SS2) ∧ Aside0 (Below w.heap.size w wr)) (fun i _ => (intOf i).toNat)
                    case atStart => exact ⟨q, Nat.le_refl _, by rw [hw1], ⟨by obtain ⟨ix, h, e⟩ := List.getElem_of_mem HMem.out; exact ⟨ix, h, by have := HD8.out.s.len; have := HQq.out; omega, e⟩⟩, HD8, HB8⟩
                    case round =>
                      obtain ⟨p, hpq, rfl, HIx, HD9, HB9⟩ := hrel
                      clear HD8 HB8 hw1
                      have hp : p < SS2.length := by have := HD9.out.s.len; have := HQq.out; omega
                      have hpn : p < nn' := by have := HQq.out; omega
                      have kge : decide ((0 : Int) ≤ (p : Int)) = true := decide_eq_true (Int.natCast_nonneg _)
                      have klt : decide ((p : Int) < 0) = false := decide_eq_false (by omega)
                      have kb : decide ((p : Int) < (nn' : Int)) = true := decide_eq_true (Int.ofNat_lt.2 hpn)
                      have kbn : decide (p < nn') = true := decide_eq_true hpn
                      have hw2 : wrap64 ((p : Int) - 1) = (p : Int) - 1 := by have := HNb.out; rw [w64 (by omega) (by omega)]
                      obtain ⟨Ap, cp, zp, hcp, hrp⟩ := HD9.out.s.get hp
                      have HCp := Aside0.mk hcp
                      have HRp := Aside0.mk hrp
                      have HLp := Aside0.mk (HLen.out _ (List.getElem_mem hp))
                      clear hcp hrp
                      by_cases hh : lw = SS2[p]'hp
                      · have HEq := Aside0.mk hh
                        clear hh
                        go_wp2_with (first
                          | (go_at_call 17; refine (has_Q HD9.out.k.kd.st HLfw.out.kn rfl HRp.out.C HCp.out (by have := HLfw.out.len; have := HM.out; omega) HLp.out).mono ?_; rintro e w18 ⟨rfl, hb⟩; rw [decide_eq_true HEq.out]; have HD10 := Aside0.mk (HD9.out.below hb); have HB10 := Aside0.mk (HB9.out.trans (hb.mono HB9.out.size)); have zd := pw_cell_below hb zp; have HR10 := Aside0.mk (HRp.out.below hb); obtain ⟨A7, c7, hc7, hb7, he7⟩ := HD10.out.k.ms.at_; have z1 : w18.cell? ⟨w4.heap.size, 1, none⟩ = some (.slice A7 (stepAll lx st).length c7) := (blk_cell hb7 1).trans rfl; have f1 := blk_frozen hb7 1; obtain ⟨hk11, hst11⟩ := HD10.out.listed HR10.out HCp.out; have hv11 : SV (UR S1f S2f w4.heap.size gs') _ (.slice Ap (SS2[p]'hp).length cp) (SS2[p]'hp) := ⟨Ap, cp, rfl, HCp.out, HR10.out.step hst11⟩; obtain ⟨hk12, hb12⟩ := hk11.lit2 hv11 (by rw [set_size]; exact HB10.out.size); rw [set_size] at hk12; have HD12 := Aside0.mk (hk12.same HEq.out); have HB12 := Aside0.mk (HB10.out.trans ((hst11.only.toBelow HD10.out.k.loU HB10.out.size).trans hb12)); clear hc7 he7 hk11 hst11 hv11 hk12 hb12; clear hb HD9 HB9))
                        go_roundw
                        case rel => exact ⟨j + 1, w16.heap.size, w18.heap.size, 0, 1, 1, _, _, d3, rsx, [], lw, z', [lw], hlt, rfl, rfl, vE hlt (by have := H60.out; omega), HD12, ⟨HDL.out, HZ.out.1, HZ.out.2, by show (1 : Nat) ≤ _; omega⟩, HB12⟩
                        case measure => exact mE hlt (by have := H60.out; omega)
                      · have HNe := Aside0.mk hh
                        clear hh
                        go_wp2_with (first
                          | (go_at_call 17; refine (has_Q HD9.out.k.kd.st HLfw.out.kn rfl HRp.out.C HCp.out (by have := HLfw.out.len; have := HM.out; omega) HLp.out).mono ?_; rintro e w18 ⟨rfl, hb⟩; rw [decide_eq_false HNe.out]; have HD10 := Aside0.mk (HD9.out.below hb); have HB10 := Aside0.mk (HB9.out.trans (hb.mono HB9.out.size));  clear hb HD9 HB9))
                        have hix : ∃ (ix : Nat) (h : ix < SS2.length), ix ≤ p - 1 ∧ SS2[ix] = lw := by
                          obtain ⟨ix, h, h1, e⟩ := HIx.out
                          rcases Nat.lt_or_ge ix p with h2 | h2
                          · exact ⟨ix, h, by omega, e⟩
                          · exact absurd (show lw = SS2[p]'hp from by rw [← e]; congr 1; omega) HNe.out
                        have hp1 : 1 ≤ p := by
                          obtain ⟨ix, h, h1, e⟩ := HIx.out
                          rcases Nat.eq_zero_or_pos p with e0 | e0
                          · exact absurd (show lw = SS2[p]'hp from by rw [← e]; congr 1; omega) HNe.out
                          · exact e0
                        have hp2 : wrap64 ((p : Int) - 1) = ((p - 1 : Nat) : Int) := by rw [hw2]; omega
                        have HIx2 := Aside0.mk hix
                        clear hix
                        go_roundw
                        case rel => exact ⟨p - 1, by omega, by rw [hp2], HIx2, HD10, HB10⟩
                        case measure =>
                          rw [hp2]
                          show (((p - 1 : Nat)) : Int).toNat < ((p : Int)).toNat
                          omega
      by_cases c1 : kind = 1
      · as_aux_lemma =>
          have k0 : (kind == 0) = false := beq_eq_false_iff_ne.mpr c0
          have k1 : (kind == 1) = true := beq_iff_eq.mpr c1
          obtain ⟨q, hq⟩ : ∃ q, q = min N.toNat l.length := ⟨_, rfl⟩
          have HSr := Aside0.mk (show gones l q = st from by have h := HSt.out; unfold stepsP at h; rw [if_neg c0, if_pos c1, ← hq] at h; exact h)
          have HQj := Aside0.mk (show ∀ a : Nat, a < l.length → (a < q ↔ (a : Int) < N) from fun a ha => by omega)
          have HQl := Aside0.mk (show q ≤ l.length from by omega)
          have HN23 := Aside0.mk (show ¬ (kind = 2 ∨ kind = 3) from by omega)
          clear hq c0 c1
          go_wp2_with (first
            | ((with_reducible refine gate_dst (N := 11) rfl ?_); refine box_event ?hg (N := 11) ?hd (cs := #[.int .i64 0, .string (⟨#[]⟩ : ByteArray), .string (⟨#[]⟩ : ByteArray), .int .i64 0, .int .i64 0, .int .i64 0, .bool false]) (t := 42) ?hr ?_; (case hd => rfl); (case hg => rfl); (case hr => first | (go_simp; done) | (go_simp; rfl)); intro gb hg wq hbox hb; have HGb := Aside0.mk (Nat.le_of_eq hg.symm); have BX := Aside0.mk (box_seven (W := wr) hbox (Nat.le_of_eq hg.symm) hb (.int .i64 kind) (.string key) (.string val) (.int .i64 N) (.int .i64 fuse) (.int .i64 keep) (.bool torn)); have q0 : wq.cell? ⟨gb, 0, none⟩ = some (.int .i64 0) := (blk_cell hbox 0).trans rfl; have r0 := blk_frozen hbox 0; have q1 : wq.cell? ⟨gb, 1, none⟩ = some (.string (⟨#[]⟩ : ByteArray)) := (blk_cell hbox 1).trans rfl; have r1 := blk_frozen hbox 1; have q2 : wq.cell? ⟨gb, 2, none⟩ = some (.string (⟨#[]⟩ : ByteArray)) := (blk_cell hbox 2).trans rfl; have r2 := blk_frozen hbox 2; have q3 : wq.cell? ⟨gb, 3, none⟩ = some (.int .i64 0) := (blk_cell hbox 3).trans rfl; have r3 := blk_frozen hbox 3; have q4 : wq.cell? ⟨gb, 4, none⟩ = some (.int .i64 0) := (blk_cell hbox 4).trans rfl; have r4 := blk_frozen hbox 4; have q5 : wq.cell? ⟨gb, 5, none⟩ = some (.int .i64 0) := (blk_cell hbox 5).trans rfl; have r5 := blk_frozen hbox 5; have q6 : wq.cell? ⟨gb, 6, none⟩ = some (.bool false) := (blk_cell hbox 6).trans rfl; have r6 := blk_frozen hbox 6; clear hbox hb hg)
            | (go_at_call 23; have HC0 := Aside0.mk (HD.out.below BX.out.2); have HBx := Aside0.mk (HB.out.trans (BX.out.2.mono HB.out.size)); have HCb := Aside0.mk (Out.mk (S := UR S1a S2a w4.heap.size gs) BX.out.1 (fun hk => Nat.lt_irrefl _ (Nat.lt_of_lt_of_le (HD.out.k.hiU _ hk) HGb.out))); clear BX HD HB; refine (RCopy_M HC0.out.k.ms).mono ?_; rintro e w6 ⟨gw, rfl, hgw, hrow, hb⟩; have HW6 := Aside0.mk (Was.of HC0.out.k.hiU hgw hrow); have HD6 := Aside0.mk (HC0.out.below hb); have HB6 := Aside0.mk (HBx.out.trans (hb.mono HBx.out.size)); have HC6 := Aside0.mk (HCb.out.step (Step.same hb)); obtain ⟨e0, e1, e2, e3, e4, e5, e6⟩ := HC6.out.call; obtain ⟨Am, cm, qm, hqm, hcm, hCm, zm⟩ := HD6.out.k.cell1; have HQm := Aside0.mk hqm; have HCm := Aside0.mk hCm; clear hqm hcm hCm; clear hgw hrow hb HC0 HBx HCb))
          go_loopw [13, 86] (fun ov i wr => ∃ (a : Nat), a ≤ qm ∧ i = .int .i64 (a : Int) ∧ Aside0 (Kd.R Kd.string 9 wr w6.heap.size (fun _ => True) ov (gones l (min a q))) ∧ Aside0 (Below w6.heap.size w6 wr)) (fun _ i _ => qm - (intOf i).toNat)
          case atStart => exact ⟨0, Nat.zero_le _, rfl, ⟨by rw [Nat.zero_min]; exact Kd.R_nil _ _ _ _ _⟩, ⟨Below.refl _ _⟩⟩
          case round =>
            obtain ⟨a, ha, rfl, HRL, HBL⟩ := hrel
            by_cases hla : a < qm
            · have kb : decide ((a : Int) < (qm : Int)) = true := decide_eq_true (Int.ofNat_lt.2 hla)
              have kbn : decide (a < qm) = true := decide_eq_true hla
              have hal : a < l.length := by rw [← HQm.out]; exact hla
              obtain ⟨adm, eAm, m0, m1⟩ := at_ent HCm.out hal
              subst eAm
              have a0 := pw_cell_below HBL.out m0
              have a1 := pw_cell_below HBL.out m1
              have v3 := pw_cell_below HBL.out e3
              have HG := Aside0.mk (gones_step hal)
              have HKs := Aside0.mk (show (l[a]'hal).f0.size ≤ 274877906944 from Nat.le_trans (HSh.out _ (List.getElem_mem hal)) (by decide))
              clear m0 m1
              obtain ⟨s, hs⟩ : ∃ s, s = (l[a]'hal).f0 := ⟨_, rfl⟩
              obtain ⟨t, ht⟩ : ∃ t, t = (l[a]'hal).f1 := ⟨_, rfl⟩
              rw [← hs] at a0 HG HKs
              rw [← ht] at a1
              clear hs ht
              by_cases hq : a < q
              · have jb2 : decide ((a : Int) < N) = true := decide_eq_true ((HQj.out a hal).1 hq)
                have em : min a q = a := Nat.min_eq_left (Nat.le_of_lt hq)
                have HE1 := Aside0.mk (show min (a + 1) q = a + 1 from Nat.min_eq_left hq)
                rw [em] at HRL
                clear em
                go_wp2_with (first
                  | ((with_reducible refine gate_dst (N := 15) rfl ?_); refine box_event ?hg (N := 15) ?hd (cs := #[.string (⟨#[]⟩ : ByteArray), .string (⟨#[]⟩ : ByteArray)]) (t := 54) ?hr ?_; (case hd => rfl); (case hg => rfl); (case hr => first | (go_simp; done) | (go_simp; rfl)); intro gb2 hg wq hbox hb; have BY := Aside0.mk (box_pairE (W := wr) hbox (Nat.le_of_eq hg.symm) hb (.string s) (.string t)); have qa : wq.cell? ⟨gb2, 0, none⟩ = some (.string (⟨#[]⟩ : ByteArray)) := (blk_cell hbox 0).trans rfl; have qb : wq.cell? ⟨gb2, 1, none⟩ = some (.string (⟨#[]⟩ : ByteArray)) := (blk_cell hbox 1).trans rfl; have ra := blk_frozen hbox 0; have rb := blk_frozen hbox 1; have w3 := pw_cell_below BY.out.2 v3; clear hbox hb hg)
                  | (go_at_call 26; refine (RGone_Q _ s HKs.out).mono ?_; rintro e w7 ⟨rfl, hb⟩; replace hb := BY.out.2.trans (hb.mono BY.out.2.size); have HBl := Aside0.mk (HBL.out.trans (hb.mono HBL.out.size)); have HRl := Aside0.mk (Kd.R_below HRL.out hb); clear hb BY HBL HRL)
                  | ((with_reducible refine gate_builtin (b := .append) (xs := #[.tmp 95, .tmp 99]) rfl ?_); (try (refine gate_guard (by rfl) ?_; dsimp only)); at_builtin; refine Kd.R_append Kd.string (w0 := w6) w6.heap.size rfl (.tmp 95) (.tmp 99) 22 9 (.string ⟨#[]⟩) 16 rfl Try.underlying22 infoS rfl (by decide) (by decide) u13 (gones l a) (recG s) [.string (recG s)] (fun _ => True) (fun _ => False) rfl rfl rfl (fun _ h => h.elim) (fun _ _ => trivial) HRl.out HBl.out HBl.out.size (gones_len l a (by have := HLl.out; omega)) ?_; intro v1 w8 hr5 hb5 hg5 hat5; have HRm := Aside0.mk hr5; have HBm := Aside0.mk hb5; clear hr5 hb5 hg5 hat5))
                go_roundw
                case rel => exact ⟨a + 1, hla, vE hla (by have := HLl.out; have := HQm.out; omega), ⟨by rw [HE1.out, HG.out]; exact HRm.out⟩, HBm⟩
                case measure => exact mE hla (by have := HLl.out; have := HQm.out; omega)
              · have jb2 : decide ((a : Int) < N) = false := decide_eq_false (fun h => hq ((HQj.out a hal).2 h))
                have HE1 := Aside0.mk (show min (a + 1) q = min a q from by omega)
                go_wp2_with (first
                  | ((with_reducible refine gate_dst (N := 15) rfl ?_); refine box_event ?hg (N := 15) ?hd (cs := #[.string (⟨#[]⟩ : ByteArray), .string (⟨#[]⟩ : ByteArray)]) (t := 54) ?hr ?_; (case hd => rfl); (case hg => rfl); (case hr => first | (go_simp; done) | (go_simp; rfl)); intro gb2 hg wq hbox hb; have BY := Aside0.mk (box_pairE (W := wr) hbox (Nat.le_of_eq hg.symm) hb (.string s) (.string t)); have qa : wq.cell? ⟨gb2, 0, none⟩ = some (.string (⟨#[]⟩ : ByteArray)) := (blk_cell hbox 0).trans rfl; have qb : wq.cell? ⟨gb2, 1, none⟩ = some (.string (⟨#[]⟩ : ByteArray)) := (blk_cell hbox 1).trans rfl; have ra := blk_frozen hbox 0; have rb := blk_frozen hbox 1; have w3 := pw_cell_below BY.out.2 v3; clear hbox hb hg))
                go_roundw
                case rel => exact ⟨a + 1, hla, vE hla (by have := HLl.out; have := HQm.out; omega), ⟨by rw [HE1.out]; exact Kd.R_below HRL.out BY.out.2⟩, ⟨HBL.out.trans (BY.out.2.mono HBL.out.size)⟩⟩
                case measure => exact mE hla (by have := HLl.out; have := HQm.out; omega)
            · have kb : decide ((a : Int) < (qm : Int)) = false := decide_eq_false (fun h => hla (Int.ofNat_lt.1 h))
              have kbn : decide (a < qm) = false := decide_eq_false hla
              have hr8 := HRL.out
              rw [show min a q = q from by have := HQl.out; have := HQm.out; omega, HSr.out] at hr8
              obtain ⟨A8, c8, e8⟩ := Kd.R_slice hr8
              obtain ⟨n8, hn8⟩ : ∃ n8, n8 = st.length := ⟨_, rfl⟩
              rw [← hn8] at e8
              subst e8
              have HQs := Aside0.mk hn8
              have HTp := Aside0.mk (TRow.of (S := UR S1a S2a w4.heap.size gs) hr8 HD6.out.k.hiU)
              have HDp := Aside0.mk (HD6.out.below HBL.out)
              have HBp := Aside0.mk (HB6.out.trans (HBL.out.mono HB6.out.size))
              have HCp := Aside0.mk (HC6.out.step (Step.same HBL.out))
              have HWp := Aside0.mk (HW6.out.step (Step.same HBL.out))
              obtain ⟨e0, e1, e2, e3, e4, e5, e6⟩ := HCp.out.call
              clear hr8 hn8 HRL HBL HD6 HB6 HC6 HW6
              go_wp2_with (first
                | (go_at_call 27; have tk := HDp; clear tk; refine (Arm_D (j := fuse) (keep := keep) (torn := torn) HDp.out.k.kd.dev HDp.out.k.kd.size).mono ?_; rintro e w9 ⟨S19, rfl, hd, hs⟩; obtain ⟨hk, hst⟩ := HDp.out.dev hd hs; have HD9 := Aside0.mk hk; have HK9 := Aside0.mk (KB.step (KB.mk HCp.out HWp.out HTp.out) hst); have HB9 := Aside0.mk (HBp.out.trans (hst.only.toBelow HDp.out.k.loU HBp.out.size)); obtain ⟨e0, e1, e2, e3, e4, e5, e6⟩ := HK9.out.cb.call; clear hd hs hk hst HDp HBp HCp HWp HTp)
                | (go_at_call 16; refine (does_D HD9.out.k HF.out HSz.out HdS.out HdR.out).mono ?_; rintro e w10 ⟨rfl, S1b, S2b, hk7, hs7⟩; obtain ⟨hk, hst⟩ := HD9.out.does hk7 hs7; have HD10 := Aside0.mk hk; have HK10 := Aside0.mk (HK9.out.step hst); have HB10 := Aside0.mk (HB9.out.trans (hst.only.toBelow HD9.out.k.loU HB9.out.size)); clear hk7 hs7 hk hst HD9 HK9 HB9 HF HdS HdR)
                | (go_at_call 27; have tk := HD10; clear tk; refine (Arm_D (j := 0) (keep := 0) (torn := false) HD10.out.k.kd.dev HD10.out.k.kd.size).mono ?_; rintro e w11 ⟨S1c, rfl, hd, hs⟩; obtain ⟨hk, hst⟩ := HD10.out.dev hd hs; have HD11 := Aside0.mk hk; have HK11 := Aside0.mk (HK10.out.step hst); have HB11 := Aside0.mk (HB10.out.trans (hst.only.toBelow HD10.out.k.loU HB10.out.size)); obtain ⟨Aw, cw, qw, hqw, hcw, hrw, zw⟩ := HK11.out.ws.cell; have HQw := Aside0.mk hqw; have HCw := Aside0.mk hcw; have HRw := Aside0.mk hrw; clear hd hs hk hst hqw hcw hrw HD10 HK10 HB10))
              go_loopw [9, 18, 125] (fun sv nv i wr => ∃ (a gs' o' nn' cap' : Nat) (An : Option Addr) (qn cn : Nat), a ≤ n8 ∧ sv = .slice (some ⟨gs', o', none⟩) nn' cap' ∧ nv = .slice An qn cn ∧ i = .int .i64 (a : Int) ∧ Aside0 (KL S1c S2b w.heap.size wr gd g w4.heap.size gs' o' nn' cap' (d'.arm 0 0 false) m lx (stepAll l st) z' (SS ++ (newS l st).take a)) ∧ Aside0 (KB (UR S1c S2b w4.heap.size gs') wr gb gw n8 kind key val N fuse keep torn m l A8 st) ∧ Aside0 (qn = (stepAll l (st.take a)).length ∧ (stepAll l (st.take a)).length ≤ cn ∧ ERow (UR S1c S2b w4.heap.size gs') wr An (stepAll l (st.take a)).length (stepAll l (st.take a))) ∧ Aside0 (Below w.heap.size w wr)) (fun _ _ i _ => n8 - (intOf i).toNat)
              case atStart => exact ⟨0, gs, o, nn, cap, Aw, qw, cw, Nat.zero_le _, rfl, rfl, rfl, ⟨by rw [List.take_zero, List.append_nil]; exact HD11.out⟩, HK11, ⟨by rw [List.take_zero]; exact ⟨HQw.out, HCw.out, HRw.out⟩⟩, HB11⟩
              case round =>
                obtain ⟨a, gs', o', nn', cap', An, qn, cn, ha, rfl, rfl, rfl, HD4, HK4, HN4, HB4⟩ := hrel
                clear HD11 HK11 HB11 HQw HCw HRw
                by_cases hl4 : a < n8
                · have kb : decide ((a : Int) < (n8 : Int)) = true := decide_eq_true (Int.ofNat_lt.2 hl4)
                  have kbn : decide (a < n8) = true := decide_eq_true hl4
                  have has : a < st.length := by have := HQs.out; omega
                  obtain ⟨ad4, eA4, y4⟩ := HK4.out.tr.get has
                  subst eA4
                  have HRg := Aside0.mk (HSg.out _ (List.getElem_mem has))
                  obtain ⟨X, hX⟩ : ∃ X, X = stepAll l (st.take a) := ⟨_, rfl⟩
                  have hXs := stepE_step (l := l) has
                  have hXn := newS_take l st has
                  have HXk := Aside0.mk (show KN X from by rw [hX]; exact HKn.out.steps (fun r hr => HSg.out r (List.mem_of_mem_take hr)))
                  have HXl := Aside0.mk (show X.length ≤ 1048576 from by rw [hX]; have := HPre.out a; omega)
                  rw [← hX] at HN4 hXs
                  obtain ⟨r, hr⟩ : ∃ r, r = st[a]'has := ⟨_, rfl⟩
                  rw [← hr] at y4 HRg hXs
                  rw [hXs] at hXn
                  have HXs := Aside0.mk hXs
                  have HXn := Aside0.mk hXn
                  have HNn := Aside0.mk (show nn' + 1 ≤ 1048576 from by have h1 := HD4.out.s.len; have h2 := newS_len l st; have h3 := HSn.out; have h4 := HSl.out; have h5 := H60.out; rw [List.length_append, List.length_take, h2] at h1; omega)
                  clear hX hXs hXn hr has
                  go_wp2_with (first
                    | (go_at_call 28; refine (RDone_Q wr (n := qn) HN4.out.1 HXk.out HN4.out.2.2.C HN4.out.2.1 HRg.out HXl.out).mono ?_; rintro e w12 ⟨A12, c12, n12, rfl, hn12, hr12, hb⟩; have HD5 := Aside0.mk (HD4.out.below hb); have HK5 := Aside0.mk (HK4.out.step (Step.same hb)); have HB5 := Aside0.mk (HB4.out.trans (hb.mono HB4.out.size)); have hc12 := (R_entC hr12).1; have hew : ERow (UR S1c S2b w4.heap.size gs') w12 A12 n12 (stepE X r) := ERow.of hr12 HD4.out.k.hiU; have HV := Aside0.mk (show SV (UR S1c S2b w4.heap.size gs') w12 (.slice A12 n12 c12) (stepE X r) from ⟨A12, c12, by rw [hn12], by rw [← hn12]; exact hc12, by rw [← hn12]; exact hew⟩); have HN12 := Aside0.mk hn12; clear hn12 hr12 hb hc12 hew HD4 HK4 HB4 HN4)
                    | ((with_reducible refine gate_builtin (b := .append) (xs := #[.tmp 135, .tmp 137]) rfl ?_); (try (refine gate_guard (by rfl) ?_; dsimp only)); at_builtin; refine S_append (F := fun gg => UR S1c S2b w4.heap.size gg) (v := .slice A12 n12 c12) rfl (.tmp 135) (.tmp 137) rfl UR.fam UR.own HD5.out.s HV.out HNn.out rfl rfl ?_; intro gs2 o2 cap2 w13 hs13 hst13 ho13 hg13; have HD6 := Aside0.mk (HD5.out.grown hs13 hst13 ho13 hg13); have HK6 := Aside0.mk (HK5.out.step hst13); have HB6 := Aside0.mk (HB5.out.trans (hst13.only.toBelow HD5.out.k.loU HB5.out.size)); have HV6 := Aside0.mk (HV.out.step hst13); clear hs13 hst13 ho13 hg13 HD5 HK5 HB5 HV))
                  go_roundw
                  case rel => exact ⟨a + 1, gs2, o2, nn' + 1, cap2, A12, n12, c12, hl4, rfl, rfl, vE hl4 (by have := HSl.out; have := HQs.out; omega), ⟨by rw [HXn.out, ← List.append_assoc]; exact HD6.out⟩, HK6, ⟨by
                    obtain ⟨A9, c9, e9, hc9, hr9⟩ := HV6.out
                    injection e9 with e91 e92 e93
                    subst e91
                    subst e93
                    rw [HXs.out]
                    exact ⟨e92, hc9, hr9⟩⟩, HB6⟩
                  case measure => exact mE hl4 (by have := HSl.out; have := HQs.out; omega)
                · have kb : decide ((a : Int) < (n8 : Int)) = false := decide_eq_false (fun h => hl4 (Int.ofNat_lt.1 h))
                  have kbn : decide (a < n8) = false := decide_eq_false hl4
                  have hfull : (newS l st).take a = newS l st := List.take_of_length_le (by rw [newS_len]; have := HQs.out; omega)
                  have hd5 := HD4.out
                  rw [hfull] at hd5
                  have HLen2' : ∀ X ∈ SS ++ newS l st, X.length ≤ 1048576 := fun X hX => by
                    rcases List.mem_append.1 hX with h | h
                    · have := HSSl.out X h; omega
                    · unfold newS at h
                      obtain ⟨i, _, rfl⟩ := List.mem_map.1 h
                      have := HPre.out (i + 1)
                      omega
                  have hsn2 : (SS ++ newS l st).length ≤ 1 + 202 * (j + 1) := by rw [List.length_append, newS_len]; have := HSn.out; have := HSl.out; omega
                  obtain ⟨SS2, hSS2⟩ : ∃ SS2, SS2 = SS ++ newS l st := ⟨_, rfl⟩
                  have hla := HLast.out
                  rw [← hSS2] at hd5 HLen2' hsn2 hla
                  have HD5 := Aside0.mk hd5
                  have HLen2 := Aside0.mk HLen2'
                  have HSn2 := Aside0.mk hsn2
                  have HLast2 := Aside0.mk hla
                  have HNb := Aside0.mk (show nn' ≤ 1048576 from by have h1 := hd5.s.len; have := H60.out; omega)
                  have HK5 := HK4
                  have HB5 := HB4
                  obtain ⟨e0, e1, e2, e3, e4, e5, e6⟩ := HK5.out.cb.call
                  clear hfull hd5 HLen2' hsn2 hla HD4 HK4 HB4 HN4
                  rcases HOut.out with h | h
                  · obtain ⟨ex, elx, hy7, hy0, rs0', rs', hdl⟩ := h
                    subst ex
                    subst elx
                    have x7 : (x != 7) = true := bne_iff_ne.mpr hy7
                    have HY0 := Aside0.mk hy0
                    have hdl : DL kN m (costL (sc.take (j + 1))) (5 * (((j + 1 : Nat)) : Int)) (d'.arm 0 0 false) rs0' rs' (stepAll l st) (if kind = 2 ∨ kind = 3 then [stepAll l st] else SS2) := by rw [HR.out.cost, hSS2]; exact hdl.mono (Nat.le_refl _) (by omega)
                    obtain ⟨A6, c6, q6, hq6, hc6, hC6, zc⟩ := HD5.out.k.cell1
                    have HQ := Aside0.mk hq6
                    have HC := Aside0.mk hC6
                    have HCc := Aside0.mk hc6
                    have HLn := Aside0.mk (show (stepAll l st).length ≤ 1048576 from by have := HLf.out.len; have := HM.out; omega)
                    clear hy7 hy0 hq6 hc6 hC6
                    rw [if_neg HN23.out] at hdl
                    have k2 : (kind == 2) = false := beq_eq_false_iff_ne.mpr (fun e => HN23.out (.inl e))
                    have k3 : (kind == 3) = false := beq_eq_false_iff_ne.mpr (fun e => HN23.out (.inr e))
                    by_cases hx0 : x = 0
                    · subst hx0
                      have HDL := Aside0.mk hdl
                      clear hdl hSS2
                      go_wp2_with (first
                        | (go_at_call 17; refine (has_Q HD5.out.k.kd.st HLf.out.kn HQ.out HC.out HCc.out HLn.out HLn.out).mono ?_; rintro e w14 ⟨rfl, hb⟩; rw [decide_eq_true rfl]; have HD6 := Aside0.mk (HD5.out.below hb); have HK6 := Aside0.mk (HK5.out.step (Step.same hb)); have HB6 := Aside0.mk (HB5.out.trans (hb.mono HB5.out.size)); obtain ⟨e0, e1, e2, e3, e4, e5, e6⟩ := HK6.out.cb.call;  clear hb HD5 HK5 HB5 HQ HC HCc))
                      go_roundw
                      case rel => exact ⟨j + 1, g, gs', o', nn', cap', _, _, d'.arm 0 0 false, rs0', rs', stepAll l st, z', SS2, hlt, rfl, rfl, vE hlt (by have := H60.out; omega), ⟨HD6.out⟩, ⟨HDL.out, HZ.out.1, HZ.out.2, HSn2.out⟩, HB6⟩
                      case measure => exact mE hlt (by have := H60.out; omega)
                    · have x0 : (x == 0) = false := beq_eq_false_iff_ne.mpr hx0
                      clear hx0
                      have HDL := Aside0.mk hdl
                      clear hdl hSS2
                      go_wp2_with (first
                        | (go_at_call 17; refine (has_Q HD5.out.k.kd.st HLf.out.kn HQ.out HC.out HCc.out HLn.out HLn.out).mono ?_; rintro e w14 ⟨rfl, hb⟩; rw [decide_eq_true rfl]; have HD6 := Aside0.mk (HD5.out.below hb); have HK6 := Aside0.mk (HK5.out.step (Step.same hb)); have HB6 := Aside0.mk (HB5.out.trans (hb.mono HB5.out.size)); obtain ⟨e0, e1, e2, e3, e4, e5, e6⟩ := HK6.out.cb.call;  clear hb HD5 HK5 HB5 HQ HC HCc))
                      go_roundw
                      case rel => exact ⟨j + 1, g, gs', o', nn', cap', _, _, d'.arm 0 0 false, rs0', rs', stepAll l st, z', SS2, hlt, rfl, rfl, vE hlt (by have := H60.out; omega), ⟨HD6.out⟩, ⟨HDL.out, HZ.out.1, HZ.out.2, HSn2.out⟩, HB6⟩
                      case measure => exact mE hlt (by have := H60.out; omega)
                  · as_aux_lemma =>
                      obtain ⟨ex, elx, hu3, hu4, rsx, d3, lw, hop, hgx, hlw, hmem, hlfw, hdl⟩ := h
                      subst ex
                      subst elx
                      have HUo := Aside0.mk hu4
                      have HOp := Aside0.mk hop
                      have HGx := Aside0.mk hgx
                      have HLw := Aside0.mk hlw
                      have HLfw := Aside0.mk hlfw
                      have HDL := Aside0.mk (show DL kN m (costL (sc.take (j + 1))) (5 * (((j + 1 : Nat)) : Int)) d3 rsx [] lw [lw] from by rw [HR.out.cost]; exact hdl.mono (Nat.le_refl _) (by omega))
                      have HLen := Aside0.mk (show ∀ X ∈ SS2, X.length ≤ 1048576 from HLen2.out)
                      rw [← hSS2] at hmem
                      obtain ⟨q, hq⟩ : ∃ q, nn' = q + 1 := ⟨nn' - 1, by have h9 := HD5.out.s.len; obtain ⟨SS0, e9⟩ := HLast2.out; rw [e9, List.length_append, List.length_singleton] at h9; omega⟩
                      have hw1 : wrap64 ((nn' : Int) - 1) = (q : Int) := by have := HNb.out; rw [hq, w64 (by omega) (by omega)]; omega
                      have HQq := Aside0.mk hq
                      have HMem := Aside0.mk hmem
                      clear hu3 hu4 hop hgx hlw hmem hlfw hdl hSS2 hq
                      go_wp2_with (first
                        | (go_at_call 29; refine (Off_D (keep := keep) (torn := torn) HD5.out.k.kd.dev HD5.out.k.kd.size HU2.out rfl).mono ?_; rintro e w15 ⟨S1d, rfl, hd, hs⟩; obtain ⟨hk, hst⟩ := HD5.out.dev hd hs; have HD6 := Aside0.mk hk; have HB6 := Aside0.mk (HB5.out.trans (hst.only.toBelow HD5.out.k.loU HB5.out.size)); clear hd hs hk hst HD5 HB5 HK5)
                        | (go_at_call 30; refine (On_D HD6.out.k.kd.dev HD6.out.k.kd.size).mono ?_; rintro e w16 ⟨S1e, rfl, hd, hs⟩; obtain ⟨hk, hst⟩ := HD6.out.dev hd hs; have HD7 := Aside0.mk hk; have HB7 := Aside0.mk (HB6.out.trans (hst.only.toBelow HD6.out.k.loU HB6.out.size)); clear hd hs hk hst HD6 HB6)
                        | (go_at_call 10; refine (Open_P0 HD7.out.k.kd.dev HD7.out.k.kd.size HUo.out (by have := H60.out; omega) kN_nm (by have := HM.out; omega) HGx.out HOp.out).mono ?_; rintro e w17 ⟨rfl, S1f, S2f, hk, hs⟩; rw [HLw.out] at hk; obtain ⟨hk2, hst⟩ := HD7.out.open_ hk hs; have HD8 := Aside0.mk hk2; have HB8 := Aside0.mk (HB7.out.trans (hst.only.toBelow HD7.out.k.loU HB7.out.size)); clear hk hs hk2 hst HD7 HB7))
                      go_loopw [21] (fun i wr => ∃ (p : Nat), p ≤ q ∧ i = .int .i64 (p : Int) ∧ Aside0 (∃ (ix : Nat) (h : ix < SS2.length), ix ≤ p ∧ SS2[ix] = lw) ∧ Aside0 (KL S1f S2f w.heap.size wr gd w16.heap.size w4.heap.size gs' o' nn' cap' d3 m lw (stepAll lx st) z' SS2) ∧ Aside0 (Below w.heap.size w wr)) (fun i _ => (intOf i).toNat)
                      case atStart => exact ⟨q, Nat.le_refl _, by rw [hw1], ⟨by obtain ⟨ix, h, e⟩ := List.getElem_of_mem HMem.out; exact ⟨ix, h, by have := HD8.out.s.len; have := HQq.out; omega, e⟩⟩, HD8, HB8⟩
                      case round =>
                        obtain ⟨p, hpq, rfl, HIx, HD9, HB9⟩ := hrel
                        clear HD8 HB8 hw1
                        have hp : p < SS2.length := by have := HD9.out.s.len; have := HQq.out; omega
                        have hpn : p < nn' := by have := HQq.out; omega
                        have kge : decide ((0 : Int) ≤ (p : Int)) = true := decide_eq_true (Int.natCast_nonneg _)
                        have klt : decide ((p : Int) < 0) = false := decide_eq_false (by omega)
                        have kb : decide ((p : Int) < (nn' : Int)) = true := decide_eq_true (Int.ofNat_lt.2 hpn)
                        have kbn : decide (p < nn') = true := decide_eq_true hpn
                        have hw2 : wrap64 ((p : Int) - 1) = (p : Int) - 1 := by have := HNb.out; rw [w64 (by omega) (by omega)]
                        obtain ⟨Ap, cp, zp, hcp, hrp⟩ := HD9.out.s.get hp
                        have HCp := Aside0.mk hcp
                        have HRp := Aside0.mk hrp
                        have HLp := Aside0.mk (HLen.out _ (List.getElem_mem hp))
                        clear hcp hrp
                        by_cases hh : lw = SS2[p]'hp
                        · have HEq := Aside0.mk hh
                          clear hh
                          go_wp2_with (first
                            | (go_at_call 17; refine (has_Q HD9.out.k.kd.st HLfw.out.kn rfl HRp.out.C HCp.out (by have := HLfw.out.len; have := HM.out; omega) HLp.out).mono ?_; rintro e w18 ⟨rfl, hb⟩; rw [decide_eq_true HEq.out]; have HD10 := Aside0.mk (HD9.out.below hb); have HB10 := Aside0.mk (HB9.out.trans (hb.mono HB9.out.size)); have zd := pw_cell_below hb zp; have HR10 := Aside0.mk (HRp.out.below hb); obtain ⟨A7, c7, hc7, hb7, he7⟩ := HD10.out.k.ms.at_; have z1 : w18.cell? ⟨w4.heap.size, 1, none⟩ = some (.slice A7 (stepAll lx st).length c7) := (blk_cell hb7 1).trans rfl; have f1 := blk_frozen hb7 1; obtain ⟨hk11, hst11⟩ := HD10.out.listed HR10.out HCp.out; have hv11 : SV (UR S1f S2f w4.heap.size gs') _ (.slice Ap (SS2[p]'hp).length cp) (SS2[p]'hp) := ⟨Ap, cp, rfl, HCp.out, HR10.out.step hst11⟩; obtain ⟨hk12, hb12⟩ := hk11.lit2 hv11 (by rw [set_size]; exact HB10.out.size); rw [set_size] at hk12; have HD12 := Aside0.mk (hk12.same HEq.out); have HB12 := Aside0.mk (HB10.out.trans ((hst11.only.toBelow HD10.out.k.loU HB10.out.size).trans hb12)); clear hc7 he7 hk11 hst11 hv11 hk12 hb12; clear hb HD9 HB9))
                          go_roundw
                          case rel => exact ⟨j + 1, w16.heap.size, w18.heap.size, 0, 1, 1, _, _, d3, rsx, [], lw, z', [lw], hlt, rfl, rfl, vE hlt (by have := H60.out; omega), HD12, ⟨HDL.out, HZ.out.1, HZ.out.2, by show (1 : Nat) ≤ _; omega⟩, HB12⟩
                          case measure => exact mE hlt (by have := H60.out; omega)
                        · have HNe := Aside0.mk hh
                          clear hh
                          go_wp2_with (first
                            | (go_at_call 17; refine (has_Q HD9.out.k.kd.st HLfw.out.kn rfl HRp.out.C HCp.out (by have := HLfw.out.len; have := HM.out; omega) HLp.out).mono ?_; rintro e w18 ⟨rfl, hb⟩; rw [decide_eq_false HNe.out]; have HD10 := Aside0.mk (HD9.out.below hb); have HB10 := Aside0.mk (HB9.out.trans (hb.mono HB9.out.size));  clear hb HD9 HB9))
                          have hix : ∃ (ix : Nat) (h : ix < SS2.length), ix ≤ p - 1 ∧ SS2[ix] = lw := by
                            obtain ⟨ix, h, h1, e⟩ := HIx.out
                            rcases Nat.lt_or_ge ix p with h2 | h2
                            · exact ⟨ix, h, by omega, e⟩
                            · exact absurd (show lw = SS2[p]'hp from by rw [← e]; congr 1; omega) HNe.out
                          have hp1 : 1 ≤ p := by
                            obtain ⟨ix, h, h1, e⟩ := HIx.out
                            rcases Nat.eq_zero_or_pos p with e0 | e0
                            · exact absurd (show lw = SS2[p]'hp from by rw [← e]; congr 1; omega) HNe.out
                            · exact e0
                          have hp2 : wrap64 ((p : Int) - 1) = ((p - 1 : Nat) : Int) := by rw [hw2]; omega
                          have HIx2 := Aside0.mk hix
                          clear hix
                          go_roundw
                          case rel => exact ⟨p - 1, by omega, by rw [hp2], HIx2, HD10, HB10⟩
                          case measure =>
                            rw [hp2]
                            show (((p - 1 : Nat)) : Int).toNat < ((p : Int)).toNat
                            omega
      as_aux_lemma =>
        have k0 : (kind == 0) = false := beq_eq_false_iff_ne.mpr c0
        have k1 : (kind == 1) = false := beq_eq_false_iff_ne.mpr c1
        have HS0 := Aside0.mk (show st = [] from by have h := HSt.out; unfold stepsP at h; rw [if_neg c0, if_neg c1] at h; exact h.symm)
        have HQs := Aside0.mk (show 0 = st.length from by rw [HS0.out]; rfl)
        go_wp2_with (first
          | ((with_reducible refine gate_dst (N := 11) rfl ?_); refine box_event ?hg (N := 11) ?hd (cs := #[.int .i64 0, .string (⟨#[]⟩ : ByteArray), .string (⟨#[]⟩ : ByteArray), .int .i64 0, .int .i64 0, .int .i64 0, .bool false]) (t := 42) ?hr ?_; (case hd => rfl); (case hg => rfl); (case hr => first | (go_simp; done) | (go_simp; rfl)); intro gb hg wq hbox hb; have HGb := Aside0.mk (Nat.le_of_eq hg.symm); have BX := Aside0.mk (box_seven (W := wr) hbox (Nat.le_of_eq hg.symm) hb (.int .i64 kind) (.string key) (.string val) (.int .i64 N) (.int .i64 fuse) (.int .i64 keep) (.bool torn)); have q0 : wq.cell? ⟨gb, 0, none⟩ = some (.int .i64 0) := (blk_cell hbox 0).trans rfl; have r0 := blk_frozen hbox 0; have q1 : wq.cell? ⟨gb, 1, none⟩ = some (.string (⟨#[]⟩ : ByteArray)) := (blk_cell hbox 1).trans rfl; have r1 := blk_frozen hbox 1; have q2 : wq.cell? ⟨gb, 2, none⟩ = some (.string (⟨#[]⟩ : ByteArray)) := (blk_cell hbox 2).trans rfl; have r2 := blk_frozen hbox 2; have q3 : wq.cell? ⟨gb, 3, none⟩ = some (.int .i64 0) := (blk_cell hbox 3).trans rfl; have r3 := blk_frozen hbox 3; have q4 : wq.cell? ⟨gb, 4, none⟩ = some (.int .i64 0) := (blk_cell hbox 4).trans rfl; have r4 := blk_frozen hbox 4; have q5 : wq.cell? ⟨gb, 5, none⟩ = some (.int .i64 0) := (blk_cell hbox 5).trans rfl; have r5 := blk_frozen hbox 5; have q6 : wq.cell? ⟨gb, 6, none⟩ = some (.bool false) := (blk_cell hbox 6).trans rfl; have r6 := blk_frozen hbox 6; clear hbox hb hg)
          | (go_at_call 23; have HC0 := Aside0.mk (HD.out.below BX.out.2); have HBx := Aside0.mk (HB.out.trans (BX.out.2.mono HB.out.size)); have HCb := Aside0.mk (Out.mk (S := UR S1a S2a w4.heap.size gs) BX.out.1 (fun hk => Nat.lt_irrefl _ (Nat.lt_of_lt_of_le (HD.out.k.hiU _ hk) HGb.out))); clear BX HD HB; refine (RCopy_M HC0.out.k.ms).mono ?_; rintro e w6 ⟨gw, rfl, hgw, hrow, hb⟩; have HW6 := Aside0.mk (Was.of HC0.out.k.hiU hgw hrow); have HD6 := Aside0.mk (HC0.out.below hb); have HB6 := Aside0.mk (HBx.out.trans (hb.mono HBx.out.size)); have HC6 := Aside0.mk (HCb.out.step (Step.same hb)); obtain ⟨e0, e1, e2, e3, e4, e5, e6⟩ := HC6.out.call; have HDp := HD6; have HBp := HB6; have HCp := HC6; have HWp := HW6;have HTp := Aside0.mk (show TRow (UR S1a S2a w4.heap.size gs) w6 none 0 st from by rw [HS0.out]; exact TRow.nil); clear hgw hrow hb HC0 HBx HCb)
          | (go_at_call 27; have tk := HDp; clear tk; refine (Arm_D (j := fuse) (keep := keep) (torn := torn) HDp.out.k.kd.dev HDp.out.k.kd.size).mono ?_; rintro e w9 ⟨S19, rfl, hd, hs⟩; obtain ⟨hk, hst⟩ := HDp.out.dev hd hs; have HD9 := Aside0.mk hk; have HK9 := Aside0.mk (KB.step (KB.mk HCp.out HWp.out HTp.out) hst); have HB9 := Aside0.mk (HBp.out.trans (hst.only.toBelow HDp.out.k.loU HBp.out.size)); obtain ⟨e0, e1, e2, e3, e4, e5, e6⟩ := HK9.out.cb.call; clear hd hs hk hst HDp HBp HCp HWp HTp)
          | (go_at_call 16; refine (does_D HD9.out.k HF.out HSz.out HdS.out HdR.out).mono ?_; rintro e w10 ⟨rfl, S1b, S2b, hk7, hs7⟩; obtain ⟨hk, hst⟩ := HD9.out.does hk7 hs7; have HD10 := Aside0.mk hk; have HK10 := Aside0.mk (HK9.out.step hst); have HB10 := Aside0.mk (HB9.out.trans (hst.only.toBelow HD9.out.k.loU HB9.out.size)); clear hk7 hs7 hk hst HD9 HK9 HB9 HF HdS HdR)
          | (go_at_call 27; have tk := HD10; clear tk; refine (Arm_D (j := 0) (keep := 0) (torn := false) HD10.out.k.kd.dev HD10.out.k.kd.size).mono ?_; rintro e w11 ⟨S1c, rfl, hd, hs⟩; obtain ⟨hk, hst⟩ := HD10.out.dev hd hs; have HD11 := Aside0.mk hk; have HK11 := Aside0.mk (HK10.out.step hst); have HB11 := Aside0.mk (HB10.out.trans (hst.only.toBelow HD10.out.k.loU HB10.out.size)); obtain ⟨Aw, cw, qw, hqw, hcw, hrw, zw⟩ := HK11.out.ws.cell; have HQw := Aside0.mk hqw; have HCw := Aside0.mk hcw; have HRw := Aside0.mk hrw; clear hd hs hk hst hqw hcw hrw HD10 HK10 HB10))
        go_loopw [9, 18, 125] (fun sv nv i wr => ∃ (a gs' o' nn' cap' : Nat) (An : Option Addr) (qn cn : Nat), a ≤ 0 ∧ sv = .slice (some ⟨gs', o', none⟩) nn' cap' ∧ nv = .slice An qn cn ∧ i = .int .i64 (a : Int) ∧ Aside0 (KL S1c S2b w.heap.size wr gd g w4.heap.size gs' o' nn' cap' (d'.arm 0 0 false) m lx (stepAll l st) z' (SS ++ (newS l st).take a)) ∧ Aside0 (KB (UR S1c S2b w4.heap.size gs') wr gb gw 0 kind key val N fuse keep torn m l none st) ∧ Aside0 (qn = (stepAll l (st.take a)).length ∧ (stepAll l (st.take a)).length ≤ cn ∧ ERow (UR S1c S2b w4.heap.size gs') wr An (stepAll l (st.take a)).length (stepAll l (st.take a))) ∧ Aside0 (Below w.heap.size w wr)) (fun _ _ i _ => 0 - (intOf i).toNat)
        case atStart => exact ⟨0, gs, o, nn, cap, Aw, qw, cw, Nat.zero_le _, rfl, rfl, rfl, ⟨by rw [List.take_zero, List.append_nil]; exact HD11.out⟩, HK11, ⟨by rw [List.take_zero]; exact ⟨HQw.out, HCw.out, HRw.out⟩⟩, HB11⟩
        case round =>
          obtain ⟨a, gs', o', nn', cap', An, qn, cn, ha, rfl, rfl, rfl, HD4, HK4, HN4, HB4⟩ := hrel
          clear HD11 HK11 HB11 HQw HCw HRw
          have kb : decide ((a : Int) < 0) = false := decide_eq_false (by omega)
          have kbn : decide (a < 0) = false := decide_eq_false (Nat.not_lt_zero _)
          have hfull : (newS l st).take a = newS l st := List.take_of_length_le (by rw [newS_len]; have := HQs.out; omega)
          have hd5 := HD4.out
          rw [hfull] at hd5
          have HLen2' : ∀ X ∈ SS ++ newS l st, X.length ≤ 1048576 := fun X hX => by
            rcases List.mem_append.1 hX with h | h
            · have := HSSl.out X h; omega
            · unfold newS at h
              obtain ⟨i, _, rfl⟩ := List.mem_map.1 h
              have := HPre.out (i + 1)
              omega
          have hsn2 : (SS ++ newS l st).length ≤ 1 + 202 * (j + 1) := by rw [List.length_append, newS_len]; have := HSn.out; have := HSl.out; omega
          obtain ⟨SS2, hSS2⟩ : ∃ SS2, SS2 = SS ++ newS l st := ⟨_, rfl⟩
          have hla := HLast.out
          rw [← hSS2] at hd5 HLen2' hsn2 hla
          have HD5 := Aside0.mk hd5
          have HLen2 := Aside0.mk HLen2'
          have HSn2 := Aside0.mk hsn2
          have HLast2 := Aside0.mk hla
          have HNb := Aside0.mk (show nn' ≤ 1048576 from by have h1 := hd5.s.len; have := H60.out; omega)
          have HK5 := HK4
          have HB5 := HB4
          obtain ⟨e0, e1, e2, e3, e4, e5, e6⟩ := HK5.out.cb.call
          clear hfull hd5 HLen2' hsn2 hla HD4 HK4 HB4 HN4
          rcases HOut.out with h | h
          · obtain ⟨ex, elx, hy7, hy0, rs0', rs', hdl⟩ := h
            subst ex
            subst elx
            have x7 : (x != 7) = true := bne_iff_ne.mpr hy7
            have HY0 := Aside0.mk hy0
            have hdl : DL kN m (costL (sc.take (j + 1))) (5 * (((j + 1 : Nat)) : Int)) (d'.arm 0 0 false) rs0' rs' (stepAll l st) (if kind = 2 ∨ kind = 3 then [stepAll l st] else SS2) := by rw [HR.out.cost, hSS2]; exact hdl.mono (Nat.le_refl _) (by omega)
            obtain ⟨A6, c6, q6, hq6, hc6, hC6, zc⟩ := HD5.out.k.cell1
            have HQ := Aside0.mk hq6
            have HC := Aside0.mk hC6
            have HCc := Aside0.mk hc6
            have HLn := Aside0.mk (show (stepAll l st).length ≤ 1048576 from by have := HLf.out.len; have := HM.out; omega)
            clear hy7 hy0 hq6 hc6 hC6
            by_cases h2 : kind = 2 ∨ kind = 3
            · rw [if_pos h2] at hdl
              have HDL := Aside0.mk hdl
              have hx0 : x = 0 := HY0.out h2
              subst hx0
              obtain ⟨q, hq⟩ : ∃ q, nn' = q + 1 := ⟨nn' - 1, by have h9 := HD5.out.s.len; obtain ⟨SS0, e9⟩ := HLast2.out; rw [e9, List.length_append, List.length_singleton] at h9; omega⟩
              have hw1 : wrap64 ((nn' : Int) - 1) = (q : Int) := by have := HNb.out; rw [hq, w64 (by omega) (by omega)]; omega
              have kq : decide ((q : Int) < (nn' : Int)) = true := decide_eq_true (by omega)
              have HQq := Aside0.mk hq
              have HCp2 := Aside0.mk HD5.out.s.pos
              obtain ⟨SS0, hss⟩ := HLast2.out
              have HSs := Aside0.mk hss
              clear hdl hSS2 hq hss
              rcases h2 with h2 | h2
              · have k2 : (kind == 2) = true := beq_iff_eq.mpr h2
                clear h2
                go_wp2_with (first
                  | (go_at_call 17; refine (has_Q HD5.out.k.kd.st HLf.out.kn HQ.out HC.out HCc.out HLn.out HLn.out).mono ?_; rintro e w14 ⟨rfl, hb⟩; rw [decide_eq_true rfl]; have HD6 := Aside0.mk (HD5.out.below hb); have HK6 := Aside0.mk (HK5.out.step (Step.same hb)); have HB6 := Aside0.mk (HB5.out.trans (hb.mono HB5.out.size)); obtain ⟨e0, e1, e2, e3, e4, e5, e6⟩ := HK6.out.cb.call; have hcut := cutS w14 gs' o' nn' cap' q HQq.out HCp2.out; clear hb HD5 HK5 HB5 HQ HC HCc))
                go_roundw
                case rel => exact ⟨j + 1, g, gs', o' + q, 1, cap' - q, _, _, d'.arm 0 0 false, rs0', rs', stepAll l st, z', [stepAll l st], hlt, rfl, rfl, vE hlt (by have := H60.out; omega), ⟨HD6.out.from HSs.out HQq.out⟩, ⟨HDL.out, HZ.out.1, HZ.out.2, by show (1 : Nat) ≤ _; omega⟩, HB6⟩
                case measure => exact mE hlt (by have := H60.out; omega)
              · have k2 : (kind == 2) = false := beq_eq_false_iff_ne.mpr (by omega)
                have k3 : (kind == 3) = true := beq_iff_eq.mpr h2
                clear h2
                go_wp2_with (first
                  | (go_at_call 17; refine (has_Q HD5.out.k.kd.st HLf.out.kn HQ.out HC.out HCc.out HLn.out HLn.out).mono ?_; rintro e w14 ⟨rfl, hb⟩; rw [decide_eq_true rfl]; have HD6 := Aside0.mk (HD5.out.below hb); have HK6 := Aside0.mk (HK5.out.step (Step.same hb)); have HB6 := Aside0.mk (HB5.out.trans (hb.mono HB5.out.size)); obtain ⟨e0, e1, e2, e3, e4, e5, e6⟩ := HK6.out.cb.call; have hcut := cutS w14 gs' o' nn' cap' q HQq.out HCp2.out; clear hb HD5 HK5 HB5 HQ HC HCc))
                go_roundw
                case rel => exact ⟨j + 1, g, gs', o' + q, 1, cap' - q, _, _, d'.arm 0 0 false, rs0', rs', stepAll l st, z', [stepAll l st], hlt, rfl, rfl, vE hlt (by have := H60.out; omega), ⟨HD6.out.from HSs.out HQq.out⟩, ⟨HDL.out, HZ.out.1, HZ.out.2, by show (1 : Nat) ≤ _; omega⟩, HB6⟩
                case measure => exact mE hlt (by have := H60.out; omega)
            · rw [if_neg h2] at hdl
              have k2 : (kind == 2) = false := beq_eq_false_iff_ne.mpr (fun e => h2 (.inl e))
              have k3 : (kind == 3) = false := beq_eq_false_iff_ne.mpr (fun e => h2 (.inr e))
              clear h2
              by_cases hx0 : x = 0
              · subst hx0
                have HDL := Aside0.mk hdl
                clear hdl hSS2
                go_wp2_with (first
                  | (go_at_call 17; refine (has_Q HD5.out.k.kd.st HLf.out.kn HQ.out HC.out HCc.out HLn.out HLn.out).mono ?_; rintro e w14 ⟨rfl, hb⟩; rw [decide_eq_true rfl]; have HD6 := Aside0.mk (HD5.out.below hb); have HK6 := Aside0.mk (HK5.out.step (Step.same hb)); have HB6 := Aside0.mk (HB5.out.trans (hb.mono HB5.out.size)); obtain ⟨e0, e1, e2, e3, e4, e5, e6⟩ := HK6.out.cb.call;  clear hb HD5 HK5 HB5 HQ HC HCc))
                go_roundw
                case rel => exact ⟨j + 1, g, gs', o', nn', cap', _, _, d'.arm 0 0 false, rs0', rs', stepAll l st, z', SS2, hlt, rfl, rfl, vE hlt (by have := H60.out; omega), ⟨HD6.out⟩, ⟨HDL.out, HZ.out.1, HZ.out.2, HSn2.out⟩, HB6⟩
                case measure => exact mE hlt (by have := H60.out; omega)
              · have x0 : (x == 0) = false := beq_eq_false_iff_ne.mpr hx0
                clear hx0
                have HDL := Aside0.mk hdl
                clear hdl hSS2
                go_wp2_with (first
                  | (go_at_call 17; refine (has_Q HD5.out.k.kd.st HLf.out.kn HQ.out HC.out HCc.out HLn.out HLn.out).mono ?_; rintro e w14 ⟨rfl, hb⟩; rw [decide_eq_true rfl]; have HD6 := Aside0.mk (HD5.out.below hb); have HK6 := Aside0.mk (HK5.out.step (Step.same hb)); have HB6 := Aside0.mk (HB5.out.trans (hb.mono HB5.out.size)); obtain ⟨e0, e1, e2, e3, e4, e5, e6⟩ := HK6.out.cb.call;  clear hb HD5 HK5 HB5 HQ HC HCc))
                go_roundw
                case rel => exact ⟨j + 1, g, gs', o', nn', cap', _, _, d'.arm 0 0 false, rs0', rs', stepAll l st, z', SS2, hlt, rfl, rfl, vE hlt (by have := H60.out; omega), ⟨HD6.out⟩, ⟨HDL.out, HZ.out.1, HZ.out.2, HSn2.out⟩, HB6⟩
                case measure => exact mE hlt (by have := H60.out; omega)
          · as_aux_lemma =>
              obtain ⟨ex, elx, hu3, hu4, rsx, d3, lw, hop, hgx, hlw, hmem, hlfw, hdl⟩ := h
              subst ex
              subst elx
              have HUo := Aside0.mk hu4
              have HOp := Aside0.mk hop
              have HGx := Aside0.mk hgx
              have HLw := Aside0.mk hlw
              have HLfw := Aside0.mk hlfw
              have HDL := Aside0.mk (show DL kN m (costL (sc.take (j + 1))) (5 * (((j + 1 : Nat)) : Int)) d3 rsx [] lw [lw] from by rw [HR.out.cost]; exact hdl.mono (Nat.le_refl _) (by omega))
              have HLen := Aside0.mk (show ∀ X ∈ SS2, X.length ≤ 1048576 from HLen2.out)
              rw [← hSS2] at hmem
              obtain ⟨q, hq⟩ : ∃ q, nn' = q + 1 := ⟨nn' - 1, by have h9 := HD5.out.s.len; obtain ⟨SS0, e9⟩ := HLast2.out; rw [e9, List.length_append, List.length_singleton] at h9; omega⟩
              have hw1 : wrap64 ((nn' : Int) - 1) = (q : Int) := by have := HNb.out; rw [hq, w64 (by omega) (by omega)]; omega
              have HQq := Aside0.mk hq
              have HMem := Aside0.mk hmem
              clear hu3 hu4 hop hgx hlw hmem hlfw hdl hSS2 hq
              go_wp2_with (first
                | (go_at_call 29; refine (Off_D (keep := keep) (torn := torn) HD5.out.k.kd.dev HD5.out.k.kd.size HU2.out rfl).mono ?_; rintro e w15 ⟨S1d, rfl, hd, hs⟩; obtain ⟨hk, hst⟩ := HD5.out.dev hd hs; have HD6 := Aside0.mk hk; have HB6 := Aside0.mk (HB5.out.trans (hst.only.toBelow HD5.out.k.loU HB5.out.size)); clear hd hs hk hst HD5 HB5 HK5)
                | (go_at_call 30; refine (On_D HD6.out.k.kd.dev HD6.out.k.kd.size).mono ?_; rintro e w16 ⟨S1e, rfl, hd, hs⟩; obtain ⟨hk, hst⟩ := HD6.out.dev hd hs; have HD7 := Aside0.mk hk; have HB7 := Aside0.mk (HB6.out.trans (hst.only.toBelow HD6.out.k.loU HB6.out.size)); clear hd hs hk hst HD6 HB6)
                | (go_at_call 10; refine (Open_P0 HD7.out.k.kd.dev HD7.out.k.kd.size HUo.out (by have := H60.out; omega) kN_nm (by have := HM.out; omega) HGx.out HOp.out).mono ?_; rintro e w17 ⟨rfl, S1f, S2f, hk, hs⟩; rw [HLw.out] at hk; obtain ⟨hk2, hst⟩ := HD7.out.open_ hk hs; have HD8 := Aside0.mk hk2; have HB8 := Aside0.mk (HB7.out.trans (hst.only.toBelow HD7.out.k.loU HB7.out.size)); clear hk hs hk2 hst HD7 HB7))
              go_loopw [21] (fun i wr => ∃ (p : Nat), p ≤ q ∧ i = .int .i64 (p : Int) ∧ Aside0 (∃ (ix : Nat) (h : ix < SS2.length), ix ≤ p ∧ SS2[ix] = lw) ∧ Aside0 (KL S1f S2f w.heap.size wr gd w16.heap.size w4.heap.size gs' o' nn' cap' d3 m lw (stepAll lx st) z' SS2) ∧ Aside0 (Below w.heap.size w wr)) (fun i _ => (intOf i).toNat)
              case atStart => exact ⟨q, Nat.le_refl _, by rw [hw1], ⟨by obtain ⟨ix, h, e⟩ := List.getElem_of_mem HMem.out; exact ⟨ix, h, by have := HD8.out.s.len; have := HQq.out; omega, e⟩⟩, HD8, HB8⟩
              case round =>
                obtain ⟨p, hpq, rfl, HIx, HD9, HB9⟩ := hrel
                clear HD8 HB8 hw1
                have hp : p < SS2.length := by have := HD9.out.s.len; have := HQq.out; omega
                have hpn : p < nn' := by have := HQq.out; omega
                have kge : decide ((0 : Int) ≤ (p : Int)) = true := decide_eq_true (Int.natCast_nonneg _)
                have klt : decide ((p : Int) < 0) = false := decide_eq_false (by omega)
                have kb : decide ((p : Int) < (nn' : Int)) = true := decide_eq_true (Int.ofNat_lt.2 hpn)
                have kbn : decide (p < nn') = true := decide_eq_true hpn
                have hw2 : wrap64 ((p : Int) - 1) = (p : Int) - 1 := by have := HNb.out; rw [w64 (by omega) (by omega)]
                obtain ⟨Ap, cp, zp, hcp, hrp⟩ := HD9.out.s.get hp
                have HCp := Aside0.mk hcp
                have HRp := Aside0.mk hrp
                have HLp := Aside0.mk (HLen.out _ (List.getElem_mem hp))
                clear hcp hrp
                by_cases hh : lw = SS2[p]'hp
                · have HEq := Aside0.mk hh
                  clear hh
                  go_wp2_with (first
                    | (go_at_call 17; refine (has_Q HD9.out.k.kd.st HLfw.out.kn rfl HRp.out.C HCp.out (by have := HLfw.out.len; have := HM.out; omega) HLp.out).mono ?_; rintro e w18 ⟨rfl, hb⟩; rw [decide_eq_true HEq.out]; have HD10 := Aside0.mk (HD9.out.below hb); have HB10 := Aside0.mk (HB9.out.trans (hb.mono HB9.out.size)); have zd := pw_cell_below hb zp; have HR10 := Aside0.mk (HRp.out.below hb); obtain ⟨A7, c7, hc7, hb7, he7⟩ := HD10.out.k.ms.at_; have z1 : w18.cell? ⟨w4.heap.size, 1, none⟩ = some (.slice A7 (stepAll lx st).length c7) := (blk_cell hb7 1).trans rfl; have f1 := blk_frozen hb7 1; obtain ⟨hk11, hst11⟩ := HD10.out.listed HR10.out HCp.out; have hv11 : SV (UR S1f S2f w4.heap.size gs') _ (.slice Ap (SS2[p]'hp).length cp) (SS2[p]'hp) := ⟨Ap, cp, rfl, HCp.out, HR10.out.step hst11⟩; obtain ⟨hk12, hb12⟩ := hk11.lit2 hv11 (by rw [set_size]; exact HB10.out.size); rw [set_size] at hk12; have HD12 := Aside0.mk (hk12.same HEq.out); have HB12 := Aside0.mk (HB10.out.trans ((hst11.only.toBelow HD10.out.k.loU HB10.out.size).trans hb12)); clear hc7 he7 hk11 hst11 hv11 hk12 hb12; clear hb HD9 HB9))
                  go_roundw
                  case rel => exact ⟨j + 1, w16.heap.size, w18.heap.size, 0, 1, 1, _, _, d3, rsx, [], lw, z', [lw], hlt, rfl, rfl, vE hlt (by have := H60.out; omega), HD12, ⟨HDL.out, HZ.out.1, HZ.out.2, by show (1 : Nat) ≤ _; omega⟩, HB12⟩
                  case measure => exact mE hlt (by have := H60.out; omega)
                · have HNe := Aside0.mk hh
                  clear hh
                  go_wp2_with (first
                    | (go_at_call 17; refine (has_Q HD9.out.k.kd.st HLfw.out.kn rfl HRp.out.C HCp.out (by have := HLfw.out.len; have := HM.out; omega) HLp.out).mono ?_; rintro e w18 ⟨rfl, hb⟩; rw [decide_eq_false HNe.out]; have HD10 := Aside0.mk (HD9.out.below hb); have HB10 := Aside0.mk (HB9.out.trans (hb.mono HB9.out.size));  clear hb HD9 HB9))
                  have hix : ∃ (ix : Nat) (h : ix < SS2.length), ix ≤ p - 1 ∧ SS2[ix] = lw := by
                    obtain ⟨ix, h, h1, e⟩ := HIx.out
                    rcases Nat.lt_or_ge ix p with h2 | h2
                    · exact ⟨ix, h, by omega, e⟩
                    · exact absurd (show lw = SS2[p]'hp from by rw [← e]; congr 1; omega) HNe.out
                  have hp1 : 1 ≤ p := by
                    obtain ⟨ix, h, h1, e⟩ := HIx.out
                    rcases Nat.eq_zero_or_pos p with e0 | e0
                    · exact absurd (show lw = SS2[p]'hp from by rw [← e]; congr 1; omega) HNe.out
                    · exact e0
                  have hp2 : wrap64 ((p : Int) - 1) = ((p - 1 : Nat) : Int) := by rw [hw2]; omega
                  have HIx2 := Aside0.mk hix
                  clear hix
                  go_roundw
                  case rel => exact ⟨p - 1, by omega, by rw [hp2], HIx2, HD10, HB10⟩
                  case measure =>
                    rw [hp2]
                    show (((p - 1 : Nat)) : Int).toNat < ((p : Int)).toNat
                    omega
    · have kb : decide ((j : Int) < (n : Int)) = false := decide_eq_false (fun h => hlt (Int.ofNat_lt.1 h))
      have kbn : decide (j < n) = false := decide_eq_false hlt
      obtain ⟨A6, c6, q6, hq6, hc6, hC6, zc⟩ := HD.out.k.cell1
      have HQ := Aside0.mk hq6
      have HC := Aside0.mk hC6
      have HCc := Aside0.mk hc6
      have HLn := Aside0.mk (show l.length ≤ 1048576 from by have := HI.out.1.dc.lf.len; have := HM.out; omega)
      clear hq6 hc6 hC6
      go_wp2_with (first
        | (go_at_call 17; refine (has_Q HD.out.k.kd.st HI.out.1.dc.lf.kn HQ.out HC.out HCc.out HLn.out HLn.out).mono ?_; rintro e w14 ⟨rfl, hb⟩; rw [decide_eq_true rfl]; have HB6 := Aside0.mk (HB.out.trans (hb.mono HB.out.size)); clear hb))
      go_ret
      exact ⟨rfl, HB6.out⟩
theorem Loses_Q (hs : Script w A n c sc) : Calls Try.prog 7 #[.int .i64 m, .slice A n c] w fun e w' => e = .returned (.bool true) ∧ Below w.heap.size w w' := by
  obtain ⟨r, hr, hg⟩ := great_R w hs
  cases r with
  | true => exact kl_1 hg
  | false =>
    by_cases h0 : m < 1
    · exact kl_2 hg h0
    by_cases h1 : 100 < m
    · exact kl_3 hg (by omega) h1
    exact kl_main hs hg (hr rfl) (by omega) (by omega)
end
end Go.Proofs.Ytclkcipakncjkaa.Kv
