/- DiskLoses: the walk. -/
import Derived.Test.YtoedkemjidgbeaaDkLo
namespace Go.Proofs.Ytoedkemjidgbeaa.Dk
open Go Go.RowKit Go.Proofs.YtoedkemjidgbeaaW.PrintWords Go.Proofs.YtoedkemjidgbeaaW.PrintLast Go.Proofs.YtoedkemjidgbeaaW.PrintMore Go.Proofs.YtoedkemjidgbeaaMy Go.Proofs.Ytoedkemjidgbeaa Go.Proofs.YtoedkemjidgbeaaPw Go.Proofs.Ytoedkemjidgbeaa.PAll
attribute [local go_sem] max2_m min2_m max_two min_two
set_option linter.unusedVariables false
set_option linter.unusedSimpArgs false
section
variable {w : World} {A0 A1 : Option Addr} {c0 c1 m0 m1 : Nat} {n keep : Int}
set_option maxHeartbeats 8000000 in
set_option maxRecDepth 100000 in
theorem los_false {Ar : Nat → Option Addr} {T : Nat → List Int} {C : Nat → Nat} {B : Nat → Bool} (hT : Texts w A0 m0 Ar T C) (hB : Flags w A1 m1 B) (h0 : m0 ≤ 40) (h1 : m0 ≤ m1) (hn : n ≤ 9223372036854775807) : Calls Try.prog 4 #[.slice A0 m0 c0, .slice A1 m1 c1, .int .i64 n, .int .i64 keep, .bool false] w fun e w' => e = .returned (.bool true) ∧ Below w.heap.size w w' := by
  have c1b : decide ((40 : Int) < (m0 : Int)) = false := decide_eq_false (by omega)
  have c2b : decide (m1 < m0) = false := decide_eq_false (by omega)
  have HTx := Aside0.mk hT
  have HFl := Aside0.mk hB
  have HM := Aside0.mk h0
  have HM1 := Aside0.mk h1
  have HN := Aside0.mk hn
  clear hT hB h0 h1 hn
  go_enter Try.func4, Try.ntmps4
  go_wp2_with (first
    | (go_at_call 10; refine (alive_Q w).mono ?_; rintro e w1 ⟨rfl, hb⟩; have HA := Aside0.mk hb; clear hb)
    | (go_at_call 11; refine (New_S' w w1 HA.out 1048576).mono ?_; rintro e w2 ⟨g, S0, rfl, hs, hx1, hx2⟩; have H0 := Aside0.mk hs; clear hs HA hx1 hx2)
    | (go_at_call 14; refine (Arm_S H0.out (d' := BD (fileF false [] 0) false 0 (max n 0) keep false) rfl).mono ?_; rintro e w3 ⟨S1, rfl, hs, hx1⟩; have H1 := Aside0.mk hs; clear hs H0 hx1))
  go_loopw [12, 13, 40] (fun al sf i wr => ∃ (k : Nat) (has : Bool) (all : List Int) (safe : Nat) (acts fuse : Int) (S : Nat → Prop), k ≤ m0 ∧ i = .int .i64 (k : Int) ∧ al = .string (strOfNums all) ∧ sf = .int .i64 (safe : Int) ∧ Aside0 (St w S wr g (BD (fileF has all safe) false acts fuse keep false)) ∧ Aside0 (LI keep false k has all safe acts fuse)) (fun _ _ i _ => m0 - (intOf i).toNat)
  case atStart => exact ⟨0, false, [], 0, 0, max n 0, S1, Nat.zero_le _, rfl, rfl, rfl, H1, ⟨LI.start n HN.out⟩⟩
  case round =>
    obtain ⟨k, has, all, safe, acts, fuse, S, hk, rfl, rfl, rfl, HS, HI⟩ := hrel
    clear H1
    obtain ⟨la0, hla0⟩ : ∃ m, m = all.length := ⟨_, rfl⟩
    have hsz := str_size all
    rw [← hla0] at hsz
    have HLA0 := Aside0.mk hla0
    obtain ⟨str, hstr⟩ : ∃ s, s = strOfNums all := ⟨_, rfl⟩
    have HStr := Aside0.mk hstr
    rw [← hstr] at hsz ⊢
    clear hstr hla0
    have hk40 := Aside0.mk (Nat.le_trans hk HM.out)
    by_cases hlt : k < m0
    · have kb : decide ((k : Int) < (m0 : Int)) = true := decide_eq_true (Int.ofNat_lt.2 hlt)
      obtain ⟨ad, rfl, z1, hC, hby, hmax⟩ := HTx.out.at_ k hlt
      obtain ⟨bd, rfl, zB⟩ := HFl.out.at_ k (Nat.lt_of_lt_of_le hlt HM1.out)
      have hk1 : k < m1 := Nat.lt_of_lt_of_le hlt HM1.out
      have z1r := pw_cell_below HS.out.bel z1
      have HzB := Aside0.mk zB
      have HC := Aside0.mk hC
      have HBy := Aside0.mk hby
      have HMax := Aside0.mk hmax
      obtain ⟨xs, hxs⟩ : ∃ xs, xs = T k := ⟨_, rfl⟩
      rw [← hxs] at z1r HC HBy HMax
      obtain ⟨mx0, hmx0⟩ : ∃ m, m = xs.length := ⟨_, rfl⟩
      have HMX0 := Aside0.mk hmx0
      rw [← hmx0] at z1r
      obtain ⟨st2, hst2⟩ : ∃ s, s = strOfNums (all ++ xs) := ⟨_, rfl⟩
      have hcat : str ++ strOfNums xs = st2 := by rw [HStr.out, hst2, strOfNums_append]
      have HSt2 := Aside0.mk hst2
      clear z1 hC hby hmax zB hxs hmx0 hst2
      by_cases hbig : 8192 < la0 + mx0
      · have hb8 : decide ((8192 : Int) < (la0 : Int) + (mx0 : Int)) = true := decide_eq_true (big_lt hbig)
        have hw8 := add_w' (a := la0) (b := mx0) (by rw [HLA0.out]; exact HI.out.big) (by rw [HMX0.out]; exact HMax.out)
        go_wp2
        go_ret
        exact ⟨rfl, HS.out.bel⟩
      · have hb8 : decide ((8192 : Int) < (la0 : Int) + (mx0 : Int)) = false := decide_eq_false (fun h => hbig (big_of h))
        have hle8 : la0 + mx0 ≤ 8192 := Nat.le_of_not_lt hbig
        have hw8 := add_w (a := la0) (b := mx0) (Nat.le_trans (Nat.le_trans (Nat.le_add_right _ _) hle8) (by decide)) (Nat.le_trans (Nat.le_trans (Nat.le_add_left _ _) hle8) (by decide))
        have HLe := Aside0.mk (show all.length + xs.length ≤ 8192 from by rw [← HLA0.out, ← HMX0.out]; exact hle8)
        have hsx0 := str_size xs
        rw [← HMX0.out] at hsx0
        have hnb := no_big hle8
        clear hle8 hbig
        by_cases hf : fuse = 1
        · have HF := Aside0.mk hf
          clear hf
          go_wp2_with (first
            | (go_at_call 12; have hq := lc2 (c := C k) HI.out hk40.out HBy.out HLe.out HC.out HF.out HS.out; rw [← HMX0.out] at hq; refine hq.mono ?_; clear hq; rintro e w5 ⟨S5, rfl, hs⟩; have hcv := str_C (c := C k) (C_below HC.out hs.bel); rw [← HMX0.out] at hcv; have H5 := Aside0.mk hs; clear hs HS; refine Classical.byContradiction fun hstop => ?_))
          apply hstop
          clear hstop
          have HEE := Aside0.mk (le2 (w := w) HI.out hk40.out HBy.out HLe.out HF.out)
          clear HI HBy HLe HF hk40 HC HzB HMax HTx HFl
          have HE := HEE
          have HT := H5
          clear H5
          have HX := Aside0.mk HE.out.x
          obtain ⟨X, hX⟩ : ∃ X, X = loseB keep false ⟨fN, all ++ xs, safe⟩ := ⟨_, rfl⟩
          rw [← hX] at HX
          have HXe := Aside0.mk hX.symm
          clear hX
          obtain ⟨mx, hmx⟩ : ∃ m, m = X.length := ⟨_, rfl⟩
          rw [← hmx] at HX
          have HMX := Aside0.mk hmx
          obtain ⟨la, hla⟩ : ∃ m, m = (all ++ xs).length := ⟨_, rfl⟩
          rw [← hla] at HX
          have hsz2 : st2.size = la := by rw [HSt2.out, str_size, hla]
          clear hmx hla
          have b1 : decide (mx < safe) = false := decide_eq_false (Nat.not_lt.2 HX.out.lo)
          have b2 : decide (la < mx) = false := decide_eq_false (Nat.not_lt.2 HX.out.hi)
          have e3 := HX.out.take safe HX.out.lo (fun _ h => h)
          have HE3 := Aside0.mk e3
          clear e3
          obtain ⟨sx, hsx⟩ : ∃ s, s = strOfNums ((all ++ xs).take safe) := ⟨_, rfl⟩
          have e4 := HX.out.cutS HSt2.out safe (Nat.le_trans HX.out.lo HX.out.hi) hsx
          have HSX := Aside0.mk hsx
          clear hsx
          have HC4 := Aside0.mk (le_la HX.out)
          obtain ⟨sk, hsk⟩ : ∃ s, s = strOfNums ((all ++ xs).take mx) := ⟨_, rfl⟩
          have e7 := HX.out.cutS HSt2.out mx (Nat.le_trans (Nat.le_refl _) HX.out.hi) hsk
          have HSK := Aside0.mk hsk
          clear hsk
          go_wp2_with (first
            | (go_at_call 16; refine (lc5 HE.out HT.out).mono ?_; rintro e wa ⟨Sa, rfl, hs⟩; have HTa := Aside0.mk hs; clear hs HT)
            | (go_at_call 17; refine (lc6 HTa.out).mono ?_; rintro e wb ⟨Sb, rfl, hs⟩; have HTb := Aside0.mk hs; clear hs HTa)
            | (go_at_call 13; have hq := lc7 HE.out HXe.out HTb.out; rw [← HMX.out] at hq; refine hq.mono ?_; clear hq; rintro e wc ⟨Ac, cc, rfl, hC, hcc, hb⟩; have HZ := Aside0.mk hb; have e1 := HX.out.cut (A := Ac) hcc safe HX.out.lo; have e2 := str_C (c := cc) (HX.out.C hC safe HX.out.lo (below_drew1 (Below.refl _ _))); rw [HE3.out, ← HSX.out] at e2; have e5 := HX.out.cut (A := Ac) hcc mx (Nat.le_refl _); have e6 := str_C (c := cc) (HX.out.C hC mx (Nat.le_refl _) (below_drew1 (below_drew1 (Below.refl _ _)))); rw [HX.out.take mx (Nat.le_refl _) (fun h => (by cases h)), ← HSK.out] at e6; clear hb hC hcc HTb))
          go_region
          go_wp2
          go_region
          go_wp2
          go_ret
          exact ⟨by first | rfl | simp, below_drew1 (below_drew1 HZ.out)⟩
        · have HF := Aside0.mk hf
          clear hf
          cases hB : B k with
          | false =>
            rw [hB] at HzB
            clear hB
            go_wp2_with (first
              | (go_at_call 12; have hq := lc1 (c := C k) HI.out hk40.out HBy.out HLe.out HC.out HF.out HS.out; rw [← HMX0.out] at hq; refine hq.mono ?_; clear hq; rintro e w5 ⟨S5, rfl, hs⟩; have hcv := str_C (c := C k) (C_below HC.out hs.bel); rw [← HMX0.out] at hcv; have zb := pw_cell_below hs.bel HzB.out; have H5 := Aside0.mk hs; clear hs HS))
            go_roundw
            case rel => exact ⟨k + 1, true, all ++ xs, safe, acts + 1, less fuse, S5, hlt, step_val40 hlt HM.out, by rw [HSt2.out], rfl, H5, ⟨HI.out.next1 HBy.out HLe.out HF.out⟩⟩
            case measure => exact step_meas40 hlt HM.out
          | true =>
            rw [hB] at HzB
            clear hB
            by_cases hf2 : less fuse = 1
            · have HF2 := Aside0.mk hf2
              clear hf2
              go_wp2_with (first
                | (go_at_call 12; have hq := lc1 (c := C k) HI.out hk40.out HBy.out HLe.out HC.out HF.out HS.out; rw [← HMX0.out] at hq; refine hq.mono ?_; clear hq; rintro e w5 ⟨S5, rfl, hs⟩; have hcv := str_C (c := C k) (C_below HC.out hs.bel); rw [← HMX0.out] at hcv; have zb := pw_cell_below hs.bel HzB.out; have H5 := Aside0.mk hs; clear hs HS)
                | (go_at_call 15; refine (lc4 HI.out hk40.out HBy.out HLe.out HF.out HF2.out H5.out).mono ?_; rintro e w6 ⟨S6, rfl, hs⟩; have H6 := Aside0.mk hs; clear hs H5; refine Classical.byContradiction fun hstop => ?_))
              apply hstop
              clear hstop
              have HEE := Aside0.mk (le3 (w := w) HI.out hk40.out HBy.out HLe.out HF.out HF2.out)
              clear HI HBy HLe HF HF2 hk40 HC HzB HMax HTx HFl
              have HE := HEE
              have HT := H6
              clear H6
              have HX := Aside0.mk HE.out.x
              obtain ⟨X, hX⟩ : ∃ X, X = loseB keep false ⟨fN, all ++ xs, safe⟩ := ⟨_, rfl⟩
              rw [← hX] at HX
              have HXe := Aside0.mk hX.symm
              clear hX
              obtain ⟨mx, hmx⟩ : ∃ m, m = X.length := ⟨_, rfl⟩
              rw [← hmx] at HX
              have HMX := Aside0.mk hmx
              obtain ⟨la, hla⟩ : ∃ m, m = (all ++ xs).length := ⟨_, rfl⟩
              rw [← hla] at HX
              have hsz2 : st2.size = la := by rw [HSt2.out, str_size, hla]
              clear hmx hla
              have b1 : decide (mx < safe) = false := decide_eq_false (Nat.not_lt.2 HX.out.lo)
              have b2 : decide (la < mx) = false := decide_eq_false (Nat.not_lt.2 HX.out.hi)
              have e3 := HX.out.take safe HX.out.lo (fun _ h => h)
              have HE3 := Aside0.mk e3
              clear e3
              obtain ⟨sx, hsx⟩ : ∃ s, s = strOfNums ((all ++ xs).take safe) := ⟨_, rfl⟩
              have e4 := HX.out.cutS HSt2.out safe (Nat.le_trans HX.out.lo HX.out.hi) hsx
              have HSX := Aside0.mk hsx
              clear hsx
              have HC4 := Aside0.mk (le_la HX.out)
              obtain ⟨sk, hsk⟩ : ∃ s, s = strOfNums ((all ++ xs).take mx) := ⟨_, rfl⟩
              have e7 := HX.out.cutS HSt2.out mx (Nat.le_trans (Nat.le_refl _) HX.out.hi) hsk
              have HSK := Aside0.mk hsk
              clear hsk
              go_wp2_with (first
                | (go_at_call 16; refine (lc5 HE.out HT.out).mono ?_; rintro e wa ⟨Sa, rfl, hs⟩; have HTa := Aside0.mk hs; clear hs HT)
                | (go_at_call 17; refine (lc6 HTa.out).mono ?_; rintro e wb ⟨Sb, rfl, hs⟩; have HTb := Aside0.mk hs; clear hs HTa)
                | (go_at_call 13; have hq := lc7 HE.out HXe.out HTb.out; rw [← HMX.out] at hq; refine hq.mono ?_; clear hq; rintro e wc ⟨Ac, cc, rfl, hC, hcc, hb⟩; have HZ := Aside0.mk hb; have e1 := HX.out.cut (A := Ac) hcc safe HX.out.lo; have e2 := str_C (c := cc) (HX.out.C hC safe HX.out.lo (below_drew1 (Below.refl _ _))); rw [HE3.out, ← HSX.out] at e2; have e5 := HX.out.cut (A := Ac) hcc mx (Nat.le_refl _); have e6 := str_C (c := cc) (HX.out.C hC mx (Nat.le_refl _) (below_drew1 (below_drew1 (Below.refl _ _)))); rw [HX.out.take mx (Nat.le_refl _) (fun h => (by cases h)), ← HSK.out] at e6; clear hb hC hcc HTb))
              go_region
              go_wp2
              go_region
              go_wp2
              go_ret
              exact ⟨by first | rfl | simp, below_drew1 (below_drew1 HZ.out)⟩
            · have HF2 := Aside0.mk hf2
              clear hf2
              go_wp2_with (first
                | (go_at_call 12; have hq := lc1 (c := C k) HI.out hk40.out HBy.out HLe.out HC.out HF.out HS.out; rw [← HMX0.out] at hq; refine hq.mono ?_; clear hq; rintro e w5 ⟨S5, rfl, hs⟩; have hcv := str_C (c := C k) (C_below HC.out hs.bel); rw [← HMX0.out] at hcv; have zb := pw_cell_below hs.bel HzB.out; have H5 := Aside0.mk hs; clear hs HS)
                | (go_at_call 15; refine (lc3 HI.out hk40.out HBy.out HLe.out HF.out HF2.out H5.out).mono ?_; rintro e w6 ⟨S6, rfl, hs⟩; have H6 := Aside0.mk hs; clear hs H5))
              go_roundw
              case rel => exact ⟨k + 1, true, all ++ xs, (all ++ xs).length, acts + 1 + 1, less (less fuse), S6, hlt, step_val40 hlt HM.out, by rw [HSt2.out], by rw [len_st HSt2.out], H6, ⟨HI.out.next2 HBy.out HLe.out HF.out HF2.out⟩⟩
              case measure => exact step_meas40 hlt HM.out
    · have ek : k = m0 := Nat.le_antisymm hk (Nat.le_of_not_lt hlt)
      subst ek
      have HEE := Aside0.mk (le1 (w := w) HI.out hk40.out)
      clear HI hk40 HTx HFl hsz HLA0
      cases has with
      | false =>
        have HE := HEE
        have HT := HS
        clear HS
        have hal := HE.out.no rfl
        have hst0 : str = ⟨#[]⟩ := by rw [HStr.out, hal]; rfl
        subst hst0
        go_wp2_with (first
          | (go_at_call 16; refine (lc5 HE.out HT.out).mono ?_; rintro e wa ⟨Sa, rfl, hs⟩; have HTa := Aside0.mk hs; clear hs HT)
          | (go_at_call 17; refine (lc6 HTa.out).mono ?_; rintro e wb ⟨Sb, rfl, hs⟩; have HTb := Aside0.mk hs; clear hs HTa)
          | (go_at_call 13; refine (lc8 HE.out HTb.out).mono ?_; rintro e wc ⟨Ac, mc, cc, rfl, hb⟩; have HZ := Aside0.mk hb; clear hb HTb))
        go_ret
        exact ⟨by first | rfl | simp, HZ.out⟩
      | true =>
        have HE := HEE
        have HT := HS
        clear HS
        have HX := Aside0.mk HE.out.x
        obtain ⟨X, hX⟩ : ∃ X, X = loseB keep false ⟨fN, all, safe⟩ := ⟨_, rfl⟩
        rw [← hX] at HX
        have HXe := Aside0.mk hX.symm
        clear hX
        obtain ⟨mx, hmx⟩ : ∃ m, m = X.length := ⟨_, rfl⟩
        rw [← hmx] at HX
        have HMX := Aside0.mk hmx
        obtain ⟨la, hla⟩ : ∃ m, m = (all).length := ⟨_, rfl⟩
        rw [← hla] at HX
        have hsz2 : str.size = la := by rw [HStr.out, str_size, hla]
        clear hmx hla
        have b1 : decide (mx < safe) = false := decide_eq_false (Nat.not_lt.2 HX.out.lo)
        have b2 : decide (la < mx) = false := decide_eq_false (Nat.not_lt.2 HX.out.hi)
        have e3 := HX.out.take safe HX.out.lo (fun _ h => h)
        have HE3 := Aside0.mk e3
        clear e3
        obtain ⟨sx, hsx⟩ : ∃ s, s = strOfNums ((all).take safe) := ⟨_, rfl⟩
        have e4 := HX.out.cutS HStr.out safe (Nat.le_trans HX.out.lo HX.out.hi) hsx
        have HSX := Aside0.mk hsx
        clear hsx
        have HC4 := Aside0.mk (le_la HX.out)
        obtain ⟨sk, hsk⟩ : ∃ s, s = strOfNums ((all).take mx) := ⟨_, rfl⟩
        have e7 := HX.out.cutS HStr.out mx (Nat.le_trans (Nat.le_refl _) HX.out.hi) hsk
        have HSK := Aside0.mk hsk
        clear hsk
        go_wp2_with (first
          | (go_at_call 16; refine (lc5 HE.out HT.out).mono ?_; rintro e wa ⟨Sa, rfl, hs⟩; have HTa := Aside0.mk hs; clear hs HT)
          | (go_at_call 17; refine (lc6 HTa.out).mono ?_; rintro e wb ⟨Sb, rfl, hs⟩; have HTb := Aside0.mk hs; clear hs HTa)
          | (go_at_call 13; have hq := lc7 HE.out HXe.out HTb.out; rw [← HMX.out] at hq; refine hq.mono ?_; clear hq; rintro e wc ⟨Ac, cc, rfl, hC, hcc, hb⟩; have HZ := Aside0.mk hb; have e1 := HX.out.cut (A := Ac) hcc safe HX.out.lo; have e2 := str_C (c := cc) (HX.out.C hC safe HX.out.lo (below_drew1 (Below.refl _ _))); rw [HE3.out, ← HSX.out] at e2; have e5 := HX.out.cut (A := Ac) hcc mx (Nat.le_refl _); have e6 := str_C (c := cc) (HX.out.C hC mx (Nat.le_refl _) (below_drew1 (below_drew1 (Below.refl _ _)))); rw [HX.out.take mx (Nat.le_refl _) (fun h => (by cases h)), ← HSK.out] at e6; clear hb hC hcc HTb))
        go_region
        go_wp2
        go_region
        go_wp2
        go_ret
        exact ⟨by first | rfl | simp, below_drew1 (below_drew1 HZ.out)⟩
end
end Go.Proofs.Ytoedkemjidgbeaa.Dk
