-- Written by a program of this session (a changed scratch copy of a tool of the kit); not a print of the kit's own.
import Derived.Test.YtdcbmpjofacbhaaPAllx0
import Derived.Test.YtdcbmpjofacbhaaPAllx4
namespace Go.Proofs.Ytdcbmpjofacbhaa.PAll
open Go.RowKit Go.Proofs.YtdcbmpjofacbhaaW.PrintWords Go.Proofs.YtdcbmpjofacbhaaW.PrintLast Go.Proofs.YtdcbmpjofacbhaaW.PrintMore Go.Proofs.YtdcbmpjofacbhaaMy
attribute [local go_sem] max2_int min2_int max_two min_two max_three min_three max_four min_four   -- for this text's walks alone
set_option linter.unusedVariables false
set_option linter.unusedSimpArgs false

/-! ### glob_match: function 11 -/
mutual
def glob_match.l0 : Nat → ByteArray → List Bool → List (S38) → Int → Int → Option (Bool)
  | 0, _, _, _, _, _ => none
  | k + 1, x1, x5, x18, x19, x20 => if x20 < x19 then (if 0 ≤ x20 then (if x20 < (x18.length : Int) then (if 0 ≤ (wrap64 ((x1.size : Int) + 1)) then (if (wrap64 ((x1.size : Int) + 1) : Int).toNat ≤ 281474976710656 then (glob_match.l1 k x1 (List.replicate (wrap64 ((x1.size : Int) + 1) : Int).toNat false) x18 x19 x20 x5 (x5.length : Int) 0 ((rd_T38 x18 x20).f0) ((rd_T38 x18 x20).f1) ((rd_T38 x18 x20).f2)) else (none)) else (none)) else (none)) else (none)) else (if 0 ≤ (x1.size : Int) then (if (x1.size : Int) < (x5.length : Int) then (some (rdOf false x5 (x1.size : Int))) else (none)) else (none))
def glob_match.l1 : Nat → ByteArray → List Bool → List (S38) → Int → Int → List Bool → Int → Int → Bool → Bool → List (S43) → Option (Bool)
  | 0, _, _, _, _, _, _, _, _, _, _, _ => none
  | k + 1, x1, x8, x18, x19, x20, x28, x29, x30, x152000, x152001, x152002 => if x30 < x29 then (if 0 ≤ x30 then (if x30 < (x28.length : Int) then (if rdOf false x28 x30 = true then (if x152000 = true then (if x30 < (x8.length : Int) then (glob_match.l2 k x1 (x8.set (x30 : Int).toNat true) x30 x18 x19 x20 x28 x29 x30 x152000 x152001 x152002) else (none)) else (if x30 < (x1.size : Int) then ((glob_part_holds.f k x152000 x152001 x152002 (bt x1 x30)).bind fun t159 => (if t159 = true then (if 0 ≤ (wrap64 (x30 + 1)) then (if (wrap64 (x30 + 1)) < (x8.length : Int) then (glob_match.l1 k x1 (x8.set ((wrap64 (x30 + 1)) : Int).toNat true) x18 x19 x20 x28 x29 (wrap64 (x30 + 1)) x152000 x152001 x152002) else (none)) else (none)) else (glob_match.l1 k x1 x8 x18 x19 x20 x28 x29 (wrap64 (x30 + 1)) x152000 x152001 x152002))) else (glob_match.l1 k x1 x8 x18 x19 x20 x28 x29 (wrap64 (x30 + 1)) x152000 x152001 x152002))) else (glob_match.l1 k x1 x8 x18 x19 x20 x28 x29 (wrap64 (x30 + 1)) x152000 x152001 x152002)) else (none)) else (none)) else (glob_match.l0 k x1 x8 x18 x19 (wrap64 (x20 + 1)))
def glob_match.l2 : Nat → ByteArray → List Bool → Int → List (S38) → Int → Int → List Bool → Int → Int → Bool → Bool → List (S43) → Option (Bool)
  | 0, _, _, _, _, _, _, _, _, _, _, _, _ => none
  | k + 1, x1, x8, x11, x18, x19, x20, x28, x29, x30, x152000, x152001, x152002 => if x11 < (x1.size : Int) then (if 0 ≤ x11 then (if (bt x1 x11) = 47 then (glob_match.l1 k x1 x8 x18 x19 x20 x28 x29 (wrap64 (x30 + 1)) x152000 x152001 x152002) else (if 0 ≤ (wrap64 (x11 + 1)) then (if (wrap64 (x11 + 1)) < (x8.length : Int) then (if (rdOf false x8 (wrap64 (x11 + 1)) = true) then (glob_match.l1 k x1 x8 x18 x19 x20 x28 x29 (wrap64 (x30 + 1)) x152000 x152001 x152002) else (glob_match.l2 k x1 (x8.set ((wrap64 (x11 + 1)) : Int).toNat true) (wrap64 (x11 + 1)) x18 x19 x20 x28 x29 x30 x152000 x152001 x152002)) else (none)) else (none))) else (none)) else (glob_match.l1 k x1 x8 x18 x19 x20 x28 x29 (wrap64 (x30 + 1)) x152000 x152001 x152002)
end
def glob_match.f (k : Nat) (l0 : List (S38)) (a1 : ByteArray) : Option (Bool) := if 0 ≤ (wrap64 ((a1.size : Int) + 1)) then (if (wrap64 ((a1.size : Int) + 1) : Int).toNat ≤ 281474976710656 then ((some (List.replicate (wrap64 ((a1.size : Int) + 1) : Int).toNat false : List Bool)).bind fun y145 => (if 0 < (y145.length : Int) then (glob_match.l0 k a1 (y145.set (0 : Int).toNat true) l0 (l0.length : Int) 0) else (none))) else (none)) else (none)
theorem glob_match.mono_l : ∀ k, (∀ y0 y1 y2 y3 y4, LeO (glob_match.l0 k y0 y1 y2 y3 y4) (glob_match.l0 (k + 1) y0 y1 y2 y3 y4)) ∧ (∀ y0 y1 y2 y3 y4 y5 y6 y7 y8 y9 y10, LeO (glob_match.l1 k y0 y1 y2 y3 y4 y5 y6 y7 y8 y9 y10) (glob_match.l1 (k + 1) y0 y1 y2 y3 y4 y5 y6 y7 y8 y9 y10)) ∧ (∀ y0 y1 y2 y3 y4 y5 y6 y7 y8 y9 y10 y11, LeO (glob_match.l2 k y0 y1 y2 y3 y4 y5 y6 y7 y8 y9 y10 y11) (glob_match.l2 (k + 1) y0 y1 y2 y3 y4 y5 y6 y7 y8 y9 y10 y11))
  | 0 => ⟨fun _ _ _ _ _ r h => by simp [glob_match.l0] at h, fun _ _ _ _ _ _ _ _ _ _ _ r h => by simp [glob_match.l1] at h, fun _ _ _ _ _ _ _ _ _ _ _ _ r h => by simp [glob_match.l2] at h⟩
  | k + 1 => by
    obtain ⟨ih0, ih1, ih2⟩ := glob_match.mono_l k
    refine ⟨?_, ?_, ?_⟩
    · intro y0 y1 y2 y3 y4
      unfold glob_match.l0
      repeat' first
      | (with_reducible exact ih0 _ _ _ _ _)
      | (with_reducible exact ih1 _ _ _ _ _ _ _ _ _ _ _)
      | (with_reducible exact ih2 _ _ _ _ _ _ _ _ _ _ _ _)
      | (with_reducible exact glob_part_holds.mono _ _ _ _ _)
      | (with_reducible exact LeO.refl _)
      | (with_reducible exact LeO.none _)
      | (with_reducible refine LeO.ite ?_ ?_)
      | (with_reducible refine LeO.bind ?_ (fun _ => ?_))
      | exact ih0 _ _ _ _ _
      | exact ih1 _ _ _ _ _ _ _ _ _ _ _
      | exact ih2 _ _ _ _ _ _ _ _ _ _ _ _
      | exact glob_part_holds.mono _ _ _ _ _
      | exact LeO.none _
      | refine LeO.ite ?_ ?_
      | refine LeO.bind ?_ (fun _ => ?_)
    · intro y0 y1 y2 y3 y4 y5 y6 y7 y8 y9 y10
      unfold glob_match.l1
      repeat' first
      | (with_reducible exact ih0 _ _ _ _ _)
      | (with_reducible exact ih1 _ _ _ _ _ _ _ _ _ _ _)
      | (with_reducible exact ih2 _ _ _ _ _ _ _ _ _ _ _ _)
      | (with_reducible exact glob_part_holds.mono _ _ _ _ _)
      | (with_reducible exact LeO.refl _)
      | (with_reducible exact LeO.none _)
      | (with_reducible refine LeO.ite ?_ ?_)
      | (with_reducible refine LeO.bind ?_ (fun _ => ?_))
      | exact ih0 _ _ _ _ _
      | exact ih1 _ _ _ _ _ _ _ _ _ _ _
      | exact ih2 _ _ _ _ _ _ _ _ _ _ _ _
      | exact glob_part_holds.mono _ _ _ _ _
      | exact LeO.none _
      | refine LeO.ite ?_ ?_
      | refine LeO.bind ?_ (fun _ => ?_)
    · intro y0 y1 y2 y3 y4 y5 y6 y7 y8 y9 y10 y11
      unfold glob_match.l2
      repeat' first
      | (with_reducible exact ih0 _ _ _ _ _)
      | (with_reducible exact ih1 _ _ _ _ _ _ _ _ _ _ _)
      | (with_reducible exact ih2 _ _ _ _ _ _ _ _ _ _ _ _)
      | (with_reducible exact glob_part_holds.mono _ _ _ _ _)
      | (with_reducible exact LeO.refl _)
      | (with_reducible exact LeO.none _)
      | (with_reducible refine LeO.ite ?_ ?_)
      | (with_reducible refine LeO.bind ?_ (fun _ => ?_))
      | exact ih0 _ _ _ _ _
      | exact ih1 _ _ _ _ _ _ _ _ _ _ _
      | exact ih2 _ _ _ _ _ _ _ _ _ _ _ _
      | exact glob_part_holds.mono _ _ _ _ _
      | exact LeO.none _
      | refine LeO.ite ?_ ?_
      | refine LeO.bind ?_ (fun _ => ?_)
theorem glob_match.mono : ∀ a0 a1 k, LeO (glob_match.f k a0 a1) (glob_match.f (k + 1) a0 a1) := by
  intro a0 a1 k
  obtain ⟨ih0, ih1, ih2⟩ := glob_match.mono_l k
  unfold glob_match.f
  repeat' first
      | (with_reducible exact ih0 _ _ _ _ _)
      | (with_reducible exact ih1 _ _ _ _ _ _ _ _ _ _ _)
      | (with_reducible exact ih2 _ _ _ _ _ _ _ _ _ _ _ _)
      | (with_reducible exact glob_part_holds.mono _ _ _ _ _)
      | (with_reducible exact LeO.refl _)
      | (with_reducible exact LeO.none _)
      | (with_reducible refine LeO.ite ?_ ?_)
      | (with_reducible refine LeO.bind ?_ (fun _ => ?_))
      | exact ih0 _ _ _ _ _
      | exact ih1 _ _ _ _ _ _ _ _ _ _ _
      | exact ih2 _ _ _ _ _ _ _ _ _ _ _ _
      | exact glob_part_holds.mono _ _ _ _ _
      | exact LeO.none _
      | refine LeO.ite ?_ ?_
      | refine LeO.bind ?_ (fun _ => ?_)
def glob_match.T17 : Bool × List (List Nat × List Nat) := (true, [([], []), ([], []), ([1], [1]), ([0, 2], [0, 2]), ([3], [3]), ([4], [4]), ([4], [4]), ([4], [4]), ([6, 7, 4], [4, 6, 7]), ([5, 8, 4, 4], [4, 5, 8]), ([4, 9], [4, 9])])
def glob_match.B17 : List Nat := [0, 0, 2, 7, 15, 31, 31, 31, 223, 511, 1023]
theorem glob_match.tab17 : rtab .any (opsOf Try.f11 17) = glob_match.T17 := by kernel_rfl
theorem glob_match.bits17 : waitsOk glob_match.T17.2 glob_match.B17 = true := by kernel_rfl
set_option maxHeartbeats 8000000 in
set_option maxRecDepth 100000 in
theorem glob_match.calls (k : Nat) (A0 : Option Addr) (c0 : Nat) (l0 : List (S38)) (a1 : ByteArray) (r : Bool) (w : World) (hr0 : Kd.C k38 w A0 l0.length l0) (hc0 : l0.length ≤ c0) (h : glob_match.f k l0 a1 = some r) :
    Calls Try.prog 11 #[.slice A0 l0.length c0, .string a1] w fun e w' => e = .returned (.bool r) ∧ Below w.heap.size w w' := by
  have hu38 := Try.underlying38
  have HR0 := Aside0.mk hr0
  have HC0 := Aside0.mk hc0
  clear hr0 hc0
  have HB := Aside0.mk (Below.refl w.heap.size w)
  have H : (if 0 ≤ (wrap64 ((a1.size : Int) + 1)) then (if (wrap64 ((a1.size : Int) + 1) : Int).toNat ≤ 281474976710656 then ((some (List.replicate (wrap64 ((a1.size : Int) + 1) : Int).toNat false : List Bool)).bind fun y145 => (if 0 < (y145.length : Int) then (glob_match.l0 k a1 (y145.set (0 : Int).toNat true) l0 (l0.length : Int) 0) else (none))) else (none)) else (none)) = some r := h
  clear h
  obtain ⟨ji3, hji3⟩ : ∃ j_ : Int, (wrap64 ((a1.size : Int) + 1)) = j_ := ⟨_, rfl⟩
  replace H : (if 0 ≤ (ji3) then (if (ji3 : Int).toNat ≤ 281474976710656 then ((some (List.replicate (ji3 : Int).toNat false : List Bool)).bind fun y145 => (if 0 < (y145.length : Int) then (glob_match.l0 k a1 (y145.set (0 : Int).toNat true) l0 (l0.length : Int) 0) else (none))) else (none)) else (none)) = some r := by first | (rw [hji3] at H; exact H) | (simp only [hji3] at H ⊢; exact H)
  have hji3w : (IntKind.i64.wrap ((a1.size : Int) + 1)) = ji3 := (i64_w _).trans hji3
  by_cases c4 : 0 ≤ (ji3)
  · rw [if_pos c4] at H
    have c4b0 := eq_true c4
    have c4b1 : decide (0 ≤ (ji3)) = true := decide_eq_true c4
    clear c4
    by_cases c5 : (ji3 : Int).toNat ≤ 281474976710656
    · rw [if_pos c5] at H
      have c5b0 := eq_true c5
      have c5b1 : decide ((ji3 : Int).toNat ≤ 281474976710656) = true := decide_eq_true c5
      clear c5
      obtain ⟨y145, hy145⟩ : ∃ y_ : List Bool, y_ = (List.replicate (ji3 : Int).toNat false) := ⟨_, rfl⟩
      replace H : (if 0 < (y145.length : Int) then (glob_match.l0 k a1 (y145.set (0 : Int).toNat true) l0 (l0.length : Int) 0) else (none)) = some r := by first | (rw [hy145]; with_reducible exact H) | (have H2_ := (Option.bind_some _ _).symm.trans H; rw [hy145]; with_reducible exact H2_) | (have H2_ := (Option.bind_some _ _).symm.trans H; with_reducible exact H2_) | with_reducible exact H | (rw [hy145]; exact H) | exact H
      have Ny145 := Aside0.mk hy145
      clear hy145
      by_cases c6 : 0 < (y145.length : Int)
      · rw [if_pos c6] at H
        have c6b0 : decide (0 < (y145.length : Int)) = true := decide_eq_true c6
        have c6b1 : decide (0 < y145.length) = true := decide_eq_true (by omega)
        clear c6
        obtain ⟨y148, hy148⟩ : ∃ y_ : List Bool, y_ = (y145.set (0 : Int).toNat true) := ⟨_, rfl⟩
        replace H : (glob_match.l0 k a1 y148 l0 (l0.length : Int) 0) = some r := by first | (rw [hy148]; with_reducible exact H) | (have H2_ := (Option.bind_some _ _).symm.trans H; rw [hy148]; with_reducible exact H2_) | (have H2_ := (Option.bind_some _ _).symm.trans H; with_reducible exact H2_) | with_reducible exact H | (rw [hy148]; exact H) | exact H
        have Ny148 := Aside0.mk hy148
        clear hy148
        have H' := Aside0.mk H
        clear H
        go_enter Try.func11, Try.ntmps11
        go_wp2_with (first | ((with_reducible refine gate_dst (N := 15) rfl ?_); refine Kd.R_make Kd.bool _ 4 rfl (N := 15) rfl 44 _ _ rfl ji3 rfl rfl Try.underlying44 (.bool false) 1 info4 rfl (by decide) (by omega) false (ok := fun _ => True) (okp := fun _ => True) rfl (fun _ hk => hk) trivial (of_decide_eq_true (by first | (with_reducible assumption) | assumption)) (Nat.le_trans (Nat.mul_le_mul_right _ (of_decide_eq_true (by first | (with_reducible assumption) | assumption) : ji3.toNat ≤ 281474976710656)) (by omega)) (Below.refl _ _) (Nat.le_refl _) ?_; intro v146 w8 ho9 hb hg_ hnew_; clear hg_ hnew_; (first | rw [← Ny145.out] at ho9 | (simp only [Int.reduceToNat] at ho9; rw [← Ny145.out] at ho9)); have n0_ := Aside0.mk (Kd.R_lower ho9 (below_size (by repeat (first | (with_reducible first | exact HB.out | apply below_alloc | apply pw_below_drewN | apply below_drew1) | exact HB.out)))); have n1_ := Aside0.mk (below_step (by repeat (first | (with_reducible first | exact HB.out | apply below_alloc | apply pw_below_drewN | apply below_drew1) | exact HB.out)) hb); clear HB; have HO147 := n0_; have HB := n1_; clear n0_ n1_; clear hb ho9; have p7 : 0 ≤ (0 : Int) := (by omega); have q7 : (0 : Int) < ((y145.length : Int) : Int) := of_decide_eq_true (by first | (with_reducible assumption) | assumption); have qi7 : (0 < y145.length) = True := eq_true (by omega); obtain ⟨go7, co7, eo7, gb7, gl7, cl7, HG7⟩ := Kd.R_form HO147.out (by omega); (first | cases eo7 | (injection eo7 with ea_ en_ ec_; (first | subst ea_ | (injection ea_ with ea_; subst ea_)); subst ec_; clear en_)); have GB7 := Aside0.mk gb7; have GG7 := Aside0.mk HG7; clear gb7 gl7 HG7; obtain ⟨hx7_0, hf7_0⟩ := Kd.R_celln false HO147.out (0 : Int) p7 q7; (try rw [show ((0 : Int)).toNat = 0 from rfl] at hx7_0); (try simp only [Nat.reduceMul, Nat.zero_mul, Nat.zero_add, Nat.reduceAdd] at hx7_0); (try rw [show ((0 : Int)).toNat = 0 from rfl] at hf7_0); (try simp only [Nat.reduceMul, Nat.zero_mul, Nat.zero_add, Nat.reduceAdd] at hf7_0); replace p7 := eq_true p7; replace q7 := eq_true q7; obtain ⟨hy10_, hz10_⟩ := Kd.R_celln false HO147.out (0 : Int) (by omega) (of_decide_eq_true (by first | (with_reducible assumption) | assumption)); (try simp only [Int.reduceToNat, Int.toNat_zero, Int.toNat_ofNat, Nat.reduceMul, Nat.zero_mul, Nat.zero_add] at hy10_ hz10_); (try rw [show ((0 : Int)).toNat = 0 from rfl] at hy10_); (try rw [show ((0 : Int)).toNat = 0 from rfl] at hz10_); have HP10 := Kd.R_putg HO147.out (0 : Int) true) | ((with_reducible refine gate_store (t := 4) (p := 17) rfl ?_); refine store_event (t := 4) (p := 17) (v := ?vo_w11) (w1 := (w8.setCell ⟨go7, (0 : Int).toNat, none⟩ (.bool true))) ?hg ?ho ?hn ?hr ?_; (case ho => rfl); (case hg => rfl); (case hn => rfl); (case hr => first | (go_simp; done) | (go_simp; rfl)); intro w11 hw; have hg : w8.grownBy w11 (some go7) := (by rw [hw]; exact HP10.2); have hp_ : Kd.R Kd.bool 4 w11 w.heap.size (fun _ => True) (.slice (some ⟨go7, 0, none⟩) y145.length co7) y148 := (by rw [hw, Ny148.out]; exact HP10.1); clear HP10; have n0_ := Aside0.mk (hp_); have n1_ := Aside0.mk ((by rw [hw]; exact below_set (HB.out) GB7.out : Below w.heap.size w w11)); clear HO147; clear HB; have HO147 := n0_; have HB := n1_; clear n0_ n1_; clear hg hw hp_))
        go_loopg [5, 20] k (fun kq v5 v20 w' => ∃ (x5_1 : List Bool) (x20_1 : Int), v20 = .int .i64 x20_1 ∧ Aside0 (glob_match.l0 kq a1 x5_1 l0 (l0.length : Int) x20_1 = some r) ∧ Aside0 (kq ≤ k) ∧ Aside0 (Kd.R Kd.bool 4 w' w.heap.size (fun _ => True) v5 x5_1) ∧ Aside0 (Below w.heap.size w w'))
        case atStart => exact ⟨(y148), (0), (by first | rfl | (simp; done) | (simp [*]; done)), H', ⟨Nat.le_refl _⟩, ⟨by (with_reducible repeat (first | apply Kd.R_alloc | apply Kd.R_drewN | apply Kd.R_drew)); exact HO147.out⟩, ⟨by repeat (first | (with_reducible first | exact HB.out | apply below_alloc | apply pw_below_drewN | apply below_drew1) | exact HB.out)⟩⟩
        case round =>
          clear H'
          try clear c1
          try clear p2
          try clear c4
          try clear c4b0
          try clear c4b1
          try clear c5
          try clear c5b0
          try clear c5b1
          try clear c6
          try clear c6b0
          try clear c6b1
          try clear p6
          try clear p7
          try clear q7
          try clear hx7
          try clear qi7
          try clear hf7
          try clear c11
          try clear hx7_0
          try clear p7
          try clear q7
          obtain ⟨x5_1, x20_1, rfl, HA, HK1, HO_5, HB⟩ := hrel
          cases gk with
          | zero => exact absurd HA.out (by simp [glob_match.l0])
          | succ k1 =>
            have H := HA.out
            clear HA
            simp only [glob_match.l0] at H
            by_cases c12 : x20_1 < (l0.length : Int)
            · rw [if_pos c12] at H
              have c12b0 : decide (x20_1 < (l0.length : Int)) = true := decide_eq_true c12
              clear c12
              by_cases c13 : 0 ≤ x20_1
              · rw [if_pos c13] at H
                have c13b0 : decide (0 ≤ x20_1) = true := decide_eq_true c13
                clear c13
                by_cases c14 : x20_1 < (l0.length : Int)
                · rw [if_pos c14] at H
                  have c14b0 : decide (x20_1 < (l0.length : Int)) = true := decide_eq_true c14
                  clear c14
                  obtain ⟨ji15, hji15⟩ : ∃ j_ : Int, (wrap64 ((a1.size : Int) + 1)) = j_ := ⟨_, rfl⟩
                  replace H : (if 0 ≤ (ji15) then (if (ji15 : Int).toNat ≤ 281474976710656 then (glob_match.l1 k1 a1 (List.replicate (ji15 : Int).toNat false) l0 (l0.length : Int) x20_1 x5_1 (x5_1.length : Int) 0 ((rd_T38 l0 x20_1).f0) ((rd_T38 l0 x20_1).f1) ((rd_T38 l0 x20_1).f2)) else (none)) else (none)) = some r := by first | (rw [hji15] at H; exact H) | (simp only [hji15] at H ⊢; exact H)
                  have hji15w : (IntKind.i64.wrap ((a1.size : Int) + 1)) = ji15 := (i64_w _).trans hji15
                  clear hji3w hji3
                  by_cases c16 : 0 ≤ (ji15)
                  · rw [if_pos c16] at H
                    have c16b0 := eq_true c16
                    have c16b1 : decide (0 ≤ (ji15)) = true := decide_eq_true c16
                    clear c16
                    by_cases c17 : (ji15 : Int).toNat ≤ 281474976710656
                    · rw [if_pos c17] at H
                      have c17b0 := eq_true c17
                      have c17b1 : decide ((ji15 : Int).toNat ≤ 281474976710656) = true := decide_eq_true c17
                      clear c17
                      obtain ⟨y152, hy152⟩ : ∃ y_ : List Bool, y_ = (List.replicate (ji15 : Int).toNat false) := ⟨_, rfl⟩
                      replace H : (glob_match.l1 k1 a1 y152 l0 (l0.length : Int) x20_1 x5_1 (x5_1.length : Int) 0 ((rd_T38 l0 x20_1).f0) ((rd_T38 l0 x20_1).f1) ((rd_T38 l0 x20_1).f2)) = some r := by first | (rw [hy152]; with_reducible exact H) | (have H2_ := (Option.bind_some _ _).symm.trans H; rw [hy152]; with_reducible exact H2_) | (have H2_ := (Option.bind_some _ _).symm.trans H; with_reducible exact H2_) | with_reducible exact H | (rw [hy152]; exact H) | exact H
                      have Ny152 := Aside0.mk hy152
                      clear hy152
                      have H' := Aside0.mk H
                      clear H
                      have p150 : 0 ≤ (x20_1 : Int) := of_decide_eq_true (by first | (with_reducible assumption) | assumption)
                      have q150 : x20_1 < (l0.length : Int) := of_decide_eq_true (by first | (with_reducible assumption) | assumption)
                      obtain ⟨ad150, A150_2, c150_2, e150, hx150_0, hx150_1, hx150_2, hl150_2, hi150_2⟩ := at_T38 HR0.out x20_1 p150 q150
                      cases e150
                      replace hx150_0 := (HB.out.cell (World.block_lt_of_cell? w _ hx150_0)).trans hx150_0
                      replace hx150_1 := (HB.out.cell (World.block_lt_of_cell? w _ hx150_1)).trans hx150_1
                      replace hx150_2 := (HB.out.cell (World.block_lt_of_cell? w _ hx150_2)).trans hx150_2
                      have HR150_2 := Aside0.mk hi150_2
                      have HC150_2 := Aside0.mk hl150_2
                      clear hi150_2 hl150_2
                      replace p150 := eq_true p150
                      replace q150 := eq_true q150
                      go_wp2_with (first | ((with_reducible refine gate_dst (N := 7) rfl ?_); refine box_event ?hg (N := 7) ?hd (cs := #[.bool false, .bool false, .slice none 0 0]) (t := 38) ?hr ?_; (case hd => rfl); (case hg => rfl); (case hr => first | (go_simp; done) | (go_simp; rfl)); intro gb151 hg w18 hbox hb; have n0_ := Aside0.mk (Kd.R_below (by (with_reducible repeat (first | apply Kd.R_alloc | apply Kd.R_drewN | apply Kd.R_drew)); exact HO_5.out) hb); have n1_ := Aside0.mk (below_step (by repeat (first | (with_reducible first | exact HB.out | apply below_alloc | apply pw_below_drewN | apply below_drew1) | exact HB.out)) hb); have n2_ := Aside0.mk (hbox); have n3_ := Aside0.mk ((by rw [hg]; exact (below_size (by repeat (first | (with_reducible first | exact HB.out | apply below_alloc | apply pw_below_drewN | apply below_drew1) | exact HB.out))) : w.heap.size ≤ gb151)); have n4_ := Aside0.mk ((by rw [hg]; exact (below_size (by repeat (first | (with_reducible first | exact HB.out | apply below_alloc | apply pw_below_drewN | apply below_drew1) | exact HB.out))) : w.heap.size ≤ gb151)); clear HO_5; clear HB; have HO_5 := n0_; have HB := n1_; have BK151 := n2_; have GW151 := n3_; have GE151 := n4_; clear n0_ n1_ n2_ n3_ n4_; clear hb hbox hg; have hcz19_0 : w18.cell? ⟨gb151, 0, none⟩ = some (.bool false) := (blk_cell BK151.out 0).trans rfl; have hcz19_1 : w18.cell? ⟨gb151, 1, none⟩ = some (.bool false) := (blk_cell BK151.out 1).trans rfl; have hcz19_2 : w18.cell? ⟨gb151, 2, none⟩ = some (.slice none 0 0) := (blk_cell BK151.out 2).trans rfl; have hfz19_0 := blk_frozen BK151.out 0; have hfz19_1 := blk_frozen BK151.out 1; have hfz19_2 := blk_frozen BK151.out 2) | ((with_reducible refine gate_dst (N := 27) rfl ?_); refine Kd.R_make Kd.bool _ 4 rfl (N := 27) rfl 44 _ _ rfl ji15 rfl rfl Try.underlying44 (.bool false) 1 info4 rfl (by decide) (by omega) false (ok := fun _ => True) (okp := fun _ => True) rfl (fun _ hk => hk) trivial (of_decide_eq_true (by first | (with_reducible assumption) | assumption)) (Nat.le_trans (Nat.mul_le_mul_right _ (of_decide_eq_true (by first | (with_reducible assumption) | assumption) : ji15.toNat ≤ 281474976710656)) (by omega)) (Below.refl _ _) (Nat.le_refl _) ?_; intro v153 w20 ho21 hb hg_ hnew_; clear hg_ hnew_; (first | rw [← Ny152.out] at ho21 | (simp only [Int.reduceToNat] at ho21; rw [← Ny152.out] at ho21)); have n0_ := Aside0.mk (Kd.R_elder' (by (with_reducible repeat (first | apply Kd.R_alloc | apply Kd.R_drewN | apply Kd.R_drew)); exact (Kd.R_mono (Kd.R_far (p := ⟨gb151, 2, none⟩) (Kd.R_far (p := ⟨gb151, 1, none⟩) (Kd.R_far (p := ⟨gb151, 0, none⟩) (Kd.R_types HO_5.out BK151.out (by decide)) (fun _ hk => hk.2) (.bool ((rd_T38 l0 x20_1).f0))) (fun _ hk => hk.2) (.bool ((rd_T38 l0 x20_1).f1))) (fun _ hk => hk.2) (.slice A150_2 ((rd_T38 l0 x20_1).f2).length c150_2)) (fun _ h_ => h_.1))) (Kd.R_base ho21) hb); have n1_ := Aside0.mk (Kd.R_lower (Kd.R_new' ho21 (Kd.R_lt (by (with_reducible repeat (first | apply Kd.R_alloc | apply Kd.R_drewN | apply Kd.R_drew)); exact (Kd.R_mono (Kd.R_far (p := ⟨gb151, 2, none⟩) (Kd.R_far (p := ⟨gb151, 1, none⟩) (Kd.R_far (p := ⟨gb151, 0, none⟩) (Kd.R_types HO_5.out BK151.out (by decide)) (fun _ hk => hk.2) (.bool ((rd_T38 l0 x20_1).f0))) (fun _ hk => hk.2) (.bool ((rd_T38 l0 x20_1).f1))) (fun _ hk => hk.2) (.slice A150_2 ((rd_T38 l0 x20_1).f2).length c150_2)) (fun _ h_ => h_.1))))) (below_size (by repeat (first | (with_reducible first | exact HB.out | apply below_alloc | apply pw_below_drewN | apply below_drew1 | refine below_set ?_ GE151.out) | exact HB.out)))); have n2_ := Aside0.mk (blk_below (g := gb151) (o := .cells #[.bool ((rd_T38 l0 x20_1).f0), .bool ((rd_T38 l0 x20_1).f1), .slice A150_2 ((rd_T38 l0 x20_1).f2).length c150_2] 38 (0, 0)) (by (with_reducible repeat (first | refine blk_drewN ?_ _ | refine blk_drew ?_ | refine blk_alloc ?_ _)); refine blk_put (cs := #[.bool ((rd_T38 l0 x20_1).f0), .bool ((rd_T38 l0 x20_1).f1), .slice none 0 0]) ?_ 2 _ rfl; (with_reducible repeat (first | refine blk_drewN ?_ _ | refine blk_drew ?_ | refine blk_alloc ?_ _)); refine blk_put (cs := #[.bool ((rd_T38 l0 x20_1).f0), .bool false, .slice none 0 0]) ?_ 1 _ rfl; (with_reducible repeat (first | refine blk_drewN ?_ _ | refine blk_drew ?_ | refine blk_alloc ?_ _)); refine blk_put (cs := #[.bool false, .bool false, .slice none 0 0]) ?_ 0 _ rfl; (with_reducible repeat (first | refine blk_drewN ?_ _ | refine blk_drew ?_ | refine blk_alloc ?_ _)); exact BK151.out) hb); have n3_ := Aside0.mk (below_step (by repeat (first | (with_reducible first | exact HB.out | apply below_alloc | apply pw_below_drewN | apply below_drew1 | refine below_set ?_ GE151.out) | exact HB.out)) hb); clear HO_5; clear BK151; clear HB; have HO_5 := n0_; have HO154 := n1_; have BK151 := n2_; have HB := n3_; clear n0_ n1_ n2_ n3_; clear hb ho21; obtain ⟨Ao22, co22, eo22⟩ := Kd.R_slice HO_5.out; subst eo22))
                      go_loopg [30] k1 (fun kq v30 w' => ∃ (x8_2 : List Bool) (x30_2 : Int), v30 = .int .i64 x30_2 ∧ Aside0 (glob_match.l1 kq a1 x8_2 l0 (l0.length : Int) x20_1 x5_1 (x5_1.length : Int) x30_2 ((rd_T38 l0 x20_1).f0) ((rd_T38 l0 x20_1).f1) ((rd_T38 l0 x20_1).f2) = some r) ∧ Aside0 (kq ≤ k1) ∧ Aside0 (Kd.R Kd.bool 4 w' w.heap.size (fun k_ => some k_ ≠ ((.slice Ao22 x5_1.length co22) : Value).ownBlock) v153 x8_2) ∧ Aside0 (Kd.R Kd.bool 4 w' w.heap.size (fun k_ => some k_ ≠ (v153 : Value).ownBlock) (.slice Ao22 x5_1.length co22) x5_1) ∧ Aside0 (w'.heap[gb151]? = some (.cells #[.bool ((rd_T38 l0 x20_1).f0), .bool ((rd_T38 l0 x20_1).f1), (.slice A150_2 ((rd_T38 l0 x20_1).f2).length c150_2)] 38 (0, 0))) ∧ Aside0 (Below w.heap.size w w'))
                      case atStart => exact ⟨(y152), (0), (by first | rfl | (simp; done) | (simp [*]; done)), H', ⟨Nat.le_refl _⟩, ⟨by (with_reducible repeat (first | apply Kd.R_alloc | apply Kd.R_drewN | apply Kd.R_drew)); exact Kd.R_mono HO154.out (fun _ hk => hk.2)⟩, ⟨by (with_reducible repeat (first | apply Kd.R_alloc | apply Kd.R_drewN | apply Kd.R_drew)); exact Kd.R_mono HO_5.out (fun _ hk => hk.2)⟩, ⟨by (with_reducible repeat (first | refine blk_drewN ?_ _ | refine blk_drew ?_ | refine blk_alloc ?_ _)); exact BK151.out⟩, ⟨by repeat (first | (with_reducible first | exact HB.out | apply below_alloc | apply pw_below_drewN | apply below_drew1 | refine below_set ?_ GE151.out) | exact HB.out)⟩⟩
                      case round =>
                        clear H'
                        try clear c1
                        try clear p1
                        try clear q1
                        try clear hx1
                        try clear p2
                        try clear c4
                        try clear c4b0
                        try clear c4b1
                        try clear c5
                        try clear c5b0
                        try clear c5b1
                        try clear c6
                        try clear c6b0
                        try clear c6b1
                        try clear p6
                        try clear p7
                        try clear q7
                        try clear hx7
                        try clear qi7
                        try clear hf7
                        try clear c11
                        try clear c12
                        try clear c12b0
                        try clear c13
                        try clear c13b0
                        try clear c14
                        try clear c14b0
                        try clear c15
                        try clear p15
                        try clear q15
                        try clear hx15
                        try clear c16
                        try clear c16b0
                        try clear c16b1
                        try clear c17
                        try clear c17b0
                        try clear c17b1
                        try clear hcz19_0
                        try clear hcz19_1
                        try clear hcz19_2
                        try clear hfz19_0
                        try clear hfz19_1
                        try clear hfz19_2
                        try clear hx150_0
                        try clear hx150_1
                        try clear hx150_2
                        try clear hx7_0
                        try clear p150
                        try clear p2
                        try clear p6
                        try clear p7
                        try clear q150
                        try clear q7
                        obtain ⟨x8_2, x30_2, rfl, HA, HK2, HO_8, HO_28, BK151, HB⟩ := hrel
                        cases gk with
                        | zero => exact absurd HA.out (by simp [glob_match.l1])
                        | succ k2 =>
                          have H := HA.out
                          clear HA
                          simp only [glob_match.l1] at H
                          by_cases c23 : x30_2 < (x5_1.length : Int)
                          · rw [if_pos c23] at H
                            have c23b0 : decide (x30_2 < (x5_1.length : Int)) = true := decide_eq_true c23
                            clear c23
                            by_cases c24 : 0 ≤ x30_2
                            · rw [if_pos c24] at H
                              have c24b0 : decide (0 ≤ x30_2) = true := decide_eq_true c24
                              clear c24
                              by_cases c25 : x30_2 < (x5_1.length : Int)
                              · rw [if_pos c25] at H
                                have c25b0 : decide (x30_2 < (x5_1.length : Int)) = true := decide_eq_true c25
                                clear c25
                                obtain ⟨bq26, hbq26⟩ : ∃ b_ : Bool, b_ = (rdOf false x5_1 x30_2) := ⟨_, rfl⟩
                                replace H : (if bq26 = true then (if ((rd_T38 l0 x20_1).f0) = true then (if x30_2 < (x8_2.length : Int) then (glob_match.l2 k2 a1 (x8_2.set (x30_2 : Int).toNat true) x30_2 l0 (l0.length : Int) x20_1 x5_1 (x5_1.length : Int) x30_2 ((rd_T38 l0 x20_1).f0) ((rd_T38 l0 x20_1).f1) ((rd_T38 l0 x20_1).f2)) else (none)) else (if x30_2 < (a1.size : Int) then ((glob_part_holds.f k2 ((rd_T38 l0 x20_1).f0) ((rd_T38 l0 x20_1).f1) ((rd_T38 l0 x20_1).f2) (bt a1 x30_2)).bind fun t159 => (if t159 = true then (if 0 ≤ (wrap64 (x30_2 + 1)) then (if (wrap64 (x30_2 + 1)) < (x8_2.length : Int) then (glob_match.l1 k2 a1 (x8_2.set ((wrap64 (x30_2 + 1)) : Int).toNat true) l0 (l0.length : Int) x20_1 x5_1 (x5_1.length : Int) (wrap64 (x30_2 + 1)) ((rd_T38 l0 x20_1).f0) ((rd_T38 l0 x20_1).f1) ((rd_T38 l0 x20_1).f2)) else (none)) else (none)) else (glob_match.l1 k2 a1 x8_2 l0 (l0.length : Int) x20_1 x5_1 (x5_1.length : Int) (wrap64 (x30_2 + 1)) ((rd_T38 l0 x20_1).f0) ((rd_T38 l0 x20_1).f1) ((rd_T38 l0 x20_1).f2)))) else (glob_match.l1 k2 a1 x8_2 l0 (l0.length : Int) x20_1 x5_1 (x5_1.length : Int) (wrap64 (x30_2 + 1)) ((rd_T38 l0 x20_1).f0) ((rd_T38 l0 x20_1).f1) ((rd_T38 l0 x20_1).f2)))) else (glob_match.l1 k2 a1 x8_2 l0 (l0.length : Int) x20_1 x5_1 (x5_1.length : Int) (wrap64 (x30_2 + 1)) ((rd_T38 l0 x20_1).f0) ((rd_T38 l0 x20_1).f1) ((rd_T38 l0 x20_1).f2))) = some r := by rw [← hbq26] at H; exact H
                                have Nbq26 := Aside0.mk hbq26
                                clear hbq26
                                by_cases c27 : bq26 = true
                                · subst c27
                                  have H1 : (if ((rd_T38 l0 x20_1).f0) = true then (if x30_2 < (x8_2.length : Int) then (glob_match.l2 k2 a1 (x8_2.set (x30_2 : Int).toNat true) x30_2 l0 (l0.length : Int) x20_1 x5_1 (x5_1.length : Int) x30_2 ((rd_T38 l0 x20_1).f0) ((rd_T38 l0 x20_1).f1) ((rd_T38 l0 x20_1).f2)) else (none)) else (if x30_2 < (a1.size : Int) then ((glob_part_holds.f k2 ((rd_T38 l0 x20_1).f0) ((rd_T38 l0 x20_1).f1) ((rd_T38 l0 x20_1).f2) (bt a1 x30_2)).bind fun t159 => (if t159 = true then (if 0 ≤ (wrap64 (x30_2 + 1)) then (if (wrap64 (x30_2 + 1)) < (x8_2.length : Int) then (glob_match.l1 k2 a1 (x8_2.set ((wrap64 (x30_2 + 1)) : Int).toNat true) l0 (l0.length : Int) x20_1 x5_1 (x5_1.length : Int) (wrap64 (x30_2 + 1)) ((rd_T38 l0 x20_1).f0) ((rd_T38 l0 x20_1).f1) ((rd_T38 l0 x20_1).f2)) else (none)) else (none)) else (glob_match.l1 k2 a1 x8_2 l0 (l0.length : Int) x20_1 x5_1 (x5_1.length : Int) (wrap64 (x30_2 + 1)) ((rd_T38 l0 x20_1).f0) ((rd_T38 l0 x20_1).f1) ((rd_T38 l0 x20_1).f2)))) else (glob_match.l1 k2 a1 x8_2 l0 (l0.length : Int) x20_1 x5_1 (x5_1.length : Int) (wrap64 (x30_2 + 1)) ((rd_T38 l0 x20_1).f0) ((rd_T38 l0 x20_1).f1) ((rd_T38 l0 x20_1).f2)))) = some r := by rw [if_pos rfl] at H; exact H
                                  clear H
                                  have H := H1
                                  clear H1
                                  by_cases c28 : ((rd_T38 l0 x20_1).f0) = true
                                  · rw [if_pos c28] at H
                                    have c28b0 : ((rd_T38 l0 x20_1).f0) = true := c28
                                    clear c28
                                    by_cases c29 : x30_2 < (x8_2.length : Int)
                                    · rw [if_pos c29] at H
                                      have c29b0 : decide (x30_2 < (x8_2.length : Int)) = true := decide_eq_true c29
                                      clear c29
                                      obtain ⟨y156, hy156⟩ : ∃ y_ : List Bool, y_ = (x8_2.set (x30_2 : Int).toNat true) := ⟨_, rfl⟩
                                      replace H : (glob_match.l2 k2 a1 y156 x30_2 l0 (l0.length : Int) x20_1 x5_1 (x5_1.length : Int) x30_2 ((rd_T38 l0 x20_1).f0) ((rd_T38 l0 x20_1).f1) ((rd_T38 l0 x20_1).f2)) = some r := by first | (rw [hy156]; with_reducible exact H) | (have H2_ := (Option.bind_some _ _).symm.trans H; rw [hy156]; with_reducible exact H2_) | (have H2_ := (Option.bind_some _ _).symm.trans H; with_reducible exact H2_) | with_reducible exact H | (rw [hy156]; exact H) | exact H
                                      have Ny156 := Aside0.mk hy156
                                      clear hy156
                                      have H' := Aside0.mk H
                                      clear H
                                      have p155 : 0 ≤ (x30_2 : Int) := of_decide_eq_true (by first | (with_reducible assumption) | assumption)
                                      have q155 : x30_2 < (x5_1.length : Int) := of_decide_eq_true (by first | (with_reducible assumption) | assumption)
                                      obtain ⟨ad155, e155, hx155_0⟩ := Kd.at_bool (Kd.R_reads' HO_28.out).2.2 x30_2 p155 q155
                                      (try rw [← Nbq26.out] at hx155_0)
                                      cases e155
                                      replace p155 := eq_true p155
                                      replace q155 := eq_true q155
                                      have hcz31_0 : wr.cell? ⟨gb151, 0, none⟩ = some (.bool ((rd_T38 l0 x20_1).f0)) := (blk_cell BK151.out 0).trans rfl
                                      have hcz31_1 : wr.cell? ⟨gb151, 1, none⟩ = some (.bool ((rd_T38 l0 x20_1).f1)) := (blk_cell BK151.out 1).trans rfl
                                      have hcz31_2 : wr.cell? ⟨gb151, 2, none⟩ = some (.slice A150_2 ((rd_T38 l0 x20_1).f2).length c150_2) := (blk_cell BK151.out 2).trans rfl
                                      have hfz31_0 := blk_frozen BK151.out 0
                                      have hfz31_1 := blk_frozen BK151.out 1
                                      have hfz31_2 := blk_frozen BK151.out 2
                                      have p30 : 0 ≤ (x30_2 : Int) := of_decide_eq_true (by first | (with_reducible assumption) | assumption)
                                      have q30 : (x30_2 : Int) < ((x8_2.length : Int) : Int) := of_decide_eq_true (by first | (with_reducible assumption) | assumption)
                                      obtain ⟨go30, co30, eo30, gb30, gl30, cl30, HG30⟩ := Kd.R_form HO_8.out (by omega)
                                      (first | cases eo30 | (injection eo30 with ea_ en_ ec_; (first | subst ea_ | (injection ea_ with ea_; subst ea_)); subst ec_; clear en_))
                                      have GB30 := Aside0.mk gb30
                                      have GG30 := Aside0.mk HG30
                                      clear gb30 gl30 HG30
                                      obtain ⟨hx30_0, hf30_0⟩ := Kd.R_celln false HO_8.out (x30_2 : Int) p30 q30
                                      replace p30 := eq_true p30
                                      replace q30 := eq_true q30
                                      have HP32 := Kd.R_putg HO_8.out (x30_2 : Int) true
                                      go_wp2_with (first | ((with_reducible refine gate_store (t := 4) (p := 37) rfl ?_); refine store_event (t := 4) (p := 37) (v := ?vo_w33) (w1 := (wr.setCell ⟨go30, (x30_2 : Int).toNat, none⟩ (.bool true))) ?hg ?ho ?hn ?hr ?_; (case ho => rfl); (case hg => rfl); (case hn => rfl); (case hr => first | (go_simp; done) | (go_simp; rfl)); intro w33 hw; have hg : wr.grownBy w33 (some go30) := (by rw [hw]; exact HP32.2); have hp_ : Kd.R Kd.bool 4 w33 w.heap.size (fun k_ => some k_ ≠ (.slice (some ad155) x5_1.length co22 : Value).ownBlock) (.slice (some ⟨go30, 0, none⟩) x8_2.length co30) y156 := (by rw [hw, Ny156.out]; exact HP32.1); clear HP32; have n0_ := Aside0.mk (hp_); have n1_ := Aside0.mk (Kd.R_after (v := (.slice (some ⟨go30, 0, none⟩) x8_2.length co30)) (v1 := (.slice (some ⟨go30, 0, none⟩) x8_2.length co30)) (ok := (fun _ => True)) (by (with_reducible repeat (first | apply Kd.R_alloc | apply Kd.R_drewN | apply Kd.R_drew)); exact Kd.R_mono HO_28.out (fun _ hk => ⟨trivial, hk⟩)) hg (.inl rfl)); have n2_ := Aside0.mk (blk_grown (g := gb151) (o := .cells #[.bool ((rd_T38 l0 x20_1).f0), .bool ((rd_T38 l0 x20_1).f1), .slice A150_2 ((rd_T38 l0 x20_1).f2).length c150_2] 38 (0, 0)) (by (with_reducible repeat (first | refine blk_drewN ?_ _ | refine blk_drew ?_ | refine blk_alloc ?_ _)); exact BK151.out) hg (Kd.R_ne HO_8.out BK151.out (by decide))); have n3_ := Aside0.mk ((by rw [hw]; exact below_set (HB.out) GB30.out : Below w.heap.size w w33)); clear HO_8; clear HO_28; clear BK151; clear HB; have HO_8 := n0_; have HO_28 := n1_; have BK151 := n2_; have HB := n3_; clear n0_ n1_ n2_ n3_; clear hg hw hp_))
                                      go_loopg [11] k2 (fun kq v11 w' => ∃ (x8_3 : List Bool) (x11_3 : Int), v11 = .int .i64 x11_3 ∧ Aside0 (glob_match.l2 kq a1 x8_3 x11_3 l0 (l0.length : Int) x20_1 x5_1 (x5_1.length : Int) x30_2 ((rd_T38 l0 x20_1).f0) ((rd_T38 l0 x20_1).f1) ((rd_T38 l0 x20_1).f2) = some r) ∧ Aside0 (kq ≤ k2) ∧ Aside0 (Kd.R Kd.bool 4 w' w.heap.size (fun k_ => some k_ ≠ ((.slice (some ad155) x5_1.length co22) : Value).ownBlock) (.slice (some ⟨go30, 0, none⟩) x8_2.length co30) x8_3) ∧ Aside0 (Kd.R Kd.bool 4 w' w.heap.size (fun k_ => some k_ ≠ ((.slice (some ⟨go30, 0, none⟩) x8_2.length co30) : Value).ownBlock) (.slice (some ad155) x5_1.length co22) x5_1) ∧ Aside0 (w'.heap[gb151]? = some (.cells #[.bool ((rd_T38 l0 x20_1).f0), .bool ((rd_T38 l0 x20_1).f1), (.slice A150_2 ((rd_T38 l0 x20_1).f2).length c150_2)] 38 (0, 0))) ∧ Aside0 (Below w.heap.size w w'))
                                      case atStart => exact ⟨(y156), (x30_2), (by first | rfl | (simp; done) | (simp [*]; done)), H', ⟨Nat.le_refl _⟩, ⟨by (with_reducible repeat (first | apply Kd.R_alloc | apply Kd.R_drewN | apply Kd.R_drew)); exact HO_8.out⟩, ⟨by (with_reducible repeat (first | apply Kd.R_alloc | apply Kd.R_drewN | apply Kd.R_drew)); exact Kd.R_mono HO_28.out (fun _ hk => hk.2)⟩, ⟨by (with_reducible repeat (first | refine blk_drewN ?_ _ | refine blk_drew ?_ | refine blk_alloc ?_ _)); exact BK151.out⟩, ⟨by repeat (first | (with_reducible first | exact HB.out | apply below_alloc | apply pw_below_drewN | apply below_drew1 | refine below_set ?_ GE151.out) | exact HB.out)⟩⟩
                                      case round =>
                                        clear H'
                                        try clear c1
                                        try clear p1
                                        try clear q1
                                        try clear hx1
                                        try clear c2
                                        try clear p2
                                        try clear q2
                                        try clear p3
                                        try clear q3
                                        try clear hx3
                                        try clear hf3
                                        try clear c4
                                        try clear c4b0
                                        try clear c4b1
                                        try clear c5
                                        try clear c5b0
                                        try clear c5b1
                                        try clear c6
                                        try clear c6b0
                                        try clear c6b1
                                        try clear p6
                                        try clear p7
                                        try clear q7
                                        try clear hx7
                                        try clear qi7
                                        try clear hf7
                                        try clear c11
                                        try clear c12
                                        try clear c12b0
                                        try clear c13
                                        try clear c13b0
                                        try clear c14
                                        try clear c14b0
                                        try clear c15
                                        try clear p15
                                        try clear q15
                                        try clear hx15
                                        try clear c16
                                        try clear c16b0
                                        try clear c16b1
                                        try clear c17
                                        try clear c17b0
                                        try clear c17b1
                                        try clear c23
                                        try clear c23b0
                                        try clear c24
                                        try clear c24b0
                                        try clear c25
                                        try clear c25b0
                                        try clear q26
                                        try clear c27
                                        try clear c28
                                        try clear c28b0
                                        try clear c29
                                        try clear c29b0
                                        try clear p30
                                        try clear q30
                                        try clear hx30
                                        try clear hf30
                                        try clear hcz19_0
                                        try clear hcz19_1
                                        try clear hcz19_2
                                        try clear hcz31_0
                                        try clear hcz31_1
                                        try clear hcz31_2
                                        try clear hfz19_0
                                        try clear hfz19_1
                                        try clear hfz19_2
                                        try clear hfz31_0
                                        try clear hfz31_1
                                        try clear hfz31_2
                                        try clear hx150_0
                                        try clear hx150_1
                                        try clear hx150_2
                                        try clear hx155_0
                                        try clear hx30_0
                                        try clear hx7_0
                                        try clear p1
                                        try clear p15
                                        try clear p150
                                        try clear p155
                                        try clear p2
                                        try clear p30
                                        try clear p6
                                        try clear p7
                                        try clear q1
                                        try clear q15
                                        try clear q150
                                        try clear q155
                                        try clear q30
                                        try clear q7
                                        obtain ⟨x8_3, x11_3, rfl, HA, HK3, HO_8, HO_28, BK151, HB⟩ := hrel
                                        have hl8_3 := (Kd.R_reads' HO_8.out).1
                                        rw [hl8_3] at HO_8
                                        (try simp only [hl8_3])
                                        (try simp only [hl8_3] at BK151)
                                        (try simp only [hl8_3] at HO_28)
                                        cases gk with
                                        | zero => exact absurd HA.out (by simp [glob_match.l2])
                                        | succ k3 =>
                                          have H := HA.out
                                          clear HA
                                          simp only [glob_match.l2] at H
                                          by_cases c34 : x11_3 < (a1.size : Int)
                                          · rw [if_pos c34] at H
                                            have c34b0 : decide (x11_3 < (a1.size : Int)) = true := decide_eq_true c34
                                            clear c34
                                            by_cases c35 : 0 ≤ x11_3
                                            · rw [if_pos c35] at H
                                              have c35b0 : decide (0 ≤ x11_3) = true := decide_eq_true c35
                                              clear c35
                                              by_cases c37 : (bt a1 x11_3) = 47
                                              · rw [if_pos c37] at H
                                                have c37b0 : ((bt a1 x11_3) == 47) = true := beq_iff_eq.mpr c37
                                                have c37b1 : ((bt a1 x11_3) != 47) = false := bne_eq_false_iff_eq.mpr c37
                                                clear c37
                                                have H' := Aside0.mk H
                                                clear H
                                                have p36 : 0 ≤ (x11_3 : Int) := of_decide_eq_true (by first | (with_reducible assumption) | assumption)
                                                have q36 : x11_3 < (a1.size : Int) := of_decide_eq_true (by first | (with_reducible assumption) | assumption)
                                                have hx36 := bt_at a1 x11_3
                                                replace p36 := eq_true p36
                                                replace q36 := eq_true q36
                                                go_wp2
                                                (try simp only [← hl8_3])
                                                go_roundg k3
                                                case measure => have := HK1.out; have := HK2.out; have := HK3.out; omega
                                                case rel => exact ⟨(x8_3), (wrap64 (x30_2 + 1)), (by first | rfl | (simp; done) | (simp [*]; done)), H', ⟨by have := HK1.out; have := HK2.out; have := HK3.out; omega⟩, ⟨by (try simp only [hl8_3]); (with_reducible repeat (first | apply Kd.R_alloc | apply Kd.R_drewN | apply Kd.R_drew)); exact HO_8.out⟩, ⟨by (try simp only [hl8_3]); (with_reducible repeat (first | apply Kd.R_alloc | apply Kd.R_drewN | apply Kd.R_drew)); exact HO_28.out⟩, ⟨by (try simp only [hl8_3]); (with_reducible repeat (first | refine blk_drewN ?_ _ | refine blk_drew ?_ | refine blk_alloc ?_ _)); exact BK151.out⟩, ⟨by repeat (first | (with_reducible first | exact HB.out | apply below_alloc | apply pw_below_drewN | apply below_drew1 | refine below_set ?_ GE151.out) | exact HB.out)⟩⟩
                                              · rw [if_neg c37] at H
                                                have c37b0 : ((bt a1 x11_3) == 47) = false := beq_eq_false_iff_ne.mpr c37
                                                have c37b1 : ((bt a1 x11_3) != 47) = true := bne_iff_ne.mpr c37
                                                obtain ⟨ji38, hji38⟩ : ∃ j_ : Int, (wrap64 (x11_3 + 1)) = j_ := ⟨_, rfl⟩
                                                replace H : (if 0 ≤ (ji38) then (if (ji38) < (x8_3.length : Int) then (if (rdOf false x8_3 (ji38) = true) then (glob_match.l1 k3 a1 x8_3 l0 (l0.length : Int) x20_1 x5_1 (x5_1.length : Int) (wrap64 (x30_2 + 1)) ((rd_T38 l0 x20_1).f0) ((rd_T38 l0 x20_1).f1) ((rd_T38 l0 x20_1).f2)) else (glob_match.l2 k3 a1 (x8_3.set ((ji38) : Int).toNat true) ji38 l0 (l0.length : Int) x20_1 x5_1 (x5_1.length : Int) x30_2 ((rd_T38 l0 x20_1).f0) ((rd_T38 l0 x20_1).f1) ((rd_T38 l0 x20_1).f2))) else (none)) else (none)) = some r := by first | (rw [hji38] at H; exact H) | (simp only [hji38] at H ⊢; exact H)
                                                have hji38w : (IntKind.i64.wrap (x11_3 + 1)) = ji38 := (i64_w _).trans hji38
                                                by_cases c39 : 0 ≤ (ji38)
                                                · rw [if_pos c39] at H
                                                  have c39b0 : decide (0 ≤ (ji38)) = true := decide_eq_true c39
                                                  clear c39
                                                  by_cases c40 : (ji38) < (x8_3.length : Int)
                                                  · rw [if_pos c40] at H
                                                    have c40b0 : decide ((ji38) < (x8_3.length : Int)) = true := decide_eq_true c40
                                                    clear c40
                                                    obtain ⟨bq41, hbq41⟩ : ∃ b_ : Bool, b_ = (rdOf false x8_3 (ji38)) := ⟨_, rfl⟩
                                                    replace H : (if (bq41 = true) then (glob_match.l1 k3 a1 x8_3 l0 (l0.length : Int) x20_1 x5_1 (x5_1.length : Int) (wrap64 (x30_2 + 1)) ((rd_T38 l0 x20_1).f0) ((rd_T38 l0 x20_1).f1) ((rd_T38 l0 x20_1).f2)) else (glob_match.l2 k3 a1 (x8_3.set ((ji38) : Int).toNat true) ji38 l0 (l0.length : Int) x20_1 x5_1 (x5_1.length : Int) x30_2 ((rd_T38 l0 x20_1).f0) ((rd_T38 l0 x20_1).f1) ((rd_T38 l0 x20_1).f2))) = some r := by rw [← hbq41] at H; exact H
                                                    have Nbq41 := Aside0.mk hbq41
                                                    clear hbq41
                                                    by_cases c42 : (bq41 = true)
                                                    · subst c42
                                                      have H1 : (glob_match.l1 k3 a1 x8_3 l0 (l0.length : Int) x20_1 x5_1 (x5_1.length : Int) (wrap64 (x30_2 + 1)) ((rd_T38 l0 x20_1).f0) ((rd_T38 l0 x20_1).f1) ((rd_T38 l0 x20_1).f2)) = some r := by rw [if_pos rfl] at H; exact H
                                                      clear H
                                                      have H := H1
                                                      clear H1
                                                      have H' := Aside0.mk H
                                                      clear H
                                                      have p36 : 0 ≤ (x11_3 : Int) := of_decide_eq_true (by first | (with_reducible assumption) | assumption)
                                                      have q36 : x11_3 < (a1.size : Int) := of_decide_eq_true (by first | (with_reducible assumption) | assumption)
                                                      have hx36 := bt_at a1 x11_3
                                                      replace p36 := eq_true p36
                                                      replace q36 := eq_true q36
                                                      have p157 : 0 ≤ ((ji38) : Int) := of_decide_eq_true (by first | (with_reducible assumption) | assumption)
                                                      have q157 : (ji38) < (x8_3.length : Int) := of_decide_eq_true (by first | (with_reducible assumption) | assumption)
                                                      obtain ⟨ad157, e157, hx157_0⟩ := Kd.at_bool (Kd.R_reads' HO_8.out).2.2 (ji38) p157 q157
                                                      (try rw [← Nbq26.out] at hx157_0)
                                                      (try rw [← Nbq41.out] at hx157_0)
                                                      obtain rfl : (⟨go30, 0, none⟩ : Addr) = ad157 := (by injection e157)
                                                      (first | simp only [add_plain] at hx157_0 | simp only [add_at] at hx157_0 | simp only [Addr.add, Nat.zero_add] at hx157_0 | skip)
                                                      replace p157 := eq_true p157
                                                      replace q157 := eq_true q157
                                                      go_wp2
                                                      (try simp only [← hl8_3])
                                                      go_roundg k3
                                                      case measure => have := HK1.out; have := HK2.out; have := HK3.out; omega
                                                      case rel => exact ⟨(x8_3), (wrap64 (x30_2 + 1)), (by first | rfl | (simp; done) | (simp [*]; done)), H', ⟨by have := HK1.out; have := HK2.out; have := HK3.out; omega⟩, ⟨by (try simp only [hl8_3]); (with_reducible repeat (first | apply Kd.R_alloc | apply Kd.R_drewN | apply Kd.R_drew)); exact HO_8.out⟩, ⟨by (try simp only [hl8_3]); (with_reducible repeat (first | apply Kd.R_alloc | apply Kd.R_drewN | apply Kd.R_drew)); exact HO_28.out⟩, ⟨by (try simp only [hl8_3]); (with_reducible repeat (first | refine blk_drewN ?_ _ | refine blk_drew ?_ | refine blk_alloc ?_ _)); exact BK151.out⟩, ⟨by repeat (first | (with_reducible first | exact HB.out | apply below_alloc | apply pw_below_drewN | apply below_drew1 | refine below_set ?_ GE151.out) | exact HB.out)⟩⟩
                                                    · replace c42 := Bool.eq_false_iff.mpr c42
                                                      subst c42
                                                      have H1 : (glob_match.l2 k3 a1 (x8_3.set ((ji38) : Int).toNat true) ji38 l0 (l0.length : Int) x20_1 x5_1 (x5_1.length : Int) x30_2 ((rd_T38 l0 x20_1).f0) ((rd_T38 l0 x20_1).f1) ((rd_T38 l0 x20_1).f2)) = some r := by rw [if_neg (show ¬ (false = true) by decide)] at H; exact H
                                                      clear H
                                                      have H := H1
                                                      clear H1
                                                      obtain ⟨y158, hy158⟩ : ∃ y_ : List Bool, y_ = (x8_3.set ((ji38) : Int).toNat true) := ⟨_, rfl⟩
                                                      replace H : (glob_match.l2 k3 a1 y158 ji38 l0 (l0.length : Int) x20_1 x5_1 (x5_1.length : Int) x30_2 ((rd_T38 l0 x20_1).f0) ((rd_T38 l0 x20_1).f1) ((rd_T38 l0 x20_1).f2)) = some r := by first | (rw [hy158]; with_reducible exact H) | (have H2_ := (Option.bind_some _ _).symm.trans H; rw [hy158]; with_reducible exact H2_) | (have H2_ := (Option.bind_some _ _).symm.trans H; with_reducible exact H2_) | with_reducible exact H | (rw [hy158]; exact H) | exact H
                                                      have Ny158 := Aside0.mk hy158
                                                      clear hy158
                                                      have H' := Aside0.mk H
                                                      clear H
                                                      have p36 : 0 ≤ (x11_3 : Int) := of_decide_eq_true (by first | (with_reducible assumption) | assumption)
                                                      have q36 : x11_3 < (a1.size : Int) := of_decide_eq_true (by first | (with_reducible assumption) | assumption)
                                                      have hx36 := bt_at a1 x11_3
                                                      replace p36 := eq_true p36
                                                      replace q36 := eq_true q36
                                                      have p157 : 0 ≤ ((ji38) : Int) := of_decide_eq_true (by first | (with_reducible assumption) | assumption)
                                                      have q157 : (ji38) < (x8_3.length : Int) := of_decide_eq_true (by first | (with_reducible assumption) | assumption)
                                                      obtain ⟨ad157, e157, hx157_0⟩ := Kd.at_bool (Kd.R_reads' HO_8.out).2.2 (ji38) p157 q157
                                                      (try rw [← Nbq26.out] at hx157_0)
                                                      (try rw [← Nbq41.out] at hx157_0)
                                                      obtain rfl : (⟨go30, 0, none⟩ : Addr) = ad157 := (by injection e157)
                                                      (first | simp only [add_plain] at hx157_0 | simp only [add_at] at hx157_0 | simp only [Addr.add, Nat.zero_add] at hx157_0 | skip)
                                                      replace p157 := eq_true p157
                                                      replace q157 := eq_true q157
                                                      have p43 : 0 ≤ ((ji38) : Int) := of_decide_eq_true (by first | (with_reducible assumption) | assumption)
                                                      have q43 : ((ji38) : Int) < ((x8_3.length : Int) : Int) := of_decide_eq_true (by first | (with_reducible assumption) | assumption)
                                                      obtain ⟨hx43_0, hf43_0⟩ := Kd.R_celln false HO_8.out ((ji38) : Int) p43 q43
                                                      replace p43 := eq_true p43
                                                      replace q43 := eq_true q43
                                                      have HP44 := Kd.R_putg HO_8.out ((ji38) : Int) true
                                                      go_wp2_with (first | ((with_reducible refine gate_store (t := 4) (p := 62) rfl ?_); refine store_event (t := 4) (p := 62) (v := ?vo_w45) (w1 := (wr.setCell ⟨go30, ((ji38) : Int).toNat, none⟩ (.bool true))) ?hg ?ho ?hn ?hr ?_; (case ho => rfl); (case hg => rfl); (case hn => rfl); (case hr => first | (go_simp; done) | (go_simp; rfl)); intro w45 hw; have hg : wr.grownBy w45 (some go30) := (by rw [hw]; exact HP44.2); have hp_ : Kd.R Kd.bool 4 w45 w.heap.size (fun k_ => some k_ ≠ (.slice (some ad155) x5_1.length co22 : Value).ownBlock) (.slice (some ⟨go30, 0, none⟩) x8_3.length co30) y158 := (by rw [hw, Ny158.out]; exact HP44.1); clear HP44; have n0_ := Aside0.mk (hp_); have n1_ := Aside0.mk (Kd.R_after (v := (.slice (some ⟨go30, 0, none⟩) x8_3.length co30)) (v1 := (.slice (some ⟨go30, 0, none⟩) x8_3.length co30)) (ok := (fun _ => True)) (by (with_reducible repeat (first | apply Kd.R_alloc | apply Kd.R_drewN | apply Kd.R_drew)); exact Kd.R_mono HO_28.out (fun _ hk => ⟨trivial, hk⟩)) hg (.inl rfl)); have n2_ := Aside0.mk (blk_grown (g := gb151) (o := .cells #[.bool ((rd_T38 l0 x20_1).f0), .bool ((rd_T38 l0 x20_1).f1), .slice A150_2 ((rd_T38 l0 x20_1).f2).length c150_2] 38 (0, 0)) (by (with_reducible repeat (first | refine blk_drewN ?_ _ | refine blk_drew ?_ | refine blk_alloc ?_ _)); exact BK151.out) hg (Kd.R_ne HO_8.out BK151.out (by decide))); have n3_ := Aside0.mk ((by rw [hw]; exact below_set (HB.out) GB30.out : Below w.heap.size w w45)); clear HO_8; clear HO_28; clear BK151; clear HB; have HO_8 := n0_; have HO_28 := n1_; have BK151 := n2_; have HB := n3_; clear n0_ n1_ n2_ n3_; clear hg hw hp_))
                                                      (try simp only [← hl8_3])
                                                      go_roundg k3
                                                      case measure => have := HK1.out; have := HK2.out; have := HK3.out; omega
                                                      case rel => exact ⟨(y158), (ji38), (by first | rfl | (simp; done) | (simp only [← hji38] <;> (first | rfl | simp)) | (simp [*]; done)), H', ⟨by have := HK1.out; have := HK2.out; have := HK3.out; omega⟩, ⟨by (try simp only [hl8_3]); (with_reducible repeat (first | apply Kd.R_alloc | apply Kd.R_drewN | apply Kd.R_drew)); exact HO_8.out⟩, ⟨by (try simp only [hl8_3]); (with_reducible repeat (first | apply Kd.R_alloc | apply Kd.R_drewN | apply Kd.R_drew)); exact Kd.R_mono HO_28.out (fun _ hk => hk.2)⟩, ⟨by (try simp only [hl8_3]); (with_reducible repeat (first | refine blk_drewN ?_ _ | refine blk_drew ?_ | refine blk_alloc ?_ _)); exact BK151.out⟩, ⟨by repeat (first | (with_reducible first | exact HB.out | apply below_alloc | apply pw_below_drewN | apply below_drew1 | refine below_set ?_ GE151.out) | exact HB.out)⟩⟩
                                                  · rw [if_neg c40] at H
                                                    exact absurd H (by simp)
                                                · rw [if_neg c39] at H
                                                  exact absurd H (by simp)
                                            · rw [if_neg c35] at H
                                              exact absurd H (by simp)
                                          · rw [if_neg c34] at H
                                            have c34b0 : decide (x11_3 < (a1.size : Int)) = false := decide_eq_false c34
                                            clear c34
                                            have H' := Aside0.mk H
                                            clear H
                                            go_wp2
                                            (try simp only [← hl8_3])
                                            go_roundg k3
                                            case measure => have := HK1.out; have := HK2.out; have := HK3.out; omega
                                            case rel => exact ⟨(x8_3), (wrap64 (x30_2 + 1)), (by first | rfl | (simp; done) | (simp [*]; done)), H', ⟨by have := HK1.out; have := HK2.out; have := HK3.out; omega⟩, ⟨by (try simp only [hl8_3]); (with_reducible repeat (first | apply Kd.R_alloc | apply Kd.R_drewN | apply Kd.R_drew)); exact HO_8.out⟩, ⟨by (try simp only [hl8_3]); (with_reducible repeat (first | apply Kd.R_alloc | apply Kd.R_drewN | apply Kd.R_drew)); exact HO_28.out⟩, ⟨by (try simp only [hl8_3]); (with_reducible repeat (first | refine blk_drewN ?_ _ | refine blk_drew ?_ | refine blk_alloc ?_ _)); exact BK151.out⟩, ⟨by repeat (first | (with_reducible first | exact HB.out | apply below_alloc | apply pw_below_drewN | apply below_drew1 | refine below_set ?_ GE151.out) | exact HB.out)⟩⟩
                                    · rw [if_neg c29] at H
                                      exact absurd H (by simp)
                                  · rw [if_neg c28] at H
                                    have c28b0 : ((rd_T38 l0 x20_1).f0) = false := by simpa using c28
                                    clear c28
                                    by_cases c46 : x30_2 < (a1.size : Int)
                                    · rw [if_pos c46] at H
                                      have c46b0 : decide (x30_2 < (a1.size : Int)) = true := decide_eq_true c46
                                      clear c46
                                      replace H := Option.bind_eq_some_iff.mp H
                                      obtain ⟨t159, A480, H⟩ := H
                                      replace H : (if t159 = true then (if 0 ≤ (wrap64 (x30_2 + 1)) then (if (wrap64 (x30_2 + 1)) < (x8_2.length : Int) then (glob_match.l1 k2 a1 (x8_2.set ((wrap64 (x30_2 + 1)) : Int).toNat true) l0 (l0.length : Int) x20_1 x5_1 (x5_1.length : Int) (wrap64 (x30_2 + 1)) ((rd_T38 l0 x20_1).f0) ((rd_T38 l0 x20_1).f1) ((rd_T38 l0 x20_1).f2)) else (none)) else (none)) else (glob_match.l1 k2 a1 x8_2 l0 (l0.length : Int) x20_1 x5_1 (x5_1.length : Int) (wrap64 (x30_2 + 1)) ((rd_T38 l0 x20_1).f0) ((rd_T38 l0 x20_1).f1) ((rd_T38 l0 x20_1).f2))) = some r := H
                                      have A48 := Aside0.mk A480
                                      clear A480
                                      by_cases c49 : t159 = true
                                      · subst c49
                                        have H1 : (if 0 ≤ (wrap64 (x30_2 + 1)) then (if (wrap64 (x30_2 + 1)) < (x8_2.length : Int) then (glob_match.l1 k2 a1 (x8_2.set ((wrap64 (x30_2 + 1)) : Int).toNat true) l0 (l0.length : Int) x20_1 x5_1 (x5_1.length : Int) (wrap64 (x30_2 + 1)) ((rd_T38 l0 x20_1).f0) ((rd_T38 l0 x20_1).f1) ((rd_T38 l0 x20_1).f2)) else (none)) else (none)) = some r := by rw [if_pos rfl] at H; exact H
                                        clear H
                                        have H := H1
                                        clear H1
                                        obtain ⟨ji50, hji50⟩ : ∃ j_ : Int, (wrap64 (x30_2 + 1)) = j_ := ⟨_, rfl⟩
                                        replace H : (if 0 ≤ (ji50) then (if (ji50) < (x8_2.length : Int) then (glob_match.l1 k2 a1 (x8_2.set ((ji50) : Int).toNat true) l0 (l0.length : Int) x20_1 x5_1 (x5_1.length : Int) ji50 ((rd_T38 l0 x20_1).f0) ((rd_T38 l0 x20_1).f1) ((rd_T38 l0 x20_1).f2)) else (none)) else (none)) = some r := by first | (rw [hji50] at H; exact H) | (simp only [hji50] at H ⊢; exact H)
                                        (try rw [hji50] at A48)
                                        have hji50w : (IntKind.i64.wrap (x30_2 + 1)) = ji50 := (i64_w _).trans hji50
                                        by_cases c51 : 0 ≤ (ji50)
                                        · rw [if_pos c51] at H
                                          have c51b0 : decide (0 ≤ (ji50)) = true := decide_eq_true c51
                                          clear c51
                                          by_cases c52 : (ji50) < (x8_2.length : Int)
                                          · rw [if_pos c52] at H
                                            have c52b0 : decide ((ji50) < (x8_2.length : Int)) = true := decide_eq_true c52
                                            clear c52
                                            obtain ⟨y160, hy160⟩ : ∃ y_ : List Bool, y_ = (x8_2.set ((ji50) : Int).toNat true) := ⟨_, rfl⟩
                                            replace H : (glob_match.l1 k2 a1 y160 l0 (l0.length : Int) x20_1 x5_1 (x5_1.length : Int) ji50 ((rd_T38 l0 x20_1).f0) ((rd_T38 l0 x20_1).f1) ((rd_T38 l0 x20_1).f2)) = some r := by first | (rw [hy160]; with_reducible exact H) | (have H2_ := (Option.bind_some _ _).symm.trans H; rw [hy160]; with_reducible exact H2_) | (have H2_ := (Option.bind_some _ _).symm.trans H; with_reducible exact H2_) | with_reducible exact H | (rw [hy160]; exact H) | exact H
                                            have Ny160 := Aside0.mk hy160
                                            clear hy160
                                            have H' := Aside0.mk H
                                            clear H
                                            have p155 : 0 ≤ (x30_2 : Int) := of_decide_eq_true (by first | (with_reducible assumption) | assumption)
                                            have q155 : x30_2 < (x5_1.length : Int) := of_decide_eq_true (by first | (with_reducible assumption) | assumption)
                                            obtain ⟨ad155, e155, hx155_0⟩ := Kd.at_bool (Kd.R_reads' HO_28.out).2.2 x30_2 p155 q155
                                            (try rw [← Nbq26.out] at hx155_0)
                                            cases e155
                                            replace p155 := eq_true p155
                                            replace q155 := eq_true q155
                                            have hcz54_0 : wr.cell? ⟨gb151, 0, none⟩ = some (.bool ((rd_T38 l0 x20_1).f0)) := (blk_cell BK151.out 0).trans rfl
                                            have hcz54_1 : wr.cell? ⟨gb151, 1, none⟩ = some (.bool ((rd_T38 l0 x20_1).f1)) := (blk_cell BK151.out 1).trans rfl
                                            have hcz54_2 : wr.cell? ⟨gb151, 2, none⟩ = some (.slice A150_2 ((rd_T38 l0 x20_1).f2).length c150_2) := (blk_cell BK151.out 2).trans rfl
                                            have hfz54_0 := blk_frozen BK151.out 0
                                            have hfz54_1 := blk_frozen BK151.out 1
                                            have hfz54_2 := blk_frozen BK151.out 2
                                            try go_wp2
                                            have n0_ := Aside0.mk (Kd.R_drew HO_8.out)
                                            have n1_ := Aside0.mk (Kd.R_drew HO_28.out)
                                            have n2_ := Aside0.mk (blk_drew BK151.out)
                                            have n3_ := Aside0.mk (below_drew1 HB.out)
                                            clear HO_8
                                            clear HO_28
                                            clear BK151
                                            clear HB
                                            have HO_8 := n0_
                                            have HO_28 := n1_
                                            have BK151 := n2_
                                            have HB := n3_
                                            clear n0_ n1_ n2_ n3_
                                            have p47 : 0 ≤ (x30_2 : Int) := of_decide_eq_true (by first | (with_reducible assumption) | assumption)
                                            have q47 : x30_2 < (a1.size : Int) := of_decide_eq_true (by first | (with_reducible assumption) | assumption)
                                            have hx47 := bt_at a1 x30_2
                                            replace p47 := eq_true p47
                                            replace q47 := eq_true q47
                                            refine start_ (n := 11) (S := fun w' => w'.cell? ⟨gb151, 0, none⟩ = some (.bool ((rd_T38 l0 x20_1).f0)) ∧ w'.cell? ⟨gb151, 1, none⟩ = some (.bool ((rd_T38 l0 x20_1).f1)) ∧ w'.cell? ⟨gb151, 2, none⟩ = some (.slice A150_2 ((rd_T38 l0 x20_1).f2).length c150_2)) (ds := []) #[false, false, false, false, false, false, false, false, false, false, false] (by kernel_rfl) rfl rfl ⟨(blk_cell BK151.out 0).trans rfl, (blk_cell BK151.out 1).trans rfl, (blk_cell BK151.out 2).trans rfl⟩ (fun hHeld => ?_); refine with_tabW glob_match.tab17 glob_match.bits17 (fun HT_ HW_ => ?_)
                                            generalize wr.drew = w55 at HO_8 HO_28 BK151 HB hHeld ⊢
                                            refine pure_ (i := 0) (N := some 70) (v := ?_) (a' := ?_) #[true, false, false, false, false, false, false, false, false, false, false] rfl rfl (any_of HT_.out (by kernel_rfl)) (fun _ _ _ h => h) (Or.inl ⟨by rfl, ?_⟩) ?_ ?_
                                            rotate_left
                                            · intro w'
                                              go_simp
                                              with_reducible rfl
                                            rotate_left
                                            · simp only [Act.put, List.setIfInBounds_toArray, List.set_cons_zero, List.set_cons_succ, i64_w, i32_w]
                                              rfl
                                            refine pure_ (i := 1) (N := some 71) (v := ?_) (a' := ?_) #[true, true, false, false, false, false, false, false, false, false, false] rfl rfl (any_of HT_.out (by kernel_rfl)) (fun _ _ _ h => h) (Or.inl ⟨by rfl, ?_⟩) ?_ ?_
                                            rotate_left
                                            · intro w'
                                              go_simp
                                              with_reducible rfl
                                            rotate_left
                                            · simp only [Act.put, List.setIfInBounds_toArray, List.set_cons_zero, List.set_cons_succ, i64_w, i32_w]
                                              rfl
                                            refine pure_ (i := 2) (N := some 72) (v := ?_) (a' := ?_) #[true, true, true, false, false, false, false, false, false, false, false] rfl rfl (any_of HT_.out (by kernel_rfl)) (fun _ _ _ h => h) (Or.inl ⟨by rfl, ?_⟩) ?_ ?_
                                            rotate_left
                                            · intro w'
                                              go_simp
                                              with_reducible rfl
                                            rotate_left
                                            · simp only [Act.put, List.setIfInBounds_toArray, List.set_cons_zero, List.set_cons_succ, i64_w, i32_w]
                                              rfl
                                            refine pure_ (i := 3) (N := some 73) (v := ?_) (a' := ?_) #[true, true, true, true, false, false, false, false, false, false, false] rfl rfl (any_of HT_.out (by kernel_rfl)) (fun _ _ _ h => h) (Or.inl ⟨by rfl, ?_⟩) ?_ ?_
                                            rotate_left
                                            · intro w'
                                              go_simp
                                              with_reducible rfl
                                            rotate_left
                                            · simp only [Act.put, List.setIfInBounds_toArray, List.set_cons_zero, List.set_cons_succ, i64_w, i32_w]
                                              rfl
                                            refine pure_ (i := 4) (N := some 74) (v := ?_) (a' := ?_) #[true, true, true, true, true, false, false, false, false, false, false] rfl rfl (any_of HT_.out (by kernel_rfl)) (fun _ _ _ h => h) (Or.inl ⟨by rfl, ?_⟩) ?_ ?_
                                            rotate_left
                                            · intro w'
                                              go_simp
                                              with_reducible rfl
                                            rotate_left
                                            · simp only [Act.put, List.setIfInBounds_toArray, List.set_cons_zero, List.set_cons_succ, i64_w, i32_w]
                                              rfl
                                            refine pure_ (i := 6) (N := some 76) (v := ?_) (a' := ?_) #[true, true, true, true, true, false, true, false, false, false, false] rfl rfl (any_of HT_.out (by kernel_rfl)) (fun _ _ _ h => h) (Or.inl ⟨by rfl, ?_⟩) ?_ ?_
                                            rotate_left
                                            · intro w'
                                              go_simp
                                              with_reducible rfl
                                            rotate_left
                                            · simp only [Act.put, List.setIfInBounds_toArray, List.set_cons_zero, List.set_cons_succ, i64_w, i32_w]
                                              rfl
                                            refine pure_ (i := 7) (N := some 77) (v := ?_) (a' := ?_) #[true, true, true, true, true, false, true, true, false, false, false] rfl rfl (any_of HT_.out (by kernel_rfl)) (fun _ _ _ h => h) (Or.inl ⟨by rfl, ?_⟩) ?_ ?_
                                            rotate_left
                                            · intro w'
                                              go_simp
                                              with_reducible rfl
                                            rotate_left
                                            · simp only [Act.put, List.setIfInBounds_toArray, List.set_cons_zero, List.set_cons_succ, i64_w, i32_w]
                                              rfl
                                            refine take_ (i := 5) (N := some 75) (v := ?_) (a' := ?_) #[true, true, true, true, true, true, true, true, false, false, false] rfl rfl (take_ofW HT_.out HW_.out (by kernel_rfl)) (fun _ _ _ h => h) (Or.inl ⟨by rfl, ?_⟩) hHeld ?_ ?_
                                            rotate_left
                                            · rintro w' ⟨s0, s1, s2⟩
                                              go_simp
                                              with_reducible rfl
                                            rotate_left
                                            · simp only [Act.put, List.setIfInBounds_toArray, List.set_cons_zero, List.set_cons_succ, i64_w, i32_w]
                                              rfl
                                            refine take_ (i := 8) (N := some 78) (v := ?_) (a' := ?_) #[true, true, true, true, true, true, true, true, true, false, false] rfl rfl (take_ofW HT_.out HW_.out (by kernel_rfl)) (fun _ _ _ h => h) (Or.inl ⟨by rfl, ?_⟩) hHeld ?_ ?_
                                            rotate_left
                                            · rintro w' ⟨s0, s1, s2⟩
                                              go_simp
                                              with_reducible rfl
                                            rotate_left
                                            · simp only [Act.put, List.setIfInBounds_toArray, List.set_cons_zero, List.set_cons_succ, i64_w, i32_w]
                                              rfl
                                            refine one_ (i := 9) (N := some 79) #[true, true, true, true, true, true, true, true, true, true, false] rfl rfl (one_of HT_.out (by kernel_rfl)) (by decide) (fun K hK => ?_)
                                            refine goes_ Try.func14 (by kernel_rfl) rfl #[.agg #[.bool ((rd_T38 l0 x20_1).f0), .bool ((rd_T38 l0 x20_1).f1), .slice A150_2 ((rd_T38 l0 x20_1).f2).length c150_2], .int .u8 (bt a1 x30_2)] (by rfl) rfl rfl (by (try simp only [List.map_toArray, List.map_cons, List.map_nil]); first | done | rfl | (rw [c28b0]; rfl) | (simp only [List.length_drop, List.length_take]; rfl)) ?_
                                            with_reducible refine (glob_part_holds.calls k2 ((rd_T38 l0 x20_1).f0) ((rd_T38 l0 x20_1).f1) _ _ ((rd_T38 l0 x20_1).f2) (bt a1 x30_2) true _ ?side1 ?side2 A48.out).mono ?_
                                            (case side1 => repeat (first | exact (Kd.C_below HR150_2.out HB.out) | (with_reducible refine Kd.C_alloc ?_ _) | (with_reducible refine Kd.C_drewN ?_ _) | (with_reducible refine Kd.C_drew ?_)))
                                            (case side2 => exact HC150_2.out)
                                            rintro e w56 ⟨rfl, hb⟩
                                            refine ⟨_, rfl, ?_⟩
                                            have n0_ := Aside0.mk (Kd.R_below (by (with_reducible repeat (first | apply Kd.R_alloc | apply Kd.R_drewN | apply Kd.R_drew)); exact HO_8.out) hb)
                                            have n1_ := Aside0.mk (Kd.R_below (by (with_reducible repeat (first | apply Kd.R_alloc | apply Kd.R_drewN | apply Kd.R_drew)); exact HO_28.out) hb)
                                            have n2_ := Aside0.mk (blk_below (g := gb151) (o := .cells #[.bool ((rd_T38 l0 x20_1).f0), .bool ((rd_T38 l0 x20_1).f1), .slice A150_2 ((rd_T38 l0 x20_1).f2).length c150_2] 38 (0, 0)) (by (with_reducible repeat (first | refine blk_drewN ?_ _ | refine blk_drew ?_ | refine blk_alloc ?_ _)); exact BK151.out) hb)
                                            have n3_ := Aside0.mk (below_step (by repeat (first | (with_reducible first | exact HB.out | apply below_alloc | apply pw_below_drewN | apply below_drew1 | refine below_set ?_ GE151.out) | exact HB.out)) hb)
                                            clear HO_8
                                            clear HO_28
                                            clear BK151
                                            clear HB
                                            have HO_8 := n0_
                                            have HO_28 := n1_
                                            have BK151 := n2_
                                            have HB := n3_
                                            clear n0_ n1_ n2_ n3_
                                            (try clear hb)
                                            (try clear hb2)
                                            (try clear hk)
                                            (try clear hi)
                                            refine hK.out _ _ ⟨(blk_cell BK151.out 0).trans rfl, (blk_cell BK151.out 1).trans rfl, (blk_cell BK151.out 2).trans rfl⟩ (fun hHeld => ?_)
                                            clear hK K
                                            refine norm_ (a' := ?_) ?_ ?_
                                            rotate_left
                                            · show Act.put _ (some 79) _ = _
                                              simp only [Act.put, List.setIfInBounds_toArray, List.set_cons_zero, List.set_cons_succ, i64_w, i32_w]
                                              rfl
                                            refine pure_ (i := 10) (N := some 80) (v := ?_) (a' := ?_) #[true, true, true, true, true, true, true, true, true, true, true] rfl rfl (any_of HT_.out (by kernel_rfl)) (fun _ _ _ h => h) (Or.inl ⟨by rfl, ?_⟩) ?_ ?_
                                            rotate_left
                                            · intro w'
                                              go_simp
                                              with_reducible rfl
                                            rotate_left
                                            · simp only [Act.put, List.setIfInBounds_toArray, List.set_cons_zero, List.set_cons_succ, i64_w, i32_w]
                                              rfl
                                            refine done_ (done_of HT_.out (by kernel_rfl)) ?_
                                            have p53 : 0 ≤ ((ji50) : Int) := of_decide_eq_true (by first | (with_reducible assumption) | assumption)
                                            have q53 : ((ji50) : Int) < ((x8_2.length : Int) : Int) := of_decide_eq_true (by first | (with_reducible assumption) | assumption)
                                            obtain ⟨go53, co53, eo53, gb53, gl53, cl53, HG53⟩ := Kd.R_form HO_8.out (by omega)
                                            (first | cases eo53 | (injection eo53 with ea_ en_ ec_; (first | subst ea_ | (injection ea_ with ea_; subst ea_)); subst ec_; clear en_))
                                            have GB53 := Aside0.mk gb53
                                            have GG53 := Aside0.mk HG53
                                            clear gb53 gl53 HG53
                                            obtain ⟨hx53_0, hf53_0⟩ := Kd.R_celln false HO_8.out ((ji50) : Int) p53 q53
                                            replace p53 := eq_true p53
                                            replace q53 := eq_true q53
                                            obtain ⟨hy57_, hz57_⟩ := Kd.R_celln false HO_8.out ((ji50) : Int) (of_decide_eq_true (by first | (with_reducible assumption) | assumption)) (of_decide_eq_true (by first | (with_reducible assumption) | assumption))
                                            have HP57 := Kd.R_putg HO_8.out ((ji50) : Int) true
                                            try go_wp2_with (first | ((with_reducible refine gate_store (t := 4) (p := 84) rfl ?_); refine store_event (t := 4) (p := 84) (v := ?vo_w58) (w1 := (w56.setCell ⟨go53, ((ji50) : Int).toNat, none⟩ (.bool true))) ?hg ?ho ?hn ?hr ?_; (case ho => rfl); (case hg => rfl); (case hn => rfl); (case hr => first | (go_simp; done) | (go_simp; rfl)); intro w58 hw; have hg : w56.grownBy w58 (some go53) := (by rw [hw]; exact HP57.2); have hp_ : Kd.R Kd.bool 4 w58 w.heap.size (fun k_ => some k_ ≠ (.slice (some ad155) x5_1.length co22 : Value).ownBlock) (.slice (some ⟨go53, 0, none⟩) x8_2.length co53) y160 := (by rw [hw, Ny160.out]; exact HP57.1); clear HP57; have n0_ := Aside0.mk (hp_); have n1_ := Aside0.mk (Kd.R_after (v := (.slice (some ⟨go53, 0, none⟩) x8_2.length co53)) (v1 := (.slice (some ⟨go53, 0, none⟩) x8_2.length co53)) (ok := (fun _ => True)) (by (with_reducible repeat (first | apply Kd.R_alloc | apply Kd.R_drewN | apply Kd.R_drew)); exact Kd.R_mono HO_28.out (fun _ hk => ⟨trivial, hk⟩)) hg (.inl rfl)); have n2_ := Aside0.mk (blk_grown (g := gb151) (o := .cells #[.bool ((rd_T38 l0 x20_1).f0), .bool ((rd_T38 l0 x20_1).f1), .slice A150_2 ((rd_T38 l0 x20_1).f2).length c150_2] 38 (0, 0)) (by (with_reducible repeat (first | refine blk_drewN ?_ _ | refine blk_drew ?_ | refine blk_alloc ?_ _)); exact BK151.out) hg (Kd.R_ne HO_8.out BK151.out (by decide))); have n3_ := Aside0.mk ((by rw [hw]; exact below_set (HB.out) GB53.out : Below w.heap.size w w58)); clear HO_8; clear HO_28; clear BK151; clear HB; have HO_8 := n0_; have HO_28 := n1_; have BK151 := n2_; have HB := n3_; clear n0_ n1_ n2_ n3_; clear hg hw hp_))
                                            go_roundg k2
                                            case measure => have := HK1.out; have := HK2.out; omega
                                            case rel => exact ⟨(y160), (ji50), (by first | rfl | (simp; done) | (simp only [← hji50] <;> (first | rfl | simp)) | (simp [*]; done)), H', ⟨by have := HK1.out; have := HK2.out; omega⟩, ⟨by (with_reducible repeat (first | apply Kd.R_alloc | apply Kd.R_drewN | apply Kd.R_drew)); exact HO_8.out⟩, ⟨by (with_reducible repeat (first | apply Kd.R_alloc | apply Kd.R_drewN | apply Kd.R_drew)); exact Kd.R_mono HO_28.out (fun _ hk => hk.2)⟩, ⟨by (with_reducible repeat (first | refine blk_drewN ?_ _ | refine blk_drew ?_ | refine blk_alloc ?_ _)); exact BK151.out⟩, ⟨by repeat (first | (with_reducible first | exact HB.out | apply below_alloc | apply pw_below_drewN | apply below_drew1 | refine below_set ?_ GE151.out) | exact HB.out)⟩⟩
                                          · rw [if_neg c52] at H
                                            exact absurd H (by simp)
                                        · rw [if_neg c51] at H
                                          exact absurd H (by simp)
                                      · replace c49 := Bool.eq_false_iff.mpr c49
                                        subst c49
                                        have H1 : (glob_match.l1 k2 a1 x8_2 l0 (l0.length : Int) x20_1 x5_1 (x5_1.length : Int) (wrap64 (x30_2 + 1)) ((rd_T38 l0 x20_1).f0) ((rd_T38 l0 x20_1).f1) ((rd_T38 l0 x20_1).f2)) = some r := by rw [if_neg (show ¬ (false = true) by decide)] at H; exact H
                                        clear H
                                        have H := H1
                                        clear H1
                                        have H' := Aside0.mk H
                                        clear H
                                        have p155 : 0 ≤ (x30_2 : Int) := of_decide_eq_true (by first | (with_reducible assumption) | assumption)
                                        have q155 : x30_2 < (x5_1.length : Int) := of_decide_eq_true (by first | (with_reducible assumption) | assumption)
                                        obtain ⟨ad155, e155, hx155_0⟩ := Kd.at_bool (Kd.R_reads' HO_28.out).2.2 x30_2 p155 q155
                                        (try rw [← Nbq26.out] at hx155_0)
                                        cases e155
                                        replace p155 := eq_true p155
                                        replace q155 := eq_true q155
                                        have hcz59_0 : wr.cell? ⟨gb151, 0, none⟩ = some (.bool ((rd_T38 l0 x20_1).f0)) := (blk_cell BK151.out 0).trans rfl
                                        have hcz59_1 : wr.cell? ⟨gb151, 1, none⟩ = some (.bool ((rd_T38 l0 x20_1).f1)) := (blk_cell BK151.out 1).trans rfl
                                        have hcz59_2 : wr.cell? ⟨gb151, 2, none⟩ = some (.slice A150_2 ((rd_T38 l0 x20_1).f2).length c150_2) := (blk_cell BK151.out 2).trans rfl
                                        have hfz59_0 := blk_frozen BK151.out 0
                                        have hfz59_1 := blk_frozen BK151.out 1
                                        have hfz59_2 := blk_frozen BK151.out 2
                                        try go_wp2
                                        have n0_ := Aside0.mk (Kd.R_drew HO_8.out)
                                        have n1_ := Aside0.mk (Kd.R_drew HO_28.out)
                                        have n2_ := Aside0.mk (blk_drew BK151.out)
                                        have n3_ := Aside0.mk (below_drew1 HB.out)
                                        clear HO_8
                                        clear HO_28
                                        clear BK151
                                        clear HB
                                        have HO_8 := n0_
                                        have HO_28 := n1_
                                        have BK151 := n2_
                                        have HB := n3_
                                        clear n0_ n1_ n2_ n3_
                                        have p47 : 0 ≤ (x30_2 : Int) := of_decide_eq_true (by first | (with_reducible assumption) | assumption)
                                        have q47 : x30_2 < (a1.size : Int) := of_decide_eq_true (by first | (with_reducible assumption) | assumption)
                                        have hx47 := bt_at a1 x30_2
                                        replace p47 := eq_true p47
                                        replace q47 := eq_true q47
                                        refine start_ (n := 11) (S := fun w' => w'.cell? ⟨gb151, 0, none⟩ = some (.bool ((rd_T38 l0 x20_1).f0)) ∧ w'.cell? ⟨gb151, 1, none⟩ = some (.bool ((rd_T38 l0 x20_1).f1)) ∧ w'.cell? ⟨gb151, 2, none⟩ = some (.slice A150_2 ((rd_T38 l0 x20_1).f2).length c150_2)) (ds := []) #[false, false, false, false, false, false, false, false, false, false, false] (by kernel_rfl) rfl rfl ⟨(blk_cell BK151.out 0).trans rfl, (blk_cell BK151.out 1).trans rfl, (blk_cell BK151.out 2).trans rfl⟩ (fun hHeld => ?_); refine with_tabW glob_match.tab17 glob_match.bits17 (fun HT_ HW_ => ?_)
                                        generalize wr.drew = w60 at HO_8 HO_28 BK151 HB hHeld ⊢
                                        refine pure_ (i := 0) (N := some 70) (v := ?_) (a' := ?_) #[true, false, false, false, false, false, false, false, false, false, false] rfl rfl (any_of HT_.out (by kernel_rfl)) (fun _ _ _ h => h) (Or.inl ⟨by rfl, ?_⟩) ?_ ?_
                                        rotate_left
                                        · intro w'
                                          go_simp
                                          with_reducible rfl
                                        rotate_left
                                        · simp only [Act.put, List.setIfInBounds_toArray, List.set_cons_zero, List.set_cons_succ, i64_w, i32_w]
                                          rfl
                                        refine pure_ (i := 1) (N := some 71) (v := ?_) (a' := ?_) #[true, true, false, false, false, false, false, false, false, false, false] rfl rfl (any_of HT_.out (by kernel_rfl)) (fun _ _ _ h => h) (Or.inl ⟨by rfl, ?_⟩) ?_ ?_
                                        rotate_left
                                        · intro w'
                                          go_simp
                                          with_reducible rfl
                                        rotate_left
                                        · simp only [Act.put, List.setIfInBounds_toArray, List.set_cons_zero, List.set_cons_succ, i64_w, i32_w]
                                          rfl
                                        refine pure_ (i := 2) (N := some 72) (v := ?_) (a' := ?_) #[true, true, true, false, false, false, false, false, false, false, false] rfl rfl (any_of HT_.out (by kernel_rfl)) (fun _ _ _ h => h) (Or.inl ⟨by rfl, ?_⟩) ?_ ?_
                                        rotate_left
                                        · intro w'
                                          go_simp
                                          with_reducible rfl
                                        rotate_left
                                        · simp only [Act.put, List.setIfInBounds_toArray, List.set_cons_zero, List.set_cons_succ, i64_w, i32_w]
                                          rfl
                                        refine pure_ (i := 3) (N := some 73) (v := ?_) (a' := ?_) #[true, true, true, true, false, false, false, false, false, false, false] rfl rfl (any_of HT_.out (by kernel_rfl)) (fun _ _ _ h => h) (Or.inl ⟨by rfl, ?_⟩) ?_ ?_
                                        rotate_left
                                        · intro w'
                                          go_simp
                                          with_reducible rfl
                                        rotate_left
                                        · simp only [Act.put, List.setIfInBounds_toArray, List.set_cons_zero, List.set_cons_succ, i64_w, i32_w]
                                          rfl
                                        refine pure_ (i := 4) (N := some 74) (v := ?_) (a' := ?_) #[true, true, true, true, true, false, false, false, false, false, false] rfl rfl (any_of HT_.out (by kernel_rfl)) (fun _ _ _ h => h) (Or.inl ⟨by rfl, ?_⟩) ?_ ?_
                                        rotate_left
                                        · intro w'
                                          go_simp
                                          with_reducible rfl
                                        rotate_left
                                        · simp only [Act.put, List.setIfInBounds_toArray, List.set_cons_zero, List.set_cons_succ, i64_w, i32_w]
                                          rfl
                                        refine pure_ (i := 6) (N := some 76) (v := ?_) (a' := ?_) #[true, true, true, true, true, false, true, false, false, false, false] rfl rfl (any_of HT_.out (by kernel_rfl)) (fun _ _ _ h => h) (Or.inl ⟨by rfl, ?_⟩) ?_ ?_
                                        rotate_left
                                        · intro w'
                                          go_simp
                                          with_reducible rfl
                                        rotate_left
                                        · simp only [Act.put, List.setIfInBounds_toArray, List.set_cons_zero, List.set_cons_succ, i64_w, i32_w]
                                          rfl
                                        refine pure_ (i := 7) (N := some 77) (v := ?_) (a' := ?_) #[true, true, true, true, true, false, true, true, false, false, false] rfl rfl (any_of HT_.out (by kernel_rfl)) (fun _ _ _ h => h) (Or.inl ⟨by rfl, ?_⟩) ?_ ?_
                                        rotate_left
                                        · intro w'
                                          go_simp
                                          with_reducible rfl
                                        rotate_left
                                        · simp only [Act.put, List.setIfInBounds_toArray, List.set_cons_zero, List.set_cons_succ, i64_w, i32_w]
                                          rfl
                                        refine take_ (i := 5) (N := some 75) (v := ?_) (a' := ?_) #[true, true, true, true, true, true, true, true, false, false, false] rfl rfl (take_ofW HT_.out HW_.out (by kernel_rfl)) (fun _ _ _ h => h) (Or.inl ⟨by rfl, ?_⟩) hHeld ?_ ?_
                                        rotate_left
                                        · rintro w' ⟨s0, s1, s2⟩
                                          go_simp
                                          with_reducible rfl
                                        rotate_left
                                        · simp only [Act.put, List.setIfInBounds_toArray, List.set_cons_zero, List.set_cons_succ, i64_w, i32_w]
                                          rfl
                                        refine take_ (i := 8) (N := some 78) (v := ?_) (a' := ?_) #[true, true, true, true, true, true, true, true, true, false, false] rfl rfl (take_ofW HT_.out HW_.out (by kernel_rfl)) (fun _ _ _ h => h) (Or.inl ⟨by rfl, ?_⟩) hHeld ?_ ?_
                                        rotate_left
                                        · rintro w' ⟨s0, s1, s2⟩
                                          go_simp
                                          with_reducible rfl
                                        rotate_left
                                        · simp only [Act.put, List.setIfInBounds_toArray, List.set_cons_zero, List.set_cons_succ, i64_w, i32_w]
                                          rfl
                                        refine one_ (i := 9) (N := some 79) #[true, true, true, true, true, true, true, true, true, true, false] rfl rfl (one_of HT_.out (by kernel_rfl)) (by decide) (fun K hK => ?_)
                                        refine goes_ Try.func14 (by kernel_rfl) rfl #[.agg #[.bool ((rd_T38 l0 x20_1).f0), .bool ((rd_T38 l0 x20_1).f1), .slice A150_2 ((rd_T38 l0 x20_1).f2).length c150_2], .int .u8 (bt a1 x30_2)] (by rfl) rfl rfl (by (try simp only [List.map_toArray, List.map_cons, List.map_nil]); first | done | rfl | (rw [c28b0]; rfl) | (simp only [List.length_drop, List.length_take]; rfl)) ?_
                                        with_reducible refine (glob_part_holds.calls k2 ((rd_T38 l0 x20_1).f0) ((rd_T38 l0 x20_1).f1) _ _ ((rd_T38 l0 x20_1).f2) (bt a1 x30_2) false _ ?side1 ?side2 A48.out).mono ?_
                                        (case side1 => repeat (first | exact (Kd.C_below HR150_2.out HB.out) | (with_reducible refine Kd.C_alloc ?_ _) | (with_reducible refine Kd.C_drewN ?_ _) | (with_reducible refine Kd.C_drew ?_)))
                                        (case side2 => exact HC150_2.out)
                                        rintro e w61 ⟨rfl, hb⟩
                                        refine ⟨_, rfl, ?_⟩
                                        have n0_ := Aside0.mk (Kd.R_below (by (with_reducible repeat (first | apply Kd.R_alloc | apply Kd.R_drewN | apply Kd.R_drew)); exact HO_8.out) hb)
                                        have n1_ := Aside0.mk (Kd.R_below (by (with_reducible repeat (first | apply Kd.R_alloc | apply Kd.R_drewN | apply Kd.R_drew)); exact HO_28.out) hb)
                                        have n2_ := Aside0.mk (blk_below (g := gb151) (o := .cells #[.bool ((rd_T38 l0 x20_1).f0), .bool ((rd_T38 l0 x20_1).f1), .slice A150_2 ((rd_T38 l0 x20_1).f2).length c150_2] 38 (0, 0)) (by (with_reducible repeat (first | refine blk_drewN ?_ _ | refine blk_drew ?_ | refine blk_alloc ?_ _)); exact BK151.out) hb)
                                        have n3_ := Aside0.mk (below_step (by repeat (first | (with_reducible first | exact HB.out | apply below_alloc | apply pw_below_drewN | apply below_drew1 | refine below_set ?_ GE151.out) | exact HB.out)) hb)
                                        clear HO_8
                                        clear HO_28
                                        clear BK151
                                        clear HB
                                        have HO_8 := n0_
                                        have HO_28 := n1_
                                        have BK151 := n2_
                                        have HB := n3_
                                        clear n0_ n1_ n2_ n3_
                                        (try clear hb)
                                        (try clear hb2)
                                        (try clear hk)
                                        (try clear hi)
                                        refine hK.out _ _ ⟨(blk_cell BK151.out 0).trans rfl, (blk_cell BK151.out 1).trans rfl, (blk_cell BK151.out 2).trans rfl⟩ (fun hHeld => ?_)
                                        clear hK K
                                        refine norm_ (a' := ?_) ?_ ?_
                                        rotate_left
                                        · show Act.put _ (some 79) _ = _
                                          simp only [Act.put, List.setIfInBounds_toArray, List.set_cons_zero, List.set_cons_succ, i64_w, i32_w]
                                          rfl
                                        refine pure_ (i := 10) (N := some 80) (v := ?_) (a' := ?_) #[true, true, true, true, true, true, true, true, true, true, true] rfl rfl (any_of HT_.out (by kernel_rfl)) (fun _ _ _ h => h) (Or.inl ⟨by rfl, ?_⟩) ?_ ?_
                                        rotate_left
                                        · intro w'
                                          go_simp
                                          with_reducible rfl
                                        rotate_left
                                        · simp only [Act.put, List.setIfInBounds_toArray, List.set_cons_zero, List.set_cons_succ, i64_w, i32_w]
                                          rfl
                                        refine done_ (done_of HT_.out (by kernel_rfl)) ?_
                                        try go_wp2
                                        go_roundg k2
                                        case measure => have := HK1.out; have := HK2.out; omega
                                        case rel => exact ⟨(x8_2), (wrap64 (x30_2 + 1)), (by first | rfl | (simp; done) | (simp [*]; done)), H', ⟨by have := HK1.out; have := HK2.out; omega⟩, ⟨by (with_reducible repeat (first | apply Kd.R_alloc | apply Kd.R_drewN | apply Kd.R_drew)); exact HO_8.out⟩, ⟨by (with_reducible repeat (first | apply Kd.R_alloc | apply Kd.R_drewN | apply Kd.R_drew)); exact HO_28.out⟩, ⟨by (with_reducible repeat (first | refine blk_drewN ?_ _ | refine blk_drew ?_ | refine blk_alloc ?_ _)); exact BK151.out⟩, ⟨by repeat (first | (with_reducible first | exact HB.out | apply below_alloc | apply pw_below_drewN | apply below_drew1 | refine below_set ?_ GE151.out) | exact HB.out)⟩⟩
                                    · rw [if_neg c46] at H
                                      have c46b0 : decide (x30_2 < (a1.size : Int)) = false := decide_eq_false c46
                                      clear c46
                                      have H' := Aside0.mk H
                                      clear H
                                      have p155 : 0 ≤ (x30_2 : Int) := of_decide_eq_true (by first | (with_reducible assumption) | assumption)
                                      have q155 : x30_2 < (x5_1.length : Int) := of_decide_eq_true (by first | (with_reducible assumption) | assumption)
                                      obtain ⟨ad155, e155, hx155_0⟩ := Kd.at_bool (Kd.R_reads' HO_28.out).2.2 x30_2 p155 q155
                                      (try rw [← Nbq26.out] at hx155_0)
                                      cases e155
                                      replace p155 := eq_true p155
                                      replace q155 := eq_true q155
                                      have hcz62_0 : wr.cell? ⟨gb151, 0, none⟩ = some (.bool ((rd_T38 l0 x20_1).f0)) := (blk_cell BK151.out 0).trans rfl
                                      have hcz62_1 : wr.cell? ⟨gb151, 1, none⟩ = some (.bool ((rd_T38 l0 x20_1).f1)) := (blk_cell BK151.out 1).trans rfl
                                      have hcz62_2 : wr.cell? ⟨gb151, 2, none⟩ = some (.slice A150_2 ((rd_T38 l0 x20_1).f2).length c150_2) := (blk_cell BK151.out 2).trans rfl
                                      have hfz62_0 := blk_frozen BK151.out 0
                                      have hfz62_1 := blk_frozen BK151.out 1
                                      have hfz62_2 := blk_frozen BK151.out 2
                                      try go_wp2
                                      have n0_ := Aside0.mk (Kd.R_drew HO_8.out)
                                      have n1_ := Aside0.mk (Kd.R_drew HO_28.out)
                                      have n2_ := Aside0.mk (blk_drew BK151.out)
                                      have n3_ := Aside0.mk (below_drew1 HB.out)
                                      clear HO_8
                                      clear HO_28
                                      clear BK151
                                      clear HB
                                      have HO_8 := n0_
                                      have HO_28 := n1_
                                      have BK151 := n2_
                                      have HB := n3_
                                      clear n0_ n1_ n2_ n3_
                                      refine start_ (n := 11) (S := fun w' => True) (ds := []) #[false, false, false, false, false, false, false, false, false, false, false] (by kernel_rfl) rfl rfl trivial (fun hHeld => ?_); refine with_tabW glob_match.tab17 glob_match.bits17 (fun HT_ HW_ => ?_)
                                      generalize wr.drew = w63 at HO_8 HO_28 BK151 HB hHeld ⊢
                                      refine pure_ (i := 0) (N := some 70) (v := ?_) (a' := ?_) #[true, false, false, false, false, false, false, false, false, false, false] rfl rfl (any_of HT_.out (by kernel_rfl)) (fun _ _ _ h => h) (Or.inl ⟨by rfl, ?_⟩) ?_ ?_
                                      rotate_left
                                      · intro w'
                                        go_simp
                                        with_reducible rfl
                                      rotate_left
                                      · simp only [Act.put, List.setIfInBounds_toArray, List.set_cons_zero, List.set_cons_succ, i64_w, i32_w]
                                        rfl
                                      refine pure_ (i := 1) (N := some 71) (v := ?_) (a' := ?_) #[true, true, false, false, false, false, false, false, false, false, false] rfl rfl (any_of HT_.out (by kernel_rfl)) (fun _ _ _ h => h) (Or.inl ⟨by rfl, ?_⟩) ?_ ?_
                                      rotate_left
                                      · intro w'
                                        go_simp
                                        with_reducible rfl
                                      rotate_left
                                      · simp only [Act.put, List.setIfInBounds_toArray, List.set_cons_zero, List.set_cons_succ, i64_w, i32_w]
                                        rfl
                                      refine pure_ (i := 2) (N := some 72) (v := ?_) (a' := ?_) #[true, true, true, false, false, false, false, false, false, false, false] rfl rfl (any_of HT_.out (by kernel_rfl)) (fun _ _ _ h => h) (Or.inl ⟨by rfl, ?_⟩) ?_ ?_
                                      rotate_left
                                      · intro w'
                                        go_simp
                                        with_reducible rfl
                                      rotate_left
                                      · simp only [Act.put, List.setIfInBounds_toArray, List.set_cons_zero, List.set_cons_succ, i64_w, i32_w]
                                        rfl
                                      refine pure_ (i := 3) (N := some 73) (v := ?_) (a' := ?_) #[true, true, true, true, false, false, false, false, false, false, false] rfl rfl (any_of HT_.out (by kernel_rfl)) (fun _ _ _ h => h) (Or.inl ⟨by rfl, ?_⟩) ?_ ?_
                                      rotate_left
                                      · intro w'
                                        go_simp
                                        with_reducible rfl
                                      rotate_left
                                      · simp only [Act.put, List.setIfInBounds_toArray, List.set_cons_zero, List.set_cons_succ, i64_w, i32_w]
                                        rfl
                                      refine pure_ (i := 4) (N := some 74) (v := ?_) (a' := ?_) #[true, true, true, true, true, false, false, false, false, false, false] rfl rfl (any_of HT_.out (by kernel_rfl)) (fun _ _ _ h => h) (Or.inl ⟨by rfl, ?_⟩) ?_ ?_
                                      rotate_left
                                      · intro w'
                                        go_simp
                                        with_reducible rfl
                                      rotate_left
                                      · simp only [Act.put, List.setIfInBounds_toArray, List.set_cons_zero, List.set_cons_succ, i64_w, i32_w]
                                        rfl
                                      refine pure_ (i := 5) (N := some 75) (v := undef) (a' := ?_) #[true, true, true, true, true, true, false, false, false, false, false] rfl rfl (any_of HT_.out (by kernel_rfl)) (fun _ _ _ h => h) (Or.inr ⟨by rfl, rfl⟩) ?_ ?_
                                      rotate_left
                                      · simp only [Act.put, List.setIfInBounds_toArray, List.set_cons_zero, List.set_cons_succ, i64_w, i32_w]
                                        rfl
                                      refine pure_ (i := 6) (N := some 76) (v := undef) (a' := ?_) #[true, true, true, true, true, true, true, false, false, false, false] rfl rfl (any_of HT_.out (by kernel_rfl)) (fun _ _ _ h => h) (Or.inr ⟨by rfl, rfl⟩) ?_ ?_
                                      rotate_left
                                      · simp only [Act.put, List.setIfInBounds_toArray, List.set_cons_zero, List.set_cons_succ, i64_w, i32_w]
                                        rfl
                                      refine pure_ (i := 7) (N := some 77) (v := undef) (a' := ?_) #[true, true, true, true, true, true, true, true, false, false, false] rfl rfl (any_of HT_.out (by kernel_rfl)) (fun _ _ _ h => h) (Or.inr ⟨by rfl, rfl⟩) ?_ ?_
                                      rotate_left
                                      · simp only [Act.put, List.setIfInBounds_toArray, List.set_cons_zero, List.set_cons_succ, i64_w, i32_w]
                                        rfl
                                      refine pure_ (i := 8) (N := some 78) (v := undef) (a' := ?_) #[true, true, true, true, true, true, true, true, true, false, false] rfl rfl (any_of HT_.out (by kernel_rfl)) (fun _ _ _ h => h) (Or.inr ⟨by rfl, rfl⟩) ?_ ?_
                                      rotate_left
                                      · simp only [Act.put, List.setIfInBounds_toArray, List.set_cons_zero, List.set_cons_succ, i64_w, i32_w]
                                        rfl
                                      refine pure_ (i := 9) (N := some 79) (v := undef) (a' := ?_) #[true, true, true, true, true, true, true, true, true, true, false] rfl rfl (any_of HT_.out (by kernel_rfl)) (fun _ _ _ h => h) (Or.inr ⟨by rfl, rfl⟩) ?_ ?_
                                      rotate_left
                                      · simp only [Act.put, List.setIfInBounds_toArray, List.set_cons_zero, List.set_cons_succ, i64_w, i32_w]
                                        rfl
                                      refine pure_ (i := 10) (N := some 80) (v := ?_) (a' := ?_) #[true, true, true, true, true, true, true, true, true, true, true] rfl rfl (any_of HT_.out (by kernel_rfl)) (fun _ _ _ h => h) (Or.inl ⟨by rfl, ?_⟩) ?_ ?_
                                      rotate_left
                                      · intro w'
                                        go_simp
                                        with_reducible rfl
                                      rotate_left
                                      · simp only [Act.put, List.setIfInBounds_toArray, List.set_cons_zero, List.set_cons_succ, i64_w, i32_w]
                                        rfl
                                      refine done_ (done_of HT_.out (by kernel_rfl)) ?_
                                      try go_wp2
                                      go_roundg k2
                                      case measure => have := HK1.out; have := HK2.out; omega
                                      case rel => exact ⟨(x8_2), (wrap64 (x30_2 + 1)), (by first | rfl | (simp; done) | (simp [*]; done)), H', ⟨by have := HK1.out; have := HK2.out; omega⟩, ⟨by (with_reducible repeat (first | apply Kd.R_alloc | apply Kd.R_drewN | apply Kd.R_drew)); exact HO_8.out⟩, ⟨by (with_reducible repeat (first | apply Kd.R_alloc | apply Kd.R_drewN | apply Kd.R_drew)); exact HO_28.out⟩, ⟨by (with_reducible repeat (first | refine blk_drewN ?_ _ | refine blk_drew ?_ | refine blk_alloc ?_ _)); exact BK151.out⟩, ⟨by repeat (first | (with_reducible first | exact HB.out | apply below_alloc | apply pw_below_drewN | apply below_drew1 | refine below_set ?_ GE151.out) | exact HB.out)⟩⟩
                                · replace c27 := Bool.eq_false_iff.mpr c27
                                  subst c27
                                  have H1 : (glob_match.l1 k2 a1 x8_2 l0 (l0.length : Int) x20_1 x5_1 (x5_1.length : Int) (wrap64 (x30_2 + 1)) ((rd_T38 l0 x20_1).f0) ((rd_T38 l0 x20_1).f1) ((rd_T38 l0 x20_1).f2)) = some r := by rw [if_neg (show ¬ (false = true) by decide)] at H; exact H
                                  clear H
                                  have H := H1
                                  clear H1
                                  have H' := Aside0.mk H
                                  clear H
                                  have p155 : 0 ≤ (x30_2 : Int) := of_decide_eq_true (by first | (with_reducible assumption) | assumption)
                                  have q155 : x30_2 < (x5_1.length : Int) := of_decide_eq_true (by first | (with_reducible assumption) | assumption)
                                  obtain ⟨ad155, e155, hx155_0⟩ := Kd.at_bool (Kd.R_reads' HO_28.out).2.2 x30_2 p155 q155
                                  (try rw [← Nbq26.out] at hx155_0)
                                  cases e155
                                  replace p155 := eq_true p155
                                  replace q155 := eq_true q155
                                  go_wp2
                                  go_roundg k2
                                  case measure => have := HK1.out; have := HK2.out; omega
                                  case rel => exact ⟨(x8_2), (wrap64 (x30_2 + 1)), (by first | rfl | (simp; done) | (simp [*]; done)), H', ⟨by have := HK1.out; have := HK2.out; omega⟩, ⟨by (with_reducible repeat (first | apply Kd.R_alloc | apply Kd.R_drewN | apply Kd.R_drew)); exact HO_8.out⟩, ⟨by (with_reducible repeat (first | apply Kd.R_alloc | apply Kd.R_drewN | apply Kd.R_drew)); exact HO_28.out⟩, ⟨by (with_reducible repeat (first | refine blk_drewN ?_ _ | refine blk_drew ?_ | refine blk_alloc ?_ _)); exact BK151.out⟩, ⟨by repeat (first | (with_reducible first | exact HB.out | apply below_alloc | apply pw_below_drewN | apply below_drew1 | refine below_set ?_ GE151.out) | exact HB.out)⟩⟩
                              · rw [if_neg c25] at H
                                exact absurd H (by simp)
                            · rw [if_neg c24] at H
                              exact absurd H (by simp)
                          · rw [if_neg c23] at H
                            have c23b0 : decide (x30_2 < (x5_1.length : Int)) = false := decide_eq_false c23
                            clear c23
                            have H' := Aside0.mk H
                            clear H
                            go_wp2
                            go_roundg k2
                            case measure => have := HK1.out; have := HK2.out; omega
                            case rel => exact ⟨(x8_2), (wrap64 (x20_1 + 1)), (by first | rfl | (simp; done) | (simp [*]; done)), H', ⟨by have := HK1.out; have := HK2.out; omega⟩, ⟨by (with_reducible repeat (first | apply Kd.R_alloc | apply Kd.R_drewN | apply Kd.R_drew)); exact Kd.R_mono HO_8.out (fun _ hk => trivial)⟩, ⟨by repeat (first | (with_reducible first | exact HB.out | apply below_alloc | apply pw_below_drewN | apply below_drew1 | refine below_set ?_ GE151.out) | exact HB.out)⟩⟩
                    · rw [if_neg c17] at H
                      exact absurd H (by simp)
                  · rw [if_neg c16] at H
                    exact absurd H (by simp)
                · rw [if_neg c14] at H
                  exact absurd H (by simp)
              · rw [if_neg c13] at H
                exact absurd H (by simp)
            · rw [if_neg c12] at H
              have c12b0 : decide (x20_1 < (l0.length : Int)) = false := decide_eq_false c12
              clear c12
              by_cases c64 : 0 ≤ (a1.size : Int)
              · rw [if_pos c64] at H
                have c64b0 : decide (0 ≤ (a1.size : Int)) = true := decide_eq_true c64
                have c64b1 : decide (0 ≤ a1.size) = true := decide_eq_true (by omega)
                clear c64
                by_cases c65 : (a1.size : Int) < (x5_1.length : Int)
                · rw [if_pos c65] at H
                  have c65b0 : decide ((a1.size : Int) < (x5_1.length : Int)) = true := decide_eq_true c65
                  have c65b1 : decide (a1.size < x5_1.length) = true := decide_eq_true (Int.ofNat_lt.mp c65)
                  clear c65
                  obtain rfl := Option.some.inj H
                  obtain ⟨Ao66, co66, eo66⟩ := Kd.R_slice HO_5.out
                  subst eo66
                  have p149 : 0 ≤ ((a1.size : Int) : Int) := of_decide_eq_true (by first | (with_reducible assumption) | assumption)
                  have q149 : (a1.size : Int) < (x5_1.length : Int) := of_decide_eq_true (by first | (with_reducible assumption) | assumption)
                  obtain ⟨ad149, e149, hx149_0⟩ := Kd.at_bool (Kd.R_reads' HO_5.out).2.2 (a1.size : Int) p149 q149
                  simp only [Int.toNat_natCast] at hx149_0
                  cases e149
                  replace p149 := eq_true p149
                  replace q149 := eq_true q149
                  go_wp2
                  go_ret
                  exact ⟨by first | rfl | (simp [errW_none, errW_some] <;> rfl) | (simp only [← hji3]; first | rfl | (simp [errW_none, errW_some] <;> rfl)) | (simp [*, errW_none, errW_some] <;> rfl), by repeat (first | (with_reducible first | exact HB.out | apply below_alloc | apply pw_below_drewN | apply below_drew1) | exact HB.out)⟩
                · rw [if_neg c65] at H
                  exact absurd H (by simp)
              · rw [if_neg c64] at H
                exact absurd H (by simp)
      · rw [if_neg c6] at H
        exact absurd H (by simp)
    · rw [if_neg c5] at H
      exact absurd H (by simp)
  · rw [if_neg c4] at H
    exact absurd H (by simp)

end Go.Proofs.Ytdcbmpjofacbhaa.PAll
