-- Written by a program of this session (a changed scratch copy of a tool of the kit); not a print of the kit's own.
import Derived.Test.YtfolmcfcmonkhaaDoorPAllx0
import Derived.Test.YtfolmcfcmonkhaaDoorPAllx2
import Derived.Test.YtfolmcfcmonkhaaDoorPAllxL
import Derived.Test.YtfolmcfcmonkhaaDoorPAllxF
namespace Go.Proofs.YtfolmcfcmonkhaaDoor.PAll
open Go.RowKit Go.Proofs.YtfolmcfcmonkhaaDoorW.PrintWords Go.Proofs.YtfolmcfcmonkhaaDoorW.PrintLast Go.Proofs.YtfolmcfcmonkhaaDoorW.PrintMore Go.Proofs.YtfolmcfcmonkhaaDoorMy Go.Proofs.YtfolmcfcmonkhaaDoor
attribute [local go_sem] max2_int min2_int max_two min_two max_three min_three max_four min_four   -- for this text's walks alone
set_option linter.unusedVariables false
set_option linter.unusedSimpArgs false

/-! ### seichelaw11_GolexSemis: function 5 -/
mutual
def seichelaw11_GolexSemis.l0 : Nat → ByteArray → List (S27) → List (S27) → Int → Int → Option (Bool)
  | 0, _, _, _, _, _ => none
  | k + 1, x0, x3, x15, x16, x17 => if x17 < x16 then (if 0 ≤ x17 then (if x17 < (x15.length : Int) then (if ((rd_T27 x15 x17).f0) = 6 then (seichelaw11_GolexSemis.j1 k x0 x3 x17 (((rd_T27 x15 x17).f1).toList == ([] : List UInt8)) x15 x16 x17 ((rd_T27 x15 x17).f0) ((rd_T27 x15 x17).f1) ((rd_T27 x15 x17).f2)) else (seichelaw11_GolexSemis.j1 k x0 x3 x17 false x15 x16 x17 ((rd_T27 x15 x17).f0) ((rd_T27 x15 x17).f1) ((rd_T27 x15 x17).f2))) else (none)) else (none)) else (some true)
def seichelaw11_GolexSemis.j1 : Nat → ByteArray → List (S27) → Int → Bool → List (S27) → Int → Int → Int → ByteArray → Int → Option (Bool)
  | 0, _, _, _, _, _, _, _, _, _, _ => none
  | k + 1, x0, x3, x4, x6, x15, x16, x17, x177000, x177001, x177002 => if x6 = true then (if x4 = 0 then (seichelaw11_GolexSemis.j2 k x0 x3 x4 x6 x15 x16 x17 true x177000 x177001 x177002) else (if 0 ≤ (wrap64 (x4 - 1)) then (if (wrap64 (x4 - 1)) < (x3.length : Int) then ((seicheref11_Feeds.f k ((rd_T27 x3 (wrap64 (x4 - 1))).f0) ((rd_T27 x3 (wrap64 (x4 - 1))).f1) ((rd_T27 x3 (wrap64 (x4 - 1))).f2)).bind fun t178 => (if t178 = true then (if x177002 < (x0.size : Int) then (if 0 ≤ x177002 then (if (bt x0 x177002) = 10 then (seichelaw11_GolexSemis.j2 k x0 x3 x4 x6 x15 x16 x17 false x177000 x177001 x177002) else (seichelaw11_GolexSemis.j2 k x0 x3 x4 x6 x15 x16 x17 ((bt x0 x177002) != 47) x177000 x177001 x177002)) else (none)) else (seichelaw11_GolexSemis.j2 k x0 x3 x4 x6 x15 x16 x17 false x177000 x177001 x177002)) else (seichelaw11_GolexSemis.j2 k x0 x3 x4 x6 x15 x16 x17 true x177000 x177001 x177002))) else (none)) else (none))) else (seichelaw11_GolexSemis.j2 k x0 x3 x4 x6 x15 x16 x17 false x177000 x177001 x177002)
def seichelaw11_GolexSemis.j2 : Nat → ByteArray → List (S27) → Int → Bool → List (S27) → Int → Int → Bool → Int → ByteArray → Int → Option (Bool)
  | 0, _, _, _, _, _, _, _, _, _, _, _ => none
  | k + 1, x0, x3, x4, x6, x15, x16, x17, x64, x177000, x177001, x177002 => if x64 = true then (some false) else (if x177000 = 0 then (if x4 > 0 then (if 0 ≤ (wrap64 (x4 - 1)) then (if (wrap64 (x4 - 1)) < (x3.length : Int) then ((seicheref11_Feeds.f k ((rd_T27 x3 (wrap64 (x4 - 1))).f0) ((rd_T27 x3 (wrap64 (x4 - 1))).f1) ((rd_T27 x3 (wrap64 (x4 - 1))).f2)).bind fun t180 => (seichelaw11_GolexSemis.j3 k x0 x3 x4 x6 x15 x16 x17 t180 x177000 x177001 x177002)) else (none)) else (none)) else (seichelaw11_GolexSemis.j3 k x0 x3 x4 x6 x15 x16 x17 false x177000 x177001 x177002)) else (seichelaw11_GolexSemis.j3 k x0 x3 x4 x6 x15 x16 x17 false x177000 x177001 x177002))
def seichelaw11_GolexSemis.j3 : Nat → ByteArray → List (S27) → Int → Bool → List (S27) → Int → Int → Bool → Int → ByteArray → Int → Option (Bool)
  | 0, _, _, _, _, _, _, _, _, _, _, _ => none
  | k + 1, x0, x3, x4, x6, x15, x16, x17, x79, x177000, x177001, x177002 => if x79 = true then (some false) else (if x4 > 0 then (if x6 = true then (seichelaw11_GolexSemis.j4 k x0 x3 x4 x15 x16 x17 false x177000 x177001 x177002) else (if x177000 = 7 then (seichelaw11_GolexSemis.j4 k x0 x3 x4 x15 x16 x17 false x177000 x177001 x177002) else (if 0 ≤ (wrap64 (x4 - 1)) then (if (wrap64 (x4 - 1)) < (x3.length : Int) then ((seicheref11_Feeds.f k ((rd_T27 x3 (wrap64 (x4 - 1))).f0) ((rd_T27 x3 (wrap64 (x4 - 1))).f1) ((rd_T27 x3 (wrap64 (x4 - 1))).f2)).bind fun t182 => (seichelaw11_GolexSemis.j4 k x0 x3 x4 x15 x16 x17 t182 x177000 x177001 x177002)) else (none)) else (none)))) else (seichelaw11_GolexSemis.j4 k x0 x3 x4 x15 x16 x17 false x177000 x177001 x177002))
def seichelaw11_GolexSemis.j4 : Nat → ByteArray → List (S27) → Int → List (S27) → Int → Int → Bool → Int → ByteArray → Int → Option (Bool)
  | 0, _, _, _, _, _, _, _, _, _, _ => none
  | k + 1, x0, x3, x4, x15, x16, x17, x98, x177000, x177001, x177002 => if x98 = true then (if 0 ≤ (wrap64 (x4 - 1)) then (if (wrap64 (x4 - 1)) < (x3.length : Int) then (seichelaw11_GolexSemis.l1 k x0 x3 (wrap64 (((rd_T27 x3 (wrap64 (x4 - 1))).f2) + (((rd_T27 x3 (wrap64 (x4 - 1))).f1).size : Int))) x15 x16 x17 x177000 x177001 x177002) else (none)) else (none)) else (seichelaw11_GolexSemis.l0 k x0 x3 x15 x16 (wrap64 (x17 + 1)))
def seichelaw11_GolexSemis.l1 : Nat → ByteArray → List (S27) → Int → List (S27) → Int → Int → Int → ByteArray → Int → Option (Bool)
  | 0, _, _, _, _, _, _, _, _, _ => none
  | k + 1, x0, x3, x7, x15, x16, x17, x177000, x177001, x177002 => if x7 < x177002 then (if 0 ≤ x7 then (if x7 < (x0.size : Int) then (if (bt x0 x7) = 10 then (some false) else (seichelaw11_GolexSemis.l1 k x0 x3 (wrap64 (x7 + 1)) x15 x16 x17 x177000 x177001 x177002)) else (none)) else (none)) else (seichelaw11_GolexSemis.l0 k x0 x3 x15 x16 (wrap64 (x17 + 1)))
end
def seichelaw11_GolexSemis.f (k : Nat) (a0 : ByteArray) : Option (Bool) := (seichelaw11_alive.f).bind fun t171 => (if t171 = true then (if (a0.size : Int) > 2048 then (some true) else ((golex_Lex.f a0).bind fun t172 => (seichelaw11_GolexSemis.l0 k a0 t172 t172 (t172.length : Int) 0))) else (some false))
theorem seichelaw11_GolexSemis.mono_l : ∀ k, (∀ y0 y1 y2 y3 y4, LeO (seichelaw11_GolexSemis.l0 k y0 y1 y2 y3 y4) (seichelaw11_GolexSemis.l0 (k + 1) y0 y1 y2 y3 y4)) ∧ (∀ y0 y1 y2 y3 y4 y5 y6 y7 y8 y9, LeO (seichelaw11_GolexSemis.j1 k y0 y1 y2 y3 y4 y5 y6 y7 y8 y9) (seichelaw11_GolexSemis.j1 (k + 1) y0 y1 y2 y3 y4 y5 y6 y7 y8 y9)) ∧ (∀ y0 y1 y2 y3 y4 y5 y6 y7 y8 y9 y10, LeO (seichelaw11_GolexSemis.j2 k y0 y1 y2 y3 y4 y5 y6 y7 y8 y9 y10) (seichelaw11_GolexSemis.j2 (k + 1) y0 y1 y2 y3 y4 y5 y6 y7 y8 y9 y10)) ∧ (∀ y0 y1 y2 y3 y4 y5 y6 y7 y8 y9 y10, LeO (seichelaw11_GolexSemis.j3 k y0 y1 y2 y3 y4 y5 y6 y7 y8 y9 y10) (seichelaw11_GolexSemis.j3 (k + 1) y0 y1 y2 y3 y4 y5 y6 y7 y8 y9 y10)) ∧ (∀ y0 y1 y2 y3 y4 y5 y6 y7 y8 y9, LeO (seichelaw11_GolexSemis.j4 k y0 y1 y2 y3 y4 y5 y6 y7 y8 y9) (seichelaw11_GolexSemis.j4 (k + 1) y0 y1 y2 y3 y4 y5 y6 y7 y8 y9)) ∧ (∀ y0 y1 y2 y3 y4 y5 y6 y7 y8, LeO (seichelaw11_GolexSemis.l1 k y0 y1 y2 y3 y4 y5 y6 y7 y8) (seichelaw11_GolexSemis.l1 (k + 1) y0 y1 y2 y3 y4 y5 y6 y7 y8))
  | 0 => ⟨fun _ _ _ _ _ r h => by simp [seichelaw11_GolexSemis.l0] at h, fun _ _ _ _ _ _ _ _ _ _ r h => by simp [seichelaw11_GolexSemis.j1] at h, fun _ _ _ _ _ _ _ _ _ _ _ r h => by simp [seichelaw11_GolexSemis.j2] at h, fun _ _ _ _ _ _ _ _ _ _ _ r h => by simp [seichelaw11_GolexSemis.j3] at h, fun _ _ _ _ _ _ _ _ _ _ r h => by simp [seichelaw11_GolexSemis.j4] at h, fun _ _ _ _ _ _ _ _ _ r h => by simp [seichelaw11_GolexSemis.l1] at h⟩
  | k + 1 => by
    obtain ⟨ih0, ih1, ih2, ih3, ih4, ih5⟩ := seichelaw11_GolexSemis.mono_l k
    refine ⟨?_, ?_, ?_, ?_, ?_, ?_⟩
    · intro y0 y1 y2 y3 y4
      unfold seichelaw11_GolexSemis.l0
      repeat' first
      | (with_reducible exact ih0 _ _ _ _ _)
      | (with_reducible exact ih1 _ _ _ _ _ _ _ _ _ _)
      | (with_reducible exact ih2 _ _ _ _ _ _ _ _ _ _ _)
      | (with_reducible exact ih3 _ _ _ _ _ _ _ _ _ _ _)
      | (with_reducible exact ih4 _ _ _ _ _ _ _ _ _ _)
      | (with_reducible exact ih5 _ _ _ _ _ _ _ _ _)
      | (with_reducible exact seicheref11_Feeds.mono _ _ _ _)
      | (with_reducible exact LeO.refl _)
      | (with_reducible exact LeO.none _)
      | (with_reducible refine LeO.ite ?_ ?_)
      | (with_reducible refine LeO.bind ?_ (fun _ => ?_))
      | exact ih0 _ _ _ _ _
      | exact ih1 _ _ _ _ _ _ _ _ _ _
      | exact ih2 _ _ _ _ _ _ _ _ _ _ _
      | exact ih3 _ _ _ _ _ _ _ _ _ _ _
      | exact ih4 _ _ _ _ _ _ _ _ _ _
      | exact ih5 _ _ _ _ _ _ _ _ _
      | exact seicheref11_Feeds.mono _ _ _ _
      | exact LeO.none _
      | refine LeO.ite ?_ ?_
      | refine LeO.bind ?_ (fun _ => ?_)
    · intro y0 y1 y2 y3 y4 y5 y6 y7 y8 y9
      unfold seichelaw11_GolexSemis.j1
      repeat' first
      | (with_reducible exact ih0 _ _ _ _ _)
      | (with_reducible exact ih1 _ _ _ _ _ _ _ _ _ _)
      | (with_reducible exact ih2 _ _ _ _ _ _ _ _ _ _ _)
      | (with_reducible exact ih3 _ _ _ _ _ _ _ _ _ _ _)
      | (with_reducible exact ih4 _ _ _ _ _ _ _ _ _ _)
      | (with_reducible exact ih5 _ _ _ _ _ _ _ _ _)
      | (with_reducible exact seicheref11_Feeds.mono _ _ _ _)
      | (with_reducible exact LeO.refl _)
      | (with_reducible exact LeO.none _)
      | (with_reducible refine LeO.ite ?_ ?_)
      | (with_reducible refine LeO.bind ?_ (fun _ => ?_))
      | exact ih0 _ _ _ _ _
      | exact ih1 _ _ _ _ _ _ _ _ _ _
      | exact ih2 _ _ _ _ _ _ _ _ _ _ _
      | exact ih3 _ _ _ _ _ _ _ _ _ _ _
      | exact ih4 _ _ _ _ _ _ _ _ _ _
      | exact ih5 _ _ _ _ _ _ _ _ _
      | exact seicheref11_Feeds.mono _ _ _ _
      | exact LeO.none _
      | refine LeO.ite ?_ ?_
      | refine LeO.bind ?_ (fun _ => ?_)
    · intro y0 y1 y2 y3 y4 y5 y6 y7 y8 y9 y10
      unfold seichelaw11_GolexSemis.j2
      repeat' first
      | (with_reducible exact ih0 _ _ _ _ _)
      | (with_reducible exact ih1 _ _ _ _ _ _ _ _ _ _)
      | (with_reducible exact ih2 _ _ _ _ _ _ _ _ _ _ _)
      | (with_reducible exact ih3 _ _ _ _ _ _ _ _ _ _ _)
      | (with_reducible exact ih4 _ _ _ _ _ _ _ _ _ _)
      | (with_reducible exact ih5 _ _ _ _ _ _ _ _ _)
      | (with_reducible exact seicheref11_Feeds.mono _ _ _ _)
      | (with_reducible exact LeO.refl _)
      | (with_reducible exact LeO.none _)
      | (with_reducible refine LeO.ite ?_ ?_)
      | (with_reducible refine LeO.bind ?_ (fun _ => ?_))
      | exact ih0 _ _ _ _ _
      | exact ih1 _ _ _ _ _ _ _ _ _ _
      | exact ih2 _ _ _ _ _ _ _ _ _ _ _
      | exact ih3 _ _ _ _ _ _ _ _ _ _ _
      | exact ih4 _ _ _ _ _ _ _ _ _ _
      | exact ih5 _ _ _ _ _ _ _ _ _
      | exact seicheref11_Feeds.mono _ _ _ _
      | exact LeO.none _
      | refine LeO.ite ?_ ?_
      | refine LeO.bind ?_ (fun _ => ?_)
    · intro y0 y1 y2 y3 y4 y5 y6 y7 y8 y9 y10
      unfold seichelaw11_GolexSemis.j3
      repeat' first
      | (with_reducible exact ih0 _ _ _ _ _)
      | (with_reducible exact ih1 _ _ _ _ _ _ _ _ _ _)
      | (with_reducible exact ih2 _ _ _ _ _ _ _ _ _ _ _)
      | (with_reducible exact ih3 _ _ _ _ _ _ _ _ _ _ _)
      | (with_reducible exact ih4 _ _ _ _ _ _ _ _ _ _)
      | (with_reducible exact ih5 _ _ _ _ _ _ _ _ _)
      | (with_reducible exact seicheref11_Feeds.mono _ _ _ _)
      | (with_reducible exact LeO.refl _)
      | (with_reducible exact LeO.none _)
      | (with_reducible refine LeO.ite ?_ ?_)
      | (with_reducible refine LeO.bind ?_ (fun _ => ?_))
      | exact ih0 _ _ _ _ _
      | exact ih1 _ _ _ _ _ _ _ _ _ _
      | exact ih2 _ _ _ _ _ _ _ _ _ _ _
      | exact ih3 _ _ _ _ _ _ _ _ _ _ _
      | exact ih4 _ _ _ _ _ _ _ _ _ _
      | exact ih5 _ _ _ _ _ _ _ _ _
      | exact seicheref11_Feeds.mono _ _ _ _
      | exact LeO.none _
      | refine LeO.ite ?_ ?_
      | refine LeO.bind ?_ (fun _ => ?_)
    · intro y0 y1 y2 y3 y4 y5 y6 y7 y8 y9
      unfold seichelaw11_GolexSemis.j4
      repeat' first
      | (with_reducible exact ih0 _ _ _ _ _)
      | (with_reducible exact ih1 _ _ _ _ _ _ _ _ _ _)
      | (with_reducible exact ih2 _ _ _ _ _ _ _ _ _ _ _)
      | (with_reducible exact ih3 _ _ _ _ _ _ _ _ _ _ _)
      | (with_reducible exact ih4 _ _ _ _ _ _ _ _ _ _)
      | (with_reducible exact ih5 _ _ _ _ _ _ _ _ _)
      | (with_reducible exact seicheref11_Feeds.mono _ _ _ _)
      | (with_reducible exact LeO.refl _)
      | (with_reducible exact LeO.none _)
      | (with_reducible refine LeO.ite ?_ ?_)
      | (with_reducible refine LeO.bind ?_ (fun _ => ?_))
      | exact ih0 _ _ _ _ _
      | exact ih1 _ _ _ _ _ _ _ _ _ _
      | exact ih2 _ _ _ _ _ _ _ _ _ _ _
      | exact ih3 _ _ _ _ _ _ _ _ _ _ _
      | exact ih4 _ _ _ _ _ _ _ _ _ _
      | exact ih5 _ _ _ _ _ _ _ _ _
      | exact seicheref11_Feeds.mono _ _ _ _
      | exact LeO.none _
      | refine LeO.ite ?_ ?_
      | refine LeO.bind ?_ (fun _ => ?_)
    · intro y0 y1 y2 y3 y4 y5 y6 y7 y8
      unfold seichelaw11_GolexSemis.l1
      repeat' first
      | (with_reducible exact ih0 _ _ _ _ _)
      | (with_reducible exact ih1 _ _ _ _ _ _ _ _ _ _)
      | (with_reducible exact ih2 _ _ _ _ _ _ _ _ _ _ _)
      | (with_reducible exact ih3 _ _ _ _ _ _ _ _ _ _ _)
      | (with_reducible exact ih4 _ _ _ _ _ _ _ _ _ _)
      | (with_reducible exact ih5 _ _ _ _ _ _ _ _ _)
      | (with_reducible exact seicheref11_Feeds.mono _ _ _ _)
      | (with_reducible exact LeO.refl _)
      | (with_reducible exact LeO.none _)
      | (with_reducible refine LeO.ite ?_ ?_)
      | (with_reducible refine LeO.bind ?_ (fun _ => ?_))
      | exact ih0 _ _ _ _ _
      | exact ih1 _ _ _ _ _ _ _ _ _ _
      | exact ih2 _ _ _ _ _ _ _ _ _ _ _
      | exact ih3 _ _ _ _ _ _ _ _ _ _ _
      | exact ih4 _ _ _ _ _ _ _ _ _ _
      | exact ih5 _ _ _ _ _ _ _ _ _
      | exact seicheref11_Feeds.mono _ _ _ _
      | exact LeO.none _
      | refine LeO.ite ?_ ?_
      | refine LeO.bind ?_ (fun _ => ?_)
theorem seichelaw11_GolexSemis.mono : ∀ a0 k, LeO (seichelaw11_GolexSemis.f k a0) (seichelaw11_GolexSemis.f (k + 1) a0) := by
  intro a0 k
  obtain ⟨ih0, ih1, ih2, ih3, ih4, ih5⟩ := seichelaw11_GolexSemis.mono_l k
  unfold seichelaw11_GolexSemis.f
  repeat' first
      | (with_reducible exact ih0 _ _ _ _ _)
      | (with_reducible exact ih1 _ _ _ _ _ _ _ _ _ _)
      | (with_reducible exact ih2 _ _ _ _ _ _ _ _ _ _ _)
      | (with_reducible exact ih3 _ _ _ _ _ _ _ _ _ _ _)
      | (with_reducible exact ih4 _ _ _ _ _ _ _ _ _ _)
      | (with_reducible exact ih5 _ _ _ _ _ _ _ _ _)
      | (with_reducible exact seicheref11_Feeds.mono _ _ _ _)
      | (with_reducible exact LeO.refl _)
      | (with_reducible exact LeO.none _)
      | (with_reducible refine LeO.ite ?_ ?_)
      | (with_reducible refine LeO.bind ?_ (fun _ => ?_))
      | exact ih0 _ _ _ _ _
      | exact ih1 _ _ _ _ _ _ _ _ _ _
      | exact ih2 _ _ _ _ _ _ _ _ _ _ _
      | exact ih3 _ _ _ _ _ _ _ _ _ _ _
      | exact ih4 _ _ _ _ _ _ _ _ _ _
      | exact ih5 _ _ _ _ _ _ _ _ _
      | exact seicheref11_Feeds.mono _ _ _ _
      | exact LeO.none _
      | refine LeO.ite ?_ ?_
      | refine LeO.bind ?_ (fun _ => ?_)
set_option maxHeartbeats 8000000 in
set_option maxRecDepth 100000 in
theorem seichelaw11_GolexSemis.calls (k : Nat) (a0 : ByteArray) (r : Bool) (w : World) (hT : Tabs w) (h : seichelaw11_GolexSemis.f k a0 = some r) :
    Calls Tryd.prog 5 #[.string a0] w fun e w' => e = .returned (.bool r) ∧ Below w.heap.size w w' := by
  have hu27 := Tryd.underlying27
  have HT := Aside0.mk hT; clear hT
  have HB := Aside0.mk (Below.refl w.heap.size w)
  have H : ((seichelaw11_alive.f).bind fun t171 => (if t171 = true then (if (a0.size : Int) > 2048 then (some true) else ((golex_Lex.f a0).bind fun t172 => (seichelaw11_GolexSemis.l0 k a0 t172 t172 (t172.length : Int) 0))) else (some false))) = some r := h
  clear h
  replace H := Option.bind_eq_some_iff.mp H
  obtain ⟨t171, A20, H⟩ := H
  replace H : (if t171 = true then (if (a0.size : Int) > 2048 then (some true) else ((golex_Lex.f a0).bind fun t172 => (seichelaw11_GolexSemis.l0 k a0 t172 t172 (t172.length : Int) 0))) else (some false)) = some r := H
  have A2 := Aside0.mk A20; clear A20
  by_cases c3 : t171 = true
  · subst c3
    have H1 : (if (a0.size : Int) > 2048 then (some true) else ((golex_Lex.f a0).bind fun t172 => (seichelaw11_GolexSemis.l0 k a0 t172 t172 (t172.length : Int) 0))) = some r := by rw [if_pos rfl] at H; exact H
    clear H
    have H := H1
    clear H1
    by_cases c4 : (a0.size : Int) > 2048
    · rw [if_pos c4] at H
      have c4b0 : decide (2048 < (a0.size : Int)) = true := decide_eq_true c4
      have c4b1 : decide (2048 < a0.size) = true := decide_eq_true (by omega)
      clear c4
      obtain rfl := Option.some.inj H
      go_enter Tryd.func5, Tryd.ntmps5
      go_wp2_with (first | (go_at_call 9; (with_reducible refine (seichelaw11_alive.calls  true _ ?side1 A2.out).mono ?_); (case side1 => exact Tabs.below HT.out (by repeat (first | (with_reducible first | exact HB.out | apply below_alloc | apply pw_below_drewN | apply below_drew1) | exact HB.out))); rintro e w5 ⟨rfl, hb⟩; have n0_ := Aside0.mk (below_step (by repeat (first | (with_reducible first | exact HB.out | apply below_alloc | apply pw_below_drewN | apply below_drew1) | exact HB.out)) hb); clear HB; have HB := n0_; clear n0_; (try clear hb); (try clear hb2); (try clear hk); (try clear hi)))
      repeat (go_quiet (first | (go_at_call 9; (with_reducible refine (seichelaw11_alive.calls  true _ ?side1 A2.out).mono ?_); (case side1 => exact Tabs.below HT.out (by repeat (first | (with_reducible first | exact HB.out | apply below_alloc | apply pw_below_drewN | apply below_drew1) | exact HB.out))); rintro e w5 ⟨rfl, hb⟩; have n0_ := Aside0.mk (below_step (by repeat (first | (with_reducible first | exact HB.out | apply below_alloc | apply pw_below_drewN | apply below_drew1) | exact HB.out)) hb); clear HB; have HB := n0_; clear n0_; (try clear hb); (try clear hb2); (try clear hk); (try clear hi))); try go_wp2_with (first | (go_at_call 9; (with_reducible refine (seichelaw11_alive.calls  true _ ?side1 A2.out).mono ?_); (case side1 => exact Tabs.below HT.out (by repeat (first | (with_reducible first | exact HB.out | apply below_alloc | apply pw_below_drewN | apply below_drew1) | exact HB.out))); rintro e w5 ⟨rfl, hb⟩; have n0_ := Aside0.mk (below_step (by repeat (first | (with_reducible first | exact HB.out | apply below_alloc | apply pw_below_drewN | apply below_drew1) | exact HB.out)) hb); clear HB; have HB := n0_; clear n0_; (try clear hb); (try clear hb2); (try clear hk); (try clear hi))))
      go_ret
      exact ⟨by first | rfl | (simp [errW_none, errW_some] <;> rfl) | (simp [*, errW_none, errW_some] <;> rfl), by repeat (first | (with_reducible first | exact HB.out | apply below_alloc | apply pw_below_drewN | apply below_drew1) | exact HB.out)⟩
    · rw [if_neg c4] at H
      have c4b0 : decide (2048 < (a0.size : Int)) = false := decide_eq_false c4
      have c4b1 : decide (2048 < a0.size) = false := decide_eq_false (by omega)
      clear c4
      replace H := Option.bind_eq_some_iff.mp H
      obtain ⟨t172, A60, H⟩ := H
      replace H : (seichelaw11_GolexSemis.l0 k a0 t172 t172 (t172.length : Int) 0) = some r := H
      have A6 := Aside0.mk A60; clear A60
      have H' := Aside0.mk H
      clear H
      go_enter Tryd.func5, Tryd.ntmps5
      go_wp2_with (first | (go_at_call 9; (with_reducible refine (seichelaw11_alive.calls  true _ ?side1 A2.out).mono ?_); (case side1 => exact Tabs.below HT.out (by repeat (first | (with_reducible first | exact HB.out | apply below_alloc | apply pw_below_drewN | apply below_drew1) | exact HB.out))); rintro e w7 ⟨rfl, hb⟩; have n0_ := Aside0.mk (below_step (by repeat (first | (with_reducible first | exact HB.out | apply below_alloc | apply pw_below_drewN | apply below_drew1) | exact HB.out)) hb); clear HB; have HB := n0_; clear n0_; (try clear hb); (try clear hb2); (try clear hk); (try clear hi)) | (go_at_call 11; (with_reducible refine (golex_Lex.calls a0 t172 _ ?side1 A6.out).mono ?_); (case side1 => exact Tabs.below HT.out (by repeat (first | (with_reducible first | exact HB.out | apply below_alloc | apply pw_below_drewN | apply below_drew1) | exact HB.out))); rintro e w8 ⟨v173, rfl, ho0, hb⟩; have n0_ := Aside0.mk (Kd.R_lower ho0 (below_size (by repeat (first | (with_reducible first | exact HB.out | apply below_alloc | apply pw_below_drewN | apply below_drew1) | exact HB.out)))); have n1_ := Aside0.mk (below_step (by repeat (first | (with_reducible first | exact HB.out | apply below_alloc | apply pw_below_drewN | apply below_drew1) | exact HB.out)) hb); clear HB; have HO174 := n0_; have HB := n1_; clear n0_ n1_; (try clear hb); (try clear hb2); (try clear hk); (try clear hi); (try clear ho0); obtain ⟨Ao9, co9, eo9⟩ := Kd.R_slice HO174.out; subst eo9))
      repeat (go_quiet (first | (go_at_call 9; (with_reducible refine (seichelaw11_alive.calls  true _ ?side1 A2.out).mono ?_); (case side1 => exact Tabs.below HT.out (by repeat (first | (with_reducible first | exact HB.out | apply below_alloc | apply pw_below_drewN | apply below_drew1) | exact HB.out))); rintro e w7 ⟨rfl, hb⟩; have n0_ := Aside0.mk (below_step (by repeat (first | (with_reducible first | exact HB.out | apply below_alloc | apply pw_below_drewN | apply below_drew1) | exact HB.out)) hb); clear HB; have HB := n0_; clear n0_; (try clear hb); (try clear hb2); (try clear hk); (try clear hi)) | (go_at_call 11; (with_reducible refine (golex_Lex.calls a0 t172 _ ?side1 A6.out).mono ?_); (case side1 => exact Tabs.below HT.out (by repeat (first | (with_reducible first | exact HB.out | apply below_alloc | apply pw_below_drewN | apply below_drew1) | exact HB.out))); rintro e w8 ⟨v173, rfl, ho0, hb⟩; have n0_ := Aside0.mk (Kd.R_lower ho0 (below_size (by repeat (first | (with_reducible first | exact HB.out | apply below_alloc | apply pw_below_drewN | apply below_drew1) | exact HB.out)))); have n1_ := Aside0.mk (below_step (by repeat (first | (with_reducible first | exact HB.out | apply below_alloc | apply pw_below_drewN | apply below_drew1) | exact HB.out)) hb); clear HB; have HO174 := n0_; have HB := n1_; clear n0_ n1_; (try clear hb); (try clear hb2); (try clear hk); (try clear hi); (try clear ho0); obtain ⟨Ao9, co9, eo9⟩ := Kd.R_slice HO174.out; subst eo9)); try go_wp2_with (first | (go_at_call 9; (with_reducible refine (seichelaw11_alive.calls  true _ ?side1 A2.out).mono ?_); (case side1 => exact Tabs.below HT.out (by repeat (first | (with_reducible first | exact HB.out | apply below_alloc | apply pw_below_drewN | apply below_drew1) | exact HB.out))); rintro e w7 ⟨rfl, hb⟩; have n0_ := Aside0.mk (below_step (by repeat (first | (with_reducible first | exact HB.out | apply below_alloc | apply pw_below_drewN | apply below_drew1) | exact HB.out)) hb); clear HB; have HB := n0_; clear n0_; (try clear hb); (try clear hb2); (try clear hk); (try clear hi)) | (go_at_call 11; (with_reducible refine (golex_Lex.calls a0 t172 _ ?side1 A6.out).mono ?_); (case side1 => exact Tabs.below HT.out (by repeat (first | (with_reducible first | exact HB.out | apply below_alloc | apply pw_below_drewN | apply below_drew1) | exact HB.out))); rintro e w8 ⟨v173, rfl, ho0, hb⟩; have n0_ := Aside0.mk (Kd.R_lower ho0 (below_size (by repeat (first | (with_reducible first | exact HB.out | apply below_alloc | apply pw_below_drewN | apply below_drew1) | exact HB.out)))); have n1_ := Aside0.mk (below_step (by repeat (first | (with_reducible first | exact HB.out | apply below_alloc | apply pw_below_drewN | apply below_drew1) | exact HB.out)) hb); clear HB; have HO174 := n0_; have HB := n1_; clear n0_ n1_; (try clear hb); (try clear hb2); (try clear hk); (try clear hi); (try clear ho0); obtain ⟨Ao9, co9, eo9⟩ := Kd.R_slice HO174.out; subst eo9)))
      go_loopg [17] k (fun kq v17 w' => ∃ (x17_1 : Int), v17 = .int .i64 x17_1 ∧ Aside0 (seichelaw11_GolexSemis.l0 kq a0 t172 t172 (t172.length : Int) x17_1 = some r) ∧ Aside0 (kq ≤ k) ∧ Aside0 (Kd.R k27 27 w' w.heap.size (fun _ => True) (.slice Ao9 t172.length co9) t172) ∧ Aside0 (Kd.R k27 27 w' w.heap.size (fun _ => True) (.slice Ao9 t172.length co9) t172) ∧ Aside0 (Below w.heap.size w w'))
      case atStart => exact ⟨(0), (by first | rfl | (simp; done) | (simp [*]; done)), H', ⟨Nat.le_refl _⟩, ⟨by (with_reducible repeat (first | apply Kd.R_alloc | apply Kd.R_drewN | apply Kd.R_drew)); exact HO174.out⟩, ⟨by (with_reducible repeat (first | apply Kd.R_alloc | apply Kd.R_drewN | apply Kd.R_drew)); exact HO174.out⟩, ⟨by repeat (first | (with_reducible first | exact HB.out | apply below_alloc | apply pw_below_drewN | apply below_drew1) | exact HB.out)⟩⟩
      case round =>
        clear H'
        (try clear p2); (try clear c3); (try clear c4); (try clear c4b0); (try clear c4b1); (try clear c5); obtain ⟨x17_1, rfl, HA, HK1, HO_3, HO_15, HB⟩ := hrel
        cases gk with
        | zero => exact absurd HA.out (by simp [seichelaw11_GolexSemis.l0])
        | succ k1 =>
          have H := HA.out
          clear HA
          simp only [seichelaw11_GolexSemis.l0] at H
          by_cases c10 : x17_1 < (t172.length : Int)
          · rw [if_pos c10] at H
            have c10b0 : decide (x17_1 < (t172.length : Int)) = true := decide_eq_true c10
            clear c10
            by_cases c11 : 0 ≤ x17_1
            · rw [if_pos c11] at H
              have c11b0 : decide (0 ≤ x17_1) = true := decide_eq_true c11
              clear c11
              by_cases c12 : x17_1 < (t172.length : Int)
              · rw [if_pos c12] at H
                have c12b0 : decide (x17_1 < (t172.length : Int)) = true := decide_eq_true c12
                clear c12; have HC13 := Aside0.mk H; clear H
                have p175 : 0 ≤ (x17_1 : Int) := of_decide_eq_true (by first | (with_reducible assumption) | assumption)
                have q175 : x17_1 < (t172.length : Int) := of_decide_eq_true (by first | (with_reducible assumption) | assumption)
                obtain ⟨ad175, e175, hx175_0, hx175_1, hx175_2⟩ := at_T27 (Kd.R_reads' HO_15.out).2.2 x17_1 p175 q175
                cases e175
                replace p175 := eq_true p175; replace q175 := eq_true q175
                go_upto_region 9 with (first | ((with_reducible refine gate_dst (N := 5) rfl ?_); (try (refine gate_guard (by rfl) ?_; dsimp only)); refine box_event ?hg (N := 5) ?hd (cs := #[.int .i64 0, .string (⟨#[]⟩ : ByteArray), .int .i64 0]) (t := 27) ?hr ?_; (case hd => rfl); (case hg => rfl); (case hr => first | (go_simp; done) | (go_simp; rfl)); intro gb176 hg w14 hbox hb; have n0_ := Aside0.mk (Kd.R_below (Kd.R_elderB (by (with_reducible repeat (first | apply Kd.R_alloc | apply Kd.R_drewN | apply Kd.R_drew)); exact HO_3.out) gb176 (Nat.le_of_eq hg.symm)) hb); have n1_ := Aside0.mk (Kd.R_below (Kd.R_elderB (by (with_reducible repeat (first | apply Kd.R_alloc | apply Kd.R_drewN | apply Kd.R_drew)); exact HO_15.out) gb176 (Nat.le_of_eq hg.symm)) hb); have n2_ := Aside0.mk (below_step (by repeat (first | (with_reducible first | exact HB.out | apply below_alloc | apply pw_below_drewN | apply below_drew1) | exact HB.out)) hb); have n3_ := Aside0.mk (hbox); have n4_ := Aside0.mk ((by rw [hg]; exact (below_size (by repeat (first | (with_reducible first | exact HB.out | apply below_alloc | apply pw_below_drewN | apply below_drew1) | exact HB.out))) : w.heap.size ≤ gb176)); have n5_ := Aside0.mk ((by rw [hg]; exact (below_size (by repeat (first | (with_reducible first | exact HB.out | apply below_alloc | apply pw_below_drewN | apply below_drew1) | exact HB.out))) : w.heap.size ≤ gb176)); clear HO_3; clear HO_15; clear HB; have HO_3 := n0_; have HO_15 := n1_; have HB := n2_; have BK176 := n3_; have GW176 := n4_; have GE176 := n5_; clear n0_ n1_ n2_ n3_ n4_ n5_; clear hb hbox hg; have hcz15_0 : w14.cell? ⟨gb176, 0, none⟩ = some (.int .i64 0) := (blk_cell BK176.out 0).trans rfl; have hcz15_1 : w14.cell? ⟨gb176, 1, none⟩ = some (.string (⟨#[]⟩ : ByteArray)) := (blk_cell BK176.out 1).trans rfl; have hcz15_2 : w14.cell? ⟨gb176, 2, none⟩ = some (.int .i64 0) := (blk_cell BK176.out 2).trans rfl; have hfz15_0 := blk_frozen BK176.out 0; have hfz15_1 := blk_frozen BK176.out 1; have hfz15_2 := blk_frozen BK176.out 2))
                repeat (go_quiet (first | ((with_reducible refine gate_dst (N := 5) rfl ?_); (try (refine gate_guard (by rfl) ?_; dsimp only)); refine box_event ?hg (N := 5) ?hd (cs := #[.int .i64 0, .string (⟨#[]⟩ : ByteArray), .int .i64 0]) (t := 27) ?hr ?_; (case hd => rfl); (case hg => rfl); (case hr => first | (go_simp; done) | (go_simp; rfl)); intro gb176 hg w14 hbox hb; have n0_ := Aside0.mk (Kd.R_below (Kd.R_elderB (by (with_reducible repeat (first | apply Kd.R_alloc | apply Kd.R_drewN | apply Kd.R_drew)); exact HO_3.out) gb176 (Nat.le_of_eq hg.symm)) hb); have n1_ := Aside0.mk (Kd.R_below (Kd.R_elderB (by (with_reducible repeat (first | apply Kd.R_alloc | apply Kd.R_drewN | apply Kd.R_drew)); exact HO_15.out) gb176 (Nat.le_of_eq hg.symm)) hb); have n2_ := Aside0.mk (below_step (by repeat (first | (with_reducible first | exact HB.out | apply below_alloc | apply pw_below_drewN | apply below_drew1) | exact HB.out)) hb); have n3_ := Aside0.mk (hbox); have n4_ := Aside0.mk ((by rw [hg]; exact (below_size (by repeat (first | (with_reducible first | exact HB.out | apply below_alloc | apply pw_below_drewN | apply below_drew1) | exact HB.out))) : w.heap.size ≤ gb176)); have n5_ := Aside0.mk ((by rw [hg]; exact (below_size (by repeat (first | (with_reducible first | exact HB.out | apply below_alloc | apply pw_below_drewN | apply below_drew1) | exact HB.out))) : w.heap.size ≤ gb176)); clear HO_3; clear HO_15; clear HB; have HO_3 := n0_; have HO_15 := n1_; have HB := n2_; have BK176 := n3_; have GW176 := n4_; have GE176 := n5_; clear n0_ n1_ n2_ n3_ n4_ n5_; clear hb hbox hg; have hcz15_0 : w14.cell? ⟨gb176, 0, none⟩ = some (.int .i64 0) := (blk_cell BK176.out 0).trans rfl; have hcz15_1 : w14.cell? ⟨gb176, 1, none⟩ = some (.string (⟨#[]⟩ : ByteArray)) := (blk_cell BK176.out 1).trans rfl; have hcz15_2 : w14.cell? ⟨gb176, 2, none⟩ = some (.int .i64 0) := (blk_cell BK176.out 2).trans rfl; have hfz15_0 := blk_frozen BK176.out 0; have hfz15_1 := blk_frozen BK176.out 1; have hfz15_2 := blk_frozen BK176.out 2)); go_upto_region 9 with (first | ((with_reducible refine gate_dst (N := 5) rfl ?_); (try (refine gate_guard (by rfl) ?_; dsimp only)); refine box_event ?hg (N := 5) ?hd (cs := #[.int .i64 0, .string (⟨#[]⟩ : ByteArray), .int .i64 0]) (t := 27) ?hr ?_; (case hd => rfl); (case hg => rfl); (case hr => first | (go_simp; done) | (go_simp; rfl)); intro gb176 hg w14 hbox hb; have n0_ := Aside0.mk (Kd.R_below (Kd.R_elderB (by (with_reducible repeat (first | apply Kd.R_alloc | apply Kd.R_drewN | apply Kd.R_drew)); exact HO_3.out) gb176 (Nat.le_of_eq hg.symm)) hb); have n1_ := Aside0.mk (Kd.R_below (Kd.R_elderB (by (with_reducible repeat (first | apply Kd.R_alloc | apply Kd.R_drewN | apply Kd.R_drew)); exact HO_15.out) gb176 (Nat.le_of_eq hg.symm)) hb); have n2_ := Aside0.mk (below_step (by repeat (first | (with_reducible first | exact HB.out | apply below_alloc | apply pw_below_drewN | apply below_drew1) | exact HB.out)) hb); have n3_ := Aside0.mk (hbox); have n4_ := Aside0.mk ((by rw [hg]; exact (below_size (by repeat (first | (with_reducible first | exact HB.out | apply below_alloc | apply pw_below_drewN | apply below_drew1) | exact HB.out))) : w.heap.size ≤ gb176)); have n5_ := Aside0.mk ((by rw [hg]; exact (below_size (by repeat (first | (with_reducible first | exact HB.out | apply below_alloc | apply pw_below_drewN | apply below_drew1) | exact HB.out))) : w.heap.size ≤ gb176)); clear HO_3; clear HO_15; clear HB; have HO_3 := n0_; have HO_15 := n1_; have HB := n2_; have BK176 := n3_; have GW176 := n4_; have GE176 := n5_; clear n0_ n1_ n2_ n3_ n4_ n5_; clear hb hbox hg; have hcz15_0 : w14.cell? ⟨gb176, 0, none⟩ = some (.int .i64 0) := (blk_cell BK176.out 0).trans rfl; have hcz15_1 : w14.cell? ⟨gb176, 1, none⟩ = some (.string (⟨#[]⟩ : ByteArray)) := (blk_cell BK176.out 1).trans rfl; have hcz15_2 : w14.cell? ⟨gb176, 2, none⟩ = some (.int .i64 0) := (blk_cell BK176.out 2).trans rfl; have hfz15_0 := blk_frozen BK176.out 0; have hfz15_1 := blk_frozen BK176.out 1; have hfz15_2 := blk_frozen BK176.out 2)))
                (try simp only [Act.put, List.setIfInBounds_toArray, List.set_cons_zero, List.set_cons_succ])
                go_cut [6] (fun v6 wc => ∃ (kq : Nat) (x6_12 : Bool), v6 = .bool x6_12 ∧ Aside0 (seichelaw11_GolexSemis.j1 kq a0 t172 x17_1 x6_12 t172 (t172.length : Int) x17_1 ((rd_T27 t172 x17_1).f0) ((rd_T27 t172 x17_1).f1) ((rd_T27 t172 x17_1).f2) = some r) ∧ Aside0 (kq ≤ k1) ∧ Aside0 (Kd.R k27 27 wc w.heap.size (fun k_ => k_ ≠ gb176) (.slice (some ad175) t172.length co9) t172) ∧ Aside0 (Kd.R k27 27 wc w.heap.size (fun k_ => k_ ≠ gb176) (.slice (some ad175) t172.length co9) t172) ∧ Aside0 (wc.heap[gb176]? = some (.cells #[.int .i64 ((rd_T27 t172 x17_1).f0), .string ((rd_T27 t172 x17_1).f1), .int .i64 ((rd_T27 t172 x17_1).f2)] 27 (0, 0))) ∧ Aside0 (Below w.heap.size w wc))
                case first =>
                  have H := HC13.out
                  clear HC13
                  by_cases c16 : ((rd_T27 t172 x17_1).f0) = 6
                  · rw [if_pos c16] at H
                    have c16b0 : (((rd_T27 t172 x17_1).f0) == 6) = true := beq_iff_eq.mpr c16
                    have c16b1 : (((rd_T27 t172 x17_1).f0) != 6) = false := bne_eq_false_iff_eq.mpr c16
                    clear c16
                    (first | rw [c16b0] | (simp only [i64_w, i32_w]; rw [c16b0]) | skip)
                    have H' := Aside0.mk H
                    clear H
                    have hcz17_0 : w14.cell? ⟨gb176, 0, none⟩ = some (.int .i64 0) := (blk_cell BK176.out 0).trans rfl
                    have hcz17_1 : w14.cell? ⟨gb176, 1, none⟩ = some (.string (⟨#[]⟩ : ByteArray)) := (blk_cell BK176.out 1).trans rfl
                    have hcz17_2 : w14.cell? ⟨gb176, 2, none⟩ = some (.int .i64 0) := (blk_cell BK176.out 2).trans rfl
                    have hfz17_0 := blk_frozen BK176.out 0; have hfz17_1 := blk_frozen BK176.out 1; have hfz17_2 := blk_frozen BK176.out 2
                    go_wp2
                    repeat (go_quiet (fail); try go_wp2)
                    go_meet
                    case rel => exact ⟨_, ((((rd_T27 t172 x17_1).f1).toList == ([] : List UInt8))), (by first | rfl | (simp; done) | (simp [*]; done)), H', ⟨by have := HK1.out; first | omega | exact Nat.le_refl _⟩, ⟨by (with_reducible repeat (first | apply Kd.R_alloc | apply Kd.R_drewN | apply Kd.R_drew)); exact Kd.R_mono (Kd.R_far (p := ⟨gb176, 2, none⟩) (Kd.R_far (p := ⟨gb176, 1, none⟩) (Kd.R_far (p := ⟨gb176, 0, none⟩) (Kd.R_mono HO_3.out (fun k_ hk => (⟨hk, hk.2⟩ : _ ∧ k_ ≠ gb176))) (fun _ hk => hk.2) (.int .i64 ((rd_T27 t172 x17_1).f0))) (fun _ hk => hk.2) (.string ((rd_T27 t172 x17_1).f1))) (fun _ hk => hk.2) (.int .i64 ((rd_T27 t172 x17_1).f2))) (fun _ hk => hk.1.2)⟩, ⟨by (with_reducible repeat (first | apply Kd.R_alloc | apply Kd.R_drewN | apply Kd.R_drew)); exact Kd.R_mono (Kd.R_far (p := ⟨gb176, 2, none⟩) (Kd.R_far (p := ⟨gb176, 1, none⟩) (Kd.R_far (p := ⟨gb176, 0, none⟩) (Kd.R_mono HO_15.out (fun k_ hk => (⟨hk, hk.2⟩ : _ ∧ k_ ≠ gb176))) (fun _ hk => hk.2) (.int .i64 ((rd_T27 t172 x17_1).f0))) (fun _ hk => hk.2) (.string ((rd_T27 t172 x17_1).f1))) (fun _ hk => hk.2) (.int .i64 ((rd_T27 t172 x17_1).f2))) (fun _ hk => hk.1.2)⟩, ⟨by (with_reducible repeat (first | refine blk_drewN ?_ _ | refine blk_drew ?_ | refine blk_alloc ?_ _)); refine blk_put (cs := #[.int .i64 ((rd_T27 t172 x17_1).f0), .string ((rd_T27 t172 x17_1).f1), .int .i64 0]) ?_ 2 _ rfl; (with_reducible repeat (first | refine blk_drewN ?_ _ | refine blk_drew ?_ | refine blk_alloc ?_ _)); refine blk_put (cs := #[.int .i64 ((rd_T27 t172 x17_1).f0), .string (⟨#[]⟩ : ByteArray), .int .i64 0]) ?_ 1 _ rfl; (with_reducible repeat (first | refine blk_drewN ?_ _ | refine blk_drew ?_ | refine blk_alloc ?_ _)); refine blk_put (cs := #[.int .i64 0, .string (⟨#[]⟩ : ByteArray), .int .i64 0]) ?_ 0 _ rfl; (with_reducible repeat (first | refine blk_drewN ?_ _ | refine blk_drew ?_ | refine blk_alloc ?_ _)); exact BK176.out⟩, ⟨by repeat (first | (with_reducible first | exact HB.out | apply below_alloc | apply pw_below_drewN | apply below_drew1 | refine below_set ?_ GE176.out) | exact HB.out)⟩⟩
                  · rw [if_neg c16] at H
                    have c16b0 : (((rd_T27 t172 x17_1).f0) == 6) = false := beq_eq_false_iff_ne.mpr c16
                    have c16b1 : (((rd_T27 t172 x17_1).f0) != 6) = true := bne_iff_ne.mpr c16
                    (first | rw [c16b0] | (simp only [i64_w, i32_w]; rw [c16b0]) | skip)
                    have H' := Aside0.mk H
                    clear H
                    have hcz18_0 : w14.cell? ⟨gb176, 0, none⟩ = some (.int .i64 0) := (blk_cell BK176.out 0).trans rfl
                    have hcz18_1 : w14.cell? ⟨gb176, 1, none⟩ = some (.string (⟨#[]⟩ : ByteArray)) := (blk_cell BK176.out 1).trans rfl
                    have hcz18_2 : w14.cell? ⟨gb176, 2, none⟩ = some (.int .i64 0) := (blk_cell BK176.out 2).trans rfl
                    have hfz18_0 := blk_frozen BK176.out 0; have hfz18_1 := blk_frozen BK176.out 1; have hfz18_2 := blk_frozen BK176.out 2
                    go_wp2
                    repeat (go_quiet (fail); try go_wp2)
                    go_meet
                    case rel => exact ⟨_, (false), (by first | rfl | (simp; done) | (simp [*]; done)), H', ⟨by have := HK1.out; first | omega | exact Nat.le_refl _⟩, ⟨by (with_reducible repeat (first | apply Kd.R_alloc | apply Kd.R_drewN | apply Kd.R_drew)); exact Kd.R_mono (Kd.R_far (p := ⟨gb176, 2, none⟩) (Kd.R_far (p := ⟨gb176, 1, none⟩) (Kd.R_far (p := ⟨gb176, 0, none⟩) (Kd.R_mono HO_3.out (fun k_ hk => (⟨hk, hk.2⟩ : _ ∧ k_ ≠ gb176))) (fun _ hk => hk.2) (.int .i64 ((rd_T27 t172 x17_1).f0))) (fun _ hk => hk.2) (.string ((rd_T27 t172 x17_1).f1))) (fun _ hk => hk.2) (.int .i64 ((rd_T27 t172 x17_1).f2))) (fun _ hk => hk.1.2)⟩, ⟨by (with_reducible repeat (first | apply Kd.R_alloc | apply Kd.R_drewN | apply Kd.R_drew)); exact Kd.R_mono (Kd.R_far (p := ⟨gb176, 2, none⟩) (Kd.R_far (p := ⟨gb176, 1, none⟩) (Kd.R_far (p := ⟨gb176, 0, none⟩) (Kd.R_mono HO_15.out (fun k_ hk => (⟨hk, hk.2⟩ : _ ∧ k_ ≠ gb176))) (fun _ hk => hk.2) (.int .i64 ((rd_T27 t172 x17_1).f0))) (fun _ hk => hk.2) (.string ((rd_T27 t172 x17_1).f1))) (fun _ hk => hk.2) (.int .i64 ((rd_T27 t172 x17_1).f2))) (fun _ hk => hk.1.2)⟩, ⟨by (with_reducible repeat (first | refine blk_drewN ?_ _ | refine blk_drew ?_ | refine blk_alloc ?_ _)); refine blk_put (cs := #[.int .i64 ((rd_T27 t172 x17_1).f0), .string ((rd_T27 t172 x17_1).f1), .int .i64 0]) ?_ 2 _ rfl; (with_reducible repeat (first | refine blk_drewN ?_ _ | refine blk_drew ?_ | refine blk_alloc ?_ _)); refine blk_put (cs := #[.int .i64 ((rd_T27 t172 x17_1).f0), .string (⟨#[]⟩ : ByteArray), .int .i64 0]) ?_ 1 _ rfl; (with_reducible repeat (first | refine blk_drewN ?_ _ | refine blk_drew ?_ | refine blk_alloc ?_ _)); refine blk_put (cs := #[.int .i64 0, .string (⟨#[]⟩ : ByteArray), .int .i64 0]) ?_ 0 _ rfl; (with_reducible repeat (first | refine blk_drewN ?_ _ | refine blk_drew ?_ | refine blk_alloc ?_ _)); exact BK176.out⟩, ⟨by repeat (first | (with_reducible first | exact HB.out | apply below_alloc | apply pw_below_drewN | apply below_drew1 | refine below_set ?_ GE176.out) | exact HB.out)⟩⟩
                case rest =>
                  clear HC13; (try clear c1); (try clear p1); (try clear q1); (try clear hx1); (try clear p2); (try clear c3); (try clear c4); (try clear c4b0); (try clear c4b1); (try clear c5); (try clear c10); (try clear c10b0); (try clear c11); (try clear c11b0); (try clear c12); (try clear c12b0); (try clear c16); (try clear c16b0); (try clear c16b1); (try clear p17); (try clear q17); (try clear hx17); (try clear hcz15_0); (try clear hcz15_1); (try clear hcz15_2); (try clear hcz17_0); (try clear hcz17_1); (try clear hcz17_2); (try clear hcz18_0); (try clear hcz18_1); (try clear hcz18_2); (try clear hfz15_0); (try clear hfz15_1); (try clear hfz15_2); (try clear hfz17_0)
                  (try clear hfz17_1); (try clear hfz17_2); (try clear hfz18_0); (try clear hfz18_1); (try clear hfz18_2); (try clear hx175_0); (try clear hx175_1); (try clear hx175_2); (try clear p175); (try clear p2); (try clear q175); obtain ⟨kq, x6_12, rfl, HA, HJ12, HO_3, HO_15, BK176, HB⟩ := hcut
                  cases kq with
                  | zero => exact absurd HA.out (by simp [seichelaw11_GolexSemis.j1])
                  | succ kj12 =>
                    have H := HA.out
                    clear HA
                    simp only [seichelaw11_GolexSemis.j1] at H
                    have HC19 := Aside0.mk H; clear H
                    go_upto_region 10 with (fail)
                    repeat (go_quiet (fail); go_upto_region 10 with (fail))
                    go_cut [64] (fun v64 wc => ∃ (kq : Nat) (x64_18 : Bool), v64 = .bool x64_18 ∧ Aside0 (seichelaw11_GolexSemis.j2 kq a0 t172 x17_1 x6_12 t172 (t172.length : Int) x17_1 x64_18 ((rd_T27 t172 x17_1).f0) ((rd_T27 t172 x17_1).f1) ((rd_T27 t172 x17_1).f2) = some r) ∧ Aside0 (kq ≤ kj12) ∧ Aside0 (Kd.R k27 27 wc w.heap.size (fun k_ => k_ ≠ gb176) (.slice (some ad175) t172.length co9) t172) ∧ Aside0 (Kd.R k27 27 wc w.heap.size (fun k_ => k_ ≠ gb176) (.slice (some ad175) t172.length co9) t172) ∧ Aside0 (wc.heap[gb176]? = some (.cells #[.int .i64 ((rd_T27 t172 x17_1).f0), .string ((rd_T27 t172 x17_1).f1), .int .i64 ((rd_T27 t172 x17_1).f2)] 27 (0, 0))) ∧ Aside0 (Below w.heap.size w wc))
                    case first =>
                      have H := HC19.out
                      clear HC19
                      by_cases c20 : x6_12 = true
                      · subst c20
                        have H1 : (if x17_1 = 0 then (seichelaw11_GolexSemis.j2 kj12 a0 t172 x17_1 true t172 (t172.length : Int) x17_1 true ((rd_T27 t172 x17_1).f0) ((rd_T27 t172 x17_1).f1) ((rd_T27 t172 x17_1).f2)) else (if 0 ≤ (wrap64 (x17_1 - 1)) then (if (wrap64 (x17_1 - 1)) < (t172.length : Int) then ((seicheref11_Feeds.f kj12 ((rd_T27 t172 (wrap64 (x17_1 - 1))).f0) ((rd_T27 t172 (wrap64 (x17_1 - 1))).f1) ((rd_T27 t172 (wrap64 (x17_1 - 1))).f2)).bind fun t178 => (if t178 = true then (if ((rd_T27 t172 x17_1).f2) < (a0.size : Int) then (if 0 ≤ ((rd_T27 t172 x17_1).f2) then (if (bt a0 ((rd_T27 t172 x17_1).f2)) = 10 then (seichelaw11_GolexSemis.j2 kj12 a0 t172 x17_1 true t172 (t172.length : Int) x17_1 false ((rd_T27 t172 x17_1).f0) ((rd_T27 t172 x17_1).f1) ((rd_T27 t172 x17_1).f2)) else (seichelaw11_GolexSemis.j2 kj12 a0 t172 x17_1 true t172 (t172.length : Int) x17_1 ((bt a0 ((rd_T27 t172 x17_1).f2)) != 47) ((rd_T27 t172 x17_1).f0) ((rd_T27 t172 x17_1).f1) ((rd_T27 t172 x17_1).f2))) else (none)) else (seichelaw11_GolexSemis.j2 kj12 a0 t172 x17_1 true t172 (t172.length : Int) x17_1 false ((rd_T27 t172 x17_1).f0) ((rd_T27 t172 x17_1).f1) ((rd_T27 t172 x17_1).f2))) else (seichelaw11_GolexSemis.j2 kj12 a0 t172 x17_1 true t172 (t172.length : Int) x17_1 true ((rd_T27 t172 x17_1).f0) ((rd_T27 t172 x17_1).f1) ((rd_T27 t172 x17_1).f2)))) else (none)) else (none))) = some r := by rw [if_pos rfl] at H; exact H
                        clear H
                        have H := H1
                        clear H1
                        by_cases c21 : x17_1 = 0
                        · rw [if_pos c21] at H
                          have c21b0 : (x17_1 == 0) = true := beq_iff_eq.mpr c21
                          have c21b1 : (x17_1 != 0) = false := bne_eq_false_iff_eq.mpr c21
                          clear c21
                          (first | rw [c21b0] | (simp only [i64_w, i32_w]; rw [c21b0]) | skip)
                          have H' := Aside0.mk H
                          clear H
                          go_wp2
                          repeat (go_quiet (fail); try go_wp2)
                          go_meet
                          case rel => exact ⟨_, (true), (by first | rfl | (simp; done) | (simp [*]; done)), H', ⟨by have := HK1.out; have := HJ12.out; first | omega | exact Nat.le_refl _⟩, ⟨by (with_reducible repeat (first | apply Kd.R_alloc | apply Kd.R_drewN | apply Kd.R_drew)); exact HO_3.out⟩, ⟨by (with_reducible repeat (first | apply Kd.R_alloc | apply Kd.R_drewN | apply Kd.R_drew)); exact HO_15.out⟩, ⟨by (with_reducible repeat (first | refine blk_drewN ?_ _ | refine blk_drew ?_ | refine blk_alloc ?_ _)); exact BK176.out⟩, ⟨by repeat (first | (with_reducible first | exact HB.out | apply below_alloc | apply pw_below_drewN | apply below_drew1 | refine below_set ?_ GE176.out) | exact HB.out)⟩⟩
                        · rw [if_neg c21] at H
                          have c21b0 : (x17_1 == 0) = false := beq_eq_false_iff_ne.mpr c21
                          have c21b1 : (x17_1 != 0) = true := bne_iff_ne.mpr c21
                          (first | rw [c21b0] | (simp only [i64_w, i32_w]; rw [c21b0]) | skip)
                          obtain ⟨ji22, hji22⟩ : ∃ j_ : Int, (wrap64 (x17_1 - 1)) = j_ := ⟨_, rfl⟩
                          replace H : (if 0 ≤ (ji22) then (if (ji22) < (t172.length : Int) then ((seicheref11_Feeds.f kj12 ((rd_T27 t172 (ji22)).f0) ((rd_T27 t172 (ji22)).f1) ((rd_T27 t172 (ji22)).f2)).bind fun t178 => (if t178 = true then (if ((rd_T27 t172 x17_1).f2) < (a0.size : Int) then (if 0 ≤ ((rd_T27 t172 x17_1).f2) then (if (bt a0 ((rd_T27 t172 x17_1).f2)) = 10 then (seichelaw11_GolexSemis.j2 kj12 a0 t172 x17_1 true t172 (t172.length : Int) x17_1 false ((rd_T27 t172 x17_1).f0) ((rd_T27 t172 x17_1).f1) ((rd_T27 t172 x17_1).f2)) else (seichelaw11_GolexSemis.j2 kj12 a0 t172 x17_1 true t172 (t172.length : Int) x17_1 ((bt a0 ((rd_T27 t172 x17_1).f2)) != 47) ((rd_T27 t172 x17_1).f0) ((rd_T27 t172 x17_1).f1) ((rd_T27 t172 x17_1).f2))) else (none)) else (seichelaw11_GolexSemis.j2 kj12 a0 t172 x17_1 true t172 (t172.length : Int) x17_1 false ((rd_T27 t172 x17_1).f0) ((rd_T27 t172 x17_1).f1) ((rd_T27 t172 x17_1).f2))) else (seichelaw11_GolexSemis.j2 kj12 a0 t172 x17_1 true t172 (t172.length : Int) x17_1 true ((rd_T27 t172 x17_1).f0) ((rd_T27 t172 x17_1).f1) ((rd_T27 t172 x17_1).f2)))) else (none)) else (none)) = some r := by first | (rw [hji22] at H; exact H) | (simp only [hji22] at H ⊢; exact H)
                          have hji22w : (IntKind.i64.wrap (x17_1 - 1)) = ji22 := (i64_w _).trans hji22
                          by_cases c23 : 0 ≤ (ji22)
                          · rw [if_pos c23] at H
                            have c23b0 : decide (0 ≤ (ji22)) = true := decide_eq_true c23
                            clear c23
                            by_cases c24 : (ji22) < (t172.length : Int)
                            · rw [if_pos c24] at H
                              have c24b0 : decide ((ji22) < (t172.length : Int)) = true := decide_eq_true c24
                              clear c24
                              replace H := Option.bind_eq_some_iff.mp H
                              obtain ⟨t178, A250, H⟩ := H
                              replace H : (if t178 = true then (if ((rd_T27 t172 x17_1).f2) < (a0.size : Int) then (if 0 ≤ ((rd_T27 t172 x17_1).f2) then (if (bt a0 ((rd_T27 t172 x17_1).f2)) = 10 then (seichelaw11_GolexSemis.j2 kj12 a0 t172 x17_1 true t172 (t172.length : Int) x17_1 false ((rd_T27 t172 x17_1).f0) ((rd_T27 t172 x17_1).f1) ((rd_T27 t172 x17_1).f2)) else (seichelaw11_GolexSemis.j2 kj12 a0 t172 x17_1 true t172 (t172.length : Int) x17_1 ((bt a0 ((rd_T27 t172 x17_1).f2)) != 47) ((rd_T27 t172 x17_1).f0) ((rd_T27 t172 x17_1).f1) ((rd_T27 t172 x17_1).f2))) else (none)) else (seichelaw11_GolexSemis.j2 kj12 a0 t172 x17_1 true t172 (t172.length : Int) x17_1 false ((rd_T27 t172 x17_1).f0) ((rd_T27 t172 x17_1).f1) ((rd_T27 t172 x17_1).f2))) else (seichelaw11_GolexSemis.j2 kj12 a0 t172 x17_1 true t172 (t172.length : Int) x17_1 true ((rd_T27 t172 x17_1).f0) ((rd_T27 t172 x17_1).f1) ((rd_T27 t172 x17_1).f2))) = some r := H
                              have A25 := Aside0.mk A250; clear A250
                              by_cases c26 : t178 = true
                              · subst c26
                                have H1 : (if ((rd_T27 t172 x17_1).f2) < (a0.size : Int) then (if 0 ≤ ((rd_T27 t172 x17_1).f2) then (if (bt a0 ((rd_T27 t172 x17_1).f2)) = 10 then (seichelaw11_GolexSemis.j2 kj12 a0 t172 x17_1 true t172 (t172.length : Int) x17_1 false ((rd_T27 t172 x17_1).f0) ((rd_T27 t172 x17_1).f1) ((rd_T27 t172 x17_1).f2)) else (seichelaw11_GolexSemis.j2 kj12 a0 t172 x17_1 true t172 (t172.length : Int) x17_1 ((bt a0 ((rd_T27 t172 x17_1).f2)) != 47) ((rd_T27 t172 x17_1).f0) ((rd_T27 t172 x17_1).f1) ((rd_T27 t172 x17_1).f2))) else (none)) else (seichelaw11_GolexSemis.j2 kj12 a0 t172 x17_1 true t172 (t172.length : Int) x17_1 false ((rd_T27 t172 x17_1).f0) ((rd_T27 t172 x17_1).f1) ((rd_T27 t172 x17_1).f2))) = some r := by rw [if_pos rfl] at H; exact H
                                clear H
                                have H := H1
                                clear H1
                                by_cases c27 : ((rd_T27 t172 x17_1).f2) < (a0.size : Int)
                                · rw [if_pos c27] at H
                                  have c27b0 : decide (((rd_T27 t172 x17_1).f2) < (a0.size : Int)) = true := decide_eq_true c27
                                  clear c27
                                  by_cases c28 : 0 ≤ ((rd_T27 t172 x17_1).f2)
                                  · rw [if_pos c28] at H
                                    have c28b0 : decide (0 ≤ ((rd_T27 t172 x17_1).f2)) = true := decide_eq_true c28
                                    clear c28
                                    by_cases c30 : (bt a0 ((rd_T27 t172 x17_1).f2)) = 10
                                    · rw [if_pos c30] at H
                                      have c30b0 : ((bt a0 ((rd_T27 t172 x17_1).f2)) == 10) = true := beq_iff_eq.mpr c30
                                      have c30b1 : ((bt a0 ((rd_T27 t172 x17_1).f2)) != 10) = false := bne_eq_false_iff_eq.mpr c30
                                      clear c30
                                      have H' := Aside0.mk H
                                      clear H
                                      have p177 : 0 ≤ ((ji22) : Int) := of_decide_eq_true (by first | (with_reducible assumption) | assumption)
                                      have q177 : (ji22) < (t172.length : Int) := of_decide_eq_true (by first | (with_reducible assumption) | assumption)
                                      obtain ⟨ad177, e177, hx177_0, hx177_1, hx177_2⟩ := at_T27 (Kd.R_reads' HO_3.out).2.2 (ji22) p177 q177
                                      obtain rfl : ad175 = ad177 := (by injection e177)
                                      replace p177 := eq_true p177; replace q177 := eq_true q177
                                      go_wp2_with (first | (go_at_call 13; (with_reducible refine (seicheref11_Feeds.calls kj12 ((rd_T27 t172 (ji22)).f0) ((rd_T27 t172 (ji22)).f1) ((rd_T27 t172 (ji22)).f2) true _ A25.out).mono ?_); rintro e w31 ⟨rfl, hb⟩; have n0_ := Aside0.mk (Kd.R_below (by (with_reducible repeat (first | apply Kd.R_alloc | apply Kd.R_drewN | apply Kd.R_drew)); exact HO_3.out) hb); have n1_ := Aside0.mk (Kd.R_below (by (with_reducible repeat (first | apply Kd.R_alloc | apply Kd.R_drewN | apply Kd.R_drew)); exact HO_15.out) hb); have n2_ := Aside0.mk (blk_below (g := gb176) (o := .cells #[.int .i64 ((rd_T27 t172 x17_1).f0), .string ((rd_T27 t172 x17_1).f1), .int .i64 ((rd_T27 t172 x17_1).f2)] 27 (0, 0)) (by (with_reducible repeat (first | refine blk_drewN ?_ _ | refine blk_drew ?_ | refine blk_alloc ?_ _)); exact BK176.out) hb); have n3_ := Aside0.mk (below_step (by repeat (first | (with_reducible first | exact HB.out | apply below_alloc | apply pw_below_drewN | apply below_drew1 | refine below_set ?_ GE176.out) | exact HB.out)) hb); clear HO_3; clear HO_15; clear BK176; clear HB; have HO_3 := n0_; have HO_15 := n1_; have BK176 := n2_; have HB := n3_; clear n0_ n1_ n2_ n3_; (try clear hb); (try clear hb2); (try clear hk); (try clear hi); have hcz32_0 : w31.cell? ⟨gb176, 0, none⟩ = some (.int .i64 ((rd_T27 t172 x17_1).f0)) := (blk_cell BK176.out 0).trans rfl; have hcz32_1 : w31.cell? ⟨gb176, 1, none⟩ = some (.string ((rd_T27 t172 x17_1).f1)) := (blk_cell BK176.out 1).trans rfl; have hcz32_2 : w31.cell? ⟨gb176, 2, none⟩ = some (.int .i64 ((rd_T27 t172 x17_1).f2)) := (blk_cell BK176.out 2).trans rfl; have hfz32_0 := blk_frozen BK176.out 0; have hfz32_1 := blk_frozen BK176.out 1; have hfz32_2 := blk_frozen BK176.out 2; have p29 : 0 ≤ (((rd_T27 t172 x17_1).f2) : Int) := of_decide_eq_true (by first | (with_reducible assumption) | assumption); have q29 : ((rd_T27 t172 x17_1).f2) < (a0.size : Int) := of_decide_eq_true (by first | (with_reducible assumption) | assumption); have hx29 := bt_at a0 ((rd_T27 t172 x17_1).f2); replace p29 := eq_true p29; replace q29 := eq_true q29))
                                      repeat (go_quiet (first | (go_at_call 13; (with_reducible refine (seicheref11_Feeds.calls kj12 ((rd_T27 t172 (ji22)).f0) ((rd_T27 t172 (ji22)).f1) ((rd_T27 t172 (ji22)).f2) true _ A25.out).mono ?_); rintro e w31 ⟨rfl, hb⟩; have n0_ := Aside0.mk (Kd.R_below (by (with_reducible repeat (first | apply Kd.R_alloc | apply Kd.R_drewN | apply Kd.R_drew)); exact HO_3.out) hb); have n1_ := Aside0.mk (Kd.R_below (by (with_reducible repeat (first | apply Kd.R_alloc | apply Kd.R_drewN | apply Kd.R_drew)); exact HO_15.out) hb); have n2_ := Aside0.mk (blk_below (g := gb176) (o := .cells #[.int .i64 ((rd_T27 t172 x17_1).f0), .string ((rd_T27 t172 x17_1).f1), .int .i64 ((rd_T27 t172 x17_1).f2)] 27 (0, 0)) (by (with_reducible repeat (first | refine blk_drewN ?_ _ | refine blk_drew ?_ | refine blk_alloc ?_ _)); exact BK176.out) hb); have n3_ := Aside0.mk (below_step (by repeat (first | (with_reducible first | exact HB.out | apply below_alloc | apply pw_below_drewN | apply below_drew1 | refine below_set ?_ GE176.out) | exact HB.out)) hb); clear HO_3; clear HO_15; clear BK176; clear HB; have HO_3 := n0_; have HO_15 := n1_; have BK176 := n2_; have HB := n3_; clear n0_ n1_ n2_ n3_; (try clear hb); (try clear hb2); (try clear hk); (try clear hi); have hcz32_0 : w31.cell? ⟨gb176, 0, none⟩ = some (.int .i64 ((rd_T27 t172 x17_1).f0)) := (blk_cell BK176.out 0).trans rfl; have hcz32_1 : w31.cell? ⟨gb176, 1, none⟩ = some (.string ((rd_T27 t172 x17_1).f1)) := (blk_cell BK176.out 1).trans rfl; have hcz32_2 : w31.cell? ⟨gb176, 2, none⟩ = some (.int .i64 ((rd_T27 t172 x17_1).f2)) := (blk_cell BK176.out 2).trans rfl; have hfz32_0 := blk_frozen BK176.out 0; have hfz32_1 := blk_frozen BK176.out 1; have hfz32_2 := blk_frozen BK176.out 2; have p29 : 0 ≤ (((rd_T27 t172 x17_1).f2) : Int) := of_decide_eq_true (by first | (with_reducible assumption) | assumption); have q29 : ((rd_T27 t172 x17_1).f2) < (a0.size : Int) := of_decide_eq_true (by first | (with_reducible assumption) | assumption); have hx29 := bt_at a0 ((rd_T27 t172 x17_1).f2); replace p29 := eq_true p29; replace q29 := eq_true q29)); try go_wp2_with (first | (go_at_call 13; (with_reducible refine (seicheref11_Feeds.calls kj12 ((rd_T27 t172 (ji22)).f0) ((rd_T27 t172 (ji22)).f1) ((rd_T27 t172 (ji22)).f2) true _ A25.out).mono ?_); rintro e w31 ⟨rfl, hb⟩; have n0_ := Aside0.mk (Kd.R_below (by (with_reducible repeat (first | apply Kd.R_alloc | apply Kd.R_drewN | apply Kd.R_drew)); exact HO_3.out) hb); have n1_ := Aside0.mk (Kd.R_below (by (with_reducible repeat (first | apply Kd.R_alloc | apply Kd.R_drewN | apply Kd.R_drew)); exact HO_15.out) hb); have n2_ := Aside0.mk (blk_below (g := gb176) (o := .cells #[.int .i64 ((rd_T27 t172 x17_1).f0), .string ((rd_T27 t172 x17_1).f1), .int .i64 ((rd_T27 t172 x17_1).f2)] 27 (0, 0)) (by (with_reducible repeat (first | refine blk_drewN ?_ _ | refine blk_drew ?_ | refine blk_alloc ?_ _)); exact BK176.out) hb); have n3_ := Aside0.mk (below_step (by repeat (first | (with_reducible first | exact HB.out | apply below_alloc | apply pw_below_drewN | apply below_drew1 | refine below_set ?_ GE176.out) | exact HB.out)) hb); clear HO_3; clear HO_15; clear BK176; clear HB; have HO_3 := n0_; have HO_15 := n1_; have BK176 := n2_; have HB := n3_; clear n0_ n1_ n2_ n3_; (try clear hb); (try clear hb2); (try clear hk); (try clear hi); have hcz32_0 : w31.cell? ⟨gb176, 0, none⟩ = some (.int .i64 ((rd_T27 t172 x17_1).f0)) := (blk_cell BK176.out 0).trans rfl; have hcz32_1 : w31.cell? ⟨gb176, 1, none⟩ = some (.string ((rd_T27 t172 x17_1).f1)) := (blk_cell BK176.out 1).trans rfl; have hcz32_2 : w31.cell? ⟨gb176, 2, none⟩ = some (.int .i64 ((rd_T27 t172 x17_1).f2)) := (blk_cell BK176.out 2).trans rfl; have hfz32_0 := blk_frozen BK176.out 0; have hfz32_1 := blk_frozen BK176.out 1; have hfz32_2 := blk_frozen BK176.out 2; have p29 : 0 ≤ (((rd_T27 t172 x17_1).f2) : Int) := of_decide_eq_true (by first | (with_reducible assumption) | assumption); have q29 : ((rd_T27 t172 x17_1).f2) < (a0.size : Int) := of_decide_eq_true (by first | (with_reducible assumption) | assumption); have hx29 := bt_at a0 ((rd_T27 t172 x17_1).f2); replace p29 := eq_true p29; replace q29 := eq_true q29)))
                                      go_meet
                                      case rel => exact ⟨_, (false), (by first | rfl | (simp; done) | (simp [*]; done)), H', ⟨by have := HK1.out; have := HJ12.out; first | omega | exact Nat.le_refl _⟩, ⟨by (with_reducible repeat (first | apply Kd.R_alloc | apply Kd.R_drewN | apply Kd.R_drew)); exact HO_3.out⟩, ⟨by (with_reducible repeat (first | apply Kd.R_alloc | apply Kd.R_drewN | apply Kd.R_drew)); exact HO_15.out⟩, ⟨by (with_reducible repeat (first | refine blk_drewN ?_ _ | refine blk_drew ?_ | refine blk_alloc ?_ _)); exact BK176.out⟩, ⟨by repeat (first | (with_reducible first | exact HB.out | apply below_alloc | apply pw_below_drewN | apply below_drew1 | refine below_set ?_ GE176.out) | exact HB.out)⟩⟩
                                    · rw [if_neg c30] at H
                                      have c30b0 : ((bt a0 ((rd_T27 t172 x17_1).f2)) == 10) = false := beq_eq_false_iff_ne.mpr c30
                                      have c30b1 : ((bt a0 ((rd_T27 t172 x17_1).f2)) != 10) = true := bne_iff_ne.mpr c30
                                      have H' := Aside0.mk H
                                      clear H
                                      have p177 : 0 ≤ ((ji22) : Int) := of_decide_eq_true (by first | (with_reducible assumption) | assumption)
                                      have q177 : (ji22) < (t172.length : Int) := of_decide_eq_true (by first | (with_reducible assumption) | assumption)
                                      obtain ⟨ad177, e177, hx177_0, hx177_1, hx177_2⟩ := at_T27 (Kd.R_reads' HO_3.out).2.2 (ji22) p177 q177
                                      obtain rfl : ad175 = ad177 := (by injection e177)
                                      replace p177 := eq_true p177; replace q177 := eq_true q177
                                      go_wp2_with (first | (go_at_call 13; (with_reducible refine (seicheref11_Feeds.calls kj12 ((rd_T27 t172 (ji22)).f0) ((rd_T27 t172 (ji22)).f1) ((rd_T27 t172 (ji22)).f2) true _ A25.out).mono ?_); rintro e w34 ⟨rfl, hb⟩; have n0_ := Aside0.mk (Kd.R_below (by (with_reducible repeat (first | apply Kd.R_alloc | apply Kd.R_drewN | apply Kd.R_drew)); exact HO_3.out) hb); have n1_ := Aside0.mk (Kd.R_below (by (with_reducible repeat (first | apply Kd.R_alloc | apply Kd.R_drewN | apply Kd.R_drew)); exact HO_15.out) hb); have n2_ := Aside0.mk (blk_below (g := gb176) (o := .cells #[.int .i64 ((rd_T27 t172 x17_1).f0), .string ((rd_T27 t172 x17_1).f1), .int .i64 ((rd_T27 t172 x17_1).f2)] 27 (0, 0)) (by (with_reducible repeat (first | refine blk_drewN ?_ _ | refine blk_drew ?_ | refine blk_alloc ?_ _)); exact BK176.out) hb); have n3_ := Aside0.mk (below_step (by repeat (first | (with_reducible first | exact HB.out | apply below_alloc | apply pw_below_drewN | apply below_drew1 | refine below_set ?_ GE176.out) | exact HB.out)) hb); clear HO_3; clear HO_15; clear BK176; clear HB; have HO_3 := n0_; have HO_15 := n1_; have BK176 := n2_; have HB := n3_; clear n0_ n1_ n2_ n3_; (try clear hb); (try clear hb2); (try clear hk); (try clear hi); have hcz35_0 : w34.cell? ⟨gb176, 0, none⟩ = some (.int .i64 ((rd_T27 t172 x17_1).f0)) := (blk_cell BK176.out 0).trans rfl; have hcz35_1 : w34.cell? ⟨gb176, 1, none⟩ = some (.string ((rd_T27 t172 x17_1).f1)) := (blk_cell BK176.out 1).trans rfl; have hcz35_2 : w34.cell? ⟨gb176, 2, none⟩ = some (.int .i64 ((rd_T27 t172 x17_1).f2)) := (blk_cell BK176.out 2).trans rfl; have hfz35_0 := blk_frozen BK176.out 0; have hfz35_1 := blk_frozen BK176.out 1; have hfz35_2 := blk_frozen BK176.out 2; have p29 : 0 ≤ (((rd_T27 t172 x17_1).f2) : Int) := of_decide_eq_true (by first | (with_reducible assumption) | assumption); have q29 : ((rd_T27 t172 x17_1).f2) < (a0.size : Int) := of_decide_eq_true (by first | (with_reducible assumption) | assumption); have hx29 := bt_at a0 ((rd_T27 t172 x17_1).f2); replace p29 := eq_true p29; replace q29 := eq_true q29; have p33 : 0 ≤ (((rd_T27 t172 x17_1).f2) : Int) := of_decide_eq_true (by first | (with_reducible assumption) | assumption); have q33 : ((rd_T27 t172 x17_1).f2) < (a0.size : Int) := of_decide_eq_true (by first | (with_reducible assumption) | assumption); have hx33 := bt_at a0 ((rd_T27 t172 x17_1).f2); replace p33 := eq_true p33; replace q33 := eq_true q33))
                                      repeat (go_quiet (first | (go_at_call 13; (with_reducible refine (seicheref11_Feeds.calls kj12 ((rd_T27 t172 (ji22)).f0) ((rd_T27 t172 (ji22)).f1) ((rd_T27 t172 (ji22)).f2) true _ A25.out).mono ?_); rintro e w34 ⟨rfl, hb⟩; have n0_ := Aside0.mk (Kd.R_below (by (with_reducible repeat (first | apply Kd.R_alloc | apply Kd.R_drewN | apply Kd.R_drew)); exact HO_3.out) hb); have n1_ := Aside0.mk (Kd.R_below (by (with_reducible repeat (first | apply Kd.R_alloc | apply Kd.R_drewN | apply Kd.R_drew)); exact HO_15.out) hb); have n2_ := Aside0.mk (blk_below (g := gb176) (o := .cells #[.int .i64 ((rd_T27 t172 x17_1).f0), .string ((rd_T27 t172 x17_1).f1), .int .i64 ((rd_T27 t172 x17_1).f2)] 27 (0, 0)) (by (with_reducible repeat (first | refine blk_drewN ?_ _ | refine blk_drew ?_ | refine blk_alloc ?_ _)); exact BK176.out) hb); have n3_ := Aside0.mk (below_step (by repeat (first | (with_reducible first | exact HB.out | apply below_alloc | apply pw_below_drewN | apply below_drew1 | refine below_set ?_ GE176.out) | exact HB.out)) hb); clear HO_3; clear HO_15; clear BK176; clear HB; have HO_3 := n0_; have HO_15 := n1_; have BK176 := n2_; have HB := n3_; clear n0_ n1_ n2_ n3_; (try clear hb); (try clear hb2); (try clear hk); (try clear hi); have hcz35_0 : w34.cell? ⟨gb176, 0, none⟩ = some (.int .i64 ((rd_T27 t172 x17_1).f0)) := (blk_cell BK176.out 0).trans rfl; have hcz35_1 : w34.cell? ⟨gb176, 1, none⟩ = some (.string ((rd_T27 t172 x17_1).f1)) := (blk_cell BK176.out 1).trans rfl; have hcz35_2 : w34.cell? ⟨gb176, 2, none⟩ = some (.int .i64 ((rd_T27 t172 x17_1).f2)) := (blk_cell BK176.out 2).trans rfl; have hfz35_0 := blk_frozen BK176.out 0; have hfz35_1 := blk_frozen BK176.out 1; have hfz35_2 := blk_frozen BK176.out 2; have p29 : 0 ≤ (((rd_T27 t172 x17_1).f2) : Int) := of_decide_eq_true (by first | (with_reducible assumption) | assumption); have q29 : ((rd_T27 t172 x17_1).f2) < (a0.size : Int) := of_decide_eq_true (by first | (with_reducible assumption) | assumption); have hx29 := bt_at a0 ((rd_T27 t172 x17_1).f2); replace p29 := eq_true p29; replace q29 := eq_true q29; have p33 : 0 ≤ (((rd_T27 t172 x17_1).f2) : Int) := of_decide_eq_true (by first | (with_reducible assumption) | assumption); have q33 : ((rd_T27 t172 x17_1).f2) < (a0.size : Int) := of_decide_eq_true (by first | (with_reducible assumption) | assumption); have hx33 := bt_at a0 ((rd_T27 t172 x17_1).f2); replace p33 := eq_true p33; replace q33 := eq_true q33)); try go_wp2_with (first | (go_at_call 13; (with_reducible refine (seicheref11_Feeds.calls kj12 ((rd_T27 t172 (ji22)).f0) ((rd_T27 t172 (ji22)).f1) ((rd_T27 t172 (ji22)).f2) true _ A25.out).mono ?_); rintro e w34 ⟨rfl, hb⟩; have n0_ := Aside0.mk (Kd.R_below (by (with_reducible repeat (first | apply Kd.R_alloc | apply Kd.R_drewN | apply Kd.R_drew)); exact HO_3.out) hb); have n1_ := Aside0.mk (Kd.R_below (by (with_reducible repeat (first | apply Kd.R_alloc | apply Kd.R_drewN | apply Kd.R_drew)); exact HO_15.out) hb); have n2_ := Aside0.mk (blk_below (g := gb176) (o := .cells #[.int .i64 ((rd_T27 t172 x17_1).f0), .string ((rd_T27 t172 x17_1).f1), .int .i64 ((rd_T27 t172 x17_1).f2)] 27 (0, 0)) (by (with_reducible repeat (first | refine blk_drewN ?_ _ | refine blk_drew ?_ | refine blk_alloc ?_ _)); exact BK176.out) hb); have n3_ := Aside0.mk (below_step (by repeat (first | (with_reducible first | exact HB.out | apply below_alloc | apply pw_below_drewN | apply below_drew1 | refine below_set ?_ GE176.out) | exact HB.out)) hb); clear HO_3; clear HO_15; clear BK176; clear HB; have HO_3 := n0_; have HO_15 := n1_; have BK176 := n2_; have HB := n3_; clear n0_ n1_ n2_ n3_; (try clear hb); (try clear hb2); (try clear hk); (try clear hi); have hcz35_0 : w34.cell? ⟨gb176, 0, none⟩ = some (.int .i64 ((rd_T27 t172 x17_1).f0)) := (blk_cell BK176.out 0).trans rfl; have hcz35_1 : w34.cell? ⟨gb176, 1, none⟩ = some (.string ((rd_T27 t172 x17_1).f1)) := (blk_cell BK176.out 1).trans rfl; have hcz35_2 : w34.cell? ⟨gb176, 2, none⟩ = some (.int .i64 ((rd_T27 t172 x17_1).f2)) := (blk_cell BK176.out 2).trans rfl; have hfz35_0 := blk_frozen BK176.out 0; have hfz35_1 := blk_frozen BK176.out 1; have hfz35_2 := blk_frozen BK176.out 2; have p29 : 0 ≤ (((rd_T27 t172 x17_1).f2) : Int) := of_decide_eq_true (by first | (with_reducible assumption) | assumption); have q29 : ((rd_T27 t172 x17_1).f2) < (a0.size : Int) := of_decide_eq_true (by first | (with_reducible assumption) | assumption); have hx29 := bt_at a0 ((rd_T27 t172 x17_1).f2); replace p29 := eq_true p29; replace q29 := eq_true q29; have p33 : 0 ≤ (((rd_T27 t172 x17_1).f2) : Int) := of_decide_eq_true (by first | (with_reducible assumption) | assumption); have q33 : ((rd_T27 t172 x17_1).f2) < (a0.size : Int) := of_decide_eq_true (by first | (with_reducible assumption) | assumption); have hx33 := bt_at a0 ((rd_T27 t172 x17_1).f2); replace p33 := eq_true p33; replace q33 := eq_true q33)))
                                      go_meet
                                      case rel => exact ⟨_, (((bt a0 ((rd_T27 t172 x17_1).f2)) != 47)), (by first | rfl | (simp; done) | (simp [*]; done)), H', ⟨by have := HK1.out; have := HJ12.out; first | omega | exact Nat.le_refl _⟩, ⟨by (with_reducible repeat (first | apply Kd.R_alloc | apply Kd.R_drewN | apply Kd.R_drew)); exact HO_3.out⟩, ⟨by (with_reducible repeat (first | apply Kd.R_alloc | apply Kd.R_drewN | apply Kd.R_drew)); exact HO_15.out⟩, ⟨by (with_reducible repeat (first | refine blk_drewN ?_ _ | refine blk_drew ?_ | refine blk_alloc ?_ _)); exact BK176.out⟩, ⟨by repeat (first | (with_reducible first | exact HB.out | apply below_alloc | apply pw_below_drewN | apply below_drew1 | refine below_set ?_ GE176.out) | exact HB.out)⟩⟩
                                  · rw [if_neg c28] at H
                                    exact absurd H (by simp)
                                · rw [if_neg c27] at H
                                  have c27b0 : decide (((rd_T27 t172 x17_1).f2) < (a0.size : Int)) = false := decide_eq_false c27
                                  clear c27
                                  have H' := Aside0.mk H
                                  clear H
                                  have p177 : 0 ≤ ((ji22) : Int) := of_decide_eq_true (by first | (with_reducible assumption) | assumption)
                                  have q177 : (ji22) < (t172.length : Int) := of_decide_eq_true (by first | (with_reducible assumption) | assumption)
                                  obtain ⟨ad177, e177, hx177_0, hx177_1, hx177_2⟩ := at_T27 (Kd.R_reads' HO_3.out).2.2 (ji22) p177 q177
                                  obtain rfl : ad175 = ad177 := (by injection e177)
                                  replace p177 := eq_true p177; replace q177 := eq_true q177
                                  go_wp2_with (first | (go_at_call 13; (with_reducible refine (seicheref11_Feeds.calls kj12 ((rd_T27 t172 (ji22)).f0) ((rd_T27 t172 (ji22)).f1) ((rd_T27 t172 (ji22)).f2) true _ A25.out).mono ?_); rintro e w36 ⟨rfl, hb⟩; have n0_ := Aside0.mk (Kd.R_below (by (with_reducible repeat (first | apply Kd.R_alloc | apply Kd.R_drewN | apply Kd.R_drew)); exact HO_3.out) hb); have n1_ := Aside0.mk (Kd.R_below (by (with_reducible repeat (first | apply Kd.R_alloc | apply Kd.R_drewN | apply Kd.R_drew)); exact HO_15.out) hb); have n2_ := Aside0.mk (blk_below (g := gb176) (o := .cells #[.int .i64 ((rd_T27 t172 x17_1).f0), .string ((rd_T27 t172 x17_1).f1), .int .i64 ((rd_T27 t172 x17_1).f2)] 27 (0, 0)) (by (with_reducible repeat (first | refine blk_drewN ?_ _ | refine blk_drew ?_ | refine blk_alloc ?_ _)); exact BK176.out) hb); have n3_ := Aside0.mk (below_step (by repeat (first | (with_reducible first | exact HB.out | apply below_alloc | apply pw_below_drewN | apply below_drew1 | refine below_set ?_ GE176.out) | exact HB.out)) hb); clear HO_3; clear HO_15; clear BK176; clear HB; have HO_3 := n0_; have HO_15 := n1_; have BK176 := n2_; have HB := n3_; clear n0_ n1_ n2_ n3_; (try clear hb); (try clear hb2); (try clear hk); (try clear hi); have hcz37_0 : w36.cell? ⟨gb176, 0, none⟩ = some (.int .i64 ((rd_T27 t172 x17_1).f0)) := (blk_cell BK176.out 0).trans rfl; have hcz37_1 : w36.cell? ⟨gb176, 1, none⟩ = some (.string ((rd_T27 t172 x17_1).f1)) := (blk_cell BK176.out 1).trans rfl; have hcz37_2 : w36.cell? ⟨gb176, 2, none⟩ = some (.int .i64 ((rd_T27 t172 x17_1).f2)) := (blk_cell BK176.out 2).trans rfl; have hfz37_0 := blk_frozen BK176.out 0; have hfz37_1 := blk_frozen BK176.out 1; have hfz37_2 := blk_frozen BK176.out 2))
                                  repeat (go_quiet (first | (go_at_call 13; (with_reducible refine (seicheref11_Feeds.calls kj12 ((rd_T27 t172 (ji22)).f0) ((rd_T27 t172 (ji22)).f1) ((rd_T27 t172 (ji22)).f2) true _ A25.out).mono ?_); rintro e w36 ⟨rfl, hb⟩; have n0_ := Aside0.mk (Kd.R_below (by (with_reducible repeat (first | apply Kd.R_alloc | apply Kd.R_drewN | apply Kd.R_drew)); exact HO_3.out) hb); have n1_ := Aside0.mk (Kd.R_below (by (with_reducible repeat (first | apply Kd.R_alloc | apply Kd.R_drewN | apply Kd.R_drew)); exact HO_15.out) hb); have n2_ := Aside0.mk (blk_below (g := gb176) (o := .cells #[.int .i64 ((rd_T27 t172 x17_1).f0), .string ((rd_T27 t172 x17_1).f1), .int .i64 ((rd_T27 t172 x17_1).f2)] 27 (0, 0)) (by (with_reducible repeat (first | refine blk_drewN ?_ _ | refine blk_drew ?_ | refine blk_alloc ?_ _)); exact BK176.out) hb); have n3_ := Aside0.mk (below_step (by repeat (first | (with_reducible first | exact HB.out | apply below_alloc | apply pw_below_drewN | apply below_drew1 | refine below_set ?_ GE176.out) | exact HB.out)) hb); clear HO_3; clear HO_15; clear BK176; clear HB; have HO_3 := n0_; have HO_15 := n1_; have BK176 := n2_; have HB := n3_; clear n0_ n1_ n2_ n3_; (try clear hb); (try clear hb2); (try clear hk); (try clear hi); have hcz37_0 : w36.cell? ⟨gb176, 0, none⟩ = some (.int .i64 ((rd_T27 t172 x17_1).f0)) := (blk_cell BK176.out 0).trans rfl; have hcz37_1 : w36.cell? ⟨gb176, 1, none⟩ = some (.string ((rd_T27 t172 x17_1).f1)) := (blk_cell BK176.out 1).trans rfl; have hcz37_2 : w36.cell? ⟨gb176, 2, none⟩ = some (.int .i64 ((rd_T27 t172 x17_1).f2)) := (blk_cell BK176.out 2).trans rfl; have hfz37_0 := blk_frozen BK176.out 0; have hfz37_1 := blk_frozen BK176.out 1; have hfz37_2 := blk_frozen BK176.out 2)); try go_wp2_with (first | (go_at_call 13; (with_reducible refine (seicheref11_Feeds.calls kj12 ((rd_T27 t172 (ji22)).f0) ((rd_T27 t172 (ji22)).f1) ((rd_T27 t172 (ji22)).f2) true _ A25.out).mono ?_); rintro e w36 ⟨rfl, hb⟩; have n0_ := Aside0.mk (Kd.R_below (by (with_reducible repeat (first | apply Kd.R_alloc | apply Kd.R_drewN | apply Kd.R_drew)); exact HO_3.out) hb); have n1_ := Aside0.mk (Kd.R_below (by (with_reducible repeat (first | apply Kd.R_alloc | apply Kd.R_drewN | apply Kd.R_drew)); exact HO_15.out) hb); have n2_ := Aside0.mk (blk_below (g := gb176) (o := .cells #[.int .i64 ((rd_T27 t172 x17_1).f0), .string ((rd_T27 t172 x17_1).f1), .int .i64 ((rd_T27 t172 x17_1).f2)] 27 (0, 0)) (by (with_reducible repeat (first | refine blk_drewN ?_ _ | refine blk_drew ?_ | refine blk_alloc ?_ _)); exact BK176.out) hb); have n3_ := Aside0.mk (below_step (by repeat (first | (with_reducible first | exact HB.out | apply below_alloc | apply pw_below_drewN | apply below_drew1 | refine below_set ?_ GE176.out) | exact HB.out)) hb); clear HO_3; clear HO_15; clear BK176; clear HB; have HO_3 := n0_; have HO_15 := n1_; have BK176 := n2_; have HB := n3_; clear n0_ n1_ n2_ n3_; (try clear hb); (try clear hb2); (try clear hk); (try clear hi); have hcz37_0 : w36.cell? ⟨gb176, 0, none⟩ = some (.int .i64 ((rd_T27 t172 x17_1).f0)) := (blk_cell BK176.out 0).trans rfl; have hcz37_1 : w36.cell? ⟨gb176, 1, none⟩ = some (.string ((rd_T27 t172 x17_1).f1)) := (blk_cell BK176.out 1).trans rfl; have hcz37_2 : w36.cell? ⟨gb176, 2, none⟩ = some (.int .i64 ((rd_T27 t172 x17_1).f2)) := (blk_cell BK176.out 2).trans rfl; have hfz37_0 := blk_frozen BK176.out 0; have hfz37_1 := blk_frozen BK176.out 1; have hfz37_2 := blk_frozen BK176.out 2)))
                                  go_meet
                                  case rel => exact ⟨_, (false), (by first | rfl | (simp; done) | (simp [*]; done)), H', ⟨by have := HK1.out; have := HJ12.out; first | omega | exact Nat.le_refl _⟩, ⟨by (with_reducible repeat (first | apply Kd.R_alloc | apply Kd.R_drewN | apply Kd.R_drew)); exact HO_3.out⟩, ⟨by (with_reducible repeat (first | apply Kd.R_alloc | apply Kd.R_drewN | apply Kd.R_drew)); exact HO_15.out⟩, ⟨by (with_reducible repeat (first | refine blk_drewN ?_ _ | refine blk_drew ?_ | refine blk_alloc ?_ _)); exact BK176.out⟩, ⟨by repeat (first | (with_reducible first | exact HB.out | apply below_alloc | apply pw_below_drewN | apply below_drew1 | refine below_set ?_ GE176.out) | exact HB.out)⟩⟩
                              · replace c26 := Bool.eq_false_iff.mpr c26
                                subst c26
                                have H1 : (seichelaw11_GolexSemis.j2 kj12 a0 t172 x17_1 true t172 (t172.length : Int) x17_1 true ((rd_T27 t172 x17_1).f0) ((rd_T27 t172 x17_1).f1) ((rd_T27 t172 x17_1).f2)) = some r := by rw [if_neg (show ¬ (false = true) by decide)] at H; exact H
                                clear H
                                have H := H1
                                clear H1
                                have H' := Aside0.mk H
                                clear H
                                have p177 : 0 ≤ ((ji22) : Int) := of_decide_eq_true (by first | (with_reducible assumption) | assumption)
                                have q177 : (ji22) < (t172.length : Int) := of_decide_eq_true (by first | (with_reducible assumption) | assumption)
                                obtain ⟨ad177, e177, hx177_0, hx177_1, hx177_2⟩ := at_T27 (Kd.R_reads' HO_3.out).2.2 (ji22) p177 q177
                                obtain rfl : ad175 = ad177 := (by injection e177)
                                replace p177 := eq_true p177; replace q177 := eq_true q177
                                go_wp2_with (first | (go_at_call 13; (with_reducible refine (seicheref11_Feeds.calls kj12 ((rd_T27 t172 (ji22)).f0) ((rd_T27 t172 (ji22)).f1) ((rd_T27 t172 (ji22)).f2) false _ A25.out).mono ?_); rintro e w38 ⟨rfl, hb⟩; have n0_ := Aside0.mk (Kd.R_below (by (with_reducible repeat (first | apply Kd.R_alloc | apply Kd.R_drewN | apply Kd.R_drew)); exact HO_3.out) hb); have n1_ := Aside0.mk (Kd.R_below (by (with_reducible repeat (first | apply Kd.R_alloc | apply Kd.R_drewN | apply Kd.R_drew)); exact HO_15.out) hb); have n2_ := Aside0.mk (blk_below (g := gb176) (o := .cells #[.int .i64 ((rd_T27 t172 x17_1).f0), .string ((rd_T27 t172 x17_1).f1), .int .i64 ((rd_T27 t172 x17_1).f2)] 27 (0, 0)) (by (with_reducible repeat (first | refine blk_drewN ?_ _ | refine blk_drew ?_ | refine blk_alloc ?_ _)); exact BK176.out) hb); have n3_ := Aside0.mk (below_step (by repeat (first | (with_reducible first | exact HB.out | apply below_alloc | apply pw_below_drewN | apply below_drew1 | refine below_set ?_ GE176.out) | exact HB.out)) hb); clear HO_3; clear HO_15; clear BK176; clear HB; have HO_3 := n0_; have HO_15 := n1_; have BK176 := n2_; have HB := n3_; clear n0_ n1_ n2_ n3_; (try clear hb); (try clear hb2); (try clear hk); (try clear hi)))
                                repeat (go_quiet (first | (go_at_call 13; (with_reducible refine (seicheref11_Feeds.calls kj12 ((rd_T27 t172 (ji22)).f0) ((rd_T27 t172 (ji22)).f1) ((rd_T27 t172 (ji22)).f2) false _ A25.out).mono ?_); rintro e w38 ⟨rfl, hb⟩; have n0_ := Aside0.mk (Kd.R_below (by (with_reducible repeat (first | apply Kd.R_alloc | apply Kd.R_drewN | apply Kd.R_drew)); exact HO_3.out) hb); have n1_ := Aside0.mk (Kd.R_below (by (with_reducible repeat (first | apply Kd.R_alloc | apply Kd.R_drewN | apply Kd.R_drew)); exact HO_15.out) hb); have n2_ := Aside0.mk (blk_below (g := gb176) (o := .cells #[.int .i64 ((rd_T27 t172 x17_1).f0), .string ((rd_T27 t172 x17_1).f1), .int .i64 ((rd_T27 t172 x17_1).f2)] 27 (0, 0)) (by (with_reducible repeat (first | refine blk_drewN ?_ _ | refine blk_drew ?_ | refine blk_alloc ?_ _)); exact BK176.out) hb); have n3_ := Aside0.mk (below_step (by repeat (first | (with_reducible first | exact HB.out | apply below_alloc | apply pw_below_drewN | apply below_drew1 | refine below_set ?_ GE176.out) | exact HB.out)) hb); clear HO_3; clear HO_15; clear BK176; clear HB; have HO_3 := n0_; have HO_15 := n1_; have BK176 := n2_; have HB := n3_; clear n0_ n1_ n2_ n3_; (try clear hb); (try clear hb2); (try clear hk); (try clear hi))); try go_wp2_with (first | (go_at_call 13; (with_reducible refine (seicheref11_Feeds.calls kj12 ((rd_T27 t172 (ji22)).f0) ((rd_T27 t172 (ji22)).f1) ((rd_T27 t172 (ji22)).f2) false _ A25.out).mono ?_); rintro e w38 ⟨rfl, hb⟩; have n0_ := Aside0.mk (Kd.R_below (by (with_reducible repeat (first | apply Kd.R_alloc | apply Kd.R_drewN | apply Kd.R_drew)); exact HO_3.out) hb); have n1_ := Aside0.mk (Kd.R_below (by (with_reducible repeat (first | apply Kd.R_alloc | apply Kd.R_drewN | apply Kd.R_drew)); exact HO_15.out) hb); have n2_ := Aside0.mk (blk_below (g := gb176) (o := .cells #[.int .i64 ((rd_T27 t172 x17_1).f0), .string ((rd_T27 t172 x17_1).f1), .int .i64 ((rd_T27 t172 x17_1).f2)] 27 (0, 0)) (by (with_reducible repeat (first | refine blk_drewN ?_ _ | refine blk_drew ?_ | refine blk_alloc ?_ _)); exact BK176.out) hb); have n3_ := Aside0.mk (below_step (by repeat (first | (with_reducible first | exact HB.out | apply below_alloc | apply pw_below_drewN | apply below_drew1 | refine below_set ?_ GE176.out) | exact HB.out)) hb); clear HO_3; clear HO_15; clear BK176; clear HB; have HO_3 := n0_; have HO_15 := n1_; have BK176 := n2_; have HB := n3_; clear n0_ n1_ n2_ n3_; (try clear hb); (try clear hb2); (try clear hk); (try clear hi))))
                                go_meet
                                case rel => exact ⟨_, (true), (by first | rfl | (simp; done) | (simp [*]; done)), H', ⟨by have := HK1.out; have := HJ12.out; first | omega | exact Nat.le_refl _⟩, ⟨by (with_reducible repeat (first | apply Kd.R_alloc | apply Kd.R_drewN | apply Kd.R_drew)); exact HO_3.out⟩, ⟨by (with_reducible repeat (first | apply Kd.R_alloc | apply Kd.R_drewN | apply Kd.R_drew)); exact HO_15.out⟩, ⟨by (with_reducible repeat (first | refine blk_drewN ?_ _ | refine blk_drew ?_ | refine blk_alloc ?_ _)); exact BK176.out⟩, ⟨by repeat (first | (with_reducible first | exact HB.out | apply below_alloc | apply pw_below_drewN | apply below_drew1 | refine below_set ?_ GE176.out) | exact HB.out)⟩⟩
                            · rw [if_neg c24] at H
                              exact absurd H (by simp)
                          · rw [if_neg c23] at H
                            exact absurd H (by simp)
                      · replace c20 := Bool.eq_false_iff.mpr c20
                        subst c20
                        have H1 : (seichelaw11_GolexSemis.j2 kj12 a0 t172 x17_1 false t172 (t172.length : Int) x17_1 false ((rd_T27 t172 x17_1).f0) ((rd_T27 t172 x17_1).f1) ((rd_T27 t172 x17_1).f2)) = some r := by rw [if_neg (show ¬ (false = true) by decide)] at H; exact H
                        clear H
                        have H := H1
                        clear H1
                        have H' := Aside0.mk H
                        clear H
                        go_wp2
                        repeat (go_quiet (fail); try go_wp2)
                        go_meet
                        case rel => exact ⟨_, (false), (by first | rfl | (simp; done) | (simp [*]; done)), H', ⟨by have := HK1.out; have := HJ12.out; first | omega | exact Nat.le_refl _⟩, ⟨by (with_reducible repeat (first | apply Kd.R_alloc | apply Kd.R_drewN | apply Kd.R_drew)); exact HO_3.out⟩, ⟨by (with_reducible repeat (first | apply Kd.R_alloc | apply Kd.R_drewN | apply Kd.R_drew)); exact HO_15.out⟩, ⟨by (with_reducible repeat (first | refine blk_drewN ?_ _ | refine blk_drew ?_ | refine blk_alloc ?_ _)); exact BK176.out⟩, ⟨by repeat (first | (with_reducible first | exact HB.out | apply below_alloc | apply pw_below_drewN | apply below_drew1 | refine below_set ?_ GE176.out) | exact HB.out)⟩⟩
                    case rest =>
                      clear HC19; (try clear c1); (try clear p1); (try clear q1); (try clear hx1); (try clear c2); (try clear p2); (try clear q2); (try clear hx2); (try clear c3); (try clear p3); (try clear q3); (try clear hx3); (try clear c4); (try clear c4b0); (try clear c4b1); (try clear c5); (try clear p6); (try clear c10); (try clear c10b0); (try clear c11); (try clear c11b0); (try clear c12); (try clear c12b0); (try clear c16); (try clear c16b0); (try clear c16b1); (try clear p17); (try clear q17); (try clear hx17); (try clear c20); (try clear c21); (try clear c21b0); (try clear c21b1); (try clear c23); (try clear c23b0); (try clear c24); (try clear c24b0); (try clear c26)
                      (try clear c27); (try clear c27b0); (try clear c28); (try clear c28b0); (try clear p29); (try clear q29); (try clear hx29); (try clear c30); (try clear c30b0); (try clear c30b1); (try clear p33); (try clear q33); (try clear hx33); (try clear hcz15_0); (try clear hcz15_1); (try clear hcz15_2); (try clear hcz17_0); (try clear hcz17_1); (try clear hcz17_2); (try clear hcz18_0); (try clear hcz18_1); (try clear hcz18_2); (try clear hcz32_0); (try clear hcz32_1); (try clear hcz32_2); (try clear hcz35_0); (try clear hcz35_1); (try clear hcz35_2); (try clear hcz37_0); (try clear hcz37_1); (try clear hcz37_2); (try clear hfz15_0); (try clear hfz15_1)
                      (try clear hfz15_2); (try clear hfz17_0); (try clear hfz17_1); (try clear hfz17_2); (try clear hfz18_0); (try clear hfz18_1); (try clear hfz18_2); (try clear hfz32_0); (try clear hfz32_1); (try clear hfz32_2); (try clear hfz35_0); (try clear hfz35_1); (try clear hfz35_2); (try clear hfz37_0); (try clear hfz37_1); (try clear hfz37_2); (try clear hx175_0); (try clear hx175_1); (try clear hx175_2); (try clear hx177_0); (try clear hx177_1); (try clear hx177_2); (try clear p1); (try clear p17); (try clear p175); (try clear p177); (try clear p2); (try clear p29); (try clear p33); (try clear q1); (try clear q17); (try clear q175); (try clear q177)
                      (try clear q29); (try clear q33); obtain ⟨kq, x64_18, rfl, HA, HJ18, HO_3, HO_15, BK176, HB⟩ := hcut
                      cases kq with
                      | zero => exact absurd HA.out (by simp [seichelaw11_GolexSemis.j2])
                      | succ kj18 =>
                        have H := HA.out
                        clear HA
                        simp only [seichelaw11_GolexSemis.j2] at H
                        by_cases c39 : x64_18 = true
                        · subst c39
                          have H1 : (some false) = some r := by rw [if_pos rfl] at H; exact H
                          clear H
                          have H := H1
                          clear H1
                          obtain rfl := Option.some.inj H
                          go_wp2
                          repeat (go_quiet (fail); try go_wp2)
                          go_ret
                          exact ⟨by first | rfl | (simp [errW_none, errW_some] <;> rfl) | (simp [*, errW_none, errW_some] <;> rfl), by repeat (first | (with_reducible first | exact HB.out | apply below_alloc | apply pw_below_drewN | apply below_drew1 | refine below_set ?_ GE176.out) | exact HB.out)⟩
                        · replace c39 := Bool.eq_false_iff.mpr c39
                          subst c39
                          have H1 : (if ((rd_T27 t172 x17_1).f0) = 0 then (if x17_1 > 0 then (if 0 ≤ (wrap64 (x17_1 - 1)) then (if (wrap64 (x17_1 - 1)) < (t172.length : Int) then ((seicheref11_Feeds.f kj18 ((rd_T27 t172 (wrap64 (x17_1 - 1))).f0) ((rd_T27 t172 (wrap64 (x17_1 - 1))).f1) ((rd_T27 t172 (wrap64 (x17_1 - 1))).f2)).bind fun t180 => (seichelaw11_GolexSemis.j3 kj18 a0 t172 x17_1 x6_12 t172 (t172.length : Int) x17_1 t180 ((rd_T27 t172 x17_1).f0) ((rd_T27 t172 x17_1).f1) ((rd_T27 t172 x17_1).f2))) else (none)) else (none)) else (seichelaw11_GolexSemis.j3 kj18 a0 t172 x17_1 x6_12 t172 (t172.length : Int) x17_1 false ((rd_T27 t172 x17_1).f0) ((rd_T27 t172 x17_1).f1) ((rd_T27 t172 x17_1).f2))) else (seichelaw11_GolexSemis.j3 kj18 a0 t172 x17_1 x6_12 t172 (t172.length : Int) x17_1 false ((rd_T27 t172 x17_1).f0) ((rd_T27 t172 x17_1).f1) ((rd_T27 t172 x17_1).f2))) = some r := by rw [if_neg (show ¬ (false = true) by decide)] at H; exact H
                          clear H
                          have H := H1
                          clear H1; have HC40 := Aside0.mk H; clear H
                          go_upto_region 12 with (fail)
                          repeat (go_quiet (fail); go_upto_region 12 with (fail))
                          go_cut [79] (fun v79 wc => ∃ (kq : Nat) (x79_39 : Bool), v79 = .bool x79_39 ∧ Aside0 (seichelaw11_GolexSemis.j3 kq a0 t172 x17_1 x6_12 t172 (t172.length : Int) x17_1 x79_39 ((rd_T27 t172 x17_1).f0) ((rd_T27 t172 x17_1).f1) ((rd_T27 t172 x17_1).f2) = some r) ∧ Aside0 (kq ≤ kj18) ∧ Aside0 (Kd.R k27 27 wc w.heap.size (fun k_ => k_ ≠ gb176) (.slice (some ad175) t172.length co9) t172) ∧ Aside0 (Kd.R k27 27 wc w.heap.size (fun k_ => k_ ≠ gb176) (.slice (some ad175) t172.length co9) t172) ∧ Aside0 (wc.heap[gb176]? = some (.cells #[.int .i64 ((rd_T27 t172 x17_1).f0), .string ((rd_T27 t172 x17_1).f1), .int .i64 ((rd_T27 t172 x17_1).f2)] 27 (0, 0))) ∧ Aside0 (Below w.heap.size w wc))
                          case first =>
                            have H := HC40.out
                            clear HC40
                            by_cases c41 : ((rd_T27 t172 x17_1).f0) = 0
                            · rw [if_pos c41] at H
                              have c41b0 : (((rd_T27 t172 x17_1).f0) == 0) = true := beq_iff_eq.mpr c41
                              have c41b1 : (((rd_T27 t172 x17_1).f0) != 0) = false := bne_eq_false_iff_eq.mpr c41
                              clear c41
                              (first | rw [c41b0] | (simp only [i64_w, i32_w]; rw [c41b0]) | skip)
                              by_cases c42 : x17_1 > 0
                              · rw [if_pos c42] at H
                                have c42b0 : decide (0 < x17_1) = true := decide_eq_true c42
                                clear c42
                                obtain ⟨ji43, hji43⟩ : ∃ j_ : Int, (wrap64 (x17_1 - 1)) = j_ := ⟨_, rfl⟩
                                replace H : (if 0 ≤ (ji43) then (if (ji43) < (t172.length : Int) then ((seicheref11_Feeds.f kj18 ((rd_T27 t172 (ji43)).f0) ((rd_T27 t172 (ji43)).f1) ((rd_T27 t172 (ji43)).f2)).bind fun t180 => (seichelaw11_GolexSemis.j3 kj18 a0 t172 x17_1 x6_12 t172 (t172.length : Int) x17_1 t180 ((rd_T27 t172 x17_1).f0) ((rd_T27 t172 x17_1).f1) ((rd_T27 t172 x17_1).f2))) else (none)) else (none)) = some r := by first | (rw [hji43] at H; exact H) | (simp only [hji43] at H ⊢; exact H)
                                have hji43w : (IntKind.i64.wrap (x17_1 - 1)) = ji43 := (i64_w _).trans hji43
                                by_cases c44 : 0 ≤ (ji43)
                                · rw [if_pos c44] at H
                                  have c44b0 : decide (0 ≤ (ji43)) = true := decide_eq_true c44
                                  clear c44
                                  by_cases c45 : (ji43) < (t172.length : Int)
                                  · rw [if_pos c45] at H
                                    have c45b0 : decide ((ji43) < (t172.length : Int)) = true := decide_eq_true c45
                                    clear c45
                                    replace H := Option.bind_eq_some_iff.mp H
                                    obtain ⟨t180, A460, H⟩ := H
                                    replace H : (seichelaw11_GolexSemis.j3 kj18 a0 t172 x17_1 x6_12 t172 (t172.length : Int) x17_1 t180 ((rd_T27 t172 x17_1).f0) ((rd_T27 t172 x17_1).f1) ((rd_T27 t172 x17_1).f2)) = some r := H
                                    have A46 := Aside0.mk A460; clear A460
                                    have H' := Aside0.mk H
                                    clear H
                                    have hcz47_0 : wc.cell? ⟨gb176, 0, none⟩ = some (.int .i64 ((rd_T27 t172 x17_1).f0)) := (blk_cell BK176.out 0).trans rfl
                                    have hcz47_1 : wc.cell? ⟨gb176, 1, none⟩ = some (.string ((rd_T27 t172 x17_1).f1)) := (blk_cell BK176.out 1).trans rfl
                                    have hcz47_2 : wc.cell? ⟨gb176, 2, none⟩ = some (.int .i64 ((rd_T27 t172 x17_1).f2)) := (blk_cell BK176.out 2).trans rfl
                                    have hfz47_0 := blk_frozen BK176.out 0; have hfz47_1 := blk_frozen BK176.out 1; have hfz47_2 := blk_frozen BK176.out 2
                                    have p179 : 0 ≤ ((ji43) : Int) := of_decide_eq_true (by first | (with_reducible assumption) | assumption)
                                    have q179 : (ji43) < (t172.length : Int) := of_decide_eq_true (by first | (with_reducible assumption) | assumption)
                                    obtain ⟨ad179, e179, hx179_0, hx179_1, hx179_2⟩ := at_T27 (Kd.R_reads' HO_3.out).2.2 (ji43) p179 q179
                                    obtain rfl : ad175 = ad179 := (by injection e179)
                                    replace p179 := eq_true p179; replace q179 := eq_true q179
                                    go_wp2_with (first | (go_at_call 13; (with_reducible refine (seicheref11_Feeds.calls kj18 ((rd_T27 t172 (ji43)).f0) ((rd_T27 t172 (ji43)).f1) ((rd_T27 t172 (ji43)).f2) t180 _ A46.out).mono ?_); rintro e w48 ⟨rfl, hb⟩; have n0_ := Aside0.mk (Kd.R_below (by (with_reducible repeat (first | apply Kd.R_alloc | apply Kd.R_drewN | apply Kd.R_drew)); exact HO_3.out) hb); have n1_ := Aside0.mk (Kd.R_below (by (with_reducible repeat (first | apply Kd.R_alloc | apply Kd.R_drewN | apply Kd.R_drew)); exact HO_15.out) hb); have n2_ := Aside0.mk (blk_below (g := gb176) (o := .cells #[.int .i64 ((rd_T27 t172 x17_1).f0), .string ((rd_T27 t172 x17_1).f1), .int .i64 ((rd_T27 t172 x17_1).f2)] 27 (0, 0)) (by (with_reducible repeat (first | refine blk_drewN ?_ _ | refine blk_drew ?_ | refine blk_alloc ?_ _)); exact BK176.out) hb); have n3_ := Aside0.mk (below_step (by repeat (first | (with_reducible first | exact HB.out | apply below_alloc | apply pw_below_drewN | apply below_drew1 | refine below_set ?_ GE176.out) | exact HB.out)) hb); clear HO_3; clear HO_15; clear BK176; clear HB; have HO_3 := n0_; have HO_15 := n1_; have BK176 := n2_; have HB := n3_; clear n0_ n1_ n2_ n3_; (try clear hb); (try clear hb2); (try clear hk); (try clear hi)))
                                    repeat (go_quiet (first | (go_at_call 13; (with_reducible refine (seicheref11_Feeds.calls kj18 ((rd_T27 t172 (ji43)).f0) ((rd_T27 t172 (ji43)).f1) ((rd_T27 t172 (ji43)).f2) t180 _ A46.out).mono ?_); rintro e w48 ⟨rfl, hb⟩; have n0_ := Aside0.mk (Kd.R_below (by (with_reducible repeat (first | apply Kd.R_alloc | apply Kd.R_drewN | apply Kd.R_drew)); exact HO_3.out) hb); have n1_ := Aside0.mk (Kd.R_below (by (with_reducible repeat (first | apply Kd.R_alloc | apply Kd.R_drewN | apply Kd.R_drew)); exact HO_15.out) hb); have n2_ := Aside0.mk (blk_below (g := gb176) (o := .cells #[.int .i64 ((rd_T27 t172 x17_1).f0), .string ((rd_T27 t172 x17_1).f1), .int .i64 ((rd_T27 t172 x17_1).f2)] 27 (0, 0)) (by (with_reducible repeat (first | refine blk_drewN ?_ _ | refine blk_drew ?_ | refine blk_alloc ?_ _)); exact BK176.out) hb); have n3_ := Aside0.mk (below_step (by repeat (first | (with_reducible first | exact HB.out | apply below_alloc | apply pw_below_drewN | apply below_drew1 | refine below_set ?_ GE176.out) | exact HB.out)) hb); clear HO_3; clear HO_15; clear BK176; clear HB; have HO_3 := n0_; have HO_15 := n1_; have BK176 := n2_; have HB := n3_; clear n0_ n1_ n2_ n3_; (try clear hb); (try clear hb2); (try clear hk); (try clear hi))); try go_wp2_with (first | (go_at_call 13; (with_reducible refine (seicheref11_Feeds.calls kj18 ((rd_T27 t172 (ji43)).f0) ((rd_T27 t172 (ji43)).f1) ((rd_T27 t172 (ji43)).f2) t180 _ A46.out).mono ?_); rintro e w48 ⟨rfl, hb⟩; have n0_ := Aside0.mk (Kd.R_below (by (with_reducible repeat (first | apply Kd.R_alloc | apply Kd.R_drewN | apply Kd.R_drew)); exact HO_3.out) hb); have n1_ := Aside0.mk (Kd.R_below (by (with_reducible repeat (first | apply Kd.R_alloc | apply Kd.R_drewN | apply Kd.R_drew)); exact HO_15.out) hb); have n2_ := Aside0.mk (blk_below (g := gb176) (o := .cells #[.int .i64 ((rd_T27 t172 x17_1).f0), .string ((rd_T27 t172 x17_1).f1), .int .i64 ((rd_T27 t172 x17_1).f2)] 27 (0, 0)) (by (with_reducible repeat (first | refine blk_drewN ?_ _ | refine blk_drew ?_ | refine blk_alloc ?_ _)); exact BK176.out) hb); have n3_ := Aside0.mk (below_step (by repeat (first | (with_reducible first | exact HB.out | apply below_alloc | apply pw_below_drewN | apply below_drew1 | refine below_set ?_ GE176.out) | exact HB.out)) hb); clear HO_3; clear HO_15; clear BK176; clear HB; have HO_3 := n0_; have HO_15 := n1_; have BK176 := n2_; have HB := n3_; clear n0_ n1_ n2_ n3_; (try clear hb); (try clear hb2); (try clear hk); (try clear hi))))
                                    go_meet
                                    case rel => exact ⟨_, (t180), (by first | rfl | (simp; done) | (simp [*]; done)), H', ⟨by have := HK1.out; have := HJ12.out; have := HJ18.out; first | omega | exact Nat.le_refl _⟩, ⟨by (with_reducible repeat (first | apply Kd.R_alloc | apply Kd.R_drewN | apply Kd.R_drew)); exact HO_3.out⟩, ⟨by (with_reducible repeat (first | apply Kd.R_alloc | apply Kd.R_drewN | apply Kd.R_drew)); exact HO_15.out⟩, ⟨by (with_reducible repeat (first | refine blk_drewN ?_ _ | refine blk_drew ?_ | refine blk_alloc ?_ _)); exact BK176.out⟩, ⟨by repeat (first | (with_reducible first | exact HB.out | apply below_alloc | apply pw_below_drewN | apply below_drew1 | refine below_set ?_ GE176.out) | exact HB.out)⟩⟩
                                  · rw [if_neg c45] at H
                                    exact absurd H (by simp)
                                · rw [if_neg c44] at H
                                  exact absurd H (by simp)
                              · rw [if_neg c42] at H
                                have c42b0 : decide (0 < x17_1) = false := decide_eq_false c42
                                clear c42
                                have H' := Aside0.mk H
                                clear H
                                have hcz49_0 : wc.cell? ⟨gb176, 0, none⟩ = some (.int .i64 ((rd_T27 t172 x17_1).f0)) := (blk_cell BK176.out 0).trans rfl
                                have hcz49_1 : wc.cell? ⟨gb176, 1, none⟩ = some (.string ((rd_T27 t172 x17_1).f1)) := (blk_cell BK176.out 1).trans rfl
                                have hcz49_2 : wc.cell? ⟨gb176, 2, none⟩ = some (.int .i64 ((rd_T27 t172 x17_1).f2)) := (blk_cell BK176.out 2).trans rfl
                                have hfz49_0 := blk_frozen BK176.out 0; have hfz49_1 := blk_frozen BK176.out 1; have hfz49_2 := blk_frozen BK176.out 2
                                go_wp2
                                repeat (go_quiet (fail); try go_wp2)
                                go_meet
                                case rel => exact ⟨_, (false), (by first | rfl | (simp; done) | (simp [*]; done)), H', ⟨by have := HK1.out; have := HJ12.out; have := HJ18.out; first | omega | exact Nat.le_refl _⟩, ⟨by (with_reducible repeat (first | apply Kd.R_alloc | apply Kd.R_drewN | apply Kd.R_drew)); exact HO_3.out⟩, ⟨by (with_reducible repeat (first | apply Kd.R_alloc | apply Kd.R_drewN | apply Kd.R_drew)); exact HO_15.out⟩, ⟨by (with_reducible repeat (first | refine blk_drewN ?_ _ | refine blk_drew ?_ | refine blk_alloc ?_ _)); exact BK176.out⟩, ⟨by repeat (first | (with_reducible first | exact HB.out | apply below_alloc | apply pw_below_drewN | apply below_drew1 | refine below_set ?_ GE176.out) | exact HB.out)⟩⟩
                            · rw [if_neg c41] at H
                              have c41b0 : (((rd_T27 t172 x17_1).f0) == 0) = false := beq_eq_false_iff_ne.mpr c41
                              have c41b1 : (((rd_T27 t172 x17_1).f0) != 0) = true := bne_iff_ne.mpr c41
                              (first | rw [c41b0] | (simp only [i64_w, i32_w]; rw [c41b0]) | skip)
                              have H' := Aside0.mk H
                              clear H
                              have hcz50_0 : wc.cell? ⟨gb176, 0, none⟩ = some (.int .i64 ((rd_T27 t172 x17_1).f0)) := (blk_cell BK176.out 0).trans rfl
                              have hcz50_1 : wc.cell? ⟨gb176, 1, none⟩ = some (.string ((rd_T27 t172 x17_1).f1)) := (blk_cell BK176.out 1).trans rfl
                              have hcz50_2 : wc.cell? ⟨gb176, 2, none⟩ = some (.int .i64 ((rd_T27 t172 x17_1).f2)) := (blk_cell BK176.out 2).trans rfl
                              have hfz50_0 := blk_frozen BK176.out 0; have hfz50_1 := blk_frozen BK176.out 1; have hfz50_2 := blk_frozen BK176.out 2
                              go_wp2
                              repeat (go_quiet (fail); try go_wp2)
                              go_meet
                              case rel => exact ⟨_, (false), (by first | rfl | (simp; done) | (simp [*]; done)), H', ⟨by have := HK1.out; have := HJ12.out; have := HJ18.out; first | omega | exact Nat.le_refl _⟩, ⟨by (with_reducible repeat (first | apply Kd.R_alloc | apply Kd.R_drewN | apply Kd.R_drew)); exact HO_3.out⟩, ⟨by (with_reducible repeat (first | apply Kd.R_alloc | apply Kd.R_drewN | apply Kd.R_drew)); exact HO_15.out⟩, ⟨by (with_reducible repeat (first | refine blk_drewN ?_ _ | refine blk_drew ?_ | refine blk_alloc ?_ _)); exact BK176.out⟩, ⟨by repeat (first | (with_reducible first | exact HB.out | apply below_alloc | apply pw_below_drewN | apply below_drew1 | refine below_set ?_ GE176.out) | exact HB.out)⟩⟩
                          case rest =>
                            clear HC40; (try clear c1); (try clear p1); (try clear q1); (try clear hx1); (try clear c2); (try clear p2); (try clear q2); (try clear hx2); (try clear c3); (try clear p3); (try clear q3); (try clear hx3); (try clear c4); (try clear c4b0); (try clear c4b1); (try clear c5); (try clear p6); (try clear c10); (try clear c10b0); (try clear c11); (try clear c11b0); (try clear c12); (try clear c12b0); (try clear c16); (try clear c16b0); (try clear c16b1); (try clear p17); (try clear q17); (try clear hx17); (try clear c20); (try clear c21); (try clear c21b0); (try clear c21b1); (try clear c23); (try clear c23b0); (try clear c24); (try clear c24b0)
                            (try clear c26); (try clear c27); (try clear c27b0); (try clear c28); (try clear c28b0); (try clear p29); (try clear q29); (try clear hx29); (try clear c30); (try clear c30b0); (try clear c30b1); (try clear p33); (try clear q33); (try clear hx33); (try clear c39); (try clear c41); (try clear c41b0); (try clear c41b1); (try clear c42); (try clear c42b0); (try clear c44); (try clear c44b0); (try clear c45); (try clear c45b0); (try clear hcz15_0); (try clear hcz15_1); (try clear hcz15_2); (try clear hcz17_0); (try clear hcz17_1); (try clear hcz17_2); (try clear hcz18_0); (try clear hcz18_1); (try clear hcz18_2); (try clear hcz32_0); (try clear hcz32_1)
                            (try clear hcz32_2); (try clear hcz35_0); (try clear hcz35_1); (try clear hcz35_2); (try clear hcz37_0); (try clear hcz37_1); (try clear hcz37_2); (try clear hcz47_0); (try clear hcz47_1); (try clear hcz47_2); (try clear hcz49_0); (try clear hcz49_1); (try clear hcz49_2); (try clear hcz50_0); (try clear hcz50_1); (try clear hcz50_2); (try clear hfz15_0); (try clear hfz15_1); (try clear hfz15_2); (try clear hfz17_0); (try clear hfz17_1); (try clear hfz17_2); (try clear hfz18_0); (try clear hfz18_1); (try clear hfz18_2); (try clear hfz32_0); (try clear hfz32_1); (try clear hfz32_2); (try clear hfz35_0); (try clear hfz35_1); (try clear hfz35_2)
                            (try clear hfz37_0); (try clear hfz37_1); (try clear hfz37_2); (try clear hfz47_0); (try clear hfz47_1); (try clear hfz47_2); (try clear hfz49_0); (try clear hfz49_1); (try clear hfz49_2); (try clear hfz50_0); (try clear hfz50_1); (try clear hfz50_2); (try clear hx175_0); (try clear hx175_1); (try clear hx175_2); (try clear hx177_0); (try clear hx177_1); (try clear hx177_2); (try clear hx179_0); (try clear hx179_1); (try clear hx179_2); (try clear p1); (try clear p17); (try clear p175); (try clear p177); (try clear p179); (try clear p2); (try clear p29); (try clear p3); (try clear p33); (try clear p6); (try clear q1); (try clear q17)
                            (try clear q175); (try clear q177); (try clear q179); (try clear q2); (try clear q29); (try clear q3); (try clear q33); obtain ⟨kq, x79_39, rfl, HA, HJ39, HO_3, HO_15, BK176, HB⟩ := hcut
                            cases kq with
                            | zero => exact absurd HA.out (by simp [seichelaw11_GolexSemis.j3])
                            | succ kj39 =>
                              have H := HA.out
                              clear HA
                              simp only [seichelaw11_GolexSemis.j3] at H
                              by_cases c51 : x79_39 = true
                              · subst c51
                                have H1 : (some false) = some r := by rw [if_pos rfl] at H; exact H
                                clear H
                                have H := H1
                                clear H1
                                obtain rfl := Option.some.inj H
                                go_wp2
                                repeat (go_quiet (fail); try go_wp2)
                                go_ret
                                exact ⟨by first | rfl | (simp [errW_none, errW_some] <;> rfl) | (simp [*, errW_none, errW_some] <;> rfl), by repeat (first | (with_reducible first | exact HB.out | apply below_alloc | apply pw_below_drewN | apply below_drew1 | refine below_set ?_ GE176.out) | exact HB.out)⟩
                              · replace c51 := Bool.eq_false_iff.mpr c51
                                subst c51
                                have H1 : (if x17_1 > 0 then (if x6_12 = true then (seichelaw11_GolexSemis.j4 kj39 a0 t172 x17_1 t172 (t172.length : Int) x17_1 false ((rd_T27 t172 x17_1).f0) ((rd_T27 t172 x17_1).f1) ((rd_T27 t172 x17_1).f2)) else (if ((rd_T27 t172 x17_1).f0) = 7 then (seichelaw11_GolexSemis.j4 kj39 a0 t172 x17_1 t172 (t172.length : Int) x17_1 false ((rd_T27 t172 x17_1).f0) ((rd_T27 t172 x17_1).f1) ((rd_T27 t172 x17_1).f2)) else (if 0 ≤ (wrap64 (x17_1 - 1)) then (if (wrap64 (x17_1 - 1)) < (t172.length : Int) then ((seicheref11_Feeds.f kj39 ((rd_T27 t172 (wrap64 (x17_1 - 1))).f0) ((rd_T27 t172 (wrap64 (x17_1 - 1))).f1) ((rd_T27 t172 (wrap64 (x17_1 - 1))).f2)).bind fun t182 => (seichelaw11_GolexSemis.j4 kj39 a0 t172 x17_1 t172 (t172.length : Int) x17_1 t182 ((rd_T27 t172 x17_1).f0) ((rd_T27 t172 x17_1).f1) ((rd_T27 t172 x17_1).f2))) else (none)) else (none)))) else (seichelaw11_GolexSemis.j4 kj39 a0 t172 x17_1 t172 (t172.length : Int) x17_1 false ((rd_T27 t172 x17_1).f0) ((rd_T27 t172 x17_1).f1) ((rd_T27 t172 x17_1).f2))) = some r := by rw [if_neg (show ¬ (false = true) by decide)] at H; exact H
                                clear H
                                have H := H1
                                clear H1; have HC52 := Aside0.mk H; clear H
                                go_upto_region 14 with (fail)
                                repeat (go_quiet (fail); go_upto_region 14 with (fail))
                                go_cut [98] (fun v98 wc => ∃ (kq : Nat) (x98_51 : Bool), v98 = .bool x98_51 ∧ Aside0 (seichelaw11_GolexSemis.j4 kq a0 t172 x17_1 t172 (t172.length : Int) x17_1 x98_51 ((rd_T27 t172 x17_1).f0) ((rd_T27 t172 x17_1).f1) ((rd_T27 t172 x17_1).f2) = some r) ∧ Aside0 (kq ≤ kj39) ∧ Aside0 (Kd.R k27 27 wc w.heap.size (fun k_ => k_ ≠ gb176) (.slice (some ad175) t172.length co9) t172) ∧ Aside0 (Kd.R k27 27 wc w.heap.size (fun k_ => k_ ≠ gb176) (.slice (some ad175) t172.length co9) t172) ∧ Aside0 (wc.heap[gb176]? = some (.cells #[.int .i64 ((rd_T27 t172 x17_1).f0), .string ((rd_T27 t172 x17_1).f1), .int .i64 ((rd_T27 t172 x17_1).f2)] 27 (0, 0))) ∧ Aside0 (Below w.heap.size w wc))
                                case first =>
                                  have H := HC52.out
                                  clear HC52
                                  by_cases c53 : x17_1 > 0
                                  · rw [if_pos c53] at H
                                    have c53b0 : decide (0 < x17_1) = true := decide_eq_true c53
                                    clear c53
                                    (first | rw [c53b0] | (simp only [i64_w, i32_w]; rw [c53b0]) | skip)
                                    by_cases c54 : x6_12 = true
                                    · subst c54
                                      have H1 : (seichelaw11_GolexSemis.j4 kj39 a0 t172 x17_1 t172 (t172.length : Int) x17_1 false ((rd_T27 t172 x17_1).f0) ((rd_T27 t172 x17_1).f1) ((rd_T27 t172 x17_1).f2)) = some r := by rw [if_pos rfl] at H; exact H
                                      clear H
                                      have H := H1
                                      clear H1
                                      have H' := Aside0.mk H
                                      clear H
                                      go_wp2
                                      repeat (go_quiet (fail); try go_wp2)
                                      go_meet
                                      case rel => exact ⟨_, (false), (by first | rfl | (simp; done) | (simp [*]; done)), H', ⟨by have := HK1.out; have := HJ12.out; have := HJ18.out; have := HJ39.out; first | omega | exact Nat.le_refl _⟩, ⟨by (with_reducible repeat (first | apply Kd.R_alloc | apply Kd.R_drewN | apply Kd.R_drew)); exact HO_3.out⟩, ⟨by (with_reducible repeat (first | apply Kd.R_alloc | apply Kd.R_drewN | apply Kd.R_drew)); exact HO_15.out⟩, ⟨by (with_reducible repeat (first | refine blk_drewN ?_ _ | refine blk_drew ?_ | refine blk_alloc ?_ _)); exact BK176.out⟩, ⟨by repeat (first | (with_reducible first | exact HB.out | apply below_alloc | apply pw_below_drewN | apply below_drew1 | refine below_set ?_ GE176.out) | exact HB.out)⟩⟩
                                    · replace c54 := Bool.eq_false_iff.mpr c54
                                      subst c54
                                      have H1 : (if ((rd_T27 t172 x17_1).f0) = 7 then (seichelaw11_GolexSemis.j4 kj39 a0 t172 x17_1 t172 (t172.length : Int) x17_1 false ((rd_T27 t172 x17_1).f0) ((rd_T27 t172 x17_1).f1) ((rd_T27 t172 x17_1).f2)) else (if 0 ≤ (wrap64 (x17_1 - 1)) then (if (wrap64 (x17_1 - 1)) < (t172.length : Int) then ((seicheref11_Feeds.f kj39 ((rd_T27 t172 (wrap64 (x17_1 - 1))).f0) ((rd_T27 t172 (wrap64 (x17_1 - 1))).f1) ((rd_T27 t172 (wrap64 (x17_1 - 1))).f2)).bind fun t182 => (seichelaw11_GolexSemis.j4 kj39 a0 t172 x17_1 t172 (t172.length : Int) x17_1 t182 ((rd_T27 t172 x17_1).f0) ((rd_T27 t172 x17_1).f1) ((rd_T27 t172 x17_1).f2))) else (none)) else (none))) = some r := by rw [if_neg (show ¬ (false = true) by decide)] at H; exact H
                                      clear H
                                      have H := H1
                                      clear H1
                                      by_cases c55 : ((rd_T27 t172 x17_1).f0) = 7
                                      · rw [if_pos c55] at H
                                        have c55b0 : (((rd_T27 t172 x17_1).f0) == 7) = true := beq_iff_eq.mpr c55
                                        have c55b1 : (((rd_T27 t172 x17_1).f0) != 7) = false := bne_eq_false_iff_eq.mpr c55
                                        clear c55
                                        have H' := Aside0.mk H
                                        clear H
                                        have hcz56_0 : wc.cell? ⟨gb176, 0, none⟩ = some (.int .i64 ((rd_T27 t172 x17_1).f0)) := (blk_cell BK176.out 0).trans rfl
                                        have hcz56_1 : wc.cell? ⟨gb176, 1, none⟩ = some (.string ((rd_T27 t172 x17_1).f1)) := (blk_cell BK176.out 1).trans rfl
                                        have hcz56_2 : wc.cell? ⟨gb176, 2, none⟩ = some (.int .i64 ((rd_T27 t172 x17_1).f2)) := (blk_cell BK176.out 2).trans rfl
                                        have hfz56_0 := blk_frozen BK176.out 0; have hfz56_1 := blk_frozen BK176.out 1; have hfz56_2 := blk_frozen BK176.out 2
                                        go_wp2
                                        repeat (go_quiet (fail); try go_wp2)
                                        go_meet
                                        case rel => exact ⟨_, (false), (by first | rfl | (simp; done) | (simp [*]; done)), H', ⟨by have := HK1.out; have := HJ12.out; have := HJ18.out; have := HJ39.out; first | omega | exact Nat.le_refl _⟩, ⟨by (with_reducible repeat (first | apply Kd.R_alloc | apply Kd.R_drewN | apply Kd.R_drew)); exact HO_3.out⟩, ⟨by (with_reducible repeat (first | apply Kd.R_alloc | apply Kd.R_drewN | apply Kd.R_drew)); exact HO_15.out⟩, ⟨by (with_reducible repeat (first | refine blk_drewN ?_ _ | refine blk_drew ?_ | refine blk_alloc ?_ _)); exact BK176.out⟩, ⟨by repeat (first | (with_reducible first | exact HB.out | apply below_alloc | apply pw_below_drewN | apply below_drew1 | refine below_set ?_ GE176.out) | exact HB.out)⟩⟩
                                      · rw [if_neg c55] at H
                                        have c55b0 : (((rd_T27 t172 x17_1).f0) == 7) = false := beq_eq_false_iff_ne.mpr c55
                                        have c55b1 : (((rd_T27 t172 x17_1).f0) != 7) = true := bne_iff_ne.mpr c55
                                        obtain ⟨ji57, hji57⟩ : ∃ j_ : Int, (wrap64 (x17_1 - 1)) = j_ := ⟨_, rfl⟩
                                        replace H : (if 0 ≤ (ji57) then (if (ji57) < (t172.length : Int) then ((seicheref11_Feeds.f kj39 ((rd_T27 t172 (ji57)).f0) ((rd_T27 t172 (ji57)).f1) ((rd_T27 t172 (ji57)).f2)).bind fun t182 => (seichelaw11_GolexSemis.j4 kj39 a0 t172 x17_1 t172 (t172.length : Int) x17_1 t182 ((rd_T27 t172 x17_1).f0) ((rd_T27 t172 x17_1).f1) ((rd_T27 t172 x17_1).f2))) else (none)) else (none)) = some r := by first | (rw [hji57] at H; exact H) | (simp only [hji57] at H ⊢; exact H)
                                        have hji57w : (IntKind.i64.wrap (x17_1 - 1)) = ji57 := (i64_w _).trans hji57
                                        by_cases c58 : 0 ≤ (ji57)
                                        · rw [if_pos c58] at H
                                          have c58b0 : decide (0 ≤ (ji57)) = true := decide_eq_true c58
                                          clear c58
                                          by_cases c59 : (ji57) < (t172.length : Int)
                                          · rw [if_pos c59] at H
                                            have c59b0 : decide ((ji57) < (t172.length : Int)) = true := decide_eq_true c59
                                            clear c59
                                            replace H := Option.bind_eq_some_iff.mp H
                                            obtain ⟨t182, A600, H⟩ := H
                                            replace H : (seichelaw11_GolexSemis.j4 kj39 a0 t172 x17_1 t172 (t172.length : Int) x17_1 t182 ((rd_T27 t172 x17_1).f0) ((rd_T27 t172 x17_1).f1) ((rd_T27 t172 x17_1).f2)) = some r := H
                                            have A60 := Aside0.mk A600; clear A600
                                            have H' := Aside0.mk H
                                            clear H
                                            have hcz61_0 : wc.cell? ⟨gb176, 0, none⟩ = some (.int .i64 ((rd_T27 t172 x17_1).f0)) := (blk_cell BK176.out 0).trans rfl
                                            have hcz61_1 : wc.cell? ⟨gb176, 1, none⟩ = some (.string ((rd_T27 t172 x17_1).f1)) := (blk_cell BK176.out 1).trans rfl
                                            have hcz61_2 : wc.cell? ⟨gb176, 2, none⟩ = some (.int .i64 ((rd_T27 t172 x17_1).f2)) := (blk_cell BK176.out 2).trans rfl
                                            have hfz61_0 := blk_frozen BK176.out 0; have hfz61_1 := blk_frozen BK176.out 1; have hfz61_2 := blk_frozen BK176.out 2
                                            have p181 : 0 ≤ ((ji57) : Int) := of_decide_eq_true (by first | (with_reducible assumption) | assumption)
                                            have q181 : (ji57) < (t172.length : Int) := of_decide_eq_true (by first | (with_reducible assumption) | assumption)
                                            obtain ⟨ad181, e181, hx181_0, hx181_1, hx181_2⟩ := at_T27 (Kd.R_reads' HO_3.out).2.2 (ji57) p181 q181
                                            obtain rfl : ad175 = ad181 := (by injection e181)
                                            replace p181 := eq_true p181; replace q181 := eq_true q181
                                            go_wp2_with (first | (go_at_call 13; (with_reducible refine (seicheref11_Feeds.calls kj39 ((rd_T27 t172 (ji57)).f0) ((rd_T27 t172 (ji57)).f1) ((rd_T27 t172 (ji57)).f2) t182 _ A60.out).mono ?_); rintro e w62 ⟨rfl, hb⟩; have n0_ := Aside0.mk (Kd.R_below (by (with_reducible repeat (first | apply Kd.R_alloc | apply Kd.R_drewN | apply Kd.R_drew)); exact HO_3.out) hb); have n1_ := Aside0.mk (Kd.R_below (by (with_reducible repeat (first | apply Kd.R_alloc | apply Kd.R_drewN | apply Kd.R_drew)); exact HO_15.out) hb); have n2_ := Aside0.mk (blk_below (g := gb176) (o := .cells #[.int .i64 ((rd_T27 t172 x17_1).f0), .string ((rd_T27 t172 x17_1).f1), .int .i64 ((rd_T27 t172 x17_1).f2)] 27 (0, 0)) (by (with_reducible repeat (first | refine blk_drewN ?_ _ | refine blk_drew ?_ | refine blk_alloc ?_ _)); exact BK176.out) hb); have n3_ := Aside0.mk (below_step (by repeat (first | (with_reducible first | exact HB.out | apply below_alloc | apply pw_below_drewN | apply below_drew1 | refine below_set ?_ GE176.out) | exact HB.out)) hb); clear HO_3; clear HO_15; clear BK176; clear HB; have HO_3 := n0_; have HO_15 := n1_; have BK176 := n2_; have HB := n3_; clear n0_ n1_ n2_ n3_; (try clear hb); (try clear hb2); (try clear hk); (try clear hi)))
                                            repeat (go_quiet (first | (go_at_call 13; (with_reducible refine (seicheref11_Feeds.calls kj39 ((rd_T27 t172 (ji57)).f0) ((rd_T27 t172 (ji57)).f1) ((rd_T27 t172 (ji57)).f2) t182 _ A60.out).mono ?_); rintro e w62 ⟨rfl, hb⟩; have n0_ := Aside0.mk (Kd.R_below (by (with_reducible repeat (first | apply Kd.R_alloc | apply Kd.R_drewN | apply Kd.R_drew)); exact HO_3.out) hb); have n1_ := Aside0.mk (Kd.R_below (by (with_reducible repeat (first | apply Kd.R_alloc | apply Kd.R_drewN | apply Kd.R_drew)); exact HO_15.out) hb); have n2_ := Aside0.mk (blk_below (g := gb176) (o := .cells #[.int .i64 ((rd_T27 t172 x17_1).f0), .string ((rd_T27 t172 x17_1).f1), .int .i64 ((rd_T27 t172 x17_1).f2)] 27 (0, 0)) (by (with_reducible repeat (first | refine blk_drewN ?_ _ | refine blk_drew ?_ | refine blk_alloc ?_ _)); exact BK176.out) hb); have n3_ := Aside0.mk (below_step (by repeat (first | (with_reducible first | exact HB.out | apply below_alloc | apply pw_below_drewN | apply below_drew1 | refine below_set ?_ GE176.out) | exact HB.out)) hb); clear HO_3; clear HO_15; clear BK176; clear HB; have HO_3 := n0_; have HO_15 := n1_; have BK176 := n2_; have HB := n3_; clear n0_ n1_ n2_ n3_; (try clear hb); (try clear hb2); (try clear hk); (try clear hi))); try go_wp2_with (first | (go_at_call 13; (with_reducible refine (seicheref11_Feeds.calls kj39 ((rd_T27 t172 (ji57)).f0) ((rd_T27 t172 (ji57)).f1) ((rd_T27 t172 (ji57)).f2) t182 _ A60.out).mono ?_); rintro e w62 ⟨rfl, hb⟩; have n0_ := Aside0.mk (Kd.R_below (by (with_reducible repeat (first | apply Kd.R_alloc | apply Kd.R_drewN | apply Kd.R_drew)); exact HO_3.out) hb); have n1_ := Aside0.mk (Kd.R_below (by (with_reducible repeat (first | apply Kd.R_alloc | apply Kd.R_drewN | apply Kd.R_drew)); exact HO_15.out) hb); have n2_ := Aside0.mk (blk_below (g := gb176) (o := .cells #[.int .i64 ((rd_T27 t172 x17_1).f0), .string ((rd_T27 t172 x17_1).f1), .int .i64 ((rd_T27 t172 x17_1).f2)] 27 (0, 0)) (by (with_reducible repeat (first | refine blk_drewN ?_ _ | refine blk_drew ?_ | refine blk_alloc ?_ _)); exact BK176.out) hb); have n3_ := Aside0.mk (below_step (by repeat (first | (with_reducible first | exact HB.out | apply below_alloc | apply pw_below_drewN | apply below_drew1 | refine below_set ?_ GE176.out) | exact HB.out)) hb); clear HO_3; clear HO_15; clear BK176; clear HB; have HO_3 := n0_; have HO_15 := n1_; have BK176 := n2_; have HB := n3_; clear n0_ n1_ n2_ n3_; (try clear hb); (try clear hb2); (try clear hk); (try clear hi))))
                                            go_meet
                                            case rel => exact ⟨_, (t182), (by first | rfl | (simp; done) | (simp [*]; done)), H', ⟨by have := HK1.out; have := HJ12.out; have := HJ18.out; have := HJ39.out; first | omega | exact Nat.le_refl _⟩, ⟨by (with_reducible repeat (first | apply Kd.R_alloc | apply Kd.R_drewN | apply Kd.R_drew)); exact HO_3.out⟩, ⟨by (with_reducible repeat (first | apply Kd.R_alloc | apply Kd.R_drewN | apply Kd.R_drew)); exact HO_15.out⟩, ⟨by (with_reducible repeat (first | refine blk_drewN ?_ _ | refine blk_drew ?_ | refine blk_alloc ?_ _)); exact BK176.out⟩, ⟨by repeat (first | (with_reducible first | exact HB.out | apply below_alloc | apply pw_below_drewN | apply below_drew1 | refine below_set ?_ GE176.out) | exact HB.out)⟩⟩
                                          · rw [if_neg c59] at H
                                            exact absurd H (by simp)
                                        · rw [if_neg c58] at H
                                          exact absurd H (by simp)
                                  · rw [if_neg c53] at H
                                    have c53b0 : decide (0 < x17_1) = false := decide_eq_false c53
                                    clear c53
                                    (first | rw [c53b0] | (simp only [i64_w, i32_w]; rw [c53b0]) | skip)
                                    have H' := Aside0.mk H
                                    clear H
                                    go_wp2
                                    repeat (go_quiet (fail); try go_wp2)
                                    go_meet
                                    case rel => exact ⟨_, (false), (by first | rfl | (simp; done) | (simp [*]; done)), H', ⟨by have := HK1.out; have := HJ12.out; have := HJ18.out; have := HJ39.out; first | omega | exact Nat.le_refl _⟩, ⟨by (with_reducible repeat (first | apply Kd.R_alloc | apply Kd.R_drewN | apply Kd.R_drew)); exact HO_3.out⟩, ⟨by (with_reducible repeat (first | apply Kd.R_alloc | apply Kd.R_drewN | apply Kd.R_drew)); exact HO_15.out⟩, ⟨by (with_reducible repeat (first | refine blk_drewN ?_ _ | refine blk_drew ?_ | refine blk_alloc ?_ _)); exact BK176.out⟩, ⟨by repeat (first | (with_reducible first | exact HB.out | apply below_alloc | apply pw_below_drewN | apply below_drew1 | refine below_set ?_ GE176.out) | exact HB.out)⟩⟩
                                case rest =>
                                  clear HC52; (try clear c1); (try clear p1); (try clear q1); (try clear hx1); (try clear c2); (try clear p2); (try clear q2); (try clear hx2); (try clear c3); (try clear p3); (try clear q3); (try clear hx3); (try clear c4); (try clear c4b0); (try clear c4b1); (try clear c5); (try clear p6); (try clear c10); (try clear c10b0); (try clear c11); (try clear c11b0); (try clear c12); (try clear c12b0); (try clear c16); (try clear c16b0); (try clear c16b1); (try clear p17); (try clear q17); (try clear hx17); (try clear p18); (try clear q18); (try clear hx18); (try clear c20); (try clear c21); (try clear c21b0); (try clear c21b1); (try clear c23)
                                  (try clear c23b0); (try clear c24); (try clear c24b0); (try clear c26); (try clear c27); (try clear c27b0); (try clear c28); (try clear c28b0); (try clear p29); (try clear q29); (try clear hx29); (try clear c30); (try clear c30b0); (try clear c30b1); (try clear p33); (try clear q33); (try clear hx33); (try clear c39); (try clear c41); (try clear c41b0); (try clear c41b1); (try clear c42); (try clear c42b0); (try clear c44); (try clear c44b0); (try clear c45); (try clear c45b0); (try clear c51); (try clear c53); (try clear c53b0); (try clear c54); (try clear c55); (try clear c55b0); (try clear c55b1); (try clear c58); (try clear c58b0)
                                  (try clear c59); (try clear c59b0); (try clear hcz15_0); (try clear hcz15_1); (try clear hcz15_2); (try clear hcz17_0); (try clear hcz17_1); (try clear hcz17_2); (try clear hcz18_0); (try clear hcz18_1); (try clear hcz18_2); (try clear hcz32_0); (try clear hcz32_1); (try clear hcz32_2); (try clear hcz35_0); (try clear hcz35_1); (try clear hcz35_2); (try clear hcz37_0); (try clear hcz37_1); (try clear hcz37_2); (try clear hcz47_0); (try clear hcz47_1); (try clear hcz47_2); (try clear hcz49_0); (try clear hcz49_1); (try clear hcz49_2); (try clear hcz50_0); (try clear hcz50_1); (try clear hcz50_2); (try clear hcz56_0); (try clear hcz56_1)
                                  (try clear hcz56_2); (try clear hcz61_0); (try clear hcz61_1); (try clear hcz61_2); (try clear hfz15_0); (try clear hfz15_1); (try clear hfz15_2); (try clear hfz17_0); (try clear hfz17_1); (try clear hfz17_2); (try clear hfz18_0); (try clear hfz18_1); (try clear hfz18_2); (try clear hfz32_0); (try clear hfz32_1); (try clear hfz32_2); (try clear hfz35_0); (try clear hfz35_1); (try clear hfz35_2); (try clear hfz37_0); (try clear hfz37_1); (try clear hfz37_2); (try clear hfz47_0); (try clear hfz47_1); (try clear hfz47_2); (try clear hfz49_0); (try clear hfz49_1); (try clear hfz49_2); (try clear hfz50_0); (try clear hfz50_1)
                                  (try clear hfz50_2); (try clear hfz56_0); (try clear hfz56_1); (try clear hfz56_2); (try clear hfz61_0); (try clear hfz61_1); (try clear hfz61_2); (try clear hx175_0); (try clear hx175_1); (try clear hx175_2); (try clear hx177_0); (try clear hx177_1); (try clear hx177_2); (try clear hx179_0); (try clear hx179_1); (try clear hx179_2); (try clear hx181_0); (try clear hx181_1); (try clear hx181_2); (try clear p1); (try clear p17); (try clear p175); (try clear p177); (try clear p179); (try clear p181); (try clear p2); (try clear p29); (try clear p3); (try clear p33); (try clear p6); (try clear q1); (try clear q17); (try clear q175)
                                  (try clear q177); (try clear q179); (try clear q181); (try clear q2); (try clear q29); (try clear q3); (try clear q33); obtain ⟨kq, x98_51, rfl, HA, HJ51, HO_3, HO_15, BK176, HB⟩ := hcut
                                  cases kq with
                                  | zero => exact absurd HA.out (by simp [seichelaw11_GolexSemis.j4])
                                  | succ kj51 =>
                                    have H := HA.out
                                    clear HA
                                    simp only [seichelaw11_GolexSemis.j4] at H
                                    by_cases c63 : x98_51 = true
                                    · subst c63
                                      have H1 : (if 0 ≤ (wrap64 (x17_1 - 1)) then (if (wrap64 (x17_1 - 1)) < (t172.length : Int) then (seichelaw11_GolexSemis.l1 kj51 a0 t172 (wrap64 (((rd_T27 t172 (wrap64 (x17_1 - 1))).f2) + (((rd_T27 t172 (wrap64 (x17_1 - 1))).f1).size : Int))) t172 (t172.length : Int) x17_1 ((rd_T27 t172 x17_1).f0) ((rd_T27 t172 x17_1).f1) ((rd_T27 t172 x17_1).f2)) else (none)) else (none)) = some r := by rw [if_pos rfl] at H; exact H
                                      clear H
                                      have H := H1
                                      clear H1
                                      obtain ⟨ji64, hji64⟩ : ∃ j_ : Int, (wrap64 (x17_1 - 1)) = j_ := ⟨_, rfl⟩
                                      replace H : (if 0 ≤ (ji64) then (if (ji64) < (t172.length : Int) then (seichelaw11_GolexSemis.l1 kj51 a0 t172 (wrap64 (((rd_T27 t172 (ji64)).f2) + (((rd_T27 t172 (ji64)).f1).size : Int))) t172 (t172.length : Int) x17_1 ((rd_T27 t172 x17_1).f0) ((rd_T27 t172 x17_1).f1) ((rd_T27 t172 x17_1).f2)) else (none)) else (none)) = some r := by first | (rw [hji64] at H; exact H) | (simp only [hji64] at H ⊢; exact H)
                                      have hji64w : (IntKind.i64.wrap (x17_1 - 1)) = ji64 := (i64_w _).trans hji64
                                      by_cases c65 : 0 ≤ (ji64)
                                      · rw [if_pos c65] at H
                                        have c65b0 : decide (0 ≤ (ji64)) = true := decide_eq_true c65
                                        clear c65
                                        by_cases c66 : (ji64) < (t172.length : Int)
                                        · rw [if_pos c66] at H
                                          have c66b0 : decide ((ji64) < (t172.length : Int)) = true := decide_eq_true c66
                                          clear c66
                                          have H' := Aside0.mk H
                                          clear H
                                          have p183 : 0 ≤ ((ji64) : Int) := of_decide_eq_true (by first | (with_reducible assumption) | assumption)
                                          have q183 : (ji64) < (t172.length : Int) := of_decide_eq_true (by first | (with_reducible assumption) | assumption)
                                          obtain ⟨ad183, e183, hx183_0, hx183_1, hx183_2⟩ := at_T27 (Kd.R_reads' HO_3.out).2.2 (ji64) p183 q183
                                          obtain rfl : ad175 = ad183 := (by injection e183)
                                          replace p183 := eq_true p183; replace q183 := eq_true q183
                                          have p184 : 0 ≤ ((ji64) : Int) := of_decide_eq_true (by first | (with_reducible assumption) | assumption)
                                          have q184 : (ji64) < (t172.length : Int) := of_decide_eq_true (by first | (with_reducible assumption) | assumption)
                                          obtain ⟨ad184, e184, hx184_0, hx184_1, hx184_2⟩ := at_T27 (Kd.R_reads' HO_3.out).2.2 (ji64) p184 q184
                                          obtain rfl : ad175 = ad184 := (by injection e184)
                                          replace p184 := eq_true p184; replace q184 := eq_true q184
                                          go_wp2
                                          repeat (go_quiet (fail); try go_wp2)
                                          go_loopg [7] kj51 (fun kq v7 w' => ∃ (x7_6 : Int), v7 = .int .i64 x7_6 ∧ Aside0 (seichelaw11_GolexSemis.l1 kq a0 t172 x7_6 t172 (t172.length : Int) x17_1 ((rd_T27 t172 x17_1).f0) ((rd_T27 t172 x17_1).f1) ((rd_T27 t172 x17_1).f2) = some r) ∧ Aside0 (kq ≤ kj51) ∧ Aside0 (Kd.R k27 27 w' w.heap.size (fun k_ => k_ ≠ gb176) (.slice (some ad175) t172.length co9) t172) ∧ Aside0 (Kd.R k27 27 w' w.heap.size (fun k_ => k_ ≠ gb176) (.slice (some ad175) t172.length co9) t172) ∧ Aside0 (w'.heap[gb176]? = some (.cells #[.int .i64 ((rd_T27 t172 x17_1).f0), .string ((rd_T27 t172 x17_1).f1), .int .i64 ((rd_T27 t172 x17_1).f2)] 27 (0, 0))) ∧ Aside0 (Below w.heap.size w w'))
                                          case atStart => exact ⟨(wrap64 (((rd_T27 t172 (ji64)).f2) + (((rd_T27 t172 (ji64)).f1).size : Int))), (by first | rfl | (simp; done) | (simp only [← hji64] <;> (first | rfl | simp)) | (simp [*]; done)), H', ⟨Nat.le_refl _⟩, ⟨by (with_reducible repeat (first | apply Kd.R_alloc | apply Kd.R_drewN | apply Kd.R_drew)); exact HO_3.out⟩, ⟨by (with_reducible repeat (first | apply Kd.R_alloc | apply Kd.R_drewN | apply Kd.R_drew)); exact HO_15.out⟩, ⟨by (with_reducible repeat (first | refine blk_drewN ?_ _ | refine blk_drew ?_ | refine blk_alloc ?_ _)); exact BK176.out⟩, ⟨by repeat (first | (with_reducible first | exact HB.out | apply below_alloc | apply pw_below_drewN | apply below_drew1 | refine below_set ?_ GE176.out) | exact HB.out)⟩⟩
                                          case round =>
                                            clear H'
                                            (try clear c1); (try clear p1); (try clear q1); (try clear hx1); (try clear c2); (try clear p2); (try clear q2); (try clear hx2); (try clear c3); (try clear p3); (try clear q3); (try clear hx3); (try clear c4); (try clear c4b0); (try clear c4b1); (try clear c5); (try clear c6); (try clear p6); (try clear c10); (try clear c10b0); (try clear c11); (try clear c11b0); (try clear c12); (try clear c12b0); (try clear c16); (try clear c16b0); (try clear c16b1); (try clear p17); (try clear q17); (try clear hx17); (try clear p18); (try clear q18); (try clear hx18); (try clear c20); (try clear c21); (try clear c21b0); (try clear c21b1)
                                            (try clear c23); (try clear c23b0); (try clear c24); (try clear c24b0); (try clear c26); (try clear c27); (try clear c27b0); (try clear c28); (try clear c28b0); (try clear p29); (try clear q29); (try clear hx29); (try clear c30); (try clear c30b0); (try clear c30b1); (try clear p33); (try clear q33); (try clear hx33); (try clear c39); (try clear c41); (try clear c41b0); (try clear c41b1); (try clear c42); (try clear c42b0); (try clear c44); (try clear c44b0); (try clear c45); (try clear c45b0); (try clear c51); (try clear c53); (try clear c53b0); (try clear c54); (try clear c55); (try clear c55b0); (try clear c55b1); (try clear c58)
                                            (try clear c58b0); (try clear c59); (try clear c59b0); (try clear c63); (try clear p64); (try clear c65); (try clear c65b0); (try clear c66); (try clear c66b0); (try clear hcz15_0); (try clear hcz15_1); (try clear hcz15_2); (try clear hcz17_0); (try clear hcz17_1); (try clear hcz17_2); (try clear hcz18_0); (try clear hcz18_1); (try clear hcz18_2); (try clear hcz32_0); (try clear hcz32_1); (try clear hcz32_2); (try clear hcz35_0); (try clear hcz35_1); (try clear hcz35_2); (try clear hcz37_0); (try clear hcz37_1); (try clear hcz37_2); (try clear hcz47_0); (try clear hcz47_1); (try clear hcz47_2); (try clear hcz49_0)
                                            (try clear hcz49_1); (try clear hcz49_2); (try clear hcz50_0); (try clear hcz50_1); (try clear hcz50_2); (try clear hcz56_0); (try clear hcz56_1); (try clear hcz56_2); (try clear hcz61_0); (try clear hcz61_1); (try clear hcz61_2); (try clear hfz15_0); (try clear hfz15_1); (try clear hfz15_2); (try clear hfz17_0); (try clear hfz17_1); (try clear hfz17_2); (try clear hfz18_0); (try clear hfz18_1); (try clear hfz18_2); (try clear hfz32_0); (try clear hfz32_1); (try clear hfz32_2); (try clear hfz35_0); (try clear hfz35_1); (try clear hfz35_2); (try clear hfz37_0); (try clear hfz37_1); (try clear hfz37_2); (try clear hfz47_0)
                                            (try clear hfz47_1); (try clear hfz47_2); (try clear hfz49_0); (try clear hfz49_1); (try clear hfz49_2); (try clear hfz50_0); (try clear hfz50_1); (try clear hfz50_2); (try clear hfz56_0); (try clear hfz56_1); (try clear hfz56_2); (try clear hfz61_0); (try clear hfz61_1); (try clear hfz61_2); (try clear hx175_0); (try clear hx175_1); (try clear hx175_2); (try clear hx177_0); (try clear hx177_1); (try clear hx177_2); (try clear hx179_0); (try clear hx179_1); (try clear hx179_2); (try clear hx181_0); (try clear hx181_1); (try clear hx181_2); (try clear hx183_0); (try clear hx183_1); (try clear hx183_2); (try clear hx184_0)
                                            (try clear hx184_1); (try clear hx184_2); (try clear p1); (try clear p17); (try clear p175); (try clear p177); (try clear p179); (try clear p18); (try clear p181); (try clear p183); (try clear p184); (try clear p2); (try clear p29); (try clear p3); (try clear p33); (try clear p6); (try clear q1); (try clear q17); (try clear q175); (try clear q177); (try clear q179); (try clear q18); (try clear q181); (try clear q183); (try clear q184); (try clear q2); (try clear q29); (try clear q3); (try clear q33); obtain ⟨x7_6, rfl, HA, HK6, HO_3, HO_15, BK176, HB⟩ := hrel
                                            cases gk with
                                            | zero => exact absurd HA.out (by simp [seichelaw11_GolexSemis.l1])
                                            | succ k6 =>
                                              have H := HA.out
                                              clear HA
                                              simp only [seichelaw11_GolexSemis.l1] at H
                                              by_cases c67 : x7_6 < ((rd_T27 t172 x17_1).f2)
                                              · rw [if_pos c67] at H
                                                have c67b0 : decide (x7_6 < ((rd_T27 t172 x17_1).f2)) = true := decide_eq_true c67
                                                clear c67
                                                by_cases c68 : 0 ≤ x7_6
                                                · rw [if_pos c68] at H
                                                  have c68b0 : decide (0 ≤ x7_6) = true := decide_eq_true c68
                                                  clear c68
                                                  by_cases c69 : x7_6 < (a0.size : Int)
                                                  · rw [if_pos c69] at H
                                                    have c69b0 : decide (x7_6 < (a0.size : Int)) = true := decide_eq_true c69
                                                    clear c69
                                                    by_cases c71 : (bt a0 x7_6) = 10
                                                    · rw [if_pos c71] at H
                                                      have c71b0 : ((bt a0 x7_6) == 10) = true := beq_iff_eq.mpr c71
                                                      have c71b1 : ((bt a0 x7_6) != 10) = false := bne_eq_false_iff_eq.mpr c71
                                                      clear c71
                                                      obtain rfl := Option.some.inj H
                                                      have hcz72_0 : wr.cell? ⟨gb176, 0, none⟩ = some (.int .i64 ((rd_T27 t172 x17_1).f0)) := (blk_cell BK176.out 0).trans rfl
                                                      have hcz72_1 : wr.cell? ⟨gb176, 1, none⟩ = some (.string ((rd_T27 t172 x17_1).f1)) := (blk_cell BK176.out 1).trans rfl
                                                      have hcz72_2 : wr.cell? ⟨gb176, 2, none⟩ = some (.int .i64 ((rd_T27 t172 x17_1).f2)) := (blk_cell BK176.out 2).trans rfl
                                                      have hfz72_0 := blk_frozen BK176.out 0; have hfz72_1 := blk_frozen BK176.out 1; have hfz72_2 := blk_frozen BK176.out 2
                                                      have p70 : 0 ≤ (x7_6 : Int) := of_decide_eq_true (by first | (with_reducible assumption) | assumption)
                                                      have q70 : x7_6 < (a0.size : Int) := of_decide_eq_true (by first | (with_reducible assumption) | assumption)
                                                      have hx70 := bt_at a0 x7_6
                                                      replace p70 := eq_true p70; replace q70 := eq_true q70
                                                      go_wp2
                                                      repeat (go_quiet (fail); try go_wp2)
                                                      go_ret
                                                      exact ⟨by first | rfl | (simp [errW_none, errW_some] <;> rfl) | (simp only [← hji64]; first | rfl | (simp [errW_none, errW_some] <;> rfl)) | (simp [*, errW_none, errW_some] <;> rfl), by repeat (first | (with_reducible first | exact HB.out | apply below_alloc | apply pw_below_drewN | apply below_drew1 | refine below_set ?_ GE176.out) | exact HB.out)⟩
                                                    · rw [if_neg c71] at H
                                                      have c71b0 : ((bt a0 x7_6) == 10) = false := beq_eq_false_iff_ne.mpr c71
                                                      have c71b1 : ((bt a0 x7_6) != 10) = true := bne_iff_ne.mpr c71
                                                      have H' := Aside0.mk H
                                                      clear H
                                                      have hcz73_0 : wr.cell? ⟨gb176, 0, none⟩ = some (.int .i64 ((rd_T27 t172 x17_1).f0)) := (blk_cell BK176.out 0).trans rfl
                                                      have hcz73_1 : wr.cell? ⟨gb176, 1, none⟩ = some (.string ((rd_T27 t172 x17_1).f1)) := (blk_cell BK176.out 1).trans rfl
                                                      have hcz73_2 : wr.cell? ⟨gb176, 2, none⟩ = some (.int .i64 ((rd_T27 t172 x17_1).f2)) := (blk_cell BK176.out 2).trans rfl
                                                      have hfz73_0 := blk_frozen BK176.out 0; have hfz73_1 := blk_frozen BK176.out 1; have hfz73_2 := blk_frozen BK176.out 2
                                                      have p70 : 0 ≤ (x7_6 : Int) := of_decide_eq_true (by first | (with_reducible assumption) | assumption)
                                                      have q70 : x7_6 < (a0.size : Int) := of_decide_eq_true (by first | (with_reducible assumption) | assumption)
                                                      have hx70 := bt_at a0 x7_6
                                                      replace p70 := eq_true p70; replace q70 := eq_true q70
                                                      go_wp2
                                                      repeat (go_quiet (fail); try go_wp2)
                                                      go_roundg k6
                                                      case measure => have := HK1.out; have := HJ12.out; have := HJ18.out; have := HJ39.out; have := HJ51.out; have := HK6.out; omega
                                                      case rel => exact ⟨(wrap64 (x7_6 + 1)), (by first | rfl | (simp; done) | (simp [*]; done)), H', ⟨by have := HK1.out; have := HJ12.out; have := HJ18.out; have := HJ39.out; have := HJ51.out; have := HK6.out; omega⟩, ⟨by (with_reducible repeat (first | apply Kd.R_alloc | apply Kd.R_drewN | apply Kd.R_drew)); exact HO_3.out⟩, ⟨by (with_reducible repeat (first | apply Kd.R_alloc | apply Kd.R_drewN | apply Kd.R_drew)); exact HO_15.out⟩, ⟨by (with_reducible repeat (first | refine blk_drewN ?_ _ | refine blk_drew ?_ | refine blk_alloc ?_ _)); exact BK176.out⟩, ⟨by repeat (first | (with_reducible first | exact HB.out | apply below_alloc | apply pw_below_drewN | apply below_drew1 | refine below_set ?_ GE176.out) | exact HB.out)⟩⟩
                                                  · rw [if_neg c69] at H
                                                    exact absurd H (by simp)
                                                · rw [if_neg c68] at H
                                                  exact absurd H (by simp)
                                              · rw [if_neg c67] at H
                                                have c67b0 : decide (x7_6 < ((rd_T27 t172 x17_1).f2)) = false := decide_eq_false c67
                                                clear c67
                                                have H' := Aside0.mk H
                                                clear H
                                                have hcz74_0 : wr.cell? ⟨gb176, 0, none⟩ = some (.int .i64 ((rd_T27 t172 x17_1).f0)) := (blk_cell BK176.out 0).trans rfl
                                                have hcz74_1 : wr.cell? ⟨gb176, 1, none⟩ = some (.string ((rd_T27 t172 x17_1).f1)) := (blk_cell BK176.out 1).trans rfl
                                                have hcz74_2 : wr.cell? ⟨gb176, 2, none⟩ = some (.int .i64 ((rd_T27 t172 x17_1).f2)) := (blk_cell BK176.out 2).trans rfl
                                                have hfz74_0 := blk_frozen BK176.out 0; have hfz74_1 := blk_frozen BK176.out 1; have hfz74_2 := blk_frozen BK176.out 2
                                                go_wp2
                                                repeat (go_quiet (fail); try go_wp2)
                                                go_roundg k6
                                                case measure => have := HK1.out; have := HJ12.out; have := HJ18.out; have := HJ39.out; have := HJ51.out; have := HK6.out; omega
                                                case rel => exact ⟨(wrap64 (x17_1 + 1)), (by first | rfl | (simp; done) | (simp [*]; done)), H', ⟨by have := HK1.out; have := HJ12.out; have := HJ18.out; have := HJ39.out; have := HJ51.out; have := HK6.out; omega⟩, ⟨by (with_reducible repeat (first | apply Kd.R_alloc | apply Kd.R_drewN | apply Kd.R_drew)); exact Kd.R_mono HO_3.out (fun _ hk => trivial)⟩, ⟨by (with_reducible repeat (first | apply Kd.R_alloc | apply Kd.R_drewN | apply Kd.R_drew)); exact Kd.R_mono HO_15.out (fun _ hk => trivial)⟩, ⟨by repeat (first | (with_reducible first | exact HB.out | apply below_alloc | apply pw_below_drewN | apply below_drew1 | refine below_set ?_ GE176.out) | exact HB.out)⟩⟩
                                        · rw [if_neg c66] at H
                                          exact absurd H (by simp)
                                      · rw [if_neg c65] at H
                                        exact absurd H (by simp)
                                    · replace c63 := Bool.eq_false_iff.mpr c63
                                      subst c63
                                      have H1 : (seichelaw11_GolexSemis.l0 kj51 a0 t172 t172 (t172.length : Int) (wrap64 (x17_1 + 1))) = some r := by rw [if_neg (show ¬ (false = true) by decide)] at H; exact H
                                      clear H
                                      have H := H1
                                      clear H1
                                      have H' := Aside0.mk H
                                      clear H
                                      go_wp2
                                      repeat (go_quiet (fail); try go_wp2)
                                      go_roundg kj51
                                      case measure => have := HK1.out; have := HJ12.out; have := HJ18.out; have := HJ39.out; have := HJ51.out; omega
                                      case rel => exact ⟨(wrap64 (x17_1 + 1)), (by first | rfl | (simp; done) | (simp [*]; done)), H', ⟨by have := HK1.out; have := HJ12.out; have := HJ18.out; have := HJ39.out; have := HJ51.out; omega⟩, ⟨by (with_reducible repeat (first | apply Kd.R_alloc | apply Kd.R_drewN | apply Kd.R_drew)); exact Kd.R_mono HO_3.out (fun _ hk => trivial)⟩, ⟨by (with_reducible repeat (first | apply Kd.R_alloc | apply Kd.R_drewN | apply Kd.R_drew)); exact Kd.R_mono HO_15.out (fun _ hk => trivial)⟩, ⟨by repeat (first | (with_reducible first | exact HB.out | apply below_alloc | apply pw_below_drewN | apply below_drew1 | refine below_set ?_ GE176.out) | exact HB.out)⟩⟩
              · rw [if_neg c12] at H
                exact absurd H (by simp)
            · rw [if_neg c11] at H
              exact absurd H (by simp)
          · rw [if_neg c10] at H
            have c10b0 : decide (x17_1 < (t172.length : Int)) = false := decide_eq_false c10
            clear c10
            obtain rfl := Option.some.inj H
            go_wp2
            repeat (go_quiet (fail); try go_wp2)
            go_ret
            exact ⟨by first | rfl | (simp [errW_none, errW_some] <;> rfl) | (simp [*, errW_none, errW_some] <;> rfl), by repeat (first | (with_reducible first | exact HB.out | apply below_alloc | apply pw_below_drewN | apply below_drew1) | exact HB.out)⟩
  · replace c3 := Bool.eq_false_iff.mpr c3
    subst c3
    have H1 : (some false) = some r := by rw [if_neg (show ¬ (false = true) by decide)] at H; exact H
    clear H
    have H := H1
    clear H1
    obtain rfl := Option.some.inj H
    go_enter Tryd.func5, Tryd.ntmps5
    go_wp2_with (first | (go_at_call 9; (with_reducible refine (seichelaw11_alive.calls  false _ ?side1 A2.out).mono ?_); (case side1 => exact Tabs.below HT.out (by repeat (first | (with_reducible first | exact HB.out | apply below_alloc | apply pw_below_drewN | apply below_drew1) | exact HB.out))); rintro e w75 ⟨rfl, hb⟩; have n0_ := Aside0.mk (below_step (by repeat (first | (with_reducible first | exact HB.out | apply below_alloc | apply pw_below_drewN | apply below_drew1) | exact HB.out)) hb); clear HB; have HB := n0_; clear n0_; (try clear hb); (try clear hb2); (try clear hk); (try clear hi)))
    repeat (go_quiet (first | (go_at_call 9; (with_reducible refine (seichelaw11_alive.calls  false _ ?side1 A2.out).mono ?_); (case side1 => exact Tabs.below HT.out (by repeat (first | (with_reducible first | exact HB.out | apply below_alloc | apply pw_below_drewN | apply below_drew1) | exact HB.out))); rintro e w75 ⟨rfl, hb⟩; have n0_ := Aside0.mk (below_step (by repeat (first | (with_reducible first | exact HB.out | apply below_alloc | apply pw_below_drewN | apply below_drew1) | exact HB.out)) hb); clear HB; have HB := n0_; clear n0_; (try clear hb); (try clear hb2); (try clear hk); (try clear hi))); try go_wp2_with (first | (go_at_call 9; (with_reducible refine (seichelaw11_alive.calls  false _ ?side1 A2.out).mono ?_); (case side1 => exact Tabs.below HT.out (by repeat (first | (with_reducible first | exact HB.out | apply below_alloc | apply pw_below_drewN | apply below_drew1) | exact HB.out))); rintro e w75 ⟨rfl, hb⟩; have n0_ := Aside0.mk (below_step (by repeat (first | (with_reducible first | exact HB.out | apply below_alloc | apply pw_below_drewN | apply below_drew1) | exact HB.out)) hb); clear HB; have HB := n0_; clear n0_; (try clear hb); (try clear hb2); (try clear hk); (try clear hi))))
    go_ret
    exact ⟨by first | rfl | (simp [errW_none, errW_some] <;> rfl) | (simp [*, errW_none, errW_some] <;> rfl), by repeat (first | (with_reducible first | exact HB.out | apply below_alloc | apply pw_below_drewN | apply below_drew1) | exact HB.out)⟩

/-- THE ONE PURE STATEMENT of seichelaw11_GolexSemis: yours. -/
def seichelaw11_GolexSemis.Pure : Prop := ∀ (a0 : ByteArray), a0.size ≤ 140737488351232 → ∃ k, seichelaw11_GolexSemis.f k a0 = some true
theorem seichelaw11_GolexSemis.walk (P : seichelaw11_GolexSemis.Pure) (a0 : ByteArray) (w : World) (hT : Tabs w) (w0 : a0.size ≤ 140737488351232) :
    Calls Tryd.prog 5 #[.string a0] w fun e w' => e = .returned (.bool true) ∧ Below w.heap.size w w' := by
  obtain ⟨k, h⟩ := P a0 w0
  refine (seichelaw11_GolexSemis.calls k a0 true w hT h).mono ?_
  rintro e w' ⟨rfl, hd⟩
  exact ⟨rfl, hd⟩

end Go.Proofs.YtfolmcfcmonkhaaDoor.PAll
