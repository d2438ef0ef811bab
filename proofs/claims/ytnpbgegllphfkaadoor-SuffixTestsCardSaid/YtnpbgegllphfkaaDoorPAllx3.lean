-- Written by a program of this session (a changed scratch copy of a tool of the kit); not a print of the kit's own.
import Derived.Test.YtnpbgegllphfkaaDoorPAllx0
import Derived.Test.YtnpbgegllphfkaaDoorPAllx2
namespace Go.Proofs.YtnpbgegllphfkaaDoor.PAll
open Go.RowKit Go.Proofs.YtnpbgegllphfkaaDoorW.PrintWords Go.Proofs.YtnpbgegllphfkaaDoorW.PrintLast Go.Proofs.YtnpbgegllphfkaaDoorW.PrintMore Go.Proofs.YtnpbgegllphfkaaDoorMy Go.Proofs.YtnpbgegllphfkaaDoor
attribute [local go_sem] max2_int min2_int max_two min_two max_three min_three max_four min_four   -- for this text's walks alone
set_option linter.unusedVariables false
set_option linter.unusedSimpArgs false

/-! ### suffix_Of: function 9 -/
mutual
def suffix_Of.j0 : Nat → ByteArray → Bool → Option (Bool × Bool × ByteArray × ByteArray)
  | 0, _, _ => none
  | k + 1, x3, x22 => if x22 = true then (some (false, false, (⟨#[]⟩ : ByteArray), (⟨#[]⟩ : ByteArray))) else ((strings_CutSuffix.f x3 (⟨#[95, 116, 101, 115, 116]⟩ : ByteArray)).bind fun bt113 => ((strings_Split.f bt113.1 (⟨#[95]⟩ : ByteArray)).bind fun t115 => (if 1 ≤ (t115.length : Int) then ((some (t115.drop (1 : Int).toNat : List ByteArray)).bind fun y118 => (if (wrap64 ((y118.length : Int) - 1)) > 0 then (if 0 ≤ (wrap64 ((wrap64 ((y118.length : Int) - 1)) - 1)) then (if (wrap64 ((wrap64 ((y118.length : Int) - 1)) - 1)) < (y118.length : Int) then ((suffix_System.f (rdOf ByteArray.empty y118 (wrap64 ((wrap64 ((y118.length : Int) - 1)) - 1)))).bind fun t122 => (if t122 = true then (if 0 ≤ (wrap64 ((y118.length : Int) - 1)) then (if (wrap64 ((y118.length : Int) - 1)) < (y118.length : Int) then ((suffix_Processor.f (rdOf ByteArray.empty y118 (wrap64 ((y118.length : Int) - 1)))).bind fun t124 => (suffix_Of.j1 k y118 (wrap64 ((y118.length : Int) - 1)) t124 true bt113.2 (⟨#[]⟩ : ByteArray) (⟨#[]⟩ : ByteArray))) else (none)) else (none)) else (suffix_Of.j1 k y118 (wrap64 ((y118.length : Int) - 1)) false true bt113.2 (⟨#[]⟩ : ByteArray) (⟨#[]⟩ : ByteArray)))) else (none)) else (none)) else (suffix_Of.j1 k y118 (wrap64 ((y118.length : Int) - 1)) false true bt113.2 (⟨#[]⟩ : ByteArray) (⟨#[]⟩ : ByteArray)))) else (none))))
def suffix_Of.j1 : Nat → List ByteArray → Int → Bool → Bool → Bool → ByteArray → ByteArray → Option (Bool × Bool × ByteArray × ByteArray)
  | 0, _, _, _, _, _, _, _ => none
  | k + 1, x6, x7, x37, x113000, x113001, x113002, x113003 => if x37 = true then (if 0 ≤ (wrap64 (x7 - 1)) then (if (wrap64 (x7 - 1)) < (x6.length : Int) then (if 0 ≤ x7 then (if x7 < (x6.length : Int) then (some (x113000, x113001, rdOf ByteArray.empty x6 (wrap64 (x7 - 1)), rdOf ByteArray.empty x6 x7)) else (none)) else (none)) else (none)) else (none)) else (if x7 ≥ 0 then (if 0 ≤ x7 then (if x7 < (x6.length : Int) then ((suffix_System.f (rdOf ByteArray.empty x6 x7)).bind fun t128 => (suffix_Of.j2 k x6 x7 t128 x113000 x113001 x113002 x113003)) else (none)) else (none)) else (suffix_Of.j2 k x6 x7 false x113000 x113001 x113002 x113003))
def suffix_Of.j2 : Nat → List ByteArray → Int → Bool → Bool → Bool → ByteArray → ByteArray → Option (Bool × Bool × ByteArray × ByteArray)
  | 0, _, _, _, _, _, _, _ => none
  | k + 1, x6, x7, x66, x113000, x113001, x113002, x113003 => if x66 = true then (if 0 ≤ x7 then (if x7 < (x6.length : Int) then (some (x113000, x113001, rdOf ByteArray.empty x6 x7, x113003)) else (none)) else (none)) else (if x7 ≥ 0 then (if 0 ≤ x7 then (if x7 < (x6.length : Int) then ((suffix_Processor.f (rdOf ByteArray.empty x6 x7)).bind fun t131 => (if t131 = true then (some (x113000, x113001, x113002, rdOf ByteArray.empty x6 x7)) else (some (x113000, x113001, x113002, x113003)))) else (none)) else (none)) else (some (x113000, x113001, x113002, x113003)))
end
def suffix_Of.f (k : Nat) (a0 : ByteArray) : Option (Bool × Bool × ByteArray × ByteArray) := (strings_CutSuffix.f a0 (⟨#[46, 103, 111]⟩ : ByteArray)).bind fun bt108 => (if bt108.2 = true then ((strings_HasPrefix.f a0 (⟨#[95]⟩ : ByteArray)).bind fun t110 => (if t110 = true then (suffix_Of.j0 k bt108.1 true) else ((strings_HasPrefix.f a0 (⟨#[46]⟩ : ByteArray)).bind fun t111 => (suffix_Of.j0 k bt108.1 t111)))) else (suffix_Of.j0 k bt108.1 true))
theorem suffix_Of.mono_l : ∀ k, (∀ y0 y1, LeO (suffix_Of.j0 k y0 y1) (suffix_Of.j0 (k + 1) y0 y1)) ∧ (∀ y0 y1 y2 y3 y4 y5 y6, LeO (suffix_Of.j1 k y0 y1 y2 y3 y4 y5 y6) (suffix_Of.j1 (k + 1) y0 y1 y2 y3 y4 y5 y6)) ∧ (∀ y0 y1 y2 y3 y4 y5 y6, LeO (suffix_Of.j2 k y0 y1 y2 y3 y4 y5 y6) (suffix_Of.j2 (k + 1) y0 y1 y2 y3 y4 y5 y6))
  | 0 => ⟨fun _ _ r h => by simp [suffix_Of.j0] at h, fun _ _ _ _ _ _ _ r h => by simp [suffix_Of.j1] at h, fun _ _ _ _ _ _ _ r h => by simp [suffix_Of.j2] at h⟩
  | k + 1 => by
    obtain ⟨ih0, ih1, ih2⟩ := suffix_Of.mono_l k
    refine ⟨?_, ?_, ?_⟩
    · intro y0 y1
      unfold suffix_Of.j0
      repeat' first
      | (with_reducible exact ih0 _ _)
      | (with_reducible exact ih1 _ _ _ _ _ _ _)
      | (with_reducible exact ih2 _ _ _ _ _ _ _)
      | (with_reducible exact LeO.refl _)
      | (with_reducible exact LeO.none _)
      | (with_reducible refine LeO.ite ?_ ?_)
      | (with_reducible refine LeO.bind ?_ (fun _ => ?_))
      | exact ih0 _ _
      | exact ih1 _ _ _ _ _ _ _
      | exact ih2 _ _ _ _ _ _ _
      | exact LeO.none _
      | refine LeO.ite ?_ ?_
      | refine LeO.bind ?_ (fun _ => ?_)
    · intro y0 y1 y2 y3 y4 y5 y6
      unfold suffix_Of.j1
      repeat' first
      | (with_reducible exact ih0 _ _)
      | (with_reducible exact ih1 _ _ _ _ _ _ _)
      | (with_reducible exact ih2 _ _ _ _ _ _ _)
      | (with_reducible exact LeO.refl _)
      | (with_reducible exact LeO.none _)
      | (with_reducible refine LeO.ite ?_ ?_)
      | (with_reducible refine LeO.bind ?_ (fun _ => ?_))
      | exact ih0 _ _
      | exact ih1 _ _ _ _ _ _ _
      | exact ih2 _ _ _ _ _ _ _
      | exact LeO.none _
      | refine LeO.ite ?_ ?_
      | refine LeO.bind ?_ (fun _ => ?_)
    · intro y0 y1 y2 y3 y4 y5 y6
      unfold suffix_Of.j2
      repeat' first
      | (with_reducible exact ih0 _ _)
      | (with_reducible exact ih1 _ _ _ _ _ _ _)
      | (with_reducible exact ih2 _ _ _ _ _ _ _)
      | (with_reducible exact LeO.refl _)
      | (with_reducible exact LeO.none _)
      | (with_reducible refine LeO.ite ?_ ?_)
      | (with_reducible refine LeO.bind ?_ (fun _ => ?_))
      | exact ih0 _ _
      | exact ih1 _ _ _ _ _ _ _
      | exact ih2 _ _ _ _ _ _ _
      | exact LeO.none _
      | refine LeO.ite ?_ ?_
      | refine LeO.bind ?_ (fun _ => ?_)
theorem suffix_Of.mono : ∀ a0 k, LeO (suffix_Of.f k a0) (suffix_Of.f (k + 1) a0) := by
  intro a0 k
  obtain ⟨ih0, ih1, ih2⟩ := suffix_Of.mono_l k
  unfold suffix_Of.f
  repeat' first
      | (with_reducible exact ih0 _ _)
      | (with_reducible exact ih1 _ _ _ _ _ _ _)
      | (with_reducible exact ih2 _ _ _ _ _ _ _)
      | (with_reducible exact LeO.refl _)
      | (with_reducible exact LeO.none _)
      | (with_reducible refine LeO.ite ?_ ?_)
      | (with_reducible refine LeO.bind ?_ (fun _ => ?_))
      | exact ih0 _ _
      | exact ih1 _ _ _ _ _ _ _
      | exact ih2 _ _ _ _ _ _ _
      | exact LeO.none _
      | refine LeO.ite ?_ ?_
      | refine LeO.bind ?_ (fun _ => ?_)
def suffix_Of.T9 : Bool × List (List Nat × List Nat) := (true, [([], []), ([], []), ([1], [1]), ([0, 2], [0, 2]), ([3], [3]), ([], []), ([], []), ([5, 6], [5, 6]), ([7], [7]), ([0, 1, 2, 3, 4], []), ([9, 4, 0, 1, 2, 3, 4], [4, 9]), ([0, 1, 2, 3, 4, 5, 6, 7, 8, 9, 10], []), ([11, 8, 10, 0, 1, 2, 3, 4, 5, 6, 7, 8, 9, 10], [8, 11])])
def suffix_Of.B9 : List Nat := [0, 0, 2, 7, 15, 0, 0, 96, 224, 31, 543, 2047, 4095]
theorem suffix_Of.tab9 : rtab .any (opsOf Tryd.f9 9) = suffix_Of.T9 := by kernel_rfl
theorem suffix_Of.bits9 : waitsOk suffix_Of.T9.2 suffix_Of.B9 = true := by kernel_rfl
set_option maxHeartbeats 8000000 in
set_option maxRecDepth 100000 in
theorem suffix_Of.calls (k : Nat) (a0 : ByteArray) (r1 : Bool) (r2 : Bool) (r3 : ByteArray) (r4 : ByteArray) (w : World) (hT : Tabs w) (h : suffix_Of.f k a0 = some (r1, r2, r3, r4)) :
    Calls Tryd.prog 9 #[.string a0] w fun e w' => e = .returned (.agg #[.bool r1, .bool r2, .string r3, .string r4]) ∧ Below w.heap.size w w' := by
  have hu26 := Tryd.underlying26
  have HT := Aside0.mk hT
  clear hT
  have HB := Aside0.mk (Below.refl w.heap.size w)
  have H : ((strings_CutSuffix.f a0 (⟨#[46, 103, 111]⟩ : ByteArray)).bind fun bt108 => (if bt108.2 = true then ((strings_HasPrefix.f a0 (⟨#[95]⟩ : ByteArray)).bind fun t110 => (if t110 = true then (suffix_Of.j0 k bt108.1 true) else ((strings_HasPrefix.f a0 (⟨#[46]⟩ : ByteArray)).bind fun t111 => (suffix_Of.j0 k bt108.1 t111)))) else (suffix_Of.j0 k bt108.1 true))) = some (r1, r2, r3, r4) := h
  clear h
  replace H := Option.bind_eq_some_iff.mp H
  obtain ⟨⟨t108, t109⟩, A20, H⟩ := H
  replace H : (if t109 = true then ((strings_HasPrefix.f a0 (⟨#[95]⟩ : ByteArray)).bind fun t110 => (if t110 = true then (suffix_Of.j0 k t108 true) else ((strings_HasPrefix.f a0 (⟨#[46]⟩ : ByteArray)).bind fun t111 => (suffix_Of.j0 k t108 t111)))) else (suffix_Of.j0 k t108 true)) = some (r1, r2, r3, r4) := H
  have A2 := Aside0.mk A20
  clear A20
  have HC3 := Aside0.mk H
  clear H
  go_enter Tryd.func9, Tryd.ntmps9
  go_upto_region 2 with (first | ((with_reducible refine gate_dst (N := 2) rfl ?_); refine box_event ?hg (N := 2) ?hd (cs := #[.bool false, .bool false, .string (⟨#[]⟩ : ByteArray), .string (⟨#[]⟩ : ByteArray)]) (t := 26) ?hr ?_; (case hd => rfl); (case hg => rfl); (case hr => first | (go_simp; done) | (go_simp; rfl)); intro gb107 hg w4 hbox hb; have n0_ := Aside0.mk (below_step (by repeat (first | (with_reducible first | exact HB.out | apply below_alloc | apply pw_below_drewN | apply below_drew1) | exact HB.out)) hb); have n1_ := Aside0.mk (hbox); have n2_ := Aside0.mk ((by rw [hg]; exact (below_size (by repeat (first | (with_reducible first | exact HB.out | apply below_alloc | apply pw_below_drewN | apply below_drew1) | exact HB.out))) : w.heap.size ≤ gb107)); have n3_ := Aside0.mk ((by rw [hg]; exact (below_size (by repeat (first | (with_reducible first | exact HB.out | apply below_alloc | apply pw_below_drewN | apply below_drew1) | exact HB.out))) : w.heap.size ≤ gb107)); clear HB; have HB := n0_; have BK107 := n1_; have GW107 := n2_; have GE107 := n3_; clear n0_ n1_ n2_ n3_; clear hb hbox hg) | ((with_reducible refine gate_callee (f := 22) rfl ?_); refine goesL_ (some 10) rfl rfl Tryd.func22 (by kernel_rfl) rfl #[.string a0, .string (⟨#[46, 103, 111]⟩ : ByteArray)] rfl (by (try simp only [List.map_toArray, List.map_cons, List.map_nil]); first | done | rfl | (simp only [List.length_drop, List.length_take]; rfl)) ?_; (with_reducible refine (strings_CutSuffix.calls a0 (⟨#[46, 103, 111]⟩ : ByteArray) t108 t109 _ A2.out).mono ?_); rintro e w' ⟨rfl, ⟨nd, rfl⟩⟩; refine ⟨_, rfl, ?_⟩))
  (try simp only [Act.put, List.setIfInBounds_toArray, List.set_cons_zero, List.set_cons_succ])
  go_cut [22] (fun v22 wc => ∃ (kq : Nat) (x22_2 : Bool), v22 = .bool x22_2 ∧ Aside0 (suffix_Of.j0 kq t108 x22_2 = some (r1, r2, r3, r4)) ∧ Aside0 (kq ≤ k) ∧ Aside0 (wc.heap[gb107]? = some (.cells #[.bool false, .bool false, .string (⟨#[]⟩ : ByteArray), .string (⟨#[]⟩ : ByteArray)] 26 (0, 0))) ∧ Aside0 (Below w.heap.size w wc))
  case first =>
    have H := HC3.out
    clear HC3
    by_cases c5 : t109 = true
    · subst c5
      have H1 : ((strings_HasPrefix.f a0 (⟨#[95]⟩ : ByteArray)).bind fun t110 => (if t110 = true then (suffix_Of.j0 k t108 true) else ((strings_HasPrefix.f a0 (⟨#[46]⟩ : ByteArray)).bind fun t111 => (suffix_Of.j0 k t108 t111)))) = some (r1, r2, r3, r4) := by rw [if_pos rfl] at H; exact H
      clear H
      have H := H1
      clear H1
      replace H := Option.bind_eq_some_iff.mp H
      obtain ⟨t110, A60, H⟩ := H
      replace H : (if t110 = true then (suffix_Of.j0 k t108 true) else ((strings_HasPrefix.f a0 (⟨#[46]⟩ : ByteArray)).bind fun t111 => (suffix_Of.j0 k t108 t111))) = some (r1, r2, r3, r4) := H
      have A6 := Aside0.mk A60
      clear A60
      by_cases c7 : t110 = true
      · subst c7
        have H1 : (suffix_Of.j0 k t108 true) = some (r1, r2, r3, r4) := by rw [if_pos rfl] at H; exact H
        clear H
        have H := H1
        clear H1
        have H' := Aside0.mk H
        clear H
        go_wp2_with (first | (go_at_call 23; (with_reducible refine (strings_HasPrefix.calls a0 (⟨#[95]⟩ : ByteArray) true _ A6.out).mono ?_); rintro e w' ⟨rfl, ⟨nd, rfl⟩⟩))
        go_meet
        case rel => exact ⟨_, (true), (by first | rfl | (simp; done) | (simp [*]; done)), H', ⟨by first | omega | exact Nat.le_refl _⟩, ⟨by (with_reducible repeat (first | refine blk_drewN ?_ _ | refine blk_drew ?_ | refine blk_alloc ?_ _)); exact BK107.out⟩, ⟨by repeat (first | (with_reducible first | exact HB.out | apply below_alloc | apply pw_below_drewN | apply below_drew1 | refine below_set ?_ GE107.out) | exact HB.out)⟩⟩
      · replace c7 := Bool.eq_false_iff.mpr c7
        subst c7
        have H1 : ((strings_HasPrefix.f a0 (⟨#[46]⟩ : ByteArray)).bind fun t111 => (suffix_Of.j0 k t108 t111)) = some (r1, r2, r3, r4) := by rw [if_neg (show ¬ (false = true) by decide)] at H; exact H
        clear H
        have H := H1
        clear H1
        replace H := Option.bind_eq_some_iff.mp H
        obtain ⟨t111, A80, H⟩ := H
        replace H : (suffix_Of.j0 k t108 t111) = some (r1, r2, r3, r4) := H
        have A8 := Aside0.mk A80
        clear A80
        have H' := Aside0.mk H
        clear H
        go_wp2_with (first | (go_at_call 23; (with_reducible refine (strings_HasPrefix.calls a0 (⟨#[95]⟩ : ByteArray) false _ A6.out).mono ?_); rintro e w' ⟨rfl, ⟨nd, rfl⟩⟩) | (go_at_call 23; (with_reducible refine (strings_HasPrefix.calls a0 (⟨#[46]⟩ : ByteArray) t111 _ A8.out).mono ?_); rintro e w' ⟨rfl, ⟨nd, rfl⟩⟩))
        go_meet
        case rel => exact ⟨_, (t111), (by first | rfl | (simp; done) | (simp [*]; done)), H', ⟨by first | omega | exact Nat.le_refl _⟩, ⟨by (with_reducible repeat (first | refine blk_drewN ?_ _ | refine blk_drew ?_ | refine blk_alloc ?_ _)); exact BK107.out⟩, ⟨by repeat (first | (with_reducible first | exact HB.out | apply below_alloc | apply pw_below_drewN | apply below_drew1 | refine below_set ?_ GE107.out) | exact HB.out)⟩⟩
    · replace c5 := Bool.eq_false_iff.mpr c5
      subst c5
      have H1 : (suffix_Of.j0 k t108 true) = some (r1, r2, r3, r4) := by rw [if_neg (show ¬ (false = true) by decide)] at H; exact H
      clear H
      have H := H1
      clear H1
      have H' := Aside0.mk H
      clear H
      go_wp2
      go_meet
      case rel => exact ⟨_, (true), (by first | rfl | (simp; done) | (simp [*]; done)), H', ⟨by first | omega | exact Nat.le_refl _⟩, ⟨by (with_reducible repeat (first | refine blk_drewN ?_ _ | refine blk_drew ?_ | refine blk_alloc ?_ _)); exact BK107.out⟩, ⟨by repeat (first | (with_reducible first | exact HB.out | apply below_alloc | apply pw_below_drewN | apply below_drew1 | refine below_set ?_ GE107.out) | exact HB.out)⟩⟩
  case rest =>
    clear HC3
    try clear c2
    try clear p2
    try clear c5
    try clear c7
    obtain ⟨kq, x22_2, rfl, HA, HJ2, BK107, HB⟩ := hcut
    cases kq with
    | zero => exact absurd HA.out (by simp [suffix_Of.j0])
    | succ kj2 =>
      have H := HA.out
      clear HA
      simp only [suffix_Of.j0] at H
      by_cases c9 : x22_2 = true
      · subst c9
        have H1 : (some (false, false, (⟨#[]⟩ : ByteArray), (⟨#[]⟩ : ByteArray))) = some (r1, r2, r3, r4) := by rw [if_pos rfl] at H; exact H
        clear H
        have H := H1
        clear H1
        simp only [Option.some.injEq, Prod.mk.injEq] at H
        obtain ⟨rfl, rfl, rfl, rfl⟩ := H
        have hcz10_0 : wc.cell? ⟨gb107, 0, none⟩ = some (.bool false) := (blk_cell BK107.out 0).trans rfl
        have hcz10_1 : wc.cell? ⟨gb107, 1, none⟩ = some (.bool false) := (blk_cell BK107.out 1).trans rfl
        have hcz10_2 : wc.cell? ⟨gb107, 2, none⟩ = some (.string (⟨#[]⟩ : ByteArray)) := (blk_cell BK107.out 2).trans rfl
        have hcz10_3 : wc.cell? ⟨gb107, 3, none⟩ = some (.string (⟨#[]⟩ : ByteArray)) := (blk_cell BK107.out 3).trans rfl
        have hfz10_0 := blk_frozen BK107.out 0
        have hfz10_1 := blk_frozen BK107.out 1
        have hfz10_2 := blk_frozen BK107.out 2
        have hfz10_3 := blk_frozen BK107.out 3
        repeat (first | go_values | go_skip | go_guarded | go_step | go_upon | go_in | (simp only [Int.not_lt, Int.not_le] at *; go_simp))
        refine bodyPost_ret (results_cell_row rfl _ _ gb107 26 #[.bool false, .bool false, .string (⟨#[]⟩ : ByteArray), .string (⟨#[]⟩ : ByteArray)] (0, 0) _ rfl (by (with_reducible repeat (first | refine blk_drewN ?_ _ | refine blk_drew ?_ | refine blk_alloc ?_ _)); refine blk_put (cs := #[.bool false, .bool false, .string (⟨#[]⟩ : ByteArray), .string (⟨#[]⟩ : ByteArray)]) ?_ 3 _ rfl; (with_reducible repeat (first | refine blk_drewN ?_ _ | refine blk_drew ?_ | refine blk_alloc ?_ _)); refine blk_put (cs := #[.bool false, .bool false, .string (⟨#[]⟩ : ByteArray), .string (⟨#[]⟩ : ByteArray)]) ?_ 2 _ rfl; (with_reducible repeat (first | refine blk_drewN ?_ _ | refine blk_drew ?_ | refine blk_alloc ?_ _)); refine blk_put (cs := #[.bool false, .bool false, .string (⟨#[]⟩ : ByteArray), .string (⟨#[]⟩ : ByteArray)]) ?_ 1 _ rfl; (with_reducible repeat (first | refine blk_drewN ?_ _ | refine blk_drew ?_ | refine blk_alloc ?_ _)); refine blk_put (cs := #[.bool false, .bool false, .string (⟨#[]⟩ : ByteArray), .string (⟨#[]⟩ : ByteArray)]) ?_ 0 _ rfl; (with_reducible repeat (first | refine blk_drewN ?_ _ | refine blk_drew ?_ | refine blk_alloc ?_ _)); exact BK107.out) Tryd.underlying26 rfl (by kernel_rfl)) rfl ?_
        exact ⟨by first | rfl | (simp [errW_none, errW_some] <;> rfl) | (simp [*, errW_none, errW_some] <;> rfl), by repeat (first | (with_reducible first | exact HB.out | apply below_alloc | apply pw_below_drewN | apply below_drew1 | refine below_set ?_ GE107.out) | exact HB.out)⟩
      · replace c9 := Bool.eq_false_iff.mpr c9
        subst c9
        have H1 : ((strings_CutSuffix.f t108 (⟨#[95, 116, 101, 115, 116]⟩ : ByteArray)).bind fun bt113 => ((strings_Split.f bt113.1 (⟨#[95]⟩ : ByteArray)).bind fun t115 => (if 1 ≤ (t115.length : Int) then ((some (t115.drop (1 : Int).toNat : List ByteArray)).bind fun y118 => (if (wrap64 ((y118.length : Int) - 1)) > 0 then (if 0 ≤ (wrap64 ((wrap64 ((y118.length : Int) - 1)) - 1)) then (if (wrap64 ((wrap64 ((y118.length : Int) - 1)) - 1)) < (y118.length : Int) then ((suffix_System.f (rdOf ByteArray.empty y118 (wrap64 ((wrap64 ((y118.length : Int) - 1)) - 1)))).bind fun t122 => (if t122 = true then (if 0 ≤ (wrap64 ((y118.length : Int) - 1)) then (if (wrap64 ((y118.length : Int) - 1)) < (y118.length : Int) then ((suffix_Processor.f (rdOf ByteArray.empty y118 (wrap64 ((y118.length : Int) - 1)))).bind fun t124 => (suffix_Of.j1 kj2 y118 (wrap64 ((y118.length : Int) - 1)) t124 true bt113.2 (⟨#[]⟩ : ByteArray) (⟨#[]⟩ : ByteArray))) else (none)) else (none)) else (suffix_Of.j1 kj2 y118 (wrap64 ((y118.length : Int) - 1)) false true bt113.2 (⟨#[]⟩ : ByteArray) (⟨#[]⟩ : ByteArray)))) else (none)) else (none)) else (suffix_Of.j1 kj2 y118 (wrap64 ((y118.length : Int) - 1)) false true bt113.2 (⟨#[]⟩ : ByteArray) (⟨#[]⟩ : ByteArray)))) else (none)))) = some (r1, r2, r3, r4) := by rw [if_neg (show ¬ (false = true) by decide)] at H; exact H
        clear H
        have H := H1
        clear H1
        replace H := Option.bind_eq_some_iff.mp H
        obtain ⟨⟨t113, t114⟩, A110, H⟩ := H
        replace H : ((strings_Split.f t113 (⟨#[95]⟩ : ByteArray)).bind fun t115 => (if 1 ≤ (t115.length : Int) then ((some (t115.drop (1 : Int).toNat : List ByteArray)).bind fun y118 => (if (wrap64 ((y118.length : Int) - 1)) > 0 then (if 0 ≤ (wrap64 ((wrap64 ((y118.length : Int) - 1)) - 1)) then (if (wrap64 ((wrap64 ((y118.length : Int) - 1)) - 1)) < (y118.length : Int) then ((suffix_System.f (rdOf ByteArray.empty y118 (wrap64 ((wrap64 ((y118.length : Int) - 1)) - 1)))).bind fun t122 => (if t122 = true then (if 0 ≤ (wrap64 ((y118.length : Int) - 1)) then (if (wrap64 ((y118.length : Int) - 1)) < (y118.length : Int) then ((suffix_Processor.f (rdOf ByteArray.empty y118 (wrap64 ((y118.length : Int) - 1)))).bind fun t124 => (suffix_Of.j1 kj2 y118 (wrap64 ((y118.length : Int) - 1)) t124 true t114 (⟨#[]⟩ : ByteArray) (⟨#[]⟩ : ByteArray))) else (none)) else (none)) else (suffix_Of.j1 kj2 y118 (wrap64 ((y118.length : Int) - 1)) false true t114 (⟨#[]⟩ : ByteArray) (⟨#[]⟩ : ByteArray)))) else (none)) else (none)) else (suffix_Of.j1 kj2 y118 (wrap64 ((y118.length : Int) - 1)) false true t114 (⟨#[]⟩ : ByteArray) (⟨#[]⟩ : ByteArray)))) else (none))) = some (r1, r2, r3, r4) := H
        have A11 := Aside0.mk A110
        clear A110
        replace H := Option.bind_eq_some_iff.mp H
        obtain ⟨t115, A120, H⟩ := H
        replace H : (if 1 ≤ (t115.length : Int) then ((some (t115.drop (1 : Int).toNat : List ByteArray)).bind fun y118 => (if (wrap64 ((y118.length : Int) - 1)) > 0 then (if 0 ≤ (wrap64 ((wrap64 ((y118.length : Int) - 1)) - 1)) then (if (wrap64 ((wrap64 ((y118.length : Int) - 1)) - 1)) < (y118.length : Int) then ((suffix_System.f (rdOf ByteArray.empty y118 (wrap64 ((wrap64 ((y118.length : Int) - 1)) - 1)))).bind fun t122 => (if t122 = true then (if 0 ≤ (wrap64 ((y118.length : Int) - 1)) then (if (wrap64 ((y118.length : Int) - 1)) < (y118.length : Int) then ((suffix_Processor.f (rdOf ByteArray.empty y118 (wrap64 ((y118.length : Int) - 1)))).bind fun t124 => (suffix_Of.j1 kj2 y118 (wrap64 ((y118.length : Int) - 1)) t124 true t114 (⟨#[]⟩ : ByteArray) (⟨#[]⟩ : ByteArray))) else (none)) else (none)) else (suffix_Of.j1 kj2 y118 (wrap64 ((y118.length : Int) - 1)) false true t114 (⟨#[]⟩ : ByteArray) (⟨#[]⟩ : ByteArray)))) else (none)) else (none)) else (suffix_Of.j1 kj2 y118 (wrap64 ((y118.length : Int) - 1)) false true t114 (⟨#[]⟩ : ByteArray) (⟨#[]⟩ : ByteArray)))) else (none)) = some (r1, r2, r3, r4) := H
        have A12 := Aside0.mk A120
        clear A120
        by_cases c13 : 1 ≤ (t115.length : Int)
        · rw [if_pos c13] at H
          have c13b0 := eq_true c13
          have c13b1 : decide (1 ≤ (t115.length : Int)) = true := decide_eq_true c13
          clear c13
          obtain ⟨y118, hy118⟩ : ∃ y_ : List ByteArray, y_ = (t115.drop (1 : Int).toNat) := ⟨_, rfl⟩
          replace H : (if (wrap64 ((y118.length : Int) - 1)) > 0 then (if 0 ≤ (wrap64 ((wrap64 ((y118.length : Int) - 1)) - 1)) then (if (wrap64 ((wrap64 ((y118.length : Int) - 1)) - 1)) < (y118.length : Int) then ((suffix_System.f (rdOf ByteArray.empty y118 (wrap64 ((wrap64 ((y118.length : Int) - 1)) - 1)))).bind fun t122 => (if t122 = true then (if 0 ≤ (wrap64 ((y118.length : Int) - 1)) then (if (wrap64 ((y118.length : Int) - 1)) < (y118.length : Int) then ((suffix_Processor.f (rdOf ByteArray.empty y118 (wrap64 ((y118.length : Int) - 1)))).bind fun t124 => (suffix_Of.j1 kj2 y118 (wrap64 ((y118.length : Int) - 1)) t124 true t114 (⟨#[]⟩ : ByteArray) (⟨#[]⟩ : ByteArray))) else (none)) else (none)) else (suffix_Of.j1 kj2 y118 (wrap64 ((y118.length : Int) - 1)) false true t114 (⟨#[]⟩ : ByteArray) (⟨#[]⟩ : ByteArray)))) else (none)) else (none)) else (suffix_Of.j1 kj2 y118 (wrap64 ((y118.length : Int) - 1)) false true t114 (⟨#[]⟩ : ByteArray) (⟨#[]⟩ : ByteArray))) = some (r1, r2, r3, r4) := by first | (rw [hy118]; with_reducible exact H) | (have H2_ := (Option.bind_some _ _).symm.trans H; rw [hy118]; with_reducible exact H2_) | (have H2_ := (Option.bind_some _ _).symm.trans H; with_reducible exact H2_) | with_reducible exact H | (rw [hy118]; exact H) | exact H
          have Ny118 := Aside0.mk hy118
          clear hy118
          have HC14 := Aside0.mk H
          clear H
          go_upto_region 8 with (first | ((with_reducible refine gate_dst (N := 5) rfl ?_); refine box_event ?hg (N := 5) ?hd (cs := #[.bool false, .bool false, .string (⟨#[]⟩ : ByteArray), .string (⟨#[]⟩ : ByteArray)]) (t := 26) ?hr ?_; (case hd => rfl); (case hg => rfl); (case hr => first | (go_simp; done) | (go_simp; rfl)); intro gb112 hg w15 hbox hb; have n0_ := Aside0.mk (blk_below (g := gb107) (o := .cells #[.bool false, .bool false, .string (⟨#[]⟩ : ByteArray), .string (⟨#[]⟩ : ByteArray)] 26 (0, 0)) (by (with_reducible repeat (first | refine blk_drewN ?_ _ | refine blk_drew ?_ | refine blk_alloc ?_ _)); exact BK107.out) hb); have n1_ := Aside0.mk (below_step (by repeat (first | (with_reducible first | exact HB.out | apply below_alloc | apply pw_below_drewN | apply below_drew1 | refine below_set ?_ GE107.out) | exact HB.out)) hb); have n2_ := Aside0.mk (hbox); have n3_ := Aside0.mk ((by rw [hg]; exact (below_size (by repeat (first | (with_reducible first | exact HB.out | apply below_alloc | apply pw_below_drewN | apply below_drew1 | refine below_set ?_ GE107.out) | exact HB.out))) : w.heap.size ≤ gb112)); have n4_ := Aside0.mk ((by rw [hg]; exact (below_size (by repeat (first | (with_reducible first | exact HB.out | apply below_alloc | apply pw_below_drewN | apply below_drew1 | refine below_set ?_ GE107.out) | exact HB.out))) : w.heap.size ≤ gb112)); have n5_ := Aside0.mk ((by rw [hg]; exact Nat.ne_of_lt (blk_lt (g := gb107) (o := .cells #[.bool false, .bool false, .string (⟨#[]⟩ : ByteArray), .string (⟨#[]⟩ : ByteArray)] 26 (0, 0)) (by (with_reducible repeat (first | refine blk_drewN ?_ _ | refine blk_drew ?_ | refine blk_alloc ?_ _)); exact BK107.out)) : gb107 ≠ gb112)); have n6_ := Aside0.mk ((by rw [hg]; exact Nat.ne_of_gt (blk_lt (g := gb107) (o := .cells #[.bool false, .bool false, .string (⟨#[]⟩ : ByteArray), .string (⟨#[]⟩ : ByteArray)] 26 (0, 0)) (by (with_reducible repeat (first | refine blk_drewN ?_ _ | refine blk_drew ?_ | refine blk_alloc ?_ _)); exact BK107.out)) : gb112 ≠ gb107)); clear BK107; clear HB; have BK107 := n0_; have HB := n1_; have BK112 := n2_; have GW112 := n3_; have GE112 := n4_; have NB107_112 := n5_; have NB112_107 := n6_; clear n0_ n1_ n2_ n3_ n4_ n5_ n6_; clear hb hbox hg; have hnb16 := NB112_107.out; have hnc16 := NB107_112.out; have hcz17_0 : w15.cell? ⟨gb112, 0, none⟩ = some (.bool false) := (blk_cell BK112.out 0).trans rfl; have hcz17_1 : w15.cell? ⟨gb112, 1, none⟩ = some (.bool false) := (blk_cell BK112.out 1).trans rfl; have hcz17_2 : w15.cell? ⟨gb112, 2, none⟩ = some (.string (⟨#[]⟩ : ByteArray)) := (blk_cell BK112.out 2).trans rfl; have hcz17_3 : w15.cell? ⟨gb112, 3, none⟩ = some (.string (⟨#[]⟩ : ByteArray)) := (blk_cell BK112.out 3).trans rfl; have hfz17_0 := blk_frozen BK112.out 0; have hfz17_1 := blk_frozen BK112.out 1; have hfz17_2 := blk_frozen BK112.out 2; have hfz17_3 := blk_frozen BK112.out 3) | ((with_reducible refine gate_callee (f := 22) rfl ?_); refine goesL_ (some 27) rfl rfl Tryd.func22 (by kernel_rfl) rfl #[.string t108, .string (⟨#[95, 116, 101, 115, 116]⟩ : ByteArray)] rfl (by (try simp only [List.map_toArray, List.map_cons, List.map_nil]); first | done | rfl | (simp only [List.length_drop, List.length_take]; rfl)) ?_; (with_reducible refine (strings_CutSuffix.calls t108 (⟨#[95, 116, 101, 115, 116]⟩ : ByteArray) t113 t114 _ A11.out).mono ?_); rintro e w' ⟨rfl, ⟨nd, rfl⟩⟩; refine ⟨_, rfl, ?_⟩) | ((with_reducible refine gate_callee (f := 24) rfl ?_); refine goesL_ (some 32) rfl rfl Tryd.func24 (by kernel_rfl) rfl #[.string t113, .string (⟨#[95]⟩ : ByteArray)] rfl (by (try simp only [List.map_toArray, List.map_cons, List.map_nil]); first | done | rfl | (simp only [List.length_drop, List.length_take]; rfl)) ?_; (with_reducible refine (strings_Split.calls t113 (⟨#[95]⟩ : ByteArray) t115 _ ?side1 A12.out).mono ?_); (case side1 => exact Tabs.below HT.out (by repeat (first | (with_reducible first | exact HB.out | apply below_alloc | apply pw_below_drewN | apply below_drew1 | refine below_set ?_ GE107.out | refine below_set ?_ GE112.out) | exact HB.out))); rintro e w18 ⟨v116, rfl, ho0, hb⟩; refine ⟨_, rfl, ?_⟩; have n0_ := Aside0.mk (Kd.R_lower ho0 (below_size (by repeat (first | (with_reducible first | exact HB.out | apply below_alloc | apply pw_below_drewN | apply below_drew1 | refine below_set ?_ GE107.out | refine below_set ?_ GE112.out) | exact HB.out)))); have n1_ := Aside0.mk (blk_below (g := gb107) (o := .cells #[.bool false, .bool false, .string (⟨#[]⟩ : ByteArray), .string (⟨#[]⟩ : ByteArray)] 26 (0, 0)) (by (with_reducible repeat (first | refine blk_drewN ?_ _ | refine blk_drew ?_ | refine blk_alloc ?_ _)); refine blk_far ?_ NB107_112.out _; (with_reducible repeat (first | refine blk_drewN ?_ _ | refine blk_drew ?_ | refine blk_alloc ?_ _)); refine blk_far ?_ NB107_112.out _; (with_reducible repeat (first | refine blk_drewN ?_ _ | refine blk_drew ?_ | refine blk_alloc ?_ _)); refine blk_far ?_ NB107_112.out _; (with_reducible repeat (first | refine blk_drewN ?_ _ | refine blk_drew ?_ | refine blk_alloc ?_ _)); refine blk_far ?_ NB107_112.out _; (with_reducible repeat (first | refine blk_drewN ?_ _ | refine blk_drew ?_ | refine blk_alloc ?_ _)); refine blk_far ?_ NB107_112.out _; (with_reducible repeat (first | refine blk_drewN ?_ _ | refine blk_drew ?_ | refine blk_alloc ?_ _)); exact BK107.out) hb); have n2_ := Aside0.mk (blk_below (g := gb112) (o := .cells #[.bool true, .bool t114, .string (⟨#[]⟩ : ByteArray), .string (⟨#[]⟩ : ByteArray)] 26 (0, 0)) (by (with_reducible repeat (first | refine blk_drewN ?_ _ | refine blk_drew ?_ | refine blk_alloc ?_ _)); refine blk_put (cs := #[.bool true, .bool false, .string (⟨#[]⟩ : ByteArray), .string (⟨#[]⟩ : ByteArray)]) ?_ 1 _ rfl; (with_reducible repeat (first | refine blk_drewN ?_ _ | refine blk_drew ?_ | refine blk_alloc ?_ _)); refine blk_put (cs := #[.bool true, .bool false, .string (⟨#[]⟩ : ByteArray), .string (⟨#[]⟩ : ByteArray)]) ?_ 3 _ rfl; (with_reducible repeat (first | refine blk_drewN ?_ _ | refine blk_drew ?_ | refine blk_alloc ?_ _)); refine blk_put (cs := #[.bool true, .bool false, .string (⟨#[]⟩ : ByteArray), .string (⟨#[]⟩ : ByteArray)]) ?_ 2 _ rfl; (with_reducible repeat (first | refine blk_drewN ?_ _ | refine blk_drew ?_ | refine blk_alloc ?_ _)); refine blk_put (cs := #[.bool true, .bool false, .string (⟨#[]⟩ : ByteArray), .string (⟨#[]⟩ : ByteArray)]) ?_ 1 _ rfl; (with_reducible repeat (first | refine blk_drewN ?_ _ | refine blk_drew ?_ | refine blk_alloc ?_ _)); refine blk_put (cs := #[.bool false, .bool false, .string (⟨#[]⟩ : ByteArray), .string (⟨#[]⟩ : ByteArray)]) ?_ 0 _ rfl; (with_reducible repeat (first | refine blk_drewN ?_ _ | refine blk_drew ?_ | refine blk_alloc ?_ _)); exact BK112.out) hb); have n3_ := Aside0.mk (below_step (by repeat (first | (with_reducible first | exact HB.out | apply below_alloc | apply pw_below_drewN | apply below_drew1 | refine below_set ?_ GE107.out | refine below_set ?_ GE112.out) | exact HB.out)) hb); clear BK107; clear BK112; clear HB; have HO117 := n0_; have BK107 := n1_; have BK112 := n2_; have HB := n3_; clear n0_ n1_ n2_ n3_; (try clear hb); (try clear hb2); (try clear hk); (try clear hi); (try clear ho0); obtain ⟨Ao19, co19, eo19⟩ := Kd.R_slice HO117.out; subst eo19; have q20 : (1 : Int) ≤ ((t115.length : Int) : Int) := of_decide_eq_true (by first | (with_reducible assumption) | assumption); obtain ⟨i020, hi020, _, hsz20, _⟩ := info_parts info9; have hcut20 := cut_from (P := Tryd.prog) 29 9 .i64 Tryd.underlying29 hi020 1 hsz20 Ao19 t115.length co19 1 (by omega) q20; have hr20 := Kd.Q_drop (k := (1 : Int).toNat) (Kd.Q_of_R HO117.out) (by omega); obtain ⟨A20, hA20⟩ : ∃ A1, A1 = (if co19 = (1 : Int).toNat then Ao19 else (Ao19 : Option Addr).map (·.add ((1 : Int).toNat * 1))) := ⟨_, rfl⟩; obtain ⟨c20, hc20⟩ : ∃ c1, c1 = co19 - (1 : Int).toNat := ⟨_, rfl⟩; have hy20 : y118.length = t115.length - (1 : Int).toNat := (by rw [Ny118.out, List.length_drop]); rw [← Ny118.out] at hr20; rw [← hy20, ← hA20, ← hc20] at hcut20; replace hr20 : Kd.Q Kd.string 9 w18 w.heap.size (fun _ => True) (.slice A20 y118.length c20) y118 := (by rw [hA20, hc20, hy20]; exact hr20); have HE20 : Aside0 ((Value.slice A20 y118.length c20).ownBlock = (.slice Ao19 t115.length co19 : Value).ownBlock) := ⟨by rw [hA20]; split <;> (cases (Ao19 : Option Addr) <;> rfl)⟩; clear hy20 hi020 hsz20 HO117 hA20 hc20; have HO120 := Aside0.mk hr20; clear hr20; replace q20 := eq_true q20))
          (try simp only [Act.put, List.setIfInBounds_toArray, List.set_cons_zero, List.set_cons_succ])
          go_cut [37] (fun v37 wc => ∃ (kq : Nat) (x37_13 : Bool), v37 = .bool x37_13 ∧ Aside0 (suffix_Of.j1 kq y118 (wrap64 ((y118.length : Int) - 1)) x37_13 true t114 (⟨#[]⟩ : ByteArray) (⟨#[]⟩ : ByteArray) = some (r1, r2, r3, r4)) ∧ Aside0 (kq ≤ kj2) ∧ Aside0 (Kd.Q Kd.string 9 wc w.heap.size (fun _ => True) (.slice A20 y118.length c20) y118) ∧ Aside0 (wc.heap[gb107]? = some (.cells #[.bool false, .bool false, .string (⟨#[]⟩ : ByteArray), .string (⟨#[]⟩ : ByteArray)] 26 (0, 0))) ∧ Aside0 (wc.heap[gb112]? = some (.cells #[.bool true, .bool t114, .string (⟨#[]⟩ : ByteArray), .string (⟨#[]⟩ : ByteArray)] 26 (0, 0))) ∧ Aside0 (Below w.heap.size w wc))
          case first =>
            have H := HC14.out
            clear HC14
            by_cases c21 : (wrap64 ((y118.length : Int) - 1)) > 0
            · rw [if_pos c21] at H
              have c21b0 : decide (0 < (wrap64 ((y118.length : Int) - 1))) = true := decide_eq_true c21
              clear c21
              (first | rw [c21b0] | (simp only [i64_w, i32_w]; rw [c21b0]) | skip)
              obtain ⟨ji22, hji22⟩ : ∃ j_ : Int, (wrap64 ((wrap64 ((y118.length : Int) - 1)) - 1)) = j_ := ⟨_, rfl⟩
              replace H : (if 0 ≤ (ji22) then (if (ji22) < (y118.length : Int) then ((suffix_System.f (rdOf ByteArray.empty y118 (ji22))).bind fun t122 => (if t122 = true then (if 0 ≤ (wrap64 ((y118.length : Int) - 1)) then (if (wrap64 ((y118.length : Int) - 1)) < (y118.length : Int) then ((suffix_Processor.f (rdOf ByteArray.empty y118 (wrap64 ((y118.length : Int) - 1)))).bind fun t124 => (suffix_Of.j1 kj2 y118 (wrap64 ((y118.length : Int) - 1)) t124 true t114 (⟨#[]⟩ : ByteArray) (⟨#[]⟩ : ByteArray))) else (none)) else (none)) else (suffix_Of.j1 kj2 y118 (wrap64 ((y118.length : Int) - 1)) false true t114 (⟨#[]⟩ : ByteArray) (⟨#[]⟩ : ByteArray)))) else (none)) else (none)) = some (r1, r2, r3, r4) := by first | (rw [hji22] at H; exact H) | (simp only [hji22] at H ⊢; exact H)
              have hji22w : (IntKind.i64.wrap ((wrap64 ((y118.length : Int) - 1)) - 1)) = ji22 := (i64_w _).trans hji22
              by_cases c23 : 0 ≤ (ji22)
              · rw [if_pos c23] at H
                have c23b0 : decide (0 ≤ (ji22)) = true := decide_eq_true c23
                clear c23
                by_cases c24 : (ji22) < (y118.length : Int)
                · rw [if_pos c24] at H
                  have c24b0 : decide ((ji22) < (y118.length : Int)) = true := decide_eq_true c24
                  clear c24
                  replace H := Option.bind_eq_some_iff.mp H
                  obtain ⟨t122, A250, H⟩ := H
                  replace H : (if t122 = true then (if 0 ≤ (wrap64 ((y118.length : Int) - 1)) then (if (wrap64 ((y118.length : Int) - 1)) < (y118.length : Int) then ((suffix_Processor.f (rdOf ByteArray.empty y118 (wrap64 ((y118.length : Int) - 1)))).bind fun t124 => (suffix_Of.j1 kj2 y118 (wrap64 ((y118.length : Int) - 1)) t124 true t114 (⟨#[]⟩ : ByteArray) (⟨#[]⟩ : ByteArray))) else (none)) else (none)) else (suffix_Of.j1 kj2 y118 (wrap64 ((y118.length : Int) - 1)) false true t114 (⟨#[]⟩ : ByteArray) (⟨#[]⟩ : ByteArray))) = some (r1, r2, r3, r4) := H
                  have A25 := Aside0.mk A250
                  clear A250
                  by_cases c26 : t122 = true
                  · subst c26
                    have H1 : (if 0 ≤ (wrap64 ((y118.length : Int) - 1)) then (if (wrap64 ((y118.length : Int) - 1)) < (y118.length : Int) then ((suffix_Processor.f (rdOf ByteArray.empty y118 (wrap64 ((y118.length : Int) - 1)))).bind fun t124 => (suffix_Of.j1 kj2 y118 (wrap64 ((y118.length : Int) - 1)) t124 true t114 (⟨#[]⟩ : ByteArray) (⟨#[]⟩ : ByteArray))) else (none)) else (none)) = some (r1, r2, r3, r4) := by rw [if_pos rfl] at H; exact H
                    clear H
                    have H := H1
                    clear H1
                    obtain ⟨ji27, hji27⟩ : ∃ j_ : Int, (wrap64 ((y118.length : Int) - 1)) = j_ := ⟨_, rfl⟩
                    replace H : (if 0 ≤ (ji27) then (if (ji27) < (y118.length : Int) then ((suffix_Processor.f (rdOf ByteArray.empty y118 (ji27))).bind fun t124 => (suffix_Of.j1 kj2 y118 ji27 t124 true t114 (⟨#[]⟩ : ByteArray) (⟨#[]⟩ : ByteArray))) else (none)) else (none)) = some (r1, r2, r3, r4) := by first | (rw [hji27] at H; exact H) | (simp only [hji27] at H ⊢; exact H)
                    (try rw [hji27] at c21b0)
                    (try rw [hji27] at A25)
                    have hji27w : (IntKind.i64.wrap ((y118.length : Int) - 1)) = ji27 := (i64_w _).trans hji27
                    (try rw [hji27] at hji22)
                    (try rw [hji27] at hji22w)
                    by_cases c28 : 0 ≤ (ji27)
                    · rw [if_pos c28] at H
                      have c28b0 : decide (0 ≤ (ji27)) = true := decide_eq_true c28
                      clear c28
                      by_cases c29 : (ji27) < (y118.length : Int)
                      · rw [if_pos c29] at H
                        have c29b0 : decide ((ji27) < (y118.length : Int)) = true := decide_eq_true c29
                        clear c29
                        replace H := Option.bind_eq_some_iff.mp H
                        obtain ⟨t124, A300, H⟩ := H
                        replace H : (suffix_Of.j1 kj2 y118 ji27 t124 true t114 (⟨#[]⟩ : ByteArray) (⟨#[]⟩ : ByteArray)) = some (r1, r2, r3, r4) := H
                        have A30 := Aside0.mk A300
                        clear A300
                        have H' := Aside0.mk H
                        clear H
                        have p121 : 0 ≤ ((ji22) : Int) := of_decide_eq_true (by first | (with_reducible assumption) | assumption)
                        have q121 : (ji22) < (y118.length : Int) := of_decide_eq_true (by first | (with_reducible assumption) | assumption)
                        obtain ⟨ad121, e121, hx121_0⟩ := Kd.at_string (Kd.Q_reads' HO120.out).2.2 (ji22) p121 q121
                        cases e121
                        replace p121 := eq_true p121
                        replace q121 := eq_true q121
                        go_wp2_with (first | (go_at_call 15; (with_reducible refine (suffix_System.calls (rdOf ByteArray.empty y118 (ji22)) true _ ?side1 A25.out).mono ?_); (case side1 => exact Tabs.below HT.out (by repeat (first | (with_reducible first | exact HB.out | apply below_alloc | apply pw_below_drewN | apply below_drew1 | refine below_set ?_ GE107.out | refine below_set ?_ GE112.out) | exact HB.out))); rintro e w31 ⟨rfl, hb⟩; have n0_ := Aside0.mk (Kd.Q_below (by (with_reducible repeat (first | apply Kd.Q_alloc | apply Kd.Q_drewN | apply Kd.Q_drew)); exact HO120.out) hb); have n1_ := Aside0.mk (blk_below (g := gb107) (o := .cells #[.bool false, .bool false, .string (⟨#[]⟩ : ByteArray), .string (⟨#[]⟩ : ByteArray)] 26 (0, 0)) (by (with_reducible repeat (first | refine blk_drewN ?_ _ | refine blk_drew ?_ | refine blk_alloc ?_ _)); exact BK107.out) hb); have n2_ := Aside0.mk (blk_below (g := gb112) (o := .cells #[.bool true, .bool t114, .string (⟨#[]⟩ : ByteArray), .string (⟨#[]⟩ : ByteArray)] 26 (0, 0)) (by (with_reducible repeat (first | refine blk_drewN ?_ _ | refine blk_drew ?_ | refine blk_alloc ?_ _)); exact BK112.out) hb); have n3_ := Aside0.mk (below_step (by repeat (first | (with_reducible first | exact HB.out | apply below_alloc | apply pw_below_drewN | apply below_drew1 | refine below_set ?_ GE107.out | refine below_set ?_ GE112.out) | exact HB.out)) hb); clear HO120; clear BK107; clear BK112; clear HB; have HO120 := n0_; have BK107 := n1_; have BK112 := n2_; have HB := n3_; clear n0_ n1_ n2_ n3_; (try clear hb); (try clear hb2); (try clear hk); (try clear hi); have p123 : 0 ≤ ((ji27) : Int) := of_decide_eq_true (by first | (with_reducible assumption) | assumption); have q123 : (ji27) < (y118.length : Int) := of_decide_eq_true (by first | (with_reducible assumption) | assumption); obtain ⟨ad123, e123, hx123_0⟩ := Kd.at_string (Kd.Q_reads' HO120.out).2.2 (ji27) p123 q123; obtain rfl : ad121 = ad123 := (by injection e123); replace p123 := eq_true p123; replace q123 := eq_true q123) | (go_at_call 16; (with_reducible refine (suffix_Processor.calls (rdOf ByteArray.empty y118 (ji27)) t124 _ ?side1 A30.out).mono ?_); (case side1 => exact Tabs.below HT.out (by repeat (first | (with_reducible first | exact HB.out | apply below_alloc | apply pw_below_drewN | apply below_drew1 | refine below_set ?_ GE107.out | refine below_set ?_ GE112.out) | exact HB.out))); rintro e w32 ⟨rfl, hb⟩; have n0_ := Aside0.mk (Kd.Q_below (by (with_reducible repeat (first | apply Kd.Q_alloc | apply Kd.Q_drewN | apply Kd.Q_drew)); exact HO120.out) hb); have n1_ := Aside0.mk (blk_below (g := gb107) (o := .cells #[.bool false, .bool false, .string (⟨#[]⟩ : ByteArray), .string (⟨#[]⟩ : ByteArray)] 26 (0, 0)) (by (with_reducible repeat (first | refine blk_drewN ?_ _ | refine blk_drew ?_ | refine blk_alloc ?_ _)); exact BK107.out) hb); have n2_ := Aside0.mk (blk_below (g := gb112) (o := .cells #[.bool true, .bool t114, .string (⟨#[]⟩ : ByteArray), .string (⟨#[]⟩ : ByteArray)] 26 (0, 0)) (by (with_reducible repeat (first | refine blk_drewN ?_ _ | refine blk_drew ?_ | refine blk_alloc ?_ _)); exact BK112.out) hb); have n3_ := Aside0.mk (below_step (by repeat (first | (with_reducible first | exact HB.out | apply below_alloc | apply pw_below_drewN | apply below_drew1 | refine below_set ?_ GE107.out | refine below_set ?_ GE112.out) | exact HB.out)) hb); clear HO120; clear BK107; clear BK112; clear HB; have HO120 := n0_; have BK107 := n1_; have BK112 := n2_; have HB := n3_; clear n0_ n1_ n2_ n3_; (try clear hb); (try clear hb2); (try clear hk); (try clear hi)))
                        (try subst hji27)
                        (try subst hji22)
                        go_meet
                        case rel => exact ⟨_, (t124), (by first | rfl | (simp; done) | (simp [*]; done)), H', ⟨by have := HJ2.out; first | omega | exact Nat.le_refl _⟩, ⟨by (with_reducible repeat (first | apply Kd.Q_alloc | apply Kd.Q_drewN | apply Kd.Q_drew)); exact HO120.out⟩, ⟨by (with_reducible repeat (first | refine blk_drewN ?_ _ | refine blk_drew ?_ | refine blk_alloc ?_ _)); exact BK107.out⟩, ⟨by (with_reducible repeat (first | refine blk_drewN ?_ _ | refine blk_drew ?_ | refine blk_alloc ?_ _)); exact BK112.out⟩, ⟨by repeat (first | (with_reducible first | exact HB.out | apply below_alloc | apply pw_below_drewN | apply below_drew1 | refine below_set ?_ GE107.out | refine below_set ?_ GE112.out) | exact HB.out)⟩⟩
                      · rw [if_neg c29] at H
                        exact absurd H (by simp)
                    · rw [if_neg c28] at H
                      exact absurd H (by simp)
                  · replace c26 := Bool.eq_false_iff.mpr c26
                    subst c26
                    have H1 : (suffix_Of.j1 kj2 y118 (wrap64 ((y118.length : Int) - 1)) false true t114 (⟨#[]⟩ : ByteArray) (⟨#[]⟩ : ByteArray)) = some (r1, r2, r3, r4) := by rw [if_neg (show ¬ (false = true) by decide)] at H; exact H
                    clear H
                    have H := H1
                    clear H1
                    have H' := Aside0.mk H
                    clear H
                    have p121 : 0 ≤ ((ji22) : Int) := of_decide_eq_true (by first | (with_reducible assumption) | assumption)
                    have q121 : (ji22) < (y118.length : Int) := of_decide_eq_true (by first | (with_reducible assumption) | assumption)
                    obtain ⟨ad121, e121, hx121_0⟩ := Kd.at_string (Kd.Q_reads' HO120.out).2.2 (ji22) p121 q121
                    cases e121
                    replace p121 := eq_true p121
                    replace q121 := eq_true q121
                    go_wp2_with (first | (go_at_call 15; (with_reducible refine (suffix_System.calls (rdOf ByteArray.empty y118 (ji22)) false _ ?side1 A25.out).mono ?_); (case side1 => exact Tabs.below HT.out (by repeat (first | (with_reducible first | exact HB.out | apply below_alloc | apply pw_below_drewN | apply below_drew1 | refine below_set ?_ GE107.out | refine below_set ?_ GE112.out) | exact HB.out))); rintro e w33 ⟨rfl, hb⟩; have n0_ := Aside0.mk (Kd.Q_below (by (with_reducible repeat (first | apply Kd.Q_alloc | apply Kd.Q_drewN | apply Kd.Q_drew)); exact HO120.out) hb); have n1_ := Aside0.mk (blk_below (g := gb107) (o := .cells #[.bool false, .bool false, .string (⟨#[]⟩ : ByteArray), .string (⟨#[]⟩ : ByteArray)] 26 (0, 0)) (by (with_reducible repeat (first | refine blk_drewN ?_ _ | refine blk_drew ?_ | refine blk_alloc ?_ _)); exact BK107.out) hb); have n2_ := Aside0.mk (blk_below (g := gb112) (o := .cells #[.bool true, .bool t114, .string (⟨#[]⟩ : ByteArray), .string (⟨#[]⟩ : ByteArray)] 26 (0, 0)) (by (with_reducible repeat (first | refine blk_drewN ?_ _ | refine blk_drew ?_ | refine blk_alloc ?_ _)); exact BK112.out) hb); have n3_ := Aside0.mk (below_step (by repeat (first | (with_reducible first | exact HB.out | apply below_alloc | apply pw_below_drewN | apply below_drew1 | refine below_set ?_ GE107.out | refine below_set ?_ GE112.out) | exact HB.out)) hb); clear HO120; clear BK107; clear BK112; clear HB; have HO120 := n0_; have BK107 := n1_; have BK112 := n2_; have HB := n3_; clear n0_ n1_ n2_ n3_; (try clear hb); (try clear hb2); (try clear hk); (try clear hi)))
                    (try subst hji22)
                    go_meet
                    case rel => exact ⟨_, (false), (by first | rfl | (simp; done) | (simp [*]; done)), H', ⟨by have := HJ2.out; first | omega | exact Nat.le_refl _⟩, ⟨by (with_reducible repeat (first | apply Kd.Q_alloc | apply Kd.Q_drewN | apply Kd.Q_drew)); exact HO120.out⟩, ⟨by (with_reducible repeat (first | refine blk_drewN ?_ _ | refine blk_drew ?_ | refine blk_alloc ?_ _)); exact BK107.out⟩, ⟨by (with_reducible repeat (first | refine blk_drewN ?_ _ | refine blk_drew ?_ | refine blk_alloc ?_ _)); exact BK112.out⟩, ⟨by repeat (first | (with_reducible first | exact HB.out | apply below_alloc | apply pw_below_drewN | apply below_drew1 | refine below_set ?_ GE107.out | refine below_set ?_ GE112.out) | exact HB.out)⟩⟩
                · rw [if_neg c24] at H
                  exact absurd H (by simp)
              · rw [if_neg c23] at H
                exact absurd H (by simp)
            · rw [if_neg c21] at H
              have c21b0 : decide (0 < (wrap64 ((y118.length : Int) - 1))) = false := decide_eq_false c21
              clear c21
              (first | rw [c21b0] | (simp only [i64_w, i32_w]; rw [c21b0]) | skip)
              have H' := Aside0.mk H
              clear H
              go_wp2
              go_meet
              case rel => exact ⟨_, (false), (by first | rfl | (simp; done) | (simp [*]; done)), H', ⟨by have := HJ2.out; first | omega | exact Nat.le_refl _⟩, ⟨by (with_reducible repeat (first | apply Kd.Q_alloc | apply Kd.Q_drewN | apply Kd.Q_drew)); exact HO120.out⟩, ⟨by (with_reducible repeat (first | refine blk_drewN ?_ _ | refine blk_drew ?_ | refine blk_alloc ?_ _)); exact BK107.out⟩, ⟨by (with_reducible repeat (first | refine blk_drewN ?_ _ | refine blk_drew ?_ | refine blk_alloc ?_ _)); exact BK112.out⟩, ⟨by repeat (first | (with_reducible first | exact HB.out | apply below_alloc | apply pw_below_drewN | apply below_drew1 | refine below_set ?_ GE107.out | refine below_set ?_ GE112.out) | exact HB.out)⟩⟩
          case rest =>
            clear HC14
            try clear c1
            try clear p1
            try clear q1
            try clear hx1
            try clear c2
            try clear p2
            try clear q2
            try clear c5
            try clear p6
            try clear c7
            try clear c9
            try clear p12
            try clear q12
            try clear hx12
            try clear c13
            try clear c13b0
            try clear c13b1
            try clear c16
            try clear c20
            try clear q20
            try clear c21
            try clear c21b0
            try clear c22
            try clear c23
            try clear c23b0
            try clear c24
            try clear c24b0
            try clear c26
            try clear c28
            try clear c28b0
            try clear c29
            try clear c29b0
            try clear hcz10_0
            try clear hcz10_1
            try clear hcz10_2
            try clear hcz10_3
            try clear hcz17_0
            try clear hcz17_1
            try clear hcz17_2
            try clear hcz17_3
            try clear hfz10_0
            try clear hfz10_1
            try clear hfz10_2
            try clear hfz10_3
            try clear hfz17_0
            try clear hfz17_1
            try clear hfz17_2
            try clear hfz17_3
            try clear hx121_0
            try clear hx123_0
            try clear p121
            try clear p123
            try clear p2
            try clear q121
            try clear q123
            try clear q20
            obtain ⟨kq, x37_13, rfl, HA, HJ13, HO_6, BK107, BK112, HB⟩ := hcut
            cases kq with
            | zero => exact absurd HA.out (by simp [suffix_Of.j1])
            | succ kj13 =>
              have H := HA.out
              clear HA
              simp only [suffix_Of.j1] at H
              by_cases c34 : x37_13 = true
              · subst c34
                have H1 : (if 0 ≤ (wrap64 ((wrap64 ((y118.length : Int) - 1)) - 1)) then (if (wrap64 ((wrap64 ((y118.length : Int) - 1)) - 1)) < (y118.length : Int) then (if 0 ≤ (wrap64 ((y118.length : Int) - 1)) then (if (wrap64 ((y118.length : Int) - 1)) < (y118.length : Int) then (some (true, t114, rdOf ByteArray.empty y118 (wrap64 ((wrap64 ((y118.length : Int) - 1)) - 1)), rdOf ByteArray.empty y118 (wrap64 ((y118.length : Int) - 1)))) else (none)) else (none)) else (none)) else (none)) = some (r1, r2, r3, r4) := by rw [if_pos rfl] at H; exact H
                clear H
                have H := H1
                clear H1
                obtain ⟨ji35, hji35⟩ : ∃ j_ : Int, (wrap64 ((wrap64 ((y118.length : Int) - 1)) - 1)) = j_ := ⟨_, rfl⟩
                replace H : (if 0 ≤ (ji35) then (if (ji35) < (y118.length : Int) then (if 0 ≤ (wrap64 ((y118.length : Int) - 1)) then (if (wrap64 ((y118.length : Int) - 1)) < (y118.length : Int) then (some (true, t114, rdOf ByteArray.empty y118 (ji35), rdOf ByteArray.empty y118 (wrap64 ((y118.length : Int) - 1)))) else (none)) else (none)) else (none)) else (none)) = some (r1, r2, r3, r4) := by first | (rw [hji35] at H; exact H) | (simp only [hji35] at H ⊢; exact H)
                have hji35w : (IntKind.i64.wrap ((wrap64 ((y118.length : Int) - 1)) - 1)) = ji35 := (i64_w _).trans hji35
                by_cases c36 : 0 ≤ (ji35)
                · rw [if_pos c36] at H
                  have c36b0 : decide (0 ≤ (ji35)) = true := decide_eq_true c36
                  clear c36
                  by_cases c37 : (ji35) < (y118.length : Int)
                  · rw [if_pos c37] at H
                    have c37b0 : decide ((ji35) < (y118.length : Int)) = true := decide_eq_true c37
                    clear c37
                    obtain ⟨ji38, hji38⟩ : ∃ j_ : Int, (wrap64 ((y118.length : Int) - 1)) = j_ := ⟨_, rfl⟩
                    replace H : (if 0 ≤ (ji38) then (if (ji38) < (y118.length : Int) then (some (true, t114, rdOf ByteArray.empty y118 (ji35), rdOf ByteArray.empty y118 (ji38))) else (none)) else (none)) = some (r1, r2, r3, r4) := by first | (rw [hji38] at H; exact H) | (simp only [hji38] at H ⊢; exact H)
                    have hji38w : (IntKind.i64.wrap ((y118.length : Int) - 1)) = ji38 := (i64_w _).trans hji38
                    (try rw [hji38] at hji35)
                    (try rw [hji38] at hji35w)
                    by_cases c39 : 0 ≤ (ji38)
                    · rw [if_pos c39] at H
                      have c39b0 : decide (0 ≤ (ji38)) = true := decide_eq_true c39
                      clear c39
                      by_cases c40 : (ji38) < (y118.length : Int)
                      · rw [if_pos c40] at H
                        have c40b0 : decide ((ji38) < (y118.length : Int)) = true := decide_eq_true c40
                        clear c40
                        simp only [Option.some.injEq, Prod.mk.injEq] at H
                        obtain ⟨rfl, rfl, rfl, rfl⟩ := H
                        try go_wp2
                        have n0_ := Aside0.mk (Kd.Q_drew HO_6.out)
                        have n1_ := Aside0.mk (blk_drew BK107.out)
                        have n2_ := Aside0.mk (blk_drew BK112.out)
                        have n3_ := Aside0.mk (below_drew1 HB.out)
                        clear HO_6
                        clear BK107
                        clear BK112
                        clear HB
                        have HO_6 := n0_
                        have BK107 := n1_
                        have BK112 := n2_
                        have HB := n3_
                        clear n0_ n1_ n2_ n3_
                        have p125 : 0 ≤ ((ji35) : Int) := of_decide_eq_true (by first | (with_reducible assumption) | assumption)
                        have q125 : (ji35) < (y118.length : Int) := of_decide_eq_true (by first | (with_reducible assumption) | assumption)
                        obtain ⟨ad125, e125, hx125_0⟩ := Kd.at_string (Kd.Q_reads' HO_6.out).2.2 (ji35) p125 q125
                        cases e125
                        replace p125 := eq_true p125
                        replace q125 := eq_true q125
                        have p126 : 0 ≤ ((ji38) : Int) := of_decide_eq_true (by first | (with_reducible assumption) | assumption)
                        have q126 : (ji38) < (y118.length : Int) := of_decide_eq_true (by first | (with_reducible assumption) | assumption)
                        obtain ⟨ad126, e126, hx126_0⟩ := Kd.at_string (Kd.Q_reads' HO_6.out).2.2 (ji38) p126 q126
                        obtain rfl : ad125 = ad126 := (by injection e126)
                        replace p126 := eq_true p126
                        replace q126 := eq_true q126
                        refine start_ (n := 13) (S := fun w' => w'.cell? (ad125.add ((ji35)).toNat) = some (.string (rdOf ByteArray.empty y118 (ji35))) ∧ w'.cell? (ad125.add ((ji38)).toNat) = some (.string (rdOf ByteArray.empty y118 (ji38)))) (ds := []) #[false, false, false, false, false, false, false, false, false, false, false, false, false] (by kernel_rfl) rfl rfl ⟨hx125_0, hx126_0⟩ (fun hHeld => ?_); refine with_tabW suffix_Of.tab9 suffix_Of.bits9 (fun HT_ HW_ => ?_)
                        generalize wc.drew = w41 at HO_6 BK107 BK112 HB hx125_0 hx126_0 hHeld ⊢
                        refine pure_ (i := 0) (N := some 55) (v := ?_) (a' := ?_) #[true, false, false, false, false, false, false, false, false, false, false, false, false] rfl rfl (any_of HT_.out (by kernel_rfl)) (fun _ _ _ h => h) (Or.inl ⟨by rfl, ?_⟩) ?_ ?_
                        rotate_left
                        · intro w'
                          go_simp
                          with_reducible rfl
                        rotate_left
                        · simp only [Act.put, List.setIfInBounds_toArray, List.set_cons_zero, List.set_cons_succ, i64_w, i32_w]
                          rfl
                        refine pure_ (i := 1) (N := some 56) (v := ?_) (a' := ?_) #[true, true, false, false, false, false, false, false, false, false, false, false, false] rfl rfl (any_of HT_.out (by kernel_rfl)) (fun _ _ _ h => h) (Or.inl ⟨by rfl, ?_⟩) ?_ ?_
                        rotate_left
                        · intro w'
                          go_simp
                          with_reducible rfl
                        rotate_left
                        · simp only [Act.put, List.setIfInBounds_toArray, List.set_cons_zero, List.set_cons_succ, i64_w, i32_w]
                          rfl
                        refine pure_ (i := 2) (N := some 57) (v := ?_) (a' := ?_) #[true, true, true, false, false, false, false, false, false, false, false, false, false] rfl rfl (any_of HT_.out (by kernel_rfl)) (fun _ _ _ h => h) (Or.inl ⟨by rfl, ?_⟩) ?_ ?_
                        rotate_left
                        · intro w'
                          go_simp
                          with_reducible rfl
                        rotate_left
                        · simp only [Act.put, List.setIfInBounds_toArray, List.set_cons_zero, List.set_cons_succ, i64_w, i32_w]
                          rfl
                        refine pure_ (i := 3) (N := some 58) (v := ?_) (a' := ?_) #[true, true, true, true, false, false, false, false, false, false, false, false, false] rfl rfl (any_of HT_.out (by kernel_rfl)) (fun _ _ _ h => h) (Or.inl ⟨by rfl, ?_⟩) ?_ ?_
                        rotate_left
                        · intro w'
                          go_simp
                          with_reducible rfl
                        rotate_left
                        · simp only [Act.put, List.setIfInBounds_toArray, List.set_cons_zero, List.set_cons_succ, i64_w, i32_w]
                          rfl
                        refine pure_ (i := 5) (N := some 60) (v := ?_) (a' := ?_) #[true, true, true, true, false, true, false, false, false, false, false, false, false] rfl rfl (any_of HT_.out (by kernel_rfl)) (fun _ _ _ h => h) (Or.inl ⟨by rfl, ?_⟩) ?_ ?_
                        rotate_left
                        · intro w'
                          go_simp
                          with_reducible rfl
                        rotate_left
                        · simp only [Act.put, List.setIfInBounds_toArray, List.set_cons_zero, List.set_cons_succ, i64_w, i32_w]
                          rfl
                        refine pure_ (i := 6) (N := some 61) (v := ?_) (a' := ?_) #[true, true, true, true, false, true, true, false, false, false, false, false, false] rfl rfl (any_of HT_.out (by kernel_rfl)) (fun _ _ _ h => h) (Or.inl ⟨by rfl, ?_⟩) ?_ ?_
                        rotate_left
                        · intro w'
                          go_simp
                          with_reducible rfl
                        rotate_left
                        · simp only [Act.put, List.setIfInBounds_toArray, List.set_cons_zero, List.set_cons_succ, i64_w, i32_w]
                          rfl
                        refine pure_ (i := 7) (N := some 62) (v := ?_) (a' := ?_) #[true, true, true, true, false, true, true, true, false, false, false, false, false] rfl rfl (any_of HT_.out (by kernel_rfl)) (fun _ _ _ h => h) (Or.inl ⟨by rfl, ?_⟩) ?_ ?_
                        rotate_left
                        · intro w'
                          go_simp
                          with_reducible rfl
                        rotate_left
                        · simp only [Act.put, List.setIfInBounds_toArray, List.set_cons_zero, List.set_cons_succ, i64_w, i32_w]
                          rfl
                        refine take_ (i := 4) (N := some 59) (v := ?_) (a' := ?_) #[true, true, true, true, true, true, true, true, false, false, false, false, false] rfl rfl (take_ofW HT_.out HW_.out (by kernel_rfl)) (fun _ _ _ h => h) (Or.inl ⟨by rfl, ?_⟩) hHeld ?_ ?_
                        rotate_left
                        · rintro w' ⟨s0, s1⟩
                          go_simp
                          with_reducible rfl
                        rotate_left
                        · simp only [Act.put, List.setIfInBounds_toArray, List.set_cons_zero, List.set_cons_succ, i64_w, i32_w]
                          rfl
                        refine pure_ (i := 9) (N := some 64) (v := ?_) (a' := ?_) #[true, true, true, true, true, true, true, true, false, true, false, false, false] rfl rfl (any_of HT_.out (by kernel_rfl)) (fun _ _ _ h => h) (Or.inl ⟨by rfl, ?_⟩) ?_ ?_
                        rotate_left
                        · intro w'
                          go_simp
                          with_reducible rfl
                        rotate_left
                        · simp only [Act.put, List.setIfInBounds_toArray, List.set_cons_zero, List.set_cons_succ, i64_w, i32_w]
                          rfl
                        refine take_ (i := 8) (N := some 63) (v := ?_) (a' := ?_) #[true, true, true, true, true, true, true, true, true, true, false, false, false] rfl rfl (take_ofW HT_.out HW_.out (by kernel_rfl)) (fun _ _ _ h => h) (Or.inl ⟨by rfl, ?_⟩) hHeld ?_ ?_
                        rotate_left
                        · rintro w' ⟨s0, s1⟩
                          go_simp
                          with_reducible rfl
                        rotate_left
                        · simp only [Act.put, List.setIfInBounds_toArray, List.set_cons_zero, List.set_cons_succ, i64_w, i32_w]
                          rfl
                        refine one_ (i := 10) (N := none) #[true, true, true, true, true, true, true, true, true, true, true, false, false] rfl rfl (one_of HT_.out (by kernel_rfl)) (by decide) (fun K hK => ?_)
                        have hs42 : w41.cell? ⟨gb112, 2, none⟩ = some (.string (⟨#[]⟩ : ByteArray)) := (blk_cell BK112.out 2).trans rfl
                        have hfs42 := blk_frozen BK112.out 2
                        have hns42_0 := NB107_112.out
                        have hms42_0 := NB112_107.out
                        refine skip_ (w1 := ?_) (by rfl) rfl ?_ ?_
                        rotate_left
                        · go_simp
                          rfl
                        refine hK.out _ _ ⟨((cell_far (p := ⟨gb112, _, none⟩) (by first | exact Kd.own_blk (Kd.Q_ne HO_6.out BK112.out (by decide)) | (rw [add_block]; exact Kd.own_blk (Kd.Q_ne HO_6.out BK112.out (by decide))) | (show (Addr.add _ _).block ≠ _; rw [add_block]; exact Kd.own_blk (Kd.Q_ne HO_6.out BK112.out (by decide))) | (dsimp only; exact Kd.own_blk (Kd.Q_ne HO_6.out BK112.out (by decide)))) _).trans (hHeld.1)), ((cell_far (p := ⟨gb112, _, none⟩) (by first | exact Kd.own_blk (Kd.Q_ne HO_6.out BK112.out (by decide)) | (rw [add_block]; exact Kd.own_blk (Kd.Q_ne HO_6.out BK112.out (by decide))) | (show (Addr.add _ _).block ≠ _; rw [add_block]; exact Kd.own_blk (Kd.Q_ne HO_6.out BK112.out (by decide))) | (dsimp only; exact Kd.own_blk (Kd.Q_ne HO_6.out BK112.out (by decide)))) _).trans (hHeld.2))⟩ (fun hHeld => ?_)
                        clear hK K
                        refine pure_ (i := 11) (N := some 65) (v := ?_) (a' := ?_) #[true, true, true, true, true, true, true, true, true, true, true, true, false] rfl rfl (any_of HT_.out (by kernel_rfl)) (fun _ _ _ h => h) (Or.inl ⟨by rfl, ?_⟩) ?_ ?_
                        rotate_left
                        · intro w'
                          go_simp
                          with_reducible rfl
                        rotate_left
                        · simp only [Act.put, List.setIfInBounds_toArray, List.set_cons_zero, List.set_cons_succ, i64_w, i32_w]
                          rfl
                        refine one_ (i := 12) (N := none) #[true, true, true, true, true, true, true, true, true, true, true, true, true] rfl rfl (one_of HT_.out (by kernel_rfl)) (by decide) (fun K hK => ?_)
                        have hs43 : w41.cell? ⟨gb112, 3, none⟩ = some (.string (⟨#[]⟩ : ByteArray)) := (blk_cell BK112.out 3).trans rfl
                        have hfs43 := blk_frozen BK112.out 3
                        have hns43_0 := NB107_112.out
                        have hms43_0 := NB112_107.out
                        refine skip_ (w1 := ?_) (by rfl) rfl ?_ ?_
                        rotate_left
                        · go_simp
                          rfl
                        refine hK.out _ _ ⟨((cell_far (p := ⟨gb112, _, none⟩) (by first | exact Kd.own_blk (Kd.Q_ne HO_6.out BK112.out (by decide)) | (rw [add_block]; exact Kd.own_blk (Kd.Q_ne HO_6.out BK112.out (by decide))) | (show (Addr.add _ _).block ≠ _; rw [add_block]; exact Kd.own_blk (Kd.Q_ne HO_6.out BK112.out (by decide))) | (dsimp only; exact Kd.own_blk (Kd.Q_ne HO_6.out BK112.out (by decide)))) _).trans (hHeld.1)), ((cell_far (p := ⟨gb112, _, none⟩) (by first | exact Kd.own_blk (Kd.Q_ne HO_6.out BK112.out (by decide)) | (rw [add_block]; exact Kd.own_blk (Kd.Q_ne HO_6.out BK112.out (by decide))) | (show (Addr.add _ _).block ≠ _; rw [add_block]; exact Kd.own_blk (Kd.Q_ne HO_6.out BK112.out (by decide))) | (dsimp only; exact Kd.own_blk (Kd.Q_ne HO_6.out BK112.out (by decide)))) _).trans (hHeld.2))⟩ (fun hHeld => ?_)
                        clear hK K
                        refine done_ (done_of HT_.out (by kernel_rfl)) ?_
                        have hnb44 := NB112_107.out
                        have hnc44 := NB107_112.out
                        have hcz45_0 : w41.cell? ⟨gb112, 0, none⟩ = some (.bool true) := (blk_cell BK112.out 0).trans rfl
                        have hcz45_1 : w41.cell? ⟨gb112, 1, none⟩ = some (.bool t114) := (blk_cell BK112.out 1).trans rfl
                        have hcz45_2 : w41.cell? ⟨gb112, 2, none⟩ = some (.string (⟨#[]⟩ : ByteArray)) := (blk_cell BK112.out 2).trans rfl
                        have hcz45_3 : w41.cell? ⟨gb112, 3, none⟩ = some (.string (⟨#[]⟩ : ByteArray)) := (blk_cell BK112.out 3).trans rfl
                        have hfz45_0 := blk_frozen BK112.out 0
                        have hfz45_1 := blk_frozen BK112.out 1
                        have hfz45_2 := blk_frozen BK112.out 2
                        have hfz45_3 := blk_frozen BK112.out 3
                        have hcz46_0 : w41.cell? ⟨gb107, 0, none⟩ = some (.bool false) := (blk_cell BK107.out 0).trans rfl
                        have hcz46_1 : w41.cell? ⟨gb107, 1, none⟩ = some (.bool false) := (blk_cell BK107.out 1).trans rfl
                        have hcz46_2 : w41.cell? ⟨gb107, 2, none⟩ = some (.string (⟨#[]⟩ : ByteArray)) := (blk_cell BK107.out 2).trans rfl
                        have hcz46_3 : w41.cell? ⟨gb107, 3, none⟩ = some (.string (⟨#[]⟩ : ByteArray)) := (blk_cell BK107.out 3).trans rfl
                        have hfz46_0 := blk_frozen BK107.out 0
                        have hfz46_1 := blk_frozen BK107.out 1
                        have hfz46_2 := blk_frozen BK107.out 2
                        have hfz46_3 := blk_frozen BK107.out 3
                        repeat (first | go_values | go_skip | go_guarded | go_step | go_upon | go_in | (simp only [Int.not_lt, Int.not_le] at *; go_simp))
                        refine bodyPost_ret (results_cell_row rfl _ _ gb107 26 #[.bool true, .bool t114, .string (rdOf ByteArray.empty y118 (ji35)), .string (rdOf ByteArray.empty y118 (ji38))] (0, 0) _ rfl (by (with_reducible repeat (first | refine blk_drewN ?_ _ | refine blk_drew ?_ | refine blk_alloc ?_ _)); refine blk_put (cs := #[.bool true, .bool t114, .string (rdOf ByteArray.empty y118 (ji35)), .string (⟨#[]⟩ : ByteArray)]) ?_ 3 _ rfl; (with_reducible repeat (first | refine blk_drewN ?_ _ | refine blk_drew ?_ | refine blk_alloc ?_ _)); refine blk_put (cs := #[.bool true, .bool t114, .string (⟨#[]⟩ : ByteArray), .string (⟨#[]⟩ : ByteArray)]) ?_ 2 _ rfl; (with_reducible repeat (first | refine blk_drewN ?_ _ | refine blk_drew ?_ | refine blk_alloc ?_ _)); refine blk_put (cs := #[.bool true, .bool false, .string (⟨#[]⟩ : ByteArray), .string (⟨#[]⟩ : ByteArray)]) ?_ 1 _ rfl; (with_reducible repeat (first | refine blk_drewN ?_ _ | refine blk_drew ?_ | refine blk_alloc ?_ _)); refine blk_put (cs := #[.bool false, .bool false, .string (⟨#[]⟩ : ByteArray), .string (⟨#[]⟩ : ByteArray)]) ?_ 0 _ rfl; (with_reducible repeat (first | refine blk_drewN ?_ _ | refine blk_drew ?_ | refine blk_alloc ?_ _)); refine blk_far ?_ NB107_112.out _; (with_reducible repeat (first | refine blk_drewN ?_ _ | refine blk_drew ?_ | refine blk_alloc ?_ _)); refine blk_far ?_ NB107_112.out _; (with_reducible repeat (first | refine blk_drewN ?_ _ | refine blk_drew ?_ | refine blk_alloc ?_ _)); exact BK107.out) Tryd.underlying26 rfl (by kernel_rfl)) rfl ?_
                        exact ⟨by first | rfl | (simp [errW_none, errW_some] <;> rfl) | (simp only [← hji35, ← hji38]; first | rfl | (simp [errW_none, errW_some] <;> rfl)) | (simp [*, errW_none, errW_some] <;> rfl), by repeat (first | (with_reducible first | exact HB.out | apply below_alloc | apply pw_below_drewN | apply below_drew1 | refine below_set ?_ GE107.out | refine below_set ?_ GE112.out) | exact HB.out)⟩
                      · rw [if_neg c40] at H
                        exact absurd H (by simp)
                    · rw [if_neg c39] at H
                      exact absurd H (by simp)
                  · rw [if_neg c37] at H
                    exact absurd H (by simp)
                · rw [if_neg c36] at H
                  exact absurd H (by simp)
              · replace c34 := Bool.eq_false_iff.mpr c34
                subst c34
                have H1 : (if (wrap64 ((y118.length : Int) - 1)) ≥ 0 then (if 0 ≤ (wrap64 ((y118.length : Int) - 1)) then (if (wrap64 ((y118.length : Int) - 1)) < (y118.length : Int) then ((suffix_System.f (rdOf ByteArray.empty y118 (wrap64 ((y118.length : Int) - 1)))).bind fun t128 => (suffix_Of.j2 kj13 y118 (wrap64 ((y118.length : Int) - 1)) t128 true t114 (⟨#[]⟩ : ByteArray) (⟨#[]⟩ : ByteArray))) else (none)) else (none)) else (suffix_Of.j2 kj13 y118 (wrap64 ((y118.length : Int) - 1)) false true t114 (⟨#[]⟩ : ByteArray) (⟨#[]⟩ : ByteArray))) = some (r1, r2, r3, r4) := by rw [if_neg (show ¬ (false = true) by decide)] at H; exact H
                clear H
                have H := H1
                clear H1
                have HC47 := Aside0.mk H
                clear H
                go_upto_region 10 with (fail)
                go_cut [66] (fun v66 wc => ∃ (kq : Nat) (x66_46 : Bool), v66 = .bool x66_46 ∧ Aside0 (suffix_Of.j2 kq y118 (wrap64 ((y118.length : Int) - 1)) x66_46 true t114 (⟨#[]⟩ : ByteArray) (⟨#[]⟩ : ByteArray) = some (r1, r2, r3, r4)) ∧ Aside0 (kq ≤ kj13) ∧ Aside0 (Kd.Q Kd.string 9 wc w.heap.size (fun _ => True) (.slice A20 y118.length c20) y118) ∧ Aside0 (wc.heap[gb107]? = some (.cells #[.bool false, .bool false, .string (⟨#[]⟩ : ByteArray), .string (⟨#[]⟩ : ByteArray)] 26 (0, 0))) ∧ Aside0 (wc.heap[gb112]? = some (.cells #[.bool true, .bool t114, .string (⟨#[]⟩ : ByteArray), .string (⟨#[]⟩ : ByteArray)] 26 (0, 0))) ∧ Aside0 (Below w.heap.size w wc))
                case first =>
                  have H := HC47.out
                  clear HC47
                  by_cases c48 : (wrap64 ((y118.length : Int) - 1)) ≥ 0
                  · rw [if_pos c48] at H
                    have c48b0 : decide (0 ≤ (wrap64 ((y118.length : Int) - 1))) = true := decide_eq_true c48
                    clear c48
                    (first | rw [c48b0] | (simp only [i64_w, i32_w]; rw [c48b0]) | skip)
                    obtain ⟨ji49, hji49⟩ : ∃ j_ : Int, (wrap64 ((y118.length : Int) - 1)) = j_ := ⟨_, rfl⟩
                    replace H : (if 0 ≤ (ji49) then (if (ji49) < (y118.length : Int) then ((suffix_System.f (rdOf ByteArray.empty y118 (ji49))).bind fun t128 => (suffix_Of.j2 kj13 y118 (ji49) t128 true t114 (⟨#[]⟩ : ByteArray) (⟨#[]⟩ : ByteArray))) else (none)) else (none)) = some (r1, r2, r3, r4) := by first | (rw [hji49] at H; exact H) | (simp only [hji49] at H ⊢; exact H)
                    (try rw [hji49] at c48b0)
                    have hji49w : (IntKind.i64.wrap ((y118.length : Int) - 1)) = ji49 := (i64_w _).trans hji49
                    by_cases c50 : 0 ≤ (ji49)
                    · rw [if_pos c50] at H
                      have c50b0 : decide (0 ≤ (ji49)) = true := decide_eq_true c50
                      clear c50
                      by_cases c51 : (ji49) < (y118.length : Int)
                      · rw [if_pos c51] at H
                        have c51b0 : decide ((ji49) < (y118.length : Int)) = true := decide_eq_true c51
                        clear c51
                        replace H := Option.bind_eq_some_iff.mp H
                        obtain ⟨t128, A520, H⟩ := H
                        replace H : (suffix_Of.j2 kj13 y118 (ji49) t128 true t114 (⟨#[]⟩ : ByteArray) (⟨#[]⟩ : ByteArray)) = some (r1, r2, r3, r4) := H
                        have A52 := Aside0.mk A520
                        clear A520
                        have H' := Aside0.mk H
                        clear H
                        have p127 : 0 ≤ ((ji49) : Int) := of_decide_eq_true (by first | (with_reducible assumption) | assumption)
                        have q127 : (ji49) < (y118.length : Int) := of_decide_eq_true (by first | (with_reducible assumption) | assumption)
                        obtain ⟨ad127, e127, hx127_0⟩ := Kd.at_string (Kd.Q_reads' HO_6.out).2.2 (ji49) p127 q127
                        cases e127
                        replace p127 := eq_true p127
                        replace q127 := eq_true q127
                        go_wp2_with (first | (go_at_call 15; (with_reducible refine (suffix_System.calls (rdOf ByteArray.empty y118 (ji49)) t128 _ ?side1 A52.out).mono ?_); (case side1 => exact Tabs.below HT.out (by repeat (first | (with_reducible first | exact HB.out | apply below_alloc | apply pw_below_drewN | apply below_drew1 | refine below_set ?_ GE107.out | refine below_set ?_ GE112.out) | exact HB.out))); rintro e w53 ⟨rfl, hb⟩; have n0_ := Aside0.mk (Kd.Q_below (by (with_reducible repeat (first | apply Kd.Q_alloc | apply Kd.Q_drewN | apply Kd.Q_drew)); exact HO_6.out) hb); have n1_ := Aside0.mk (blk_below (g := gb107) (o := .cells #[.bool false, .bool false, .string (⟨#[]⟩ : ByteArray), .string (⟨#[]⟩ : ByteArray)] 26 (0, 0)) (by (with_reducible repeat (first | refine blk_drewN ?_ _ | refine blk_drew ?_ | refine blk_alloc ?_ _)); exact BK107.out) hb); have n2_ := Aside0.mk (blk_below (g := gb112) (o := .cells #[.bool true, .bool t114, .string (⟨#[]⟩ : ByteArray), .string (⟨#[]⟩ : ByteArray)] 26 (0, 0)) (by (with_reducible repeat (first | refine blk_drewN ?_ _ | refine blk_drew ?_ | refine blk_alloc ?_ _)); exact BK112.out) hb); have n3_ := Aside0.mk (below_step (by repeat (first | (with_reducible first | exact HB.out | apply below_alloc | apply pw_below_drewN | apply below_drew1 | refine below_set ?_ GE107.out | refine below_set ?_ GE112.out) | exact HB.out)) hb); clear HO_6; clear BK107; clear BK112; clear HB; have HO_6 := n0_; have BK107 := n1_; have BK112 := n2_; have HB := n3_; clear n0_ n1_ n2_ n3_; (try clear hb); (try clear hb2); (try clear hk); (try clear hi)))
                        (try subst hji49)
                        go_meet
                        case rel => exact ⟨_, (t128), (by first | rfl | (simp; done) | (simp [*]; done)), H', ⟨by have := HJ2.out; have := HJ13.out; first | omega | exact Nat.le_refl _⟩, ⟨by (with_reducible repeat (first | apply Kd.Q_alloc | apply Kd.Q_drewN | apply Kd.Q_drew)); exact HO_6.out⟩, ⟨by (with_reducible repeat (first | refine blk_drewN ?_ _ | refine blk_drew ?_ | refine blk_alloc ?_ _)); exact BK107.out⟩, ⟨by (with_reducible repeat (first | refine blk_drewN ?_ _ | refine blk_drew ?_ | refine blk_alloc ?_ _)); exact BK112.out⟩, ⟨by repeat (first | (with_reducible first | exact HB.out | apply below_alloc | apply pw_below_drewN | apply below_drew1 | refine below_set ?_ GE107.out | refine below_set ?_ GE112.out) | exact HB.out)⟩⟩
                      · rw [if_neg c51] at H
                        exact absurd H (by simp)
                    · rw [if_neg c50] at H
                      exact absurd H (by simp)
                  · rw [if_neg c48] at H
                    have c48b0 : decide (0 ≤ (wrap64 ((y118.length : Int) - 1))) = false := decide_eq_false c48
                    clear c48
                    (first | rw [c48b0] | (simp only [i64_w, i32_w]; rw [c48b0]) | skip)
                    have H' := Aside0.mk H
                    clear H
                    go_wp2
                    go_meet
                    case rel => exact ⟨_, (false), (by first | rfl | (simp; done) | (simp [*]; done)), H', ⟨by have := HJ2.out; have := HJ13.out; first | omega | exact Nat.le_refl _⟩, ⟨by (with_reducible repeat (first | apply Kd.Q_alloc | apply Kd.Q_drewN | apply Kd.Q_drew)); exact HO_6.out⟩, ⟨by (with_reducible repeat (first | refine blk_drewN ?_ _ | refine blk_drew ?_ | refine blk_alloc ?_ _)); exact BK107.out⟩, ⟨by (with_reducible repeat (first | refine blk_drewN ?_ _ | refine blk_drew ?_ | refine blk_alloc ?_ _)); exact BK112.out⟩, ⟨by repeat (first | (with_reducible first | exact HB.out | apply below_alloc | apply pw_below_drewN | apply below_drew1 | refine below_set ?_ GE107.out | refine below_set ?_ GE112.out) | exact HB.out)⟩⟩
                case rest =>
                  clear HC47
                  try clear c1
                  try clear p1
                  try clear q1
                  try clear hx1
                  try clear c2
                  try clear p2
                  try clear q2
                  try clear c3
                  try clear c4
                  try clear c5
                  try clear p6
                  try clear c7
                  try clear c9
                  try clear p12
                  try clear q12
                  try clear hx12
                  try clear c13
                  try clear c13b0
                  try clear c13b1
                  try clear c16
                  try clear c20
                  try clear q20
                  try clear c21
                  try clear c21b0
                  try clear c22
                  try clear c23
                  try clear c23b0
                  try clear c24
                  try clear c24b0
                  try clear c26
                  try clear c28
                  try clear c28b0
                  try clear c29
                  try clear c29b0
                  try clear c34
                  try clear c36
                  try clear c36b0
                  try clear c37
                  try clear c37b0
                  try clear c39
                  try clear c39b0
                  try clear c40
                  try clear c40b0
                  try clear c44
                  try clear c48
                  try clear c48b0
                  try clear c50
                  try clear c50b0
                  try clear c51
                  try clear c51b0
                  try clear hcz10_0
                  try clear hcz10_1
                  try clear hcz10_2
                  try clear hcz10_3
                  try clear hcz17_0
                  try clear hcz17_1
                  try clear hcz17_2
                  try clear hcz17_3
                  try clear hcz45_0
                  try clear hcz45_1
                  try clear hcz45_2
                  try clear hcz45_3
                  try clear hcz46_0
                  try clear hcz46_1
                  try clear hcz46_2
                  try clear hcz46_3
                  try clear hfz10_0
                  try clear hfz10_1
                  try clear hfz10_2
                  try clear hfz10_3
                  try clear hfz17_0
                  try clear hfz17_1
                  try clear hfz17_2
                  try clear hfz17_3
                  try clear hfz45_0
                  try clear hfz45_1
                  try clear hfz45_2
                  try clear hfz45_3
                  try clear hfz46_0
                  try clear hfz46_1
                  try clear hfz46_2
                  try clear hfz46_3
                  try clear hx121_0
                  try clear hx123_0
                  try clear hx125_0
                  try clear hx126_0
                  try clear hx127_0
                  try clear p1
                  try clear p12
                  try clear p121
                  try clear p123
                  try clear p125
                  try clear p126
                  try clear p127
                  try clear p2
                  try clear p6
                  try clear q1
                  try clear q12
                  try clear q121
                  try clear q123
                  try clear q125
                  try clear q126
                  try clear q127
                  try clear q2
                  try clear q20
                  obtain ⟨kq, x66_46, rfl, HA, HJ46, HO_6, BK107, BK112, HB⟩ := hcut
                  cases kq with
                  | zero => exact absurd HA.out (by simp [suffix_Of.j2])
                  | succ kj46 =>
                    have H := HA.out
                    clear HA
                    simp only [suffix_Of.j2] at H
                    by_cases c54 : x66_46 = true
                    · subst c54
                      have H1 : (if 0 ≤ (wrap64 ((y118.length : Int) - 1)) then (if (wrap64 ((y118.length : Int) - 1)) < (y118.length : Int) then (some (true, t114, rdOf ByteArray.empty y118 (wrap64 ((y118.length : Int) - 1)), (⟨#[]⟩ : ByteArray))) else (none)) else (none)) = some (r1, r2, r3, r4) := by rw [if_pos rfl] at H; exact H
                      clear H
                      have H := H1
                      clear H1
                      obtain ⟨ji55, hji55⟩ : ∃ j_ : Int, (wrap64 ((y118.length : Int) - 1)) = j_ := ⟨_, rfl⟩
                      replace H : (if 0 ≤ (ji55) then (if (ji55) < (y118.length : Int) then (some (true, t114, rdOf ByteArray.empty y118 (ji55), (⟨#[]⟩ : ByteArray))) else (none)) else (none)) = some (r1, r2, r3, r4) := by first | (rw [hji55] at H; exact H) | (simp only [hji55] at H ⊢; exact H)
                      have hji55w : (IntKind.i64.wrap ((y118.length : Int) - 1)) = ji55 := (i64_w _).trans hji55
                      by_cases c56 : 0 ≤ (ji55)
                      · rw [if_pos c56] at H
                        have c56b0 : decide (0 ≤ (ji55)) = true := decide_eq_true c56
                        clear c56
                        by_cases c57 : (ji55) < (y118.length : Int)
                        · rw [if_pos c57] at H
                          have c57b0 : decide ((ji55) < (y118.length : Int)) = true := decide_eq_true c57
                          clear c57
                          simp only [Option.some.injEq, Prod.mk.injEq] at H
                          obtain ⟨rfl, rfl, rfl, rfl⟩ := H
                          have p129 : 0 ≤ ((ji55) : Int) := of_decide_eq_true (by first | (with_reducible assumption) | assumption)
                          have q129 : (ji55) < (y118.length : Int) := of_decide_eq_true (by first | (with_reducible assumption) | assumption)
                          obtain ⟨ad129, e129, hx129_0⟩ := Kd.at_string (Kd.Q_reads' HO_6.out).2.2 (ji55) p129 q129
                          cases e129
                          replace p129 := eq_true p129
                          replace q129 := eq_true q129
                          have hnb58 := NB112_107.out
                          have hnc58 := NB107_112.out
                          have hcz59_0 : wc.cell? ⟨gb112, 0, none⟩ = some (.bool true) := (blk_cell BK112.out 0).trans rfl
                          have hcz59_1 : wc.cell? ⟨gb112, 1, none⟩ = some (.bool t114) := (blk_cell BK112.out 1).trans rfl
                          have hcz59_2 : wc.cell? ⟨gb112, 2, none⟩ = some (.string (⟨#[]⟩ : ByteArray)) := (blk_cell BK112.out 2).trans rfl
                          have hcz59_3 : wc.cell? ⟨gb112, 3, none⟩ = some (.string (⟨#[]⟩ : ByteArray)) := (blk_cell BK112.out 3).trans rfl
                          have hfz59_0 := blk_frozen BK112.out 0
                          have hfz59_1 := blk_frozen BK112.out 1
                          have hfz59_2 := blk_frozen BK112.out 2
                          have hfz59_3 := blk_frozen BK112.out 3
                          have hcz60_0 : wc.cell? ⟨gb107, 0, none⟩ = some (.bool false) := (blk_cell BK107.out 0).trans rfl
                          have hcz60_1 : wc.cell? ⟨gb107, 1, none⟩ = some (.bool false) := (blk_cell BK107.out 1).trans rfl
                          have hcz60_2 : wc.cell? ⟨gb107, 2, none⟩ = some (.string (⟨#[]⟩ : ByteArray)) := (blk_cell BK107.out 2).trans rfl
                          have hcz60_3 : wc.cell? ⟨gb107, 3, none⟩ = some (.string (⟨#[]⟩ : ByteArray)) := (blk_cell BK107.out 3).trans rfl
                          have hfz60_0 := blk_frozen BK107.out 0
                          have hfz60_1 := blk_frozen BK107.out 1
                          have hfz60_2 := blk_frozen BK107.out 2
                          have hfz60_3 := blk_frozen BK107.out 3
                          repeat (first | go_values | go_skip | go_guarded | go_step | go_upon | go_in | (simp only [Int.not_lt, Int.not_le] at *; go_simp))
                          refine bodyPost_ret (results_cell_row rfl _ _ gb107 26 #[.bool true, .bool t114, .string (rdOf ByteArray.empty y118 (ji55)), .string (⟨#[]⟩ : ByteArray)] (0, 0) _ rfl (by (with_reducible repeat (first | refine blk_drewN ?_ _ | refine blk_drew ?_ | refine blk_alloc ?_ _)); refine blk_put (cs := #[.bool true, .bool t114, .string (rdOf ByteArray.empty y118 (ji55)), .string (⟨#[]⟩ : ByteArray)]) ?_ 3 _ rfl; (with_reducible repeat (first | refine blk_drewN ?_ _ | refine blk_drew ?_ | refine blk_alloc ?_ _)); refine blk_put (cs := #[.bool true, .bool t114, .string (⟨#[]⟩ : ByteArray), .string (⟨#[]⟩ : ByteArray)]) ?_ 2 _ rfl; (with_reducible repeat (first | refine blk_drewN ?_ _ | refine blk_drew ?_ | refine blk_alloc ?_ _)); refine blk_put (cs := #[.bool true, .bool false, .string (⟨#[]⟩ : ByteArray), .string (⟨#[]⟩ : ByteArray)]) ?_ 1 _ rfl; (with_reducible repeat (first | refine blk_drewN ?_ _ | refine blk_drew ?_ | refine blk_alloc ?_ _)); refine blk_put (cs := #[.bool false, .bool false, .string (⟨#[]⟩ : ByteArray), .string (⟨#[]⟩ : ByteArray)]) ?_ 0 _ rfl; (with_reducible repeat (first | refine blk_drewN ?_ _ | refine blk_drew ?_ | refine blk_alloc ?_ _)); refine blk_far ?_ NB107_112.out _; (with_reducible repeat (first | refine blk_drewN ?_ _ | refine blk_drew ?_ | refine blk_alloc ?_ _)); exact BK107.out) Tryd.underlying26 rfl (by kernel_rfl)) rfl ?_
                          exact ⟨by first | rfl | (simp [errW_none, errW_some] <;> rfl) | (simp only [← hji55]; first | rfl | (simp [errW_none, errW_some] <;> rfl)) | (simp [*, errW_none, errW_some] <;> rfl), by repeat (first | (with_reducible first | exact HB.out | apply below_alloc | apply pw_below_drewN | apply below_drew1 | refine below_set ?_ GE107.out | refine below_set ?_ GE112.out) | exact HB.out)⟩
                        · rw [if_neg c57] at H
                          exact absurd H (by simp)
                      · rw [if_neg c56] at H
                        exact absurd H (by simp)
                    · replace c54 := Bool.eq_false_iff.mpr c54
                      subst c54
                      have H1 : (if (wrap64 ((y118.length : Int) - 1)) ≥ 0 then (if 0 ≤ (wrap64 ((y118.length : Int) - 1)) then (if (wrap64 ((y118.length : Int) - 1)) < (y118.length : Int) then ((suffix_Processor.f (rdOf ByteArray.empty y118 (wrap64 ((y118.length : Int) - 1)))).bind fun t131 => (if t131 = true then (some (true, t114, (⟨#[]⟩ : ByteArray), rdOf ByteArray.empty y118 (wrap64 ((y118.length : Int) - 1)))) else (some (true, t114, (⟨#[]⟩ : ByteArray), (⟨#[]⟩ : ByteArray))))) else (none)) else (none)) else (some (true, t114, (⟨#[]⟩ : ByteArray), (⟨#[]⟩ : ByteArray)))) = some (r1, r2, r3, r4) := by rw [if_neg (show ¬ (false = true) by decide)] at H; exact H
                      clear H
                      have H := H1
                      clear H1
                      by_cases c61 : (wrap64 ((y118.length : Int) - 1)) ≥ 0
                      · rw [if_pos c61] at H
                        have c61b0 : decide (0 ≤ (wrap64 ((y118.length : Int) - 1))) = true := decide_eq_true c61
                        clear c61
                        obtain ⟨ji62, hji62⟩ : ∃ j_ : Int, (wrap64 ((y118.length : Int) - 1)) = j_ := ⟨_, rfl⟩
                        replace H : (if 0 ≤ (ji62) then (if (ji62) < (y118.length : Int) then ((suffix_Processor.f (rdOf ByteArray.empty y118 (ji62))).bind fun t131 => (if t131 = true then (some (true, t114, (⟨#[]⟩ : ByteArray), rdOf ByteArray.empty y118 (ji62))) else (some (true, t114, (⟨#[]⟩ : ByteArray), (⟨#[]⟩ : ByteArray))))) else (none)) else (none)) = some (r1, r2, r3, r4) := by first | (rw [hji62] at H; exact H) | (simp only [hji62] at H ⊢; exact H)
                        (try rw [hji62] at c61b0)
                        have hji62w : (IntKind.i64.wrap ((y118.length : Int) - 1)) = ji62 := (i64_w _).trans hji62
                        by_cases c63 : 0 ≤ (ji62)
                        · rw [if_pos c63] at H
                          have c63b0 : decide (0 ≤ (ji62)) = true := decide_eq_true c63
                          clear c63
                          by_cases c64 : (ji62) < (y118.length : Int)
                          · rw [if_pos c64] at H
                            have c64b0 : decide ((ji62) < (y118.length : Int)) = true := decide_eq_true c64
                            clear c64
                            replace H := Option.bind_eq_some_iff.mp H
                            obtain ⟨t131, A650, H⟩ := H
                            replace H : (if t131 = true then (some (true, t114, (⟨#[]⟩ : ByteArray), rdOf ByteArray.empty y118 (ji62))) else (some (true, t114, (⟨#[]⟩ : ByteArray), (⟨#[]⟩ : ByteArray)))) = some (r1, r2, r3, r4) := H
                            have A65 := Aside0.mk A650
                            clear A650
                            by_cases c66 : t131 = true
                            · subst c66
                              have H1 : (some (true, t114, (⟨#[]⟩ : ByteArray), rdOf ByteArray.empty y118 (ji62))) = some (r1, r2, r3, r4) := by rw [if_pos rfl] at H; exact H
                              clear H
                              have H := H1
                              clear H1
                              simp only [Option.some.injEq, Prod.mk.injEq] at H
                              obtain ⟨rfl, rfl, rfl, rfl⟩ := H
                              have p130 : 0 ≤ ((ji62) : Int) := of_decide_eq_true (by first | (with_reducible assumption) | assumption)
                              have q130 : (ji62) < (y118.length : Int) := of_decide_eq_true (by first | (with_reducible assumption) | assumption)
                              obtain ⟨ad130, e130, hx130_0⟩ := Kd.at_string (Kd.Q_reads' HO_6.out).2.2 (ji62) p130 q130
                              cases e130
                              replace p130 := eq_true p130
                              replace q130 := eq_true q130
                              repeat (first | (first | (go_at_call 16; (with_reducible refine (suffix_Processor.calls (rdOf ByteArray.empty y118 (ji62)) true _ ?side1 A65.out).mono ?_); (case side1 => exact Tabs.below HT.out (by repeat (first | (with_reducible first | exact HB.out | apply below_alloc | apply pw_below_drewN | apply below_drew1 | refine below_set ?_ GE107.out | refine below_set ?_ GE112.out) | exact HB.out))); rintro e w67 ⟨rfl, hb⟩; have n0_ := Aside0.mk (Kd.Q_below (by (with_reducible repeat (first | apply Kd.Q_alloc | apply Kd.Q_drewN | apply Kd.Q_drew)); exact HO_6.out) hb); have n1_ := Aside0.mk (blk_below (g := gb107) (o := .cells #[.bool false, .bool false, .string (⟨#[]⟩ : ByteArray), .string (⟨#[]⟩ : ByteArray)] 26 (0, 0)) (by (with_reducible repeat (first | refine blk_drewN ?_ _ | refine blk_drew ?_ | refine blk_alloc ?_ _)); exact BK107.out) hb); have n2_ := Aside0.mk (blk_below (g := gb112) (o := .cells #[.bool true, .bool t114, .string (⟨#[]⟩ : ByteArray), .string (⟨#[]⟩ : ByteArray)] 26 (0, 0)) (by (with_reducible repeat (first | refine blk_drewN ?_ _ | refine blk_drew ?_ | refine blk_alloc ?_ _)); exact BK112.out) hb); have n3_ := Aside0.mk (below_step (by repeat (first | (with_reducible first | exact HB.out | apply below_alloc | apply pw_below_drewN | apply below_drew1 | refine below_set ?_ GE107.out | refine below_set ?_ GE112.out) | exact HB.out)) hb); clear HO_6; clear BK107; clear BK112; clear HB; have HO_6 := n0_; have BK107 := n1_; have BK112 := n2_; have HB := n3_; clear n0_ n1_ n2_ n3_; (try clear hb); (try clear hb2); (try clear hk); (try clear hi); have p132 : 0 ≤ ((ji62) : Int) := of_decide_eq_true (by first | (with_reducible assumption) | assumption); have q132 : (ji62) < (y118.length : Int) := of_decide_eq_true (by first | (with_reducible assumption) | assumption); obtain ⟨ad132, e132, hx132_0⟩ := Kd.at_string (Kd.Q_reads' HO_6.out).2.2 (ji62) p132 q132; obtain rfl : ad130 = ad132 := (by injection e132); replace p132 := eq_true p132; replace q132 := eq_true q132; have hnb68 := NB112_107.out; have hnc68 := NB107_112.out; have hcz69_0 : w67.cell? ⟨gb112, 0, none⟩ = some (.bool true) := (blk_cell BK112.out 0).trans rfl; have hcz69_1 : w67.cell? ⟨gb112, 1, none⟩ = some (.bool t114) := (blk_cell BK112.out 1).trans rfl; have hcz69_2 : w67.cell? ⟨gb112, 2, none⟩ = some (.string (⟨#[]⟩ : ByteArray)) := (blk_cell BK112.out 2).trans rfl; have hcz69_3 : w67.cell? ⟨gb112, 3, none⟩ = some (.string (⟨#[]⟩ : ByteArray)) := (blk_cell BK112.out 3).trans rfl; have hfz69_0 := blk_frozen BK112.out 0; have hfz69_1 := blk_frozen BK112.out 1; have hfz69_2 := blk_frozen BK112.out 2; have hfz69_3 := blk_frozen BK112.out 3; have hcz70_0 : w67.cell? ⟨gb107, 0, none⟩ = some (.bool false) := (blk_cell BK107.out 0).trans rfl; have hcz70_1 : w67.cell? ⟨gb107, 1, none⟩ = some (.bool false) := (blk_cell BK107.out 1).trans rfl; have hcz70_2 : w67.cell? ⟨gb107, 2, none⟩ = some (.string (⟨#[]⟩ : ByteArray)) := (blk_cell BK107.out 2).trans rfl; have hcz70_3 : w67.cell? ⟨gb107, 3, none⟩ = some (.string (⟨#[]⟩ : ByteArray)) := (blk_cell BK107.out 3).trans rfl; have hfz70_0 := blk_frozen BK107.out 0; have hfz70_1 := blk_frozen BK107.out 1; have hfz70_2 := blk_frozen BK107.out 2; have hfz70_3 := blk_frozen BK107.out 3)) | go_values | go_skip | go_guarded | go_step | go_upon | go_in | (simp only [Int.not_lt, Int.not_le] at *; go_simp))
                              refine bodyPost_ret (results_cell_row rfl _ _ gb107 26 #[.bool true, .bool t114, .string (⟨#[]⟩ : ByteArray), .string (rdOf ByteArray.empty y118 (ji62))] (0, 0) _ rfl (by (with_reducible repeat (first | refine blk_drewN ?_ _ | refine blk_drew ?_ | refine blk_alloc ?_ _)); refine blk_put (cs := #[.bool true, .bool t114, .string (⟨#[]⟩ : ByteArray), .string (⟨#[]⟩ : ByteArray)]) ?_ 3 _ rfl; (with_reducible repeat (first | refine blk_drewN ?_ _ | refine blk_drew ?_ | refine blk_alloc ?_ _)); refine blk_put (cs := #[.bool true, .bool t114, .string (⟨#[]⟩ : ByteArray), .string (⟨#[]⟩ : ByteArray)]) ?_ 2 _ rfl; (with_reducible repeat (first | refine blk_drewN ?_ _ | refine blk_drew ?_ | refine blk_alloc ?_ _)); refine blk_put (cs := #[.bool true, .bool false, .string (⟨#[]⟩ : ByteArray), .string (⟨#[]⟩ : ByteArray)]) ?_ 1 _ rfl; (with_reducible repeat (first | refine blk_drewN ?_ _ | refine blk_drew ?_ | refine blk_alloc ?_ _)); refine blk_put (cs := #[.bool false, .bool false, .string (⟨#[]⟩ : ByteArray), .string (⟨#[]⟩ : ByteArray)]) ?_ 0 _ rfl; (with_reducible repeat (first | refine blk_drewN ?_ _ | refine blk_drew ?_ | refine blk_alloc ?_ _)); refine blk_far ?_ NB107_112.out _; (with_reducible repeat (first | refine blk_drewN ?_ _ | refine blk_drew ?_ | refine blk_alloc ?_ _)); exact BK107.out) Tryd.underlying26 rfl (by kernel_rfl)) rfl ?_
                              exact ⟨by first | rfl | (simp [errW_none, errW_some] <;> rfl) | (simp only [← hji62]; first | rfl | (simp [errW_none, errW_some] <;> rfl)) | (simp [*, errW_none, errW_some] <;> rfl), by repeat (first | (with_reducible first | exact HB.out | apply below_alloc | apply pw_below_drewN | apply below_drew1 | refine below_set ?_ GE107.out | refine below_set ?_ GE112.out) | exact HB.out)⟩
                            · replace c66 := Bool.eq_false_iff.mpr c66
                              subst c66
                              have H1 : (some (true, t114, (⟨#[]⟩ : ByteArray), (⟨#[]⟩ : ByteArray))) = some (r1, r2, r3, r4) := by rw [if_neg (show ¬ (false = true) by decide)] at H; exact H
                              clear H
                              have H := H1
                              clear H1
                              simp only [Option.some.injEq, Prod.mk.injEq] at H
                              obtain ⟨rfl, rfl, rfl, rfl⟩ := H
                              have p130 : 0 ≤ ((ji62) : Int) := of_decide_eq_true (by first | (with_reducible assumption) | assumption)
                              have q130 : (ji62) < (y118.length : Int) := of_decide_eq_true (by first | (with_reducible assumption) | assumption)
                              obtain ⟨ad130, e130, hx130_0⟩ := Kd.at_string (Kd.Q_reads' HO_6.out).2.2 (ji62) p130 q130
                              cases e130
                              replace p130 := eq_true p130
                              replace q130 := eq_true q130
                              repeat (first | (first | (go_at_call 16; (with_reducible refine (suffix_Processor.calls (rdOf ByteArray.empty y118 (ji62)) false _ ?side1 A65.out).mono ?_); (case side1 => exact Tabs.below HT.out (by repeat (first | (with_reducible first | exact HB.out | apply below_alloc | apply pw_below_drewN | apply below_drew1 | refine below_set ?_ GE107.out | refine below_set ?_ GE112.out) | exact HB.out))); rintro e w71 ⟨rfl, hb⟩; have n0_ := Aside0.mk (Kd.Q_below (by (with_reducible repeat (first | apply Kd.Q_alloc | apply Kd.Q_drewN | apply Kd.Q_drew)); exact HO_6.out) hb); have n1_ := Aside0.mk (blk_below (g := gb107) (o := .cells #[.bool false, .bool false, .string (⟨#[]⟩ : ByteArray), .string (⟨#[]⟩ : ByteArray)] 26 (0, 0)) (by (with_reducible repeat (first | refine blk_drewN ?_ _ | refine blk_drew ?_ | refine blk_alloc ?_ _)); exact BK107.out) hb); have n2_ := Aside0.mk (blk_below (g := gb112) (o := .cells #[.bool true, .bool t114, .string (⟨#[]⟩ : ByteArray), .string (⟨#[]⟩ : ByteArray)] 26 (0, 0)) (by (with_reducible repeat (first | refine blk_drewN ?_ _ | refine blk_drew ?_ | refine blk_alloc ?_ _)); exact BK112.out) hb); have n3_ := Aside0.mk (below_step (by repeat (first | (with_reducible first | exact HB.out | apply below_alloc | apply pw_below_drewN | apply below_drew1 | refine below_set ?_ GE107.out | refine below_set ?_ GE112.out) | exact HB.out)) hb); clear HO_6; clear BK107; clear BK112; clear HB; have HO_6 := n0_; have BK107 := n1_; have BK112 := n2_; have HB := n3_; clear n0_ n1_ n2_ n3_; (try clear hb); (try clear hb2); (try clear hk); (try clear hi); have hnb72 := NB112_107.out; have hnc72 := NB107_112.out; have hcz73_0 : w71.cell? ⟨gb112, 0, none⟩ = some (.bool true) := (blk_cell BK112.out 0).trans rfl; have hcz73_1 : w71.cell? ⟨gb112, 1, none⟩ = some (.bool t114) := (blk_cell BK112.out 1).trans rfl; have hcz73_2 : w71.cell? ⟨gb112, 2, none⟩ = some (.string (⟨#[]⟩ : ByteArray)) := (blk_cell BK112.out 2).trans rfl; have hcz73_3 : w71.cell? ⟨gb112, 3, none⟩ = some (.string (⟨#[]⟩ : ByteArray)) := (blk_cell BK112.out 3).trans rfl; have hfz73_0 := blk_frozen BK112.out 0; have hfz73_1 := blk_frozen BK112.out 1; have hfz73_2 := blk_frozen BK112.out 2; have hfz73_3 := blk_frozen BK112.out 3; have hcz74_0 : w71.cell? ⟨gb107, 0, none⟩ = some (.bool false) := (blk_cell BK107.out 0).trans rfl; have hcz74_1 : w71.cell? ⟨gb107, 1, none⟩ = some (.bool false) := (blk_cell BK107.out 1).trans rfl; have hcz74_2 : w71.cell? ⟨gb107, 2, none⟩ = some (.string (⟨#[]⟩ : ByteArray)) := (blk_cell BK107.out 2).trans rfl; have hcz74_3 : w71.cell? ⟨gb107, 3, none⟩ = some (.string (⟨#[]⟩ : ByteArray)) := (blk_cell BK107.out 3).trans rfl; have hfz74_0 := blk_frozen BK107.out 0; have hfz74_1 := blk_frozen BK107.out 1; have hfz74_2 := blk_frozen BK107.out 2; have hfz74_3 := blk_frozen BK107.out 3)) | go_values | go_skip | go_guarded | go_step | go_upon | go_in | (simp only [Int.not_lt, Int.not_le] at *; go_simp))
                              refine bodyPost_ret (results_cell_row rfl _ _ gb107 26 #[.bool true, .bool t114, .string (⟨#[]⟩ : ByteArray), .string (⟨#[]⟩ : ByteArray)] (0, 0) _ rfl (by (with_reducible repeat (first | refine blk_drewN ?_ _ | refine blk_drew ?_ | refine blk_alloc ?_ _)); refine blk_put (cs := #[.bool true, .bool t114, .string (⟨#[]⟩ : ByteArray), .string (⟨#[]⟩ : ByteArray)]) ?_ 3 _ rfl; (with_reducible repeat (first | refine blk_drewN ?_ _ | refine blk_drew ?_ | refine blk_alloc ?_ _)); refine blk_put (cs := #[.bool true, .bool t114, .string (⟨#[]⟩ : ByteArray), .string (⟨#[]⟩ : ByteArray)]) ?_ 2 _ rfl; (with_reducible repeat (first | refine blk_drewN ?_ _ | refine blk_drew ?_ | refine blk_alloc ?_ _)); refine blk_put (cs := #[.bool true, .bool false, .string (⟨#[]⟩ : ByteArray), .string (⟨#[]⟩ : ByteArray)]) ?_ 1 _ rfl; (with_reducible repeat (first | refine blk_drewN ?_ _ | refine blk_drew ?_ | refine blk_alloc ?_ _)); refine blk_put (cs := #[.bool false, .bool false, .string (⟨#[]⟩ : ByteArray), .string (⟨#[]⟩ : ByteArray)]) ?_ 0 _ rfl; (with_reducible repeat (first | refine blk_drewN ?_ _ | refine blk_drew ?_ | refine blk_alloc ?_ _)); exact BK107.out) Tryd.underlying26 rfl (by kernel_rfl)) rfl ?_
                              exact ⟨by first | rfl | (simp [errW_none, errW_some] <;> rfl) | (simp only [← hji62]; first | rfl | (simp [errW_none, errW_some] <;> rfl)) | (simp [*, errW_none, errW_some] <;> rfl), by repeat (first | (with_reducible first | exact HB.out | apply below_alloc | apply pw_below_drewN | apply below_drew1 | refine below_set ?_ GE107.out | refine below_set ?_ GE112.out) | exact HB.out)⟩
                          · rw [if_neg c64] at H
                            exact absurd H (by simp)
                        · rw [if_neg c63] at H
                          exact absurd H (by simp)
                      · rw [if_neg c61] at H
                        have c61b0 : decide (0 ≤ (wrap64 ((y118.length : Int) - 1))) = false := decide_eq_false c61
                        clear c61
                        simp only [Option.some.injEq, Prod.mk.injEq] at H
                        obtain ⟨rfl, rfl, rfl, rfl⟩ := H
                        have hnb75 := NB112_107.out
                        have hnc75 := NB107_112.out
                        have hcz76_0 : wc.cell? ⟨gb112, 0, none⟩ = some (.bool true) := (blk_cell BK112.out 0).trans rfl
                        have hcz76_1 : wc.cell? ⟨gb112, 1, none⟩ = some (.bool t114) := (blk_cell BK112.out 1).trans rfl
                        have hcz76_2 : wc.cell? ⟨gb112, 2, none⟩ = some (.string (⟨#[]⟩ : ByteArray)) := (blk_cell BK112.out 2).trans rfl
                        have hcz76_3 : wc.cell? ⟨gb112, 3, none⟩ = some (.string (⟨#[]⟩ : ByteArray)) := (blk_cell BK112.out 3).trans rfl
                        have hfz76_0 := blk_frozen BK112.out 0
                        have hfz76_1 := blk_frozen BK112.out 1
                        have hfz76_2 := blk_frozen BK112.out 2
                        have hfz76_3 := blk_frozen BK112.out 3
                        have hcz77_0 : wc.cell? ⟨gb107, 0, none⟩ = some (.bool false) := (blk_cell BK107.out 0).trans rfl
                        have hcz77_1 : wc.cell? ⟨gb107, 1, none⟩ = some (.bool false) := (blk_cell BK107.out 1).trans rfl
                        have hcz77_2 : wc.cell? ⟨gb107, 2, none⟩ = some (.string (⟨#[]⟩ : ByteArray)) := (blk_cell BK107.out 2).trans rfl
                        have hcz77_3 : wc.cell? ⟨gb107, 3, none⟩ = some (.string (⟨#[]⟩ : ByteArray)) := (blk_cell BK107.out 3).trans rfl
                        have hfz77_0 := blk_frozen BK107.out 0
                        have hfz77_1 := blk_frozen BK107.out 1
                        have hfz77_2 := blk_frozen BK107.out 2
                        have hfz77_3 := blk_frozen BK107.out 3
                        repeat (first | go_values | go_skip | go_guarded | go_step | go_upon | go_in | (simp only [Int.not_lt, Int.not_le] at *; go_simp))
                        refine bodyPost_ret (results_cell_row rfl _ _ gb107 26 #[.bool true, .bool t114, .string (⟨#[]⟩ : ByteArray), .string (⟨#[]⟩ : ByteArray)] (0, 0) _ rfl (by (with_reducible repeat (first | refine blk_drewN ?_ _ | refine blk_drew ?_ | refine blk_alloc ?_ _)); refine blk_put (cs := #[.bool true, .bool t114, .string (⟨#[]⟩ : ByteArray), .string (⟨#[]⟩ : ByteArray)]) ?_ 3 _ rfl; (with_reducible repeat (first | refine blk_drewN ?_ _ | refine blk_drew ?_ | refine blk_alloc ?_ _)); refine blk_put (cs := #[.bool true, .bool t114, .string (⟨#[]⟩ : ByteArray), .string (⟨#[]⟩ : ByteArray)]) ?_ 2 _ rfl; (with_reducible repeat (first | refine blk_drewN ?_ _ | refine blk_drew ?_ | refine blk_alloc ?_ _)); refine blk_put (cs := #[.bool true, .bool false, .string (⟨#[]⟩ : ByteArray), .string (⟨#[]⟩ : ByteArray)]) ?_ 1 _ rfl; (with_reducible repeat (first | refine blk_drewN ?_ _ | refine blk_drew ?_ | refine blk_alloc ?_ _)); refine blk_put (cs := #[.bool false, .bool false, .string (⟨#[]⟩ : ByteArray), .string (⟨#[]⟩ : ByteArray)]) ?_ 0 _ rfl; (with_reducible repeat (first | refine blk_drewN ?_ _ | refine blk_drew ?_ | refine blk_alloc ?_ _)); exact BK107.out) Tryd.underlying26 rfl (by kernel_rfl)) rfl ?_
                        exact ⟨by first | rfl | (simp [errW_none, errW_some] <;> rfl) | (simp [*, errW_none, errW_some] <;> rfl), by repeat (first | (with_reducible first | exact HB.out | apply below_alloc | apply pw_below_drewN | apply below_drew1 | refine below_set ?_ GE107.out | refine below_set ?_ GE112.out) | exact HB.out)⟩
        · rw [if_neg c13] at H
          exact absurd H (by simp)

end Go.Proofs.YtnpbgegllphfkaaDoor.PAll
