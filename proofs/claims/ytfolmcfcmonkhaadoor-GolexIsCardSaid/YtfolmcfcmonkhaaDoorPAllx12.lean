-- Written by a program of this session (a changed scratch copy of a tool of the kit); not a print of the kit's own.
import Derived.Test.YtfolmcfcmonkhaaDoorPAllx0
import Derived.Test.YtfolmcfcmonkhaaDoorPAllxG
import Derived.Test.YtfolmcfcmonkhaaDoorPAllx8
import Derived.Test.YtfolmcfcmonkhaaDoorPAllx9
import Derived.Test.YtfolmcfcmonkhaaDoorPAllx10
import Derived.Test.YtfolmcfcmonkhaaDoorPAllx11
namespace Go.Proofs.YtfolmcfcmonkhaaDoor.PAll
open Go.RowKit Go.Proofs.YtfolmcfcmonkhaaDoorW.PrintWords Go.Proofs.YtfolmcfcmonkhaaDoorW.PrintLast Go.Proofs.YtfolmcfcmonkhaaDoorW.PrintMore Go.Proofs.YtfolmcfcmonkhaaDoorMy Go.Proofs.YtfolmcfcmonkhaaDoor
attribute [local go_sem] max2_int min2_int max_two min_two max_three min_three max_four min_four   -- for this text's walks alone
set_option linter.unusedVariables false
set_option linter.unusedSimpArgs false

mutual
def seicheref11_Next.j0 : Nat → ByteArray → Int → Int → Int → Bool → Option (Int × Int × Int)
  | 0, _, _, _, _, _ => none
  | k + 1, x0, x1, x5, x6, x33 => if x33 = true then ((seicheref11_comment.f k x0 x1).bind fun bt260 => (some (bt260.1, bt260.2.1, bt260.2.2))) else ((seicheref10_Letter.f x5).bind fun t263 => (if t263 = true then ((seicheref11_name.f k x0 x1).bind fun t264 => (some (1, t264, 0))) else ((seicheref10_Digit.f x5).bind fun t265 => (if t265 = true then (seicheref11_Next.j1 k x0 x1 x5 x6 true) else (if x5 = 46 then (if x1 < (wrap64 ((x0.size : Int) - 1)) then (if 0 ≤ (wrap64 (x1 + 1)) then (if (wrap64 (x1 + 1)) < (x0.size : Int) then ((seicheref10_Digit.f (wrap64 (bt x0 (wrap64 (x1 + 1))))).bind fun t266 => (seicheref11_Next.j1 k x0 x1 x5 x6 t266)) else (none)) else (none)) else (seicheref11_Next.j1 k x0 x1 x5 x6 false)) else (seicheref11_Next.j1 k x0 x1 x5 x6 false))))))
def seicheref11_Next.j1 : Nat → ByteArray → Int → Int → Int → Bool → Option (Int × Int × Int)
  | 0, _, _, _, _, _ => none
  | k + 1, x0, x1, x5, x6, x63 => if x63 = true then ((seicheref11_number.f k x0 x1).bind fun t267 => (some (2, t267, 0))) else (if x5 = 39 then ((seicheref11_quoted.f k x0 x1 3).bind fun bt268 => (some (bt268.1, bt268.2.1, bt268.2.2))) else (if x5 = 34 then (seicheref11_Next.j2 k x0 x1 x5 x6 true) else (seicheref11_Next.j2 k x0 x1 x5 x6 (x5 == 96))))
def seicheref11_Next.j2 : Nat → ByteArray → Int → Int → Int → Bool → Option (Int × Int × Int)
  | 0, _, _, _, _, _ => none
  | k + 1, x0, x1, x5, x6, x78 => if x78 = true then ((seicheref11_quoted.f k x0 x1 4).bind fun bt271 => (some (bt271.1, bt271.2.1, bt271.2.2))) else (if x5 = 59 then (some (6, 1, 0)) else ((seicheref11_Signs.f).bind fun t274 => (seicheref11_Next.l0 k x0 x1 x6 0 t274 (t274.length : Int) 0)))
def seicheref11_Next.l0 : Nat → ByteArray → Int → Int → Int → List ByteArray → Int → Int → Option (Int × Int × Int)
  | 0, _, _, _, _, _, _, _ => none
  | k + 1, x0, x1, x6, x7, x85, x86, x87 => if x87 < x86 then (if 0 ≤ x87 then (if x87 < (x85.length : Int) then ((seicheref11_begins.f x0 x1 (rdOf ByteArray.empty x85 x87)).bind fun t278 => (if t278 = true then (if ((rdOf ByteArray.empty x85 x87).size : Int) > x7 then (seicheref11_Next.l0 k x0 x1 x6 ((rdOf ByteArray.empty x85 x87).size : Int) x85 x86 (wrap64 (x87 + 1))) else (seicheref11_Next.l0 k x0 x1 x6 x7 x85 x86 (wrap64 (x87 + 1)))) else (seicheref11_Next.l0 k x0 x1 x6 x7 x85 x86 (wrap64 (x87 + 1))))) else (none)) else (none)) else (if x7 > 0 then (some (5, x7, 0)) else (some (7, 0, wrap64 (x1 + (wrap64 (0 * x6))))))
end
def seicheref11_Next.f (k : Nat) (a0 : ByteArray) (a1 : Int) : Option (Int × Int × Int) := (seicheref10_Rune.f k a0 a1).bind fun bt255 => (if bt255.1 < 0 then (some (7, 0, a1)) else (if bt255.1 = 10 then (some ((-2), 1, 0)) else ((seicheref10_Blank.f bt255.1).bind fun t257 => (if t257 = true then (some ((-1), 1, 0)) else ((seicheref11_begins.f a0 a1 (⟨#[47, 47]⟩ : ByteArray)).bind fun t258 => (if t258 = true then (seicheref11_Next.j0 k a0 a1 bt255.1 bt255.2 true) else ((seicheref11_begins.f a0 a1 (⟨#[47, 42]⟩ : ByteArray)).bind fun t259 => (seicheref11_Next.j0 k a0 a1 bt255.1 bt255.2 t259))))))))
set_option maxHeartbeats 8000000 in
set_option maxRecDepth 100000 in
theorem seicheref11_Next.calls (k : Nat) (a0 : ByteArray) (a1 : Int) (r1 : Int) (r2 : Int) (r3 : Int) (w : World) (h : seicheref11_Next.f k a0 a1 = some (r1, r2, r3)) :
    Calls Tryd.prog 21 #[.string a0, .int .i64 a1] w fun e w' => e = .returned (.agg #[.int .i64 r1, .int .i64 r2, .int .i64 r3]) ∧ Below w.heap.size w w' := by
  have hu41 := Tryd.underlying41
  have HB := Aside0.mk (Below.refl w.heap.size w)
  have H : ((seicheref10_Rune.f k a0 a1).bind fun bt255 => (if bt255.1 < 0 then (some (7, 0, a1)) else (if bt255.1 = 10 then (some ((-2), 1, 0)) else ((seicheref10_Blank.f bt255.1).bind fun t257 => (if t257 = true then (some ((-1), 1, 0)) else ((seicheref11_begins.f a0 a1 (⟨#[47, 47]⟩ : ByteArray)).bind fun t258 => (if t258 = true then (seicheref11_Next.j0 k a0 a1 bt255.1 bt255.2 true) else ((seicheref11_begins.f a0 a1 (⟨#[47, 42]⟩ : ByteArray)).bind fun t259 => (seicheref11_Next.j0 k a0 a1 bt255.1 bt255.2 t259))))))))) = some (r1, r2, r3) := h
  clear h
  replace H := Option.bind_eq_some_iff.mp H
  obtain ⟨⟨t255, t256⟩, A30, H⟩ := H
  replace H : (if t255 < 0 then (some (7, 0, a1)) else (if t255 = 10 then (some ((-2), 1, 0)) else ((seicheref10_Blank.f t255).bind fun t257 => (if t257 = true then (some ((-1), 1, 0)) else ((seicheref11_begins.f a0 a1 (⟨#[47, 47]⟩ : ByteArray)).bind fun t258 => (if t258 = true then (seicheref11_Next.j0 k a0 a1 t255 t256 true) else ((seicheref11_begins.f a0 a1 (⟨#[47, 42]⟩ : ByteArray)).bind fun t259 => (seicheref11_Next.j0 k a0 a1 t255 t256 t259)))))))) = some (r1, r2, r3) := H
  have A3 := Aside0.mk A30; clear A30
  by_cases c4 : t255 < 0
  · rw [if_pos c4] at H
    have c4b0 : decide (t255 < 0) = true := decide_eq_true c4
    clear c4
    simp only [Option.some.injEq, Prod.mk.injEq] at H
    obtain ⟨rfl, rfl, rfl⟩ := H
    go_enter Tryd.func21, Tryd.ntmps21
    repeat (first | (first | ((with_reducible refine gate_dst (N := 4) rfl ?_); (try (refine gate_guard (by rfl) ?_; dsimp only)); refine box_event ?hg (N := 4) ?hd (cs := #[.int .i64 0, .int .i64 0, .int .i64 0]) (t := 41) ?hr ?_; (case hd => rfl); (case hg => rfl); (case hr => first | (go_simp; done) | (go_simp; rfl)); intro gb254 hg w5 hbox hb; have n0_ := Aside0.mk (below_step (by repeat (first | (with_reducible first | exact HB.out | apply below_alloc | apply pw_below_drewN | apply below_drew1) | exact HB.out)) hb); have n1_ := Aside0.mk (hbox); have n2_ := Aside0.mk ((by rw [hg]; exact (below_size (by repeat (first | (with_reducible first | exact HB.out | apply below_alloc | apply pw_below_drewN | apply below_drew1) | exact HB.out))) : w.heap.size ≤ gb254)); have n3_ := Aside0.mk ((by rw [hg]; exact (below_size (by repeat (first | (with_reducible first | exact HB.out | apply below_alloc | apply pw_below_drewN | apply below_drew1) | exact HB.out))) : w.heap.size ≤ gb254)); clear HB; have HB := n0_; have BK254 := n1_; have GW254 := n2_; have GE254 := n3_; clear n0_ n1_ n2_ n3_; clear hb hbox hg) | ((with_reducible refine gate_callee (f := 26) rfl ?_); refine goesL_ (some 13) rfl rfl Tryd.func26 (by kernel_rfl) rfl #[.string a0, .int .i64 a1] rfl (by (try simp only [List.map_toArray, List.map_cons, List.map_nil]); first | done | rfl | (simp only [List.length_drop, List.length_take]; rfl)) ?_; (with_reducible refine (seicheref10_Rune.calls k a0 a1 t255 t256 _ A3.out).mono ?_); rintro e w6 ⟨rfl, hb⟩; refine ⟨_, rfl, ?_⟩; have n0_ := Aside0.mk (blk_below (g := gb254) (o := .cells #[.int .i64 0, .int .i64 0, .int .i64 0] 41 (0, 0)) (by (with_reducible repeat (first | refine blk_drewN ?_ _ | refine blk_drew ?_ | refine blk_alloc ?_ _)); exact BK254.out) hb); have n1_ := Aside0.mk (below_step (by repeat (first | (with_reducible first | exact HB.out | apply below_alloc | apply pw_below_drewN | apply below_drew1 | refine below_set ?_ GE254.out) | exact HB.out)) hb); clear BK254; clear HB; have BK254 := n0_; have HB := n1_; clear n0_ n1_; (try clear hb); (try clear hb2); (try clear hk); (try clear hi); have hcz7_0 : w6.cell? ⟨gb254, 0, none⟩ = some (.int .i64 0) := (blk_cell BK254.out 0).trans rfl; have hcz7_1 : w6.cell? ⟨gb254, 1, none⟩ = some (.int .i64 0) := (blk_cell BK254.out 1).trans rfl; have hcz7_2 : w6.cell? ⟨gb254, 2, none⟩ = some (.int .i64 0) := (blk_cell BK254.out 2).trans rfl; have hfz7_0 := blk_frozen BK254.out 0; have hfz7_1 := blk_frozen BK254.out 1; have hfz7_2 := blk_frozen BK254.out 2)) | go_values | go_skip | go_guarded | go_step | go_upon | go_in | (simp only [Int.not_lt, Int.not_le] at *; go_simp))
    refine bodyPost_ret (results_cell_row rfl _ _ gb254 41 #[.int .i64 7, .int .i64 0, .int .i64 a1] (0, 0) _ rfl (by (with_reducible repeat (first | refine blk_drewN ?_ _ | refine blk_drew ?_ | refine blk_alloc ?_ _)); refine blk_put (cs := #[.int .i64 7, .int .i64 0, .int .i64 0]) ?_ 2 _ rfl; (with_reducible repeat (first | refine blk_drewN ?_ _ | refine blk_drew ?_ | refine blk_alloc ?_ _)); refine blk_put (cs := #[.int .i64 7, .int .i64 0, .int .i64 0]) ?_ 1 _ rfl; (with_reducible repeat (first | refine blk_drewN ?_ _ | refine blk_drew ?_ | refine blk_alloc ?_ _)); refine blk_put (cs := #[.int .i64 0, .int .i64 0, .int .i64 0]) ?_ 0 _ rfl; (with_reducible repeat (first | refine blk_drewN ?_ _ | refine blk_drew ?_ | refine blk_alloc ?_ _)); exact BK254.out) Tryd.underlying41 rfl (by kernel_rfl)) rfl ?_
    exact ⟨by first | rfl | (simp [errW_none, errW_some] <;> rfl) | (simp [*, errW_none, errW_some] <;> rfl), by repeat (first | (with_reducible first | exact HB.out | apply below_alloc | apply pw_below_drewN | apply below_drew1 | refine below_set ?_ GE254.out) | exact HB.out)⟩
  · rw [if_neg c4] at H
    have c4b0 : decide (t255 < 0) = false := decide_eq_false c4
    clear c4
    by_cases c8 : t255 = 10
    · rw [if_pos c8] at H
      have c8b0 : (t255 == 10) = true := beq_iff_eq.mpr c8
      have c8b1 : (t255 != 10) = false := bne_eq_false_iff_eq.mpr c8
      clear c8
      simp only [Option.some.injEq, Prod.mk.injEq] at H
      obtain ⟨rfl, rfl, rfl⟩ := H
      go_enter Tryd.func21, Tryd.ntmps21
      repeat (first | (first | ((with_reducible refine gate_dst (N := 4) rfl ?_); (try (refine gate_guard (by rfl) ?_; dsimp only)); refine box_event ?hg (N := 4) ?hd (cs := #[.int .i64 0, .int .i64 0, .int .i64 0]) (t := 41) ?hr ?_; (case hd => rfl); (case hg => rfl); (case hr => first | (go_simp; done) | (go_simp; rfl)); intro gb254 hg w9 hbox hb; have n0_ := Aside0.mk (below_step (by repeat (first | (with_reducible first | exact HB.out | apply below_alloc | apply pw_below_drewN | apply below_drew1) | exact HB.out)) hb); have n1_ := Aside0.mk (hbox); have n2_ := Aside0.mk ((by rw [hg]; exact (below_size (by repeat (first | (with_reducible first | exact HB.out | apply below_alloc | apply pw_below_drewN | apply below_drew1) | exact HB.out))) : w.heap.size ≤ gb254)); have n3_ := Aside0.mk ((by rw [hg]; exact (below_size (by repeat (first | (with_reducible first | exact HB.out | apply below_alloc | apply pw_below_drewN | apply below_drew1) | exact HB.out))) : w.heap.size ≤ gb254)); clear HB; have HB := n0_; have BK254 := n1_; have GW254 := n2_; have GE254 := n3_; clear n0_ n1_ n2_ n3_; clear hb hbox hg) | ((with_reducible refine gate_callee (f := 26) rfl ?_); refine goesL_ (some 13) rfl rfl Tryd.func26 (by kernel_rfl) rfl #[.string a0, .int .i64 a1] rfl (by (try simp only [List.map_toArray, List.map_cons, List.map_nil]); first | done | rfl | (simp only [List.length_drop, List.length_take]; rfl)) ?_; (with_reducible refine (seicheref10_Rune.calls k a0 a1 t255 t256 _ A3.out).mono ?_); rintro e w10 ⟨rfl, hb⟩; refine ⟨_, rfl, ?_⟩; have n0_ := Aside0.mk (blk_below (g := gb254) (o := .cells #[.int .i64 0, .int .i64 0, .int .i64 0] 41 (0, 0)) (by (with_reducible repeat (first | refine blk_drewN ?_ _ | refine blk_drew ?_ | refine blk_alloc ?_ _)); exact BK254.out) hb); have n1_ := Aside0.mk (below_step (by repeat (first | (with_reducible first | exact HB.out | apply below_alloc | apply pw_below_drewN | apply below_drew1 | refine below_set ?_ GE254.out) | exact HB.out)) hb); clear BK254; clear HB; have BK254 := n0_; have HB := n1_; clear n0_ n1_; (try clear hb); (try clear hb2); (try clear hk); (try clear hi); have hcz11_0 : w10.cell? ⟨gb254, 0, none⟩ = some (.int .i64 0) := (blk_cell BK254.out 0).trans rfl; have hcz11_1 : w10.cell? ⟨gb254, 1, none⟩ = some (.int .i64 0) := (blk_cell BK254.out 1).trans rfl; have hcz11_2 : w10.cell? ⟨gb254, 2, none⟩ = some (.int .i64 0) := (blk_cell BK254.out 2).trans rfl; have hfz11_0 := blk_frozen BK254.out 0; have hfz11_1 := blk_frozen BK254.out 1; have hfz11_2 := blk_frozen BK254.out 2)) | go_values | go_skip | go_guarded | go_step | go_upon | go_in | (simp only [Int.not_lt, Int.not_le] at *; go_simp))
      refine bodyPost_ret (results_cell_row rfl _ _ gb254 41 #[.int .i64 (-2), .int .i64 1, .int .i64 0] (0, 0) _ rfl (by (with_reducible repeat (first | refine blk_drewN ?_ _ | refine blk_drew ?_ | refine blk_alloc ?_ _)); refine blk_put (cs := #[.int .i64 (-2), .int .i64 1, .int .i64 0]) ?_ 2 _ rfl; (with_reducible repeat (first | refine blk_drewN ?_ _ | refine blk_drew ?_ | refine blk_alloc ?_ _)); refine blk_put (cs := #[.int .i64 (-2), .int .i64 0, .int .i64 0]) ?_ 1 _ rfl; (with_reducible repeat (first | refine blk_drewN ?_ _ | refine blk_drew ?_ | refine blk_alloc ?_ _)); refine blk_put (cs := #[.int .i64 0, .int .i64 0, .int .i64 0]) ?_ 0 _ rfl; (with_reducible repeat (first | refine blk_drewN ?_ _ | refine blk_drew ?_ | refine blk_alloc ?_ _)); exact BK254.out) Tryd.underlying41 rfl (by kernel_rfl)) rfl ?_
      exact ⟨by first | rfl | (simp [errW_none, errW_some] <;> rfl) | (simp [*, errW_none, errW_some] <;> rfl), by repeat (first | (with_reducible first | exact HB.out | apply below_alloc | apply pw_below_drewN | apply below_drew1 | refine below_set ?_ GE254.out) | exact HB.out)⟩
    · rw [if_neg c8] at H
      have c8b0 : (t255 == 10) = false := beq_eq_false_iff_ne.mpr c8
      have c8b1 : (t255 != 10) = true := bne_iff_ne.mpr c8
      replace H := Option.bind_eq_some_iff.mp H
      obtain ⟨t257, A120, H⟩ := H
      replace H : (if t257 = true then (some ((-1), 1, 0)) else ((seicheref11_begins.f a0 a1 (⟨#[47, 47]⟩ : ByteArray)).bind fun t258 => (if t258 = true then (seicheref11_Next.j0 k a0 a1 t255 t256 true) else ((seicheref11_begins.f a0 a1 (⟨#[47, 42]⟩ : ByteArray)).bind fun t259 => (seicheref11_Next.j0 k a0 a1 t255 t256 t259))))) = some (r1, r2, r3) := H
      have A12 := Aside0.mk A120; clear A120
      by_cases c13 : t257 = true
      · subst c13
        have H1 : (some ((-1), 1, 0)) = some (r1, r2, r3) := by rw [if_pos rfl] at H; exact H
        clear H
        have H := H1
        clear H1
        simp only [Option.some.injEq, Prod.mk.injEq] at H
        obtain ⟨rfl, rfl, rfl⟩ := H
        go_enter Tryd.func21, Tryd.ntmps21
        repeat (first | (first | ((with_reducible refine gate_dst (N := 4) rfl ?_); (try (refine gate_guard (by rfl) ?_; dsimp only)); refine box_event ?hg (N := 4) ?hd (cs := #[.int .i64 0, .int .i64 0, .int .i64 0]) (t := 41) ?hr ?_; (case hd => rfl); (case hg => rfl); (case hr => first | (go_simp; done) | (go_simp; rfl)); intro gb254 hg w14 hbox hb; have n0_ := Aside0.mk (below_step (by repeat (first | (with_reducible first | exact HB.out | apply below_alloc | apply pw_below_drewN | apply below_drew1) | exact HB.out)) hb); have n1_ := Aside0.mk (hbox); have n2_ := Aside0.mk ((by rw [hg]; exact (below_size (by repeat (first | (with_reducible first | exact HB.out | apply below_alloc | apply pw_below_drewN | apply below_drew1) | exact HB.out))) : w.heap.size ≤ gb254)); have n3_ := Aside0.mk ((by rw [hg]; exact (below_size (by repeat (first | (with_reducible first | exact HB.out | apply below_alloc | apply pw_below_drewN | apply below_drew1) | exact HB.out))) : w.heap.size ≤ gb254)); clear HB; have HB := n0_; have BK254 := n1_; have GW254 := n2_; have GE254 := n3_; clear n0_ n1_ n2_ n3_; clear hb hbox hg) | ((with_reducible refine gate_callee (f := 26) rfl ?_); refine goesL_ (some 13) rfl rfl Tryd.func26 (by kernel_rfl) rfl #[.string a0, .int .i64 a1] rfl (by (try simp only [List.map_toArray, List.map_cons, List.map_nil]); first | done | rfl | (simp only [List.length_drop, List.length_take]; rfl)) ?_; (with_reducible refine (seicheref10_Rune.calls k a0 a1 t255 t256 _ A3.out).mono ?_); rintro e w15 ⟨rfl, hb⟩; refine ⟨_, rfl, ?_⟩; have n0_ := Aside0.mk (blk_below (g := gb254) (o := .cells #[.int .i64 0, .int .i64 0, .int .i64 0] 41 (0, 0)) (by (with_reducible repeat (first | refine blk_drewN ?_ _ | refine blk_drew ?_ | refine blk_alloc ?_ _)); exact BK254.out) hb); have n1_ := Aside0.mk (below_step (by repeat (first | (with_reducible first | exact HB.out | apply below_alloc | apply pw_below_drewN | apply below_drew1 | refine below_set ?_ GE254.out) | exact HB.out)) hb); clear BK254; clear HB; have BK254 := n0_; have HB := n1_; clear n0_ n1_; (try clear hb); (try clear hb2); (try clear hk); (try clear hi)) | ((with_reducible refine gate_callee (f := 20) rfl ?_); refine goesL_ (some 24) rfl rfl Tryd.func20 (by kernel_rfl) rfl #[.int .i64 t255] rfl (by (try simp only [List.map_toArray, List.map_cons, List.map_nil]); first | done | rfl | (simp only [List.length_drop, List.length_take]; rfl)) ?_; (with_reducible refine (seicheref10_Blank.calls t255 true _ A12.out).mono ?_); rintro e w' ⟨rfl, ⟨nd, rfl⟩⟩; refine ⟨_, rfl, ?_⟩; (try (rw [drewN_self w15]; generalize hq_ : World.drewN w15 _ = w15; have n0_ : Aside0 (w15.heap[gb254]? = some (.cells #[.int .i64 0, .int .i64 0, .int .i64 0] 41 (0, 0))) := ⟨by rw [← hq_]; exact (by (with_reducible repeat (first | refine blk_drewN ?_ _ | refine blk_drew ?_ | refine blk_alloc ?_ _)); exact BK254.out)⟩; have n1_ : Aside0 (Below w.heap.size w w15) := ⟨by rw [← hq_]; exact (by repeat (first | (with_reducible first | exact HB.out | apply below_alloc | apply pw_below_drewN | apply below_drew1 | refine below_set ?_ GE254.out) | exact HB.out))⟩; clear BK254 HB hq_; have BK254 := n0_; have HB := n1_; clear n0_ n1_)); have hcz16_0 : w15.cell? ⟨gb254, 0, none⟩ = some (.int .i64 0) := (blk_cell BK254.out 0).trans rfl; have hcz16_1 : w15.cell? ⟨gb254, 1, none⟩ = some (.int .i64 0) := (blk_cell BK254.out 1).trans rfl; have hcz16_2 : w15.cell? ⟨gb254, 2, none⟩ = some (.int .i64 0) := (blk_cell BK254.out 2).trans rfl; have hfz16_0 := blk_frozen BK254.out 0; have hfz16_1 := blk_frozen BK254.out 1; have hfz16_2 := blk_frozen BK254.out 2)) | go_values | go_skip | go_guarded | go_step | go_upon | go_in | (simp only [Int.not_lt, Int.not_le] at *; go_simp))
        refine bodyPost_ret (results_cell_row rfl _ _ gb254 41 #[.int .i64 (-1), .int .i64 1, .int .i64 0] (0, 0) _ rfl (by (with_reducible repeat (first | refine blk_drewN ?_ _ | refine blk_drew ?_ | refine blk_alloc ?_ _)); refine blk_put (cs := #[.int .i64 (-1), .int .i64 1, .int .i64 0]) ?_ 2 _ rfl; (with_reducible repeat (first | refine blk_drewN ?_ _ | refine blk_drew ?_ | refine blk_alloc ?_ _)); refine blk_put (cs := #[.int .i64 (-1), .int .i64 0, .int .i64 0]) ?_ 1 _ rfl; (with_reducible repeat (first | refine blk_drewN ?_ _ | refine blk_drew ?_ | refine blk_alloc ?_ _)); refine blk_put (cs := #[.int .i64 0, .int .i64 0, .int .i64 0]) ?_ 0 _ rfl; (with_reducible repeat (first | refine blk_drewN ?_ _ | refine blk_drew ?_ | refine blk_alloc ?_ _)); exact BK254.out) Tryd.underlying41 rfl (by kernel_rfl)) rfl ?_
        exact ⟨by first | rfl | (simp [errW_none, errW_some] <;> rfl) | (simp [*, errW_none, errW_some] <;> rfl), by repeat (first | (with_reducible first | exact HB.out | apply below_alloc | apply pw_below_drewN | apply below_drew1 | refine below_set ?_ GE254.out) | exact HB.out)⟩
      · replace c13 := Bool.eq_false_iff.mpr c13
        subst c13
        have H1 : ((seicheref11_begins.f a0 a1 (⟨#[47, 47]⟩ : ByteArray)).bind fun t258 => (if t258 = true then (seicheref11_Next.j0 k a0 a1 t255 t256 true) else ((seicheref11_begins.f a0 a1 (⟨#[47, 42]⟩ : ByteArray)).bind fun t259 => (seicheref11_Next.j0 k a0 a1 t255 t256 t259)))) = some (r1, r2, r3) := by rw [if_neg (show ¬ (false = true) by decide)] at H; exact H
        clear H
        have H := H1
        clear H1; have HC17 := Aside0.mk H; clear H
        go_enter Tryd.func21, Tryd.ntmps21
        go_upto_region 8 with (first | ((with_reducible refine gate_dst (N := 4) rfl ?_); (try (refine gate_guard (by rfl) ?_; dsimp only)); refine box_event ?hg (N := 4) ?hd (cs := #[.int .i64 0, .int .i64 0, .int .i64 0]) (t := 41) ?hr ?_; (case hd => rfl); (case hg => rfl); (case hr => first | (go_simp; done) | (go_simp; rfl)); intro gb254 hg w18 hbox hb; have n0_ := Aside0.mk (below_step (by repeat (first | (with_reducible first | exact HB.out | apply below_alloc | apply pw_below_drewN | apply below_drew1) | exact HB.out)) hb); have n1_ := Aside0.mk (hbox); have n2_ := Aside0.mk ((by rw [hg]; exact (below_size (by repeat (first | (with_reducible first | exact HB.out | apply below_alloc | apply pw_below_drewN | apply below_drew1) | exact HB.out))) : w.heap.size ≤ gb254)); have n3_ := Aside0.mk ((by rw [hg]; exact (below_size (by repeat (first | (with_reducible first | exact HB.out | apply below_alloc | apply pw_below_drewN | apply below_drew1) | exact HB.out))) : w.heap.size ≤ gb254)); clear HB; have HB := n0_; have BK254 := n1_; have GW254 := n2_; have GE254 := n3_; clear n0_ n1_ n2_ n3_; clear hb hbox hg) | ((with_reducible refine gate_callee (f := 26) rfl ?_); refine goesL_ (some 13) rfl rfl Tryd.func26 (by kernel_rfl) rfl #[.string a0, .int .i64 a1] rfl (by (try simp only [List.map_toArray, List.map_cons, List.map_nil]); first | done | rfl | (simp only [List.length_drop, List.length_take]; rfl)) ?_; (with_reducible refine (seicheref10_Rune.calls k a0 a1 t255 t256 _ A3.out).mono ?_); rintro e w19 ⟨rfl, hb⟩; refine ⟨_, rfl, ?_⟩; have n0_ := Aside0.mk (blk_below (g := gb254) (o := .cells #[.int .i64 0, .int .i64 0, .int .i64 0] 41 (0, 0)) (by (with_reducible repeat (first | refine blk_drewN ?_ _ | refine blk_drew ?_ | refine blk_alloc ?_ _)); exact BK254.out) hb); have n1_ := Aside0.mk (below_step (by repeat (first | (with_reducible first | exact HB.out | apply below_alloc | apply pw_below_drewN | apply below_drew1 | refine below_set ?_ GE254.out) | exact HB.out)) hb); clear BK254; clear HB; have BK254 := n0_; have HB := n1_; clear n0_ n1_; (try clear hb); (try clear hb2); (try clear hk); (try clear hi)) | ((with_reducible refine gate_callee (f := 20) rfl ?_); refine goesL_ (some 24) rfl rfl Tryd.func20 (by kernel_rfl) rfl #[.int .i64 t255] rfl (by (try simp only [List.map_toArray, List.map_cons, List.map_nil]); first | done | rfl | (simp only [List.length_drop, List.length_take]; rfl)) ?_; (with_reducible refine (seicheref10_Blank.calls t255 false _ A12.out).mono ?_); rintro e w' ⟨rfl, ⟨nd, rfl⟩⟩; refine ⟨_, rfl, ?_⟩))
        (try simp only [Act.put, List.setIfInBounds_toArray, List.set_cons_zero, List.set_cons_succ])
        go_cut [33] (fun v33 wc => ∃ (kq : Nat) (x33_16 : Bool), v33 = .bool x33_16 ∧ Aside0 (seicheref11_Next.j0 kq a0 a1 t255 t256 x33_16 = some (r1, r2, r3)) ∧ Aside0 (kq ≤ k) ∧ Aside0 (wc.heap[gb254]? = some (.cells #[.int .i64 0, .int .i64 0, .int .i64 0] 41 (0, 0))) ∧ Aside0 (Below w.heap.size w wc))
        case first =>
          have H := HC17.out
          clear HC17
          replace H := Option.bind_eq_some_iff.mp H
          obtain ⟨t258, A200, H⟩ := H
          replace H : (if t258 = true then (seicheref11_Next.j0 k a0 a1 t255 t256 true) else ((seicheref11_begins.f a0 a1 (⟨#[47, 42]⟩ : ByteArray)).bind fun t259 => (seicheref11_Next.j0 k a0 a1 t255 t256 t259))) = some (r1, r2, r3) := H
          have A20 := Aside0.mk A200; clear A200
          by_cases c21 : t258 = true
          · subst c21
            have H1 : (seicheref11_Next.j0 k a0 a1 t255 t256 true) = some (r1, r2, r3) := by rw [if_pos rfl] at H; exact H
            clear H
            have H := H1
            clear H1
            have H' := Aside0.mk H
            clear H
            go_wp2_with (first | ((with_reducible refine gate_callee (f := 27) rfl ?_); refine goesL_ (some 28) rfl rfl Tryd.func27 (by kernel_rfl) rfl #[.string a0, .int .i64 a1, .string (⟨#[47, 47]⟩ : ByteArray)] rfl (by (try simp only [List.map_toArray, List.map_cons, List.map_nil]); first | done | rfl | (simp only [List.length_drop, List.length_take]; rfl)) ?_; (with_reducible refine (seicheref11_begins.calls a0 a1 (⟨#[47, 47]⟩ : ByteArray) true _ A20.out).mono ?_); rintro e w' ⟨rfl, ⟨nd, rfl⟩⟩; refine ⟨_, rfl, ?_⟩))
            go_meet
            case rel => exact ⟨_, (true), (by first | rfl | (simp; done) | (simp [*]; done)), H', ⟨by first | omega | exact Nat.le_refl _⟩, ⟨by (with_reducible repeat (first | refine blk_drewN ?_ _ | refine blk_drew ?_ | refine blk_alloc ?_ _)); exact BK254.out⟩, ⟨by repeat (first | (with_reducible first | exact HB.out | apply below_alloc | apply pw_below_drewN | apply below_drew1 | refine below_set ?_ GE254.out) | exact HB.out)⟩⟩
          · replace c21 := Bool.eq_false_iff.mpr c21
            subst c21
            have H1 : ((seicheref11_begins.f a0 a1 (⟨#[47, 42]⟩ : ByteArray)).bind fun t259 => (seicheref11_Next.j0 k a0 a1 t255 t256 t259)) = some (r1, r2, r3) := by rw [if_neg (show ¬ (false = true) by decide)] at H; exact H
            clear H
            have H := H1
            clear H1
            replace H := Option.bind_eq_some_iff.mp H
            obtain ⟨t259, A220, H⟩ := H
            replace H : (seicheref11_Next.j0 k a0 a1 t255 t256 t259) = some (r1, r2, r3) := H
            have A22 := Aside0.mk A220; clear A220
            have H' := Aside0.mk H
            clear H
            go_wp2_with (first | ((with_reducible refine gate_callee (f := 27) rfl ?_); refine goesL_ (some 28) rfl rfl Tryd.func27 (by kernel_rfl) rfl #[.string a0, .int .i64 a1, .string (⟨#[47, 47]⟩ : ByteArray)] rfl (by (try simp only [List.map_toArray, List.map_cons, List.map_nil]); first | done | rfl | (simp only [List.length_drop, List.length_take]; rfl)) ?_; (with_reducible refine (seicheref11_begins.calls a0 a1 (⟨#[47, 47]⟩ : ByteArray) false _ A20.out).mono ?_); rintro e w' ⟨rfl, ⟨nd, rfl⟩⟩; refine ⟨_, rfl, ?_⟩) | (go_at_call 27; (with_reducible refine (seicheref11_begins.calls a0 a1 (⟨#[47, 42]⟩ : ByteArray) t259 _ A22.out).mono ?_); rintro e w' ⟨rfl, ⟨nd, rfl⟩⟩))
            go_meet
            case rel => exact ⟨_, (t259), (by first | rfl | (simp; done) | (simp [*]; done)), H', ⟨by first | omega | exact Nat.le_refl _⟩, ⟨by (with_reducible repeat (first | refine blk_drewN ?_ _ | refine blk_drew ?_ | refine blk_alloc ?_ _)); exact BK254.out⟩, ⟨by repeat (first | (with_reducible first | exact HB.out | apply below_alloc | apply pw_below_drewN | apply below_drew1 | refine below_set ?_ GE254.out) | exact HB.out)⟩⟩
        case rest =>
          clear HC17; (try clear c1); (try clear c2); (try clear p2); (try clear c4); (try clear c4b0); (try clear c8); (try clear c8b0); (try clear c8b1); (try clear c13); (try clear c20); (try clear c21); (try clear hcz11_0); (try clear hcz11_1); (try clear hcz11_2); (try clear hcz16_0); (try clear hcz16_1); (try clear hcz16_2); (try clear hcz7_0); (try clear hcz7_1); (try clear hcz7_2); (try clear hfz11_0); (try clear hfz11_1); (try clear hfz11_2); (try clear hfz16_0); (try clear hfz16_1); (try clear hfz16_2); (try clear hfz7_0); (try clear hfz7_1); (try clear hfz7_2); obtain ⟨kq, x33_16, rfl, HA, HJ16, BK254, HB⟩ := hcut
          cases kq with
          | zero => exact absurd HA.out (by simp [seicheref11_Next.j0])
          | succ kj16 =>
            have H := HA.out
            clear HA
            simp only [seicheref11_Next.j0] at H
            by_cases c23 : x33_16 = true
            · subst c23
              have H1 : ((seicheref11_comment.f kj16 a0 a1).bind fun bt260 => (some (bt260.1, bt260.2.1, bt260.2.2))) = some (r1, r2, r3) := by rw [if_pos rfl] at H; exact H
              clear H
              have H := H1
              clear H1
              replace H := Option.bind_eq_some_iff.mp H
              obtain ⟨⟨t260, t261, t262⟩, A240, H⟩ := H
              replace H : (some (t260, t261, t262)) = some (r1, r2, r3) := H
              have A24 := Aside0.mk A240; clear A240
              simp only [Option.some.injEq, Prod.mk.injEq] at H
              obtain ⟨rfl, rfl, rfl⟩ := H
              repeat (first | (first | ((with_reducible refine gate_callee (f := 28) rfl ?_); refine goesL_ (some 36) rfl rfl Tryd.func28 (by kernel_rfl) rfl #[.string a0, .int .i64 a1] rfl (by (try simp only [List.map_toArray, List.map_cons, List.map_nil]); first | done | rfl | (simp only [List.length_drop, List.length_take]; rfl)) ?_; (with_reducible refine (seicheref11_comment.calls kj16 a0 a1 t260 t261 t262 _ A24.out).mono ?_); rintro e w25 ⟨rfl, hb⟩; refine ⟨_, rfl, ?_⟩; have n0_ := Aside0.mk (blk_below (g := gb254) (o := .cells #[.int .i64 0, .int .i64 0, .int .i64 0] 41 (0, 0)) (by (with_reducible repeat (first | refine blk_drewN ?_ _ | refine blk_drew ?_ | refine blk_alloc ?_ _)); exact BK254.out) hb); have n1_ := Aside0.mk (below_step (by repeat (first | (with_reducible first | exact HB.out | apply below_alloc | apply pw_below_drewN | apply below_drew1 | refine below_set ?_ GE254.out) | exact HB.out)) hb); clear BK254; clear HB; have BK254 := n0_; have HB := n1_; clear n0_ n1_; (try clear hb); (try clear hb2); (try clear hk); (try clear hi); have hcz26_0 : w25.cell? ⟨gb254, 0, none⟩ = some (.int .i64 0) := (blk_cell BK254.out 0).trans rfl; have hcz26_1 : w25.cell? ⟨gb254, 1, none⟩ = some (.int .i64 0) := (blk_cell BK254.out 1).trans rfl; have hcz26_2 : w25.cell? ⟨gb254, 2, none⟩ = some (.int .i64 0) := (blk_cell BK254.out 2).trans rfl; have hfz26_0 := blk_frozen BK254.out 0; have hfz26_1 := blk_frozen BK254.out 1; have hfz26_2 := blk_frozen BK254.out 2)) | go_values | go_skip | go_guarded | go_step | go_upon | go_in | (simp only [Int.not_lt, Int.not_le] at *; go_simp))
              refine bodyPost_ret (results_cell_row rfl _ _ gb254 41 #[.int .i64 t260, .int .i64 t261, .int .i64 t262] (0, 0) _ rfl (by (with_reducible repeat (first | refine blk_drewN ?_ _ | refine blk_drew ?_ | refine blk_alloc ?_ _)); refine blk_put (cs := #[.int .i64 t260, .int .i64 t261, .int .i64 0]) ?_ 2 _ rfl; (with_reducible repeat (first | refine blk_drewN ?_ _ | refine blk_drew ?_ | refine blk_alloc ?_ _)); refine blk_put (cs := #[.int .i64 t260, .int .i64 0, .int .i64 0]) ?_ 1 _ rfl; (with_reducible repeat (first | refine blk_drewN ?_ _ | refine blk_drew ?_ | refine blk_alloc ?_ _)); refine blk_put (cs := #[.int .i64 0, .int .i64 0, .int .i64 0]) ?_ 0 _ rfl; (with_reducible repeat (first | refine blk_drewN ?_ _ | refine blk_drew ?_ | refine blk_alloc ?_ _)); exact BK254.out) Tryd.underlying41 rfl (by kernel_rfl)) rfl ?_
              exact ⟨by first | rfl | (simp [errW_none, errW_some] <;> rfl) | (simp [*, errW_none, errW_some] <;> rfl), by repeat (first | (with_reducible first | exact HB.out | apply below_alloc | apply pw_below_drewN | apply below_drew1 | refine below_set ?_ GE254.out) | exact HB.out)⟩
            · replace c23 := Bool.eq_false_iff.mpr c23
              subst c23
              have H1 : ((seicheref10_Letter.f t255).bind fun t263 => (if t263 = true then ((seicheref11_name.f kj16 a0 a1).bind fun t264 => (some (1, t264, 0))) else ((seicheref10_Digit.f t255).bind fun t265 => (if t265 = true then (seicheref11_Next.j1 kj16 a0 a1 t255 t256 true) else (if t255 = 46 then (if a1 < (wrap64 ((a0.size : Int) - 1)) then (if 0 ≤ (wrap64 (a1 + 1)) then (if (wrap64 (a1 + 1)) < (a0.size : Int) then ((seicheref10_Digit.f (wrap64 (bt a0 (wrap64 (a1 + 1))))).bind fun t266 => (seicheref11_Next.j1 kj16 a0 a1 t255 t256 t266)) else (none)) else (none)) else (seicheref11_Next.j1 kj16 a0 a1 t255 t256 false)) else (seicheref11_Next.j1 kj16 a0 a1 t255 t256 false)))))) = some (r1, r2, r3) := by rw [if_neg (show ¬ (false = true) by decide)] at H; exact H
              clear H
              have H := H1
              clear H1
              replace H := Option.bind_eq_some_iff.mp H
              obtain ⟨t263, A270, H⟩ := H
              replace H : (if t263 = true then ((seicheref11_name.f kj16 a0 a1).bind fun t264 => (some (1, t264, 0))) else ((seicheref10_Digit.f t255).bind fun t265 => (if t265 = true then (seicheref11_Next.j1 kj16 a0 a1 t255 t256 true) else (if t255 = 46 then (if a1 < (wrap64 ((a0.size : Int) - 1)) then (if 0 ≤ (wrap64 (a1 + 1)) then (if (wrap64 (a1 + 1)) < (a0.size : Int) then ((seicheref10_Digit.f (wrap64 (bt a0 (wrap64 (a1 + 1))))).bind fun t266 => (seicheref11_Next.j1 kj16 a0 a1 t255 t256 t266)) else (none)) else (none)) else (seicheref11_Next.j1 kj16 a0 a1 t255 t256 false)) else (seicheref11_Next.j1 kj16 a0 a1 t255 t256 false))))) = some (r1, r2, r3) := H
              have A27 := Aside0.mk A270; clear A270
              by_cases c28 : t263 = true
              · subst c28
                have H1 : ((seicheref11_name.f kj16 a0 a1).bind fun t264 => (some (1, t264, 0))) = some (r1, r2, r3) := by rw [if_pos rfl] at H; exact H
                clear H
                have H := H1
                clear H1
                replace H := Option.bind_eq_some_iff.mp H
                obtain ⟨t264, A290, H⟩ := H
                replace H : (some (1, t264, 0)) = some (r1, r2, r3) := H
                have A29 := Aside0.mk A290; clear A290
                simp only [Option.some.injEq, Prod.mk.injEq] at H
                obtain ⟨rfl, rfl, rfl⟩ := H
                repeat (first | (first | ((with_reducible refine gate_callee (f := 29) rfl ?_); refine goesL_ (some 38) rfl rfl Tryd.func29 (by kernel_rfl) rfl #[.int .i64 t255] rfl (by (try simp only [List.map_toArray, List.map_cons, List.map_nil]); first | done | rfl | (simp only [List.length_drop, List.length_take]; rfl)) ?_; (with_reducible refine (seicheref10_Letter.calls t255 true _ A27.out).mono ?_); rintro e w' ⟨rfl, ⟨nd, rfl⟩⟩; refine ⟨_, rfl, ?_⟩; (try (rw [drewN_self wc]; generalize hq_ : World.drewN wc _ = wc; have n0_ : Aside0 (wc.heap[gb254]? = some (.cells #[.int .i64 0, .int .i64 0, .int .i64 0] 41 (0, 0))) := ⟨by rw [← hq_]; exact (by (with_reducible repeat (first | refine blk_drewN ?_ _ | refine blk_drew ?_ | refine blk_alloc ?_ _)); exact BK254.out)⟩; have n1_ : Aside0 (Below w.heap.size w wc) := ⟨by rw [← hq_]; exact (by repeat (first | (with_reducible first | exact HB.out | apply below_alloc | apply pw_below_drewN | apply below_drew1 | refine below_set ?_ GE254.out) | exact HB.out))⟩; clear BK254 HB hq_; have BK254 := n0_; have HB := n1_; clear n0_ n1_))) | ((with_reducible refine gate_callee (f := 30) rfl ?_); refine goesL_ (some 41) rfl rfl Tryd.func30 (by kernel_rfl) rfl #[.string a0, .int .i64 a1] rfl (by (try simp only [List.map_toArray, List.map_cons, List.map_nil]); first | done | rfl | (simp only [List.length_drop, List.length_take]; rfl)) ?_; (with_reducible refine (seicheref11_name.calls kj16 a0 a1 t264 _ A29.out).mono ?_); rintro e w30 ⟨rfl, hb⟩; refine ⟨_, rfl, ?_⟩; have n0_ := Aside0.mk (blk_below (g := gb254) (o := .cells #[.int .i64 0, .int .i64 0, .int .i64 0] 41 (0, 0)) (by (with_reducible repeat (first | refine blk_drewN ?_ _ | refine blk_drew ?_ | refine blk_alloc ?_ _)); exact BK254.out) hb); have n1_ := Aside0.mk (below_step (by repeat (first | (with_reducible first | exact HB.out | apply below_alloc | apply pw_below_drewN | apply below_drew1 | refine below_set ?_ GE254.out) | exact HB.out)) hb); clear BK254; clear HB; have BK254 := n0_; have HB := n1_; clear n0_ n1_; (try clear hb); (try clear hb2); (try clear hk); (try clear hi); have hcz31_0 : w30.cell? ⟨gb254, 0, none⟩ = some (.int .i64 0) := (blk_cell BK254.out 0).trans rfl; have hcz31_1 : w30.cell? ⟨gb254, 1, none⟩ = some (.int .i64 0) := (blk_cell BK254.out 1).trans rfl; have hcz31_2 : w30.cell? ⟨gb254, 2, none⟩ = some (.int .i64 0) := (blk_cell BK254.out 2).trans rfl; have hfz31_0 := blk_frozen BK254.out 0; have hfz31_1 := blk_frozen BK254.out 1; have hfz31_2 := blk_frozen BK254.out 2)) | go_values | go_skip | go_guarded | go_step | go_upon | go_in | (simp only [Int.not_lt, Int.not_le] at *; go_simp))
                refine bodyPost_ret (results_cell_row rfl _ _ gb254 41 #[.int .i64 1, .int .i64 t264, .int .i64 0] (0, 0) _ rfl (by (with_reducible repeat (first | refine blk_drewN ?_ _ | refine blk_drew ?_ | refine blk_alloc ?_ _)); refine blk_put (cs := #[.int .i64 1, .int .i64 t264, .int .i64 0]) ?_ 2 _ rfl; (with_reducible repeat (first | refine blk_drewN ?_ _ | refine blk_drew ?_ | refine blk_alloc ?_ _)); refine blk_put (cs := #[.int .i64 1, .int .i64 0, .int .i64 0]) ?_ 1 _ rfl; (with_reducible repeat (first | refine blk_drewN ?_ _ | refine blk_drew ?_ | refine blk_alloc ?_ _)); refine blk_put (cs := #[.int .i64 0, .int .i64 0, .int .i64 0]) ?_ 0 _ rfl; (with_reducible repeat (first | refine blk_drewN ?_ _ | refine blk_drew ?_ | refine blk_alloc ?_ _)); exact BK254.out) Tryd.underlying41 rfl (by kernel_rfl)) rfl ?_
                exact ⟨by first | rfl | (simp [errW_none, errW_some] <;> rfl) | (simp [*, errW_none, errW_some] <;> rfl), by repeat (first | (with_reducible first | exact HB.out | apply below_alloc | apply pw_below_drewN | apply below_drew1 | refine below_set ?_ GE254.out) | exact HB.out)⟩
              · replace c28 := Bool.eq_false_iff.mpr c28
                subst c28
                have H1 : ((seicheref10_Digit.f t255).bind fun t265 => (if t265 = true then (seicheref11_Next.j1 kj16 a0 a1 t255 t256 true) else (if t255 = 46 then (if a1 < (wrap64 ((a0.size : Int) - 1)) then (if 0 ≤ (wrap64 (a1 + 1)) then (if (wrap64 (a1 + 1)) < (a0.size : Int) then ((seicheref10_Digit.f (wrap64 (bt a0 (wrap64 (a1 + 1))))).bind fun t266 => (seicheref11_Next.j1 kj16 a0 a1 t255 t256 t266)) else (none)) else (none)) else (seicheref11_Next.j1 kj16 a0 a1 t255 t256 false)) else (seicheref11_Next.j1 kj16 a0 a1 t255 t256 false)))) = some (r1, r2, r3) := by rw [if_neg (show ¬ (false = true) by decide)] at H; exact H
                clear H
                have H := H1
                clear H1; have HC32 := Aside0.mk H; clear H
                go_upto_region 12 with (first | ((with_reducible refine gate_callee (f := 29) rfl ?_); refine goesL_ (some 38) rfl rfl Tryd.func29 (by kernel_rfl) rfl #[.int .i64 t255] rfl (by (try simp only [List.map_toArray, List.map_cons, List.map_nil]); first | done | rfl | (simp only [List.length_drop, List.length_take]; rfl)) ?_; (with_reducible refine (seicheref10_Letter.calls t255 false _ A27.out).mono ?_); rintro e w' ⟨rfl, ⟨nd, rfl⟩⟩; refine ⟨_, rfl, ?_⟩))
                (try simp only [Act.put, List.setIfInBounds_toArray, List.set_cons_zero, List.set_cons_succ])
                go_cut [63] (fun v63 wc => ∃ (kq : Nat) (x63_31 : Bool), v63 = .bool x63_31 ∧ Aside0 (seicheref11_Next.j1 kq a0 a1 t255 t256 x63_31 = some (r1, r2, r3)) ∧ Aside0 (kq ≤ kj16) ∧ Aside0 (wc.heap[gb254]? = some (.cells #[.int .i64 0, .int .i64 0, .int .i64 0] 41 (0, 0))) ∧ Aside0 (Below w.heap.size w wc))
                case first =>
                  have H := HC32.out
                  clear HC32
                  replace H := Option.bind_eq_some_iff.mp H
                  obtain ⟨t265, A330, H⟩ := H
                  replace H : (if t265 = true then (seicheref11_Next.j1 kj16 a0 a1 t255 t256 true) else (if t255 = 46 then (if a1 < (wrap64 ((a0.size : Int) - 1)) then (if 0 ≤ (wrap64 (a1 + 1)) then (if (wrap64 (a1 + 1)) < (a0.size : Int) then ((seicheref10_Digit.f (wrap64 (bt a0 (wrap64 (a1 + 1))))).bind fun t266 => (seicheref11_Next.j1 kj16 a0 a1 t255 t256 t266)) else (none)) else (none)) else (seicheref11_Next.j1 kj16 a0 a1 t255 t256 false)) else (seicheref11_Next.j1 kj16 a0 a1 t255 t256 false))) = some (r1, r2, r3) := H
                  have A33 := Aside0.mk A330; clear A330
                  by_cases c34 : t265 = true
                  · subst c34
                    have H1 : (seicheref11_Next.j1 kj16 a0 a1 t255 t256 true) = some (r1, r2, r3) := by rw [if_pos rfl] at H; exact H
                    clear H
                    have H := H1
                    clear H1
                    have H' := Aside0.mk H
                    clear H
                    go_wp2_with (first | ((with_reducible refine gate_callee (f := 31) rfl ?_); refine goesL_ (some 44) rfl rfl Tryd.func31 (by kernel_rfl) rfl #[.int .i64 t255] rfl (by (try simp only [List.map_toArray, List.map_cons, List.map_nil]); first | done | rfl | (simp only [List.length_drop, List.length_take]; rfl)) ?_; (with_reducible refine (seicheref10_Digit.calls t255 true _ A33.out).mono ?_); rintro e w' ⟨rfl, ⟨nd, rfl⟩⟩; refine ⟨_, rfl, ?_⟩))
                    go_meet
                    case rel => exact ⟨_, (true), (by first | rfl | (simp; done) | (simp [*]; done)), H', ⟨by have := HJ16.out; first | omega | exact Nat.le_refl _⟩, ⟨by (with_reducible repeat (first | refine blk_drewN ?_ _ | refine blk_drew ?_ | refine blk_alloc ?_ _)); exact BK254.out⟩, ⟨by repeat (first | (with_reducible first | exact HB.out | apply below_alloc | apply pw_below_drewN | apply below_drew1 | refine below_set ?_ GE254.out) | exact HB.out)⟩⟩
                  · replace c34 := Bool.eq_false_iff.mpr c34
                    subst c34
                    have H1 : (if t255 = 46 then (if a1 < (wrap64 ((a0.size : Int) - 1)) then (if 0 ≤ (wrap64 (a1 + 1)) then (if (wrap64 (a1 + 1)) < (a0.size : Int) then ((seicheref10_Digit.f (wrap64 (bt a0 (wrap64 (a1 + 1))))).bind fun t266 => (seicheref11_Next.j1 kj16 a0 a1 t255 t256 t266)) else (none)) else (none)) else (seicheref11_Next.j1 kj16 a0 a1 t255 t256 false)) else (seicheref11_Next.j1 kj16 a0 a1 t255 t256 false)) = some (r1, r2, r3) := by rw [if_neg (show ¬ (false = true) by decide)] at H; exact H
                    clear H
                    have H := H1
                    clear H1
                    by_cases c35 : t255 = 46
                    · rw [if_pos c35] at H
                      have c35b0 : (t255 == 46) = true := beq_iff_eq.mpr c35
                      have c35b1 : (t255 != 46) = false := bne_eq_false_iff_eq.mpr c35
                      clear c35
                      (first | rw [c35b0] | (simp only [i64_w, i32_w]; rw [c35b0]) | skip)
                      by_cases c36 : a1 < (wrap64 ((a0.size : Int) - 1))
                      · rw [if_pos c36] at H
                        have c36b0 : decide (a1 < (wrap64 ((a0.size : Int) - 1))) = true := decide_eq_true c36
                        clear c36
                        obtain ⟨ji37, hji37⟩ : ∃ j_ : Int, (wrap64 (a1 + 1)) = j_ := ⟨_, rfl⟩
                        replace H : (if 0 ≤ (ji37) then (if (ji37) < (a0.size : Int) then ((seicheref10_Digit.f (wrap64 (bt a0 (ji37)))).bind fun t266 => (seicheref11_Next.j1 kj16 a0 a1 t255 t256 t266)) else (none)) else (none)) = some (r1, r2, r3) := by first | (rw [hji37] at H; exact H) | (simp only [hji37] at H ⊢; exact H)
                        (try rw [hji37] at A33)
                        have hji37w : (IntKind.i64.wrap (a1 + 1)) = ji37 := (i64_w _).trans hji37
                        by_cases c38 : 0 ≤ (ji37)
                        · rw [if_pos c38] at H
                          have c38b0 : decide (0 ≤ (ji37)) = true := decide_eq_true c38
                          clear c38
                          by_cases c39 : (ji37) < (a0.size : Int)
                          · rw [if_pos c39] at H
                            have c39b0 : decide ((ji37) < (a0.size : Int)) = true := decide_eq_true c39
                            clear c39
                            replace H := Option.bind_eq_some_iff.mp H
                            obtain ⟨t266, A410, H⟩ := H
                            replace H : (seicheref11_Next.j1 kj16 a0 a1 t255 t256 t266) = some (r1, r2, r3) := H
                            have A41 := Aside0.mk A410; clear A410
                            have H' := Aside0.mk H
                            clear H
                            go_wp2_with (first | ((with_reducible refine gate_callee (f := 31) rfl ?_); refine goesL_ (some 44) rfl rfl Tryd.func31 (by kernel_rfl) rfl #[.int .i64 t255] rfl (by (try simp only [List.map_toArray, List.map_cons, List.map_nil]); first | done | rfl | (simp only [List.length_drop, List.length_take]; rfl)) ?_; (with_reducible refine (seicheref10_Digit.calls t255 false _ A33.out).mono ?_); rintro e w' ⟨rfl, ⟨nd, rfl⟩⟩; refine ⟨_, rfl, ?_⟩; have p40 : 0 ≤ ((ji37) : Int) := of_decide_eq_true (by first | (with_reducible assumption) | assumption); have q40 : (ji37) < (a0.size : Int) := of_decide_eq_true (by first | (with_reducible assumption) | assumption); have hx40 := bt_at a0 (ji37); replace p40 := eq_true p40; replace q40 := eq_true q40) | (go_at_call 31; (with_reducible refine (seicheref10_Digit.calls (wrap64 (bt a0 (ji37))) t266 _ A41.out).mono ?_); rintro e w' ⟨rfl, ⟨nd, rfl⟩⟩))
                            go_meet
                            case rel => exact ⟨_, (t266), (by first | rfl | (simp; done) | (simp [*]; done)), H', ⟨by have := HJ16.out; first | omega | exact Nat.le_refl _⟩, ⟨by (with_reducible repeat (first | refine blk_drewN ?_ _ | refine blk_drew ?_ | refine blk_alloc ?_ _)); exact BK254.out⟩, ⟨by repeat (first | (with_reducible first | exact HB.out | apply below_alloc | apply pw_below_drewN | apply below_drew1 | refine below_set ?_ GE254.out) | exact HB.out)⟩⟩
                          · rw [if_neg c39] at H
                            exact absurd H (by simp)
                        · rw [if_neg c38] at H
                          exact absurd H (by simp)
                      · rw [if_neg c36] at H
                        have c36b0 : decide (a1 < (wrap64 ((a0.size : Int) - 1))) = false := decide_eq_false c36
                        clear c36
                        have H' := Aside0.mk H
                        clear H
                        go_wp2_with (first | ((with_reducible refine gate_callee (f := 31) rfl ?_); refine goesL_ (some 44) rfl rfl Tryd.func31 (by kernel_rfl) rfl #[.int .i64 t255] rfl (by (try simp only [List.map_toArray, List.map_cons, List.map_nil]); first | done | rfl | (simp only [List.length_drop, List.length_take]; rfl)) ?_; (with_reducible refine (seicheref10_Digit.calls t255 false _ A33.out).mono ?_); rintro e w' ⟨rfl, ⟨nd, rfl⟩⟩; refine ⟨_, rfl, ?_⟩))
                        go_meet
                        case rel => exact ⟨_, (false), (by first | rfl | (simp; done) | (simp [*]; done)), H', ⟨by have := HJ16.out; first | omega | exact Nat.le_refl _⟩, ⟨by (with_reducible repeat (first | refine blk_drewN ?_ _ | refine blk_drew ?_ | refine blk_alloc ?_ _)); exact BK254.out⟩, ⟨by repeat (first | (with_reducible first | exact HB.out | apply below_alloc | apply pw_below_drewN | apply below_drew1 | refine below_set ?_ GE254.out) | exact HB.out)⟩⟩
                    · rw [if_neg c35] at H
                      have c35b0 : (t255 == 46) = false := beq_eq_false_iff_ne.mpr c35
                      have c35b1 : (t255 != 46) = true := bne_iff_ne.mpr c35
                      (first | rw [c35b0] | (simp only [i64_w, i32_w]; rw [c35b0]) | skip)
                      have H' := Aside0.mk H
                      clear H
                      go_wp2_with (first | ((with_reducible refine gate_callee (f := 31) rfl ?_); refine goesL_ (some 44) rfl rfl Tryd.func31 (by kernel_rfl) rfl #[.int .i64 t255] rfl (by (try simp only [List.map_toArray, List.map_cons, List.map_nil]); first | done | rfl | (simp only [List.length_drop, List.length_take]; rfl)) ?_; (with_reducible refine (seicheref10_Digit.calls t255 false _ A33.out).mono ?_); rintro e w' ⟨rfl, ⟨nd, rfl⟩⟩; refine ⟨_, rfl, ?_⟩))
                      go_meet
                      case rel => exact ⟨_, (false), (by first | rfl | (simp; done) | (simp [*]; done)), H', ⟨by have := HJ16.out; first | omega | exact Nat.le_refl _⟩, ⟨by (with_reducible repeat (first | refine blk_drewN ?_ _ | refine blk_drew ?_ | refine blk_alloc ?_ _)); exact BK254.out⟩, ⟨by repeat (first | (with_reducible first | exact HB.out | apply below_alloc | apply pw_below_drewN | apply below_drew1 | refine below_set ?_ GE254.out) | exact HB.out)⟩⟩
                case rest =>
                  clear HC32; (try clear c1); (try clear c2); (try clear p2); (try clear c3); (try clear c4); (try clear c4b0); (try clear p4); (try clear q4); (try clear hx4); (try clear p6); (try clear c8); (try clear c8b0); (try clear c8b1); (try clear c13); (try clear c20); (try clear c21); (try clear c23); (try clear c26); (try clear c27); (try clear c28); (try clear c29); (try clear c30); (try clear c31); (try clear c34); (try clear c35); (try clear c35b0); (try clear c35b1); (try clear c36); (try clear c36b0); (try clear c38); (try clear c38b0); (try clear c39); (try clear c39b0); (try clear p40); (try clear q40); (try clear hx40); (try clear hcz11_0); (try clear hcz11_1)
                  (try clear hcz11_2); (try clear hcz16_0); (try clear hcz16_1); (try clear hcz16_2); (try clear hcz26_0); (try clear hcz26_1); (try clear hcz26_2); (try clear hcz31_0); (try clear hcz31_1); (try clear hcz31_2); (try clear hcz7_0); (try clear hcz7_1); (try clear hcz7_2); (try clear hfz11_0); (try clear hfz11_1); (try clear hfz11_2); (try clear hfz16_0); (try clear hfz16_1); (try clear hfz16_2); (try clear hfz26_0); (try clear hfz26_1); (try clear hfz26_2); (try clear hfz31_0); (try clear hfz31_1); (try clear hfz31_2); (try clear hfz7_0); (try clear hfz7_1); (try clear hfz7_2); (try clear p2); (try clear p40); (try clear q40); obtain ⟨kq, x63_31, rfl, HA, HJ31, BK254, HB⟩ := hcut
                  cases kq with
                  | zero => exact absurd HA.out (by simp [seicheref11_Next.j1])
                  | succ kj31 =>
                    have H := HA.out
                    clear HA
                    simp only [seicheref11_Next.j1] at H
                    by_cases c42 : x63_31 = true
                    · subst c42
                      have H1 : ((seicheref11_number.f kj31 a0 a1).bind fun t267 => (some (2, t267, 0))) = some (r1, r2, r3) := by rw [if_pos rfl] at H; exact H
                      clear H
                      have H := H1
                      clear H1
                      replace H := Option.bind_eq_some_iff.mp H
                      obtain ⟨t267, A430, H⟩ := H
                      replace H : (some (2, t267, 0)) = some (r1, r2, r3) := H
                      have A43 := Aside0.mk A430; clear A430
                      simp only [Option.some.injEq, Prod.mk.injEq] at H
                      obtain ⟨rfl, rfl, rfl⟩ := H
                      repeat (first | (first | ((with_reducible refine gate_callee (f := 32) rfl ?_); refine goesL_ (some 66) rfl rfl Tryd.func32 (by kernel_rfl) rfl #[.string a0, .int .i64 a1] rfl (by (try simp only [List.map_toArray, List.map_cons, List.map_nil]); first | done | rfl | (simp only [List.length_drop, List.length_take]; rfl)) ?_; (with_reducible refine (seicheref11_number.calls kj31 a0 a1 t267 _ A43.out).mono ?_); rintro e w' ⟨rfl, ⟨nd, rfl⟩⟩; refine ⟨_, rfl, ?_⟩; (try (rw [drewN_self wc]; generalize hq_ : World.drewN wc _ = wc; have n0_ : Aside0 (wc.heap[gb254]? = some (.cells #[.int .i64 0, .int .i64 0, .int .i64 0] 41 (0, 0))) := ⟨by rw [← hq_]; exact (by (with_reducible repeat (first | refine blk_drewN ?_ _ | refine blk_drew ?_ | refine blk_alloc ?_ _)); exact BK254.out)⟩; have n1_ : Aside0 (Below w.heap.size w wc) := ⟨by rw [← hq_]; exact (by repeat (first | (with_reducible first | exact HB.out | apply below_alloc | apply pw_below_drewN | apply below_drew1 | refine below_set ?_ GE254.out) | exact HB.out))⟩; clear BK254 HB hq_; have BK254 := n0_; have HB := n1_; clear n0_ n1_)); have hcz44_0 : wc.cell? ⟨gb254, 0, none⟩ = some (.int .i64 0) := (blk_cell BK254.out 0).trans rfl; have hcz44_1 : wc.cell? ⟨gb254, 1, none⟩ = some (.int .i64 0) := (blk_cell BK254.out 1).trans rfl; have hcz44_2 : wc.cell? ⟨gb254, 2, none⟩ = some (.int .i64 0) := (blk_cell BK254.out 2).trans rfl; have hfz44_0 := blk_frozen BK254.out 0; have hfz44_1 := blk_frozen BK254.out 1; have hfz44_2 := blk_frozen BK254.out 2)) | go_values | go_skip | go_guarded | go_step | go_upon | go_in | (simp only [Int.not_lt, Int.not_le] at *; go_simp))
                      refine bodyPost_ret (results_cell_row rfl _ _ gb254 41 #[.int .i64 2, .int .i64 t267, .int .i64 0] (0, 0) _ rfl (by (with_reducible repeat (first | refine blk_drewN ?_ _ | refine blk_drew ?_ | refine blk_alloc ?_ _)); refine blk_put (cs := #[.int .i64 2, .int .i64 t267, .int .i64 0]) ?_ 2 _ rfl; (with_reducible repeat (first | refine blk_drewN ?_ _ | refine blk_drew ?_ | refine blk_alloc ?_ _)); refine blk_put (cs := #[.int .i64 2, .int .i64 0, .int .i64 0]) ?_ 1 _ rfl; (with_reducible repeat (first | refine blk_drewN ?_ _ | refine blk_drew ?_ | refine blk_alloc ?_ _)); refine blk_put (cs := #[.int .i64 0, .int .i64 0, .int .i64 0]) ?_ 0 _ rfl; (with_reducible repeat (first | refine blk_drewN ?_ _ | refine blk_drew ?_ | refine blk_alloc ?_ _)); exact BK254.out) Tryd.underlying41 rfl (by kernel_rfl)) rfl ?_
                      exact ⟨by first | rfl | (simp [errW_none, errW_some] <;> rfl) | (simp [*, errW_none, errW_some] <;> rfl), by repeat (first | (with_reducible first | exact HB.out | apply below_alloc | apply pw_below_drewN | apply below_drew1 | refine below_set ?_ GE254.out) | exact HB.out)⟩
                    · replace c42 := Bool.eq_false_iff.mpr c42
                      subst c42
                      have H1 : (if t255 = 39 then ((seicheref11_quoted.f kj31 a0 a1 3).bind fun bt268 => (some (bt268.1, bt268.2.1, bt268.2.2))) else (if t255 = 34 then (seicheref11_Next.j2 kj31 a0 a1 t255 t256 true) else (seicheref11_Next.j2 kj31 a0 a1 t255 t256 (t255 == 96)))) = some (r1, r2, r3) := by rw [if_neg (show ¬ (false = true) by decide)] at H; exact H
                      clear H
                      have H := H1
                      clear H1
                      by_cases c45 : t255 = 39
                      · rw [if_pos c45] at H
                        have c45b0 : (t255 == 39) = true := beq_iff_eq.mpr c45
                        have c45b1 : (t255 != 39) = false := bne_eq_false_iff_eq.mpr c45
                        clear c45
                        replace H := Option.bind_eq_some_iff.mp H
                        obtain ⟨⟨t268, t269, t270⟩, A460, H⟩ := H
                        replace H : (some (t268, t269, t270)) = some (r1, r2, r3) := H
                        have A46 := Aside0.mk A460; clear A460
                        simp only [Option.some.injEq, Prod.mk.injEq] at H
                        obtain ⟨rfl, rfl, rfl⟩ := H
                        repeat (first | (first | ((with_reducible refine gate_callee (f := 33) rfl ?_); refine goesL_ (some 72) rfl rfl Tryd.func33 (by kernel_rfl) rfl #[.string a0, .int .i64 a1, .int .i64 3] rfl (by (try simp only [List.map_toArray, List.map_cons, List.map_nil]); first | done | rfl | (simp only [List.length_drop, List.length_take]; rfl)) ?_; (with_reducible refine (seicheref11_quoted.calls kj31 a0 a1 3 t268 t269 t270 _ A46.out).mono ?_); rintro e w47 ⟨rfl, hb⟩; refine ⟨_, rfl, ?_⟩; have n0_ := Aside0.mk (blk_below (g := gb254) (o := .cells #[.int .i64 0, .int .i64 0, .int .i64 0] 41 (0, 0)) (by (with_reducible repeat (first | refine blk_drewN ?_ _ | refine blk_drew ?_ | refine blk_alloc ?_ _)); exact BK254.out) hb); have n1_ := Aside0.mk (below_step (by repeat (first | (with_reducible first | exact HB.out | apply below_alloc | apply pw_below_drewN | apply below_drew1 | refine below_set ?_ GE254.out) | exact HB.out)) hb); clear BK254; clear HB; have BK254 := n0_; have HB := n1_; clear n0_ n1_; (try clear hb); (try clear hb2); (try clear hk); (try clear hi); have hcz48_0 : w47.cell? ⟨gb254, 0, none⟩ = some (.int .i64 0) := (blk_cell BK254.out 0).trans rfl; have hcz48_1 : w47.cell? ⟨gb254, 1, none⟩ = some (.int .i64 0) := (blk_cell BK254.out 1).trans rfl; have hcz48_2 : w47.cell? ⟨gb254, 2, none⟩ = some (.int .i64 0) := (blk_cell BK254.out 2).trans rfl; have hfz48_0 := blk_frozen BK254.out 0; have hfz48_1 := blk_frozen BK254.out 1; have hfz48_2 := blk_frozen BK254.out 2)) | go_values | go_skip | go_guarded | go_step | go_upon | go_in | (simp only [Int.not_lt, Int.not_le] at *; go_simp))
                        refine bodyPost_ret (results_cell_row rfl _ _ gb254 41 #[.int .i64 t268, .int .i64 t269, .int .i64 t270] (0, 0) _ rfl (by (with_reducible repeat (first | refine blk_drewN ?_ _ | refine blk_drew ?_ | refine blk_alloc ?_ _)); refine blk_put (cs := #[.int .i64 t268, .int .i64 t269, .int .i64 0]) ?_ 2 _ rfl; (with_reducible repeat (first | refine blk_drewN ?_ _ | refine blk_drew ?_ | refine blk_alloc ?_ _)); refine blk_put (cs := #[.int .i64 t268, .int .i64 0, .int .i64 0]) ?_ 1 _ rfl; (with_reducible repeat (first | refine blk_drewN ?_ _ | refine blk_drew ?_ | refine blk_alloc ?_ _)); refine blk_put (cs := #[.int .i64 0, .int .i64 0, .int .i64 0]) ?_ 0 _ rfl; (with_reducible repeat (first | refine blk_drewN ?_ _ | refine blk_drew ?_ | refine blk_alloc ?_ _)); exact BK254.out) Tryd.underlying41 rfl (by kernel_rfl)) rfl ?_
                        exact ⟨by first | rfl | (simp [errW_none, errW_some] <;> rfl) | (simp [*, errW_none, errW_some] <;> rfl), by repeat (first | (with_reducible first | exact HB.out | apply below_alloc | apply pw_below_drewN | apply below_drew1 | refine below_set ?_ GE254.out) | exact HB.out)⟩
                      · rw [if_neg c45] at H
                        have c45b0 : (t255 == 39) = false := beq_eq_false_iff_ne.mpr c45
                        have c45b1 : (t255 != 39) = true := bne_iff_ne.mpr c45
                        have HC49 := Aside0.mk H; clear H
                        go_upto_region 16 with (fail)
                        go_cut [78] (fun v78 wc => ∃ (kq : Nat) (x78_48 : Bool), v78 = .bool x78_48 ∧ Aside0 (seicheref11_Next.j2 kq a0 a1 t255 t256 x78_48 = some (r1, r2, r3)) ∧ Aside0 (kq ≤ kj31) ∧ Aside0 (wc.heap[gb254]? = some (.cells #[.int .i64 0, .int .i64 0, .int .i64 0] 41 (0, 0))) ∧ Aside0 (Below w.heap.size w wc))
                        case first =>
                          have H := HC49.out
                          clear HC49
                          by_cases c50 : t255 = 34
                          · rw [if_pos c50] at H
                            have c50b0 : (t255 == 34) = true := beq_iff_eq.mpr c50
                            have c50b1 : (t255 != 34) = false := bne_eq_false_iff_eq.mpr c50
                            clear c50
                            (first | rw [c50b0] | (simp only [i64_w, i32_w]; rw [c50b0]) | skip)
                            have H' := Aside0.mk H
                            clear H
                            go_wp2
                            go_meet
                            case rel => exact ⟨_, (true), (by first | rfl | (simp; done) | (simp [*]; done)), H', ⟨by have := HJ16.out; have := HJ31.out; first | omega | exact Nat.le_refl _⟩, ⟨by (with_reducible repeat (first | refine blk_drewN ?_ _ | refine blk_drew ?_ | refine blk_alloc ?_ _)); exact BK254.out⟩, ⟨by repeat (first | (with_reducible first | exact HB.out | apply below_alloc | apply pw_below_drewN | apply below_drew1 | refine below_set ?_ GE254.out) | exact HB.out)⟩⟩
                          · rw [if_neg c50] at H
                            have c50b0 : (t255 == 34) = false := beq_eq_false_iff_ne.mpr c50
                            have c50b1 : (t255 != 34) = true := bne_iff_ne.mpr c50
                            (first | rw [c50b0] | (simp only [i64_w, i32_w]; rw [c50b0]) | skip)
                            have H' := Aside0.mk H
                            clear H
                            go_wp2
                            go_meet
                            case rel => exact ⟨_, ((t255 == 96)), (by first | rfl | (simp; done) | (simp [*]; done)), H', ⟨by have := HJ16.out; have := HJ31.out; first | omega | exact Nat.le_refl _⟩, ⟨by (with_reducible repeat (first | refine blk_drewN ?_ _ | refine blk_drew ?_ | refine blk_alloc ?_ _)); exact BK254.out⟩, ⟨by repeat (first | (with_reducible first | exact HB.out | apply below_alloc | apply pw_below_drewN | apply below_drew1 | refine below_set ?_ GE254.out) | exact HB.out)⟩⟩
                        case rest =>
                          clear HC49; (try clear c1); (try clear c2); (try clear p2); (try clear c3); (try clear c4); (try clear c4b0); (try clear p4); (try clear q4); (try clear hx4); (try clear c5); (try clear p6); (try clear c8); (try clear c8b0); (try clear c8b1); (try clear c13); (try clear c20); (try clear c21); (try clear c23); (try clear c26); (try clear c27); (try clear c28); (try clear c29); (try clear c30); (try clear c31); (try clear c32); (try clear c33); (try clear c34); (try clear c35); (try clear c35b0); (try clear c35b1); (try clear c36); (try clear c36b0); (try clear c38); (try clear c38b0); (try clear c39); (try clear c39b0); (try clear p40); (try clear q40)
                          (try clear hx40); (try clear c42); (try clear c45); (try clear c45b0); (try clear c45b1); (try clear c50); (try clear c50b0); (try clear c50b1); (try clear hcz11_0); (try clear hcz11_1); (try clear hcz11_2); (try clear hcz16_0); (try clear hcz16_1); (try clear hcz16_2); (try clear hcz26_0); (try clear hcz26_1); (try clear hcz26_2); (try clear hcz31_0); (try clear hcz31_1); (try clear hcz31_2); (try clear hcz44_0); (try clear hcz44_1); (try clear hcz44_2); (try clear hcz48_0); (try clear hcz48_1); (try clear hcz48_2); (try clear hcz7_0); (try clear hcz7_1); (try clear hcz7_2); (try clear hfz11_0); (try clear hfz11_1); (try clear hfz11_2)
                          (try clear hfz16_0); (try clear hfz16_1); (try clear hfz16_2); (try clear hfz26_0); (try clear hfz26_1); (try clear hfz26_2); (try clear hfz31_0); (try clear hfz31_1); (try clear hfz31_2); (try clear hfz44_0); (try clear hfz44_1); (try clear hfz44_2); (try clear hfz48_0); (try clear hfz48_1); (try clear hfz48_2); (try clear hfz7_0); (try clear hfz7_1); (try clear hfz7_2); (try clear p2); (try clear p4); (try clear p40); (try clear p6); (try clear q4); (try clear q40); obtain ⟨kq, x78_48, rfl, HA, HJ48, BK254, HB⟩ := hcut
                          cases kq with
                          | zero => exact absurd HA.out (by simp [seicheref11_Next.j2])
                          | succ kj48 =>
                            have H := HA.out
                            clear HA
                            simp only [seicheref11_Next.j2] at H
                            by_cases c51 : x78_48 = true
                            · subst c51
                              have H1 : ((seicheref11_quoted.f kj48 a0 a1 4).bind fun bt271 => (some (bt271.1, bt271.2.1, bt271.2.2))) = some (r1, r2, r3) := by rw [if_pos rfl] at H; exact H
                              clear H
                              have H := H1
                              clear H1
                              replace H := Option.bind_eq_some_iff.mp H
                              obtain ⟨⟨t271, t272, t273⟩, A520, H⟩ := H
                              replace H : (some (t271, t272, t273)) = some (r1, r2, r3) := H
                              have A52 := Aside0.mk A520; clear A520
                              simp only [Option.some.injEq, Prod.mk.injEq] at H
                              obtain ⟨rfl, rfl, rfl⟩ := H
                              repeat (first | (first | ((with_reducible refine gate_callee (f := 33) rfl ?_); refine goesL_ (some 81) rfl rfl Tryd.func33 (by kernel_rfl) rfl #[.string a0, .int .i64 a1, .int .i64 4] rfl (by (try simp only [List.map_toArray, List.map_cons, List.map_nil]); first | done | rfl | (simp only [List.length_drop, List.length_take]; rfl)) ?_; (with_reducible refine (seicheref11_quoted.calls kj48 a0 a1 4 t271 t272 t273 _ A52.out).mono ?_); rintro e w53 ⟨rfl, hb⟩; refine ⟨_, rfl, ?_⟩; have n0_ := Aside0.mk (blk_below (g := gb254) (o := .cells #[.int .i64 0, .int .i64 0, .int .i64 0] 41 (0, 0)) (by (with_reducible repeat (first | refine blk_drewN ?_ _ | refine blk_drew ?_ | refine blk_alloc ?_ _)); exact BK254.out) hb); have n1_ := Aside0.mk (below_step (by repeat (first | (with_reducible first | exact HB.out | apply below_alloc | apply pw_below_drewN | apply below_drew1 | refine below_set ?_ GE254.out) | exact HB.out)) hb); clear BK254; clear HB; have BK254 := n0_; have HB := n1_; clear n0_ n1_; (try clear hb); (try clear hb2); (try clear hk); (try clear hi); have hcz54_0 : w53.cell? ⟨gb254, 0, none⟩ = some (.int .i64 0) := (blk_cell BK254.out 0).trans rfl; have hcz54_1 : w53.cell? ⟨gb254, 1, none⟩ = some (.int .i64 0) := (blk_cell BK254.out 1).trans rfl; have hcz54_2 : w53.cell? ⟨gb254, 2, none⟩ = some (.int .i64 0) := (blk_cell BK254.out 2).trans rfl; have hfz54_0 := blk_frozen BK254.out 0; have hfz54_1 := blk_frozen BK254.out 1; have hfz54_2 := blk_frozen BK254.out 2)) | go_values | go_skip | go_guarded | go_step | go_upon | go_in | (simp only [Int.not_lt, Int.not_le] at *; go_simp))
                              refine bodyPost_ret (results_cell_row rfl _ _ gb254 41 #[.int .i64 t271, .int .i64 t272, .int .i64 t273] (0, 0) _ rfl (by (with_reducible repeat (first | refine blk_drewN ?_ _ | refine blk_drew ?_ | refine blk_alloc ?_ _)); refine blk_put (cs := #[.int .i64 t271, .int .i64 t272, .int .i64 0]) ?_ 2 _ rfl; (with_reducible repeat (first | refine blk_drewN ?_ _ | refine blk_drew ?_ | refine blk_alloc ?_ _)); refine blk_put (cs := #[.int .i64 t271, .int .i64 0, .int .i64 0]) ?_ 1 _ rfl; (with_reducible repeat (first | refine blk_drewN ?_ _ | refine blk_drew ?_ | refine blk_alloc ?_ _)); refine blk_put (cs := #[.int .i64 0, .int .i64 0, .int .i64 0]) ?_ 0 _ rfl; (with_reducible repeat (first | refine blk_drewN ?_ _ | refine blk_drew ?_ | refine blk_alloc ?_ _)); exact BK254.out) Tryd.underlying41 rfl (by kernel_rfl)) rfl ?_
                              exact ⟨by first | rfl | (simp [errW_none, errW_some] <;> rfl) | (simp [*, errW_none, errW_some] <;> rfl), by repeat (first | (with_reducible first | exact HB.out | apply below_alloc | apply pw_below_drewN | apply below_drew1 | refine below_set ?_ GE254.out) | exact HB.out)⟩
                            · replace c51 := Bool.eq_false_iff.mpr c51
                              subst c51
                              have H1 : (if t255 = 59 then (some (6, 1, 0)) else ((seicheref11_Signs.f).bind fun t274 => (seicheref11_Next.l0 kj48 a0 a1 t256 0 t274 (t274.length : Int) 0))) = some (r1, r2, r3) := by rw [if_neg (show ¬ (false = true) by decide)] at H; exact H
                              clear H
                              have H := H1
                              clear H1
                              by_cases c55 : t255 = 59
                              · rw [if_pos c55] at H
                                have c55b0 : (t255 == 59) = true := beq_iff_eq.mpr c55
                                have c55b1 : (t255 != 59) = false := bne_eq_false_iff_eq.mpr c55
                                clear c55
                                simp only [Option.some.injEq, Prod.mk.injEq] at H
                                obtain ⟨rfl, rfl, rfl⟩ := H
                                have hcz56_0 : wc.cell? ⟨gb254, 0, none⟩ = some (.int .i64 0) := (blk_cell BK254.out 0).trans rfl
                                have hcz56_1 : wc.cell? ⟨gb254, 1, none⟩ = some (.int .i64 0) := (blk_cell BK254.out 1).trans rfl
                                have hcz56_2 : wc.cell? ⟨gb254, 2, none⟩ = some (.int .i64 0) := (blk_cell BK254.out 2).trans rfl
                                have hfz56_0 := blk_frozen BK254.out 0; have hfz56_1 := blk_frozen BK254.out 1; have hfz56_2 := blk_frozen BK254.out 2
                                repeat (first | go_values | go_skip | go_guarded | go_step | go_upon | go_in | (simp only [Int.not_lt, Int.not_le] at *; go_simp))
                                refine bodyPost_ret (results_cell_row rfl _ _ gb254 41 #[.int .i64 6, .int .i64 1, .int .i64 0] (0, 0) _ rfl (by (with_reducible repeat (first | refine blk_drewN ?_ _ | refine blk_drew ?_ | refine blk_alloc ?_ _)); refine blk_put (cs := #[.int .i64 6, .int .i64 1, .int .i64 0]) ?_ 2 _ rfl; (with_reducible repeat (first | refine blk_drewN ?_ _ | refine blk_drew ?_ | refine blk_alloc ?_ _)); refine blk_put (cs := #[.int .i64 6, .int .i64 0, .int .i64 0]) ?_ 1 _ rfl; (with_reducible repeat (first | refine blk_drewN ?_ _ | refine blk_drew ?_ | refine blk_alloc ?_ _)); refine blk_put (cs := #[.int .i64 0, .int .i64 0, .int .i64 0]) ?_ 0 _ rfl; (with_reducible repeat (first | refine blk_drewN ?_ _ | refine blk_drew ?_ | refine blk_alloc ?_ _)); exact BK254.out) Tryd.underlying41 rfl (by kernel_rfl)) rfl ?_
                                exact ⟨by first | rfl | (simp [errW_none, errW_some] <;> rfl) | (simp [*, errW_none, errW_some] <;> rfl), by repeat (first | (with_reducible first | exact HB.out | apply below_alloc | apply pw_below_drewN | apply below_drew1 | refine below_set ?_ GE254.out) | exact HB.out)⟩
                              · rw [if_neg c55] at H
                                have c55b0 : (t255 == 59) = false := beq_eq_false_iff_ne.mpr c55
                                have c55b1 : (t255 != 59) = true := bne_iff_ne.mpr c55
                                replace H := Option.bind_eq_some_iff.mp H
                                obtain ⟨t274, A570, H⟩ := H
                                replace H : (seicheref11_Next.l0 kj48 a0 a1 t256 0 t274 (t274.length : Int) 0) = some (r1, r2, r3) := H
                                have A57 := Aside0.mk A570; clear A570
                                have H' := Aside0.mk H
                                clear H
                                go_wp2_with (first | ((with_reducible refine gate_callee (f := 34) rfl ?_); refine goesL_ (some 85) rfl rfl Tryd.func34 (by kernel_rfl) rfl #[] rfl (by (try simp only [List.map_toArray, List.map_cons, List.map_nil]); first | done | rfl | (simp only [List.length_drop, List.length_take]; rfl)) ?_; (with_reducible refine (seicheref11_Signs.calls  t274 _ A57.out).mono ?_); rintro e w58 ⟨v275, rfl, ho0, hb⟩; refine ⟨_, rfl, ?_⟩; have n0_ := Aside0.mk (Kd.R_lower ho0 (below_size (by repeat (first | (with_reducible first | exact HB.out | apply below_alloc | apply pw_below_drewN | apply below_drew1 | refine below_set ?_ GE254.out) | exact HB.out)))); have n1_ := Aside0.mk (blk_below (g := gb254) (o := .cells #[.int .i64 0, .int .i64 0, .int .i64 0] 41 (0, 0)) (by (with_reducible repeat (first | refine blk_drewN ?_ _ | refine blk_drew ?_ | refine blk_alloc ?_ _)); exact BK254.out) hb); have n2_ := Aside0.mk (below_step (by repeat (first | (with_reducible first | exact HB.out | apply below_alloc | apply pw_below_drewN | apply below_drew1 | refine below_set ?_ GE254.out) | exact HB.out)) hb); clear BK254; clear HB; have HO276 := n0_; have BK254 := n1_; have HB := n2_; clear n0_ n1_ n2_; (try clear hb); (try clear hb2); (try clear hk); (try clear hi); (try clear ho0); obtain ⟨Ao59, co59, eo59⟩ := Kd.R_slice HO276.out; subst eo59))
                                go_loopg [7, 87] kj48 (fun kq v7 v87 w' => ∃ (x7_4 : Int) (x87_4 : Int), v7 = .int .i64 x7_4 ∧ v87 = .int .i64 x87_4 ∧ Aside0 (seicheref11_Next.l0 kq a0 a1 t256 x7_4 t274 (t274.length : Int) x87_4 = some (r1, r2, r3)) ∧ Aside0 (kq ≤ kj48) ∧ Aside0 (Kd.R Kd.string 9 w' w.heap.size (fun _ => True) (.slice Ao59 t274.length co59) t274) ∧ Aside0 (w'.heap[gb254]? = some (.cells #[.int .i64 0, .int .i64 0, .int .i64 0] 41 (0, 0))) ∧ Aside0 (Below w.heap.size w w'))
                                case atStart => exact ⟨(0), (0), (by first | rfl | (simp; done) | (simp [*]; done)), (by first | rfl | (simp; done) | (simp [*]; done)), H', ⟨Nat.le_refl _⟩, ⟨by (with_reducible repeat (first | apply Kd.R_alloc | apply Kd.R_drewN | apply Kd.R_drew)); exact HO276.out⟩, ⟨by (with_reducible repeat (first | refine blk_drewN ?_ _ | refine blk_drew ?_ | refine blk_alloc ?_ _)); exact BK254.out⟩, ⟨by repeat (first | (with_reducible first | exact HB.out | apply below_alloc | apply pw_below_drewN | apply below_drew1 | refine below_set ?_ GE254.out) | exact HB.out)⟩⟩
                                case round =>
                                  clear H'
                                  (try clear c1); (try clear c2); (try clear p2); (try clear c3); (try clear c4); (try clear c4b0); (try clear p4); (try clear q4); (try clear hx4); (try clear c5); (try clear p6); (try clear c8); (try clear c8b0); (try clear c8b1); (try clear c13); (try clear c20); (try clear c21); (try clear c23); (try clear c26); (try clear c27); (try clear c28); (try clear c29); (try clear c30); (try clear c31); (try clear c32); (try clear c33); (try clear c34); (try clear c35); (try clear c35b0); (try clear c35b1); (try clear c36); (try clear c36b0); (try clear c38); (try clear c38b0); (try clear c39); (try clear c39b0); (try clear p40); (try clear q40)
                                  (try clear hx40); (try clear c42); (try clear c45); (try clear c45b0); (try clear c45b1); (try clear c50); (try clear c50b0); (try clear c50b1); (try clear c51); (try clear c55); (try clear c55b0); (try clear c55b1); (try clear hcz11_0); (try clear hcz11_1); (try clear hcz11_2); (try clear hcz16_0); (try clear hcz16_1); (try clear hcz16_2); (try clear hcz26_0); (try clear hcz26_1); (try clear hcz26_2); (try clear hcz31_0); (try clear hcz31_1); (try clear hcz31_2); (try clear hcz44_0); (try clear hcz44_1); (try clear hcz44_2); (try clear hcz48_0); (try clear hcz48_1); (try clear hcz48_2); (try clear hcz54_0); (try clear hcz54_1)
                                  (try clear hcz54_2); (try clear hcz56_0); (try clear hcz56_1); (try clear hcz56_2); (try clear hcz7_0); (try clear hcz7_1); (try clear hcz7_2); (try clear hfz11_0); (try clear hfz11_1); (try clear hfz11_2); (try clear hfz16_0); (try clear hfz16_1); (try clear hfz16_2); (try clear hfz26_0); (try clear hfz26_1); (try clear hfz26_2); (try clear hfz31_0); (try clear hfz31_1); (try clear hfz31_2); (try clear hfz44_0); (try clear hfz44_1); (try clear hfz44_2); (try clear hfz48_0); (try clear hfz48_1); (try clear hfz48_2); (try clear hfz54_0); (try clear hfz54_1); (try clear hfz54_2); (try clear hfz56_0); (try clear hfz56_1); (try clear hfz56_2)
                                  (try clear hfz7_0); (try clear hfz7_1); (try clear hfz7_2); (try clear p2); (try clear p4); (try clear p40); (try clear p6); (try clear q4); (try clear q40); obtain ⟨x7_4, x87_4, rfl, rfl, HA, HK4, HO_85, BK254, HB⟩ := hrel
                                  cases gk with
                                  | zero => exact absurd HA.out (by simp [seicheref11_Next.l0])
                                  | succ k4 =>
                                    have H := HA.out
                                    clear HA
                                    simp only [seicheref11_Next.l0] at H
                                    by_cases c60 : x87_4 < (t274.length : Int)
                                    · rw [if_pos c60] at H
                                      have c60b0 : decide (x87_4 < (t274.length : Int)) = true := decide_eq_true c60
                                      clear c60
                                      by_cases c61 : 0 ≤ x87_4
                                      · rw [if_pos c61] at H
                                        have c61b0 : decide (0 ≤ x87_4) = true := decide_eq_true c61
                                        clear c61
                                        by_cases c62 : x87_4 < (t274.length : Int)
                                        · rw [if_pos c62] at H
                                          have c62b0 : decide (x87_4 < (t274.length : Int)) = true := decide_eq_true c62
                                          clear c62
                                          replace H := Option.bind_eq_some_iff.mp H
                                          obtain ⟨t278, A630, H⟩ := H
                                          replace H : (if t278 = true then (if ((rdOf ByteArray.empty t274 x87_4).size : Int) > x7_4 then (seicheref11_Next.l0 k4 a0 a1 t256 ((rdOf ByteArray.empty t274 x87_4).size : Int) t274 (t274.length : Int) (wrap64 (x87_4 + 1))) else (seicheref11_Next.l0 k4 a0 a1 t256 x7_4 t274 (t274.length : Int) (wrap64 (x87_4 + 1)))) else (seicheref11_Next.l0 k4 a0 a1 t256 x7_4 t274 (t274.length : Int) (wrap64 (x87_4 + 1)))) = some (r1, r2, r3) := H
                                          have A63 := Aside0.mk A630; clear A630
                                          by_cases c64 : t278 = true
                                          · subst c64
                                            have H1 : (if ((rdOf ByteArray.empty t274 x87_4).size : Int) > x7_4 then (seicheref11_Next.l0 k4 a0 a1 t256 ((rdOf ByteArray.empty t274 x87_4).size : Int) t274 (t274.length : Int) (wrap64 (x87_4 + 1))) else (seicheref11_Next.l0 k4 a0 a1 t256 x7_4 t274 (t274.length : Int) (wrap64 (x87_4 + 1)))) = some (r1, r2, r3) := by rw [if_pos rfl] at H; exact H
                                            clear H
                                            have H := H1
                                            clear H1
                                            by_cases c65 : ((rdOf ByteArray.empty t274 x87_4).size : Int) > x7_4
                                            · rw [if_pos c65] at H
                                              have c65b0 : decide (x7_4 < ((rdOf ByteArray.empty t274 x87_4).size : Int)) = true := decide_eq_true c65
                                              clear c65
                                              have H' := Aside0.mk H
                                              clear H
                                              have p277 : 0 ≤ (x87_4 : Int) := of_decide_eq_true (by first | (with_reducible assumption) | assumption)
                                              have q277 : x87_4 < (t274.length : Int) := of_decide_eq_true (by first | (with_reducible assumption) | assumption)
                                              obtain ⟨ad277, e277, hx277_0⟩ := Kd.at_string (Kd.R_reads' HO_85.out).2.2 x87_4 p277 q277
                                              cases e277
                                              replace p277 := eq_true p277; replace q277 := eq_true q277
                                              go_wp2_with (first | ((with_reducible refine gate_callee (f := 27) rfl ?_); refine goesL_ (some 94) rfl rfl Tryd.func27 (by kernel_rfl) rfl #[.string a0, .int .i64 a1, .string (rdOf ByteArray.empty t274 x87_4)] rfl (by (try simp only [List.map_toArray, List.map_cons, List.map_nil]); first | done | rfl | (simp only [List.length_drop, List.length_take]; rfl)) ?_; (with_reducible refine (seicheref11_begins.calls a0 a1 (rdOf ByteArray.empty t274 x87_4) true _ A63.out).mono ?_); rintro e w' ⟨rfl, ⟨nd, rfl⟩⟩; refine ⟨_, rfl, ?_⟩))
                                              go_roundg k4
                                              case measure => have := HJ16.out; have := HJ31.out; have := HJ48.out; have := HK4.out; omega
                                              case rel => exact ⟨(((rdOf ByteArray.empty t274 x87_4).size : Int)), (wrap64 (x87_4 + 1)), (by first | rfl | (simp; done) | (simp [*]; done)), (by first | rfl | (simp; done) | (simp [*]; done)), H', ⟨by have := HJ16.out; have := HJ31.out; have := HJ48.out; have := HK4.out; omega⟩, ⟨by (with_reducible repeat (first | apply Kd.R_alloc | apply Kd.R_drewN | apply Kd.R_drew)); exact HO_85.out⟩, ⟨by (with_reducible repeat (first | refine blk_drewN ?_ _ | refine blk_drew ?_ | refine blk_alloc ?_ _)); exact BK254.out⟩, ⟨by repeat (first | (with_reducible first | exact HB.out | apply below_alloc | apply pw_below_drewN | apply below_drew1 | refine below_set ?_ GE254.out) | exact HB.out)⟩⟩
                                            · rw [if_neg c65] at H
                                              have c65b0 : decide (x7_4 < ((rdOf ByteArray.empty t274 x87_4).size : Int)) = false := decide_eq_false c65
                                              clear c65
                                              have H' := Aside0.mk H
                                              clear H
                                              have p277 : 0 ≤ (x87_4 : Int) := of_decide_eq_true (by first | (with_reducible assumption) | assumption)
                                              have q277 : x87_4 < (t274.length : Int) := of_decide_eq_true (by first | (with_reducible assumption) | assumption)
                                              obtain ⟨ad277, e277, hx277_0⟩ := Kd.at_string (Kd.R_reads' HO_85.out).2.2 x87_4 p277 q277
                                              cases e277
                                              replace p277 := eq_true p277; replace q277 := eq_true q277
                                              go_wp2_with (first | ((with_reducible refine gate_callee (f := 27) rfl ?_); refine goesL_ (some 94) rfl rfl Tryd.func27 (by kernel_rfl) rfl #[.string a0, .int .i64 a1, .string (rdOf ByteArray.empty t274 x87_4)] rfl (by (try simp only [List.map_toArray, List.map_cons, List.map_nil]); first | done | rfl | (simp only [List.length_drop, List.length_take]; rfl)) ?_; (with_reducible refine (seicheref11_begins.calls a0 a1 (rdOf ByteArray.empty t274 x87_4) true _ A63.out).mono ?_); rintro e w' ⟨rfl, ⟨nd, rfl⟩⟩; refine ⟨_, rfl, ?_⟩))
                                              go_roundg k4
                                              case measure => have := HJ16.out; have := HJ31.out; have := HJ48.out; have := HK4.out; omega
                                              case rel => exact ⟨(x7_4), (wrap64 (x87_4 + 1)), (by first | rfl | (simp; done) | (simp [*]; done)), (by first | rfl | (simp; done) | (simp [*]; done)), H', ⟨by have := HJ16.out; have := HJ31.out; have := HJ48.out; have := HK4.out; omega⟩, ⟨by (with_reducible repeat (first | apply Kd.R_alloc | apply Kd.R_drewN | apply Kd.R_drew)); exact HO_85.out⟩, ⟨by (with_reducible repeat (first | refine blk_drewN ?_ _ | refine blk_drew ?_ | refine blk_alloc ?_ _)); exact BK254.out⟩, ⟨by repeat (first | (with_reducible first | exact HB.out | apply below_alloc | apply pw_below_drewN | apply below_drew1 | refine below_set ?_ GE254.out) | exact HB.out)⟩⟩
                                          · replace c64 := Bool.eq_false_iff.mpr c64
                                            subst c64
                                            have H1 : (seicheref11_Next.l0 k4 a0 a1 t256 x7_4 t274 (t274.length : Int) (wrap64 (x87_4 + 1))) = some (r1, r2, r3) := by rw [if_neg (show ¬ (false = true) by decide)] at H; exact H
                                            clear H
                                            have H := H1
                                            clear H1
                                            have H' := Aside0.mk H
                                            clear H
                                            have p277 : 0 ≤ (x87_4 : Int) := of_decide_eq_true (by first | (with_reducible assumption) | assumption)
                                            have q277 : x87_4 < (t274.length : Int) := of_decide_eq_true (by first | (with_reducible assumption) | assumption)
                                            obtain ⟨ad277, e277, hx277_0⟩ := Kd.at_string (Kd.R_reads' HO_85.out).2.2 x87_4 p277 q277
                                            cases e277
                                            replace p277 := eq_true p277; replace q277 := eq_true q277
                                            go_wp2_with (first | ((with_reducible refine gate_callee (f := 27) rfl ?_); refine goesL_ (some 94) rfl rfl Tryd.func27 (by kernel_rfl) rfl #[.string a0, .int .i64 a1, .string (rdOf ByteArray.empty t274 x87_4)] rfl (by (try simp only [List.map_toArray, List.map_cons, List.map_nil]); first | done | rfl | (simp only [List.length_drop, List.length_take]; rfl)) ?_; (with_reducible refine (seicheref11_begins.calls a0 a1 (rdOf ByteArray.empty t274 x87_4) false _ A63.out).mono ?_); rintro e w' ⟨rfl, ⟨nd, rfl⟩⟩; refine ⟨_, rfl, ?_⟩))
                                            go_roundg k4
                                            case measure => have := HJ16.out; have := HJ31.out; have := HJ48.out; have := HK4.out; omega
                                            case rel => exact ⟨(x7_4), (wrap64 (x87_4 + 1)), (by first | rfl | (simp; done) | (simp [*]; done)), (by first | rfl | (simp; done) | (simp [*]; done)), H', ⟨by have := HJ16.out; have := HJ31.out; have := HJ48.out; have := HK4.out; omega⟩, ⟨by (with_reducible repeat (first | apply Kd.R_alloc | apply Kd.R_drewN | apply Kd.R_drew)); exact HO_85.out⟩, ⟨by (with_reducible repeat (first | refine blk_drewN ?_ _ | refine blk_drew ?_ | refine blk_alloc ?_ _)); exact BK254.out⟩, ⟨by repeat (first | (with_reducible first | exact HB.out | apply below_alloc | apply pw_below_drewN | apply below_drew1 | refine below_set ?_ GE254.out) | exact HB.out)⟩⟩
                                        · rw [if_neg c62] at H
                                          exact absurd H (by simp)
                                      · rw [if_neg c61] at H
                                        exact absurd H (by simp)
                                    · rw [if_neg c60] at H
                                      have c60b0 : decide (x87_4 < (t274.length : Int)) = false := decide_eq_false c60
                                      clear c60
                                      by_cases c66 : x7_4 > 0
                                      · rw [if_pos c66] at H
                                        have c66b0 : decide (0 < x7_4) = true := decide_eq_true c66
                                        clear c66
                                        simp only [Option.some.injEq, Prod.mk.injEq] at H
                                        obtain ⟨rfl, rfl, rfl⟩ := H
                                        have hcz67_0 : wr.cell? ⟨gb254, 0, none⟩ = some (.int .i64 0) := (blk_cell BK254.out 0).trans rfl
                                        have hcz67_1 : wr.cell? ⟨gb254, 1, none⟩ = some (.int .i64 0) := (blk_cell BK254.out 1).trans rfl
                                        have hcz67_2 : wr.cell? ⟨gb254, 2, none⟩ = some (.int .i64 0) := (blk_cell BK254.out 2).trans rfl
                                        have hfz67_0 := blk_frozen BK254.out 0; have hfz67_1 := blk_frozen BK254.out 1; have hfz67_2 := blk_frozen BK254.out 2
                                        repeat (first | go_values | go_skip | go_guarded | go_step | go_upon | go_in | (simp only [Int.not_lt, Int.not_le] at *; go_simp))
                                        refine bodyPost_ret (results_cell_row rfl _ _ gb254 41 #[.int .i64 5, .int .i64 x7_4, .int .i64 0] (0, 0) _ rfl (by (with_reducible repeat (first | refine blk_drewN ?_ _ | refine blk_drew ?_ | refine blk_alloc ?_ _)); refine blk_put (cs := #[.int .i64 5, .int .i64 x7_4, .int .i64 0]) ?_ 2 _ rfl; (with_reducible repeat (first | refine blk_drewN ?_ _ | refine blk_drew ?_ | refine blk_alloc ?_ _)); refine blk_put (cs := #[.int .i64 5, .int .i64 0, .int .i64 0]) ?_ 1 _ rfl; (with_reducible repeat (first | refine blk_drewN ?_ _ | refine blk_drew ?_ | refine blk_alloc ?_ _)); refine blk_put (cs := #[.int .i64 0, .int .i64 0, .int .i64 0]) ?_ 0 _ rfl; (with_reducible repeat (first | refine blk_drewN ?_ _ | refine blk_drew ?_ | refine blk_alloc ?_ _)); exact BK254.out) Tryd.underlying41 rfl (by kernel_rfl)) rfl ?_
                                        exact ⟨by first | rfl | (simp [errW_none, errW_some] <;> rfl) | (simp [*, errW_none, errW_some] <;> rfl), by repeat (first | (with_reducible first | exact HB.out | apply below_alloc | apply pw_below_drewN | apply below_drew1 | refine below_set ?_ GE254.out) | exact HB.out)⟩
                                      · rw [if_neg c66] at H
                                        have c66b0 : decide (0 < x7_4) = false := decide_eq_false c66
                                        clear c66
                                        simp only [Option.some.injEq, Prod.mk.injEq] at H
                                        obtain ⟨rfl, rfl, rfl⟩ := H
                                        have hcz68_0 : wr.cell? ⟨gb254, 0, none⟩ = some (.int .i64 0) := (blk_cell BK254.out 0).trans rfl
                                        have hcz68_1 : wr.cell? ⟨gb254, 1, none⟩ = some (.int .i64 0) := (blk_cell BK254.out 1).trans rfl
                                        have hcz68_2 : wr.cell? ⟨gb254, 2, none⟩ = some (.int .i64 0) := (blk_cell BK254.out 2).trans rfl
                                        have hfz68_0 := blk_frozen BK254.out 0; have hfz68_1 := blk_frozen BK254.out 1; have hfz68_2 := blk_frozen BK254.out 2
                                        repeat (first | go_values | go_skip | go_guarded | go_step | go_upon | go_in | (simp only [Int.not_lt, Int.not_le] at *; go_simp))
                                        have hz_ : wrap64 (a1 + (wrap64 (0 * t256))) = wrap64 a1 := by rw [Int.zero_mul, show wrap64 0 = 0 by unfold wrap64; omega, Int.add_zero]
                                        refine bodyPost_ret (results_cell_row rfl _ _ gb254 41 #[.int .i64 7, .int .i64 0, .int .i64 (wrap64 a1)] (0, 0) _ rfl (by (with_reducible repeat (first | refine blk_drewN ?_ _ | refine blk_drew ?_ | refine blk_alloc ?_ _)); refine blk_put (cs := #[.int .i64 7, .int .i64 0, .int .i64 0]) ?_ 2 _ rfl; (with_reducible repeat (first | refine blk_drewN ?_ _ | refine blk_drew ?_ | refine blk_alloc ?_ _)); refine blk_put (cs := #[.int .i64 7, .int .i64 0, .int .i64 0]) ?_ 1 _ rfl; (with_reducible repeat (first | refine blk_drewN ?_ _ | refine blk_drew ?_ | refine blk_alloc ?_ _)); refine blk_put (cs := #[.int .i64 0, .int .i64 0, .int .i64 0]) ?_ 0 _ rfl; (with_reducible repeat (first | refine blk_drewN ?_ _ | refine blk_drew ?_ | refine blk_alloc ?_ _)); exact BK254.out) Tryd.underlying41 rfl (by kernel_rfl)) rfl ?_
                                        exact ⟨by first | rfl | (rw [hz_]; done) | (rw [hz_]; rfl) | (simp [errW_none, errW_some] <;> rfl) | (simp [*, errW_none, errW_some] <;> rfl), by repeat (first | (with_reducible first | exact HB.out | apply below_alloc | apply pw_below_drewN | apply below_drew1 | refine below_set ?_ GE254.out) | exact HB.out)⟩
end Go.Proofs.YtfolmcfcmonkhaaDoor.PAll

