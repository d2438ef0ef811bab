/- Joined texts of this claim, in build order. -/
import Derived.Test.YtoedkemjidgbeaaPAllx0
import Derived.Test.YtoedkemjidgbeaaMg2
import Derived.Test.YtoedkemjidgbeaaOp
-- Written by a program of this session (a changed scratch copy of a tool of the kit); not a print of the kit's own.
namespace Go.Proofs.Ytoedkemjidgbeaa.PAll
open Go.RowKit Go.Proofs.YtoedkemjidgbeaaW.PrintWords Go.Proofs.YtoedkemjidgbeaaW.PrintLast Go.Proofs.YtoedkemjidgbeaaW.PrintMore Go.Proofs.YtoedkemjidgbeaaMy
attribute [local go_sem] max2_int min2_int max_two min_two max_three min_three max_four min_four   -- for this text's walks alone
set_option linter.unusedVariables false
set_option linter.unusedSimpArgs false

/-! ### seichelaw03_great: function 23 -/
def seichelaw03_great.l0 : Nat → List (S50) → Int → List (S50) → Int → Int → Option (Bool)
  | 0, _, _, _, _, _ => none
  | k + 1, x0, x3, x6, x7, x8 => if x8 < x7 then (if 0 ≤ x8 then (if x8 < (x6.length : Int) then (if (wrap64 (x3 + (wrap64 ((wrap64 ((((rd_T50 x6 x8).f1).size : Int) + (((rd_T50 x6 x8).f2).size : Int))) + (((rd_T50 x6 x8).f6).length : Int))))) > 16384 then (some true) else (seichelaw03_great.l0 k x0 (wrap64 (x3 + (wrap64 ((wrap64 ((((rd_T50 x6 x8).f1).size : Int) + (((rd_T50 x6 x8).f2).size : Int))) + (((rd_T50 x6 x8).f6).length : Int))))) x6 x7 (wrap64 (x8 + 1)))) else (none)) else (none)) else (some (decide ((x0.length : Int) > 80)))
def seichelaw03_great.f (k : Nat) (l0 : List (S50)) : Option (Bool) := seichelaw03_great.l0 k l0 0 l0 (l0.length : Int) 0
theorem seichelaw03_great.mono_l : ∀ k, (∀ y0 y1 y2 y3 y4, LeO (seichelaw03_great.l0 k y0 y1 y2 y3 y4) (seichelaw03_great.l0 (k + 1) y0 y1 y2 y3 y4))
  | 0 => fun _ _ _ _ _ r h => by simp [seichelaw03_great.l0] at h
  | k + 1 => by
    have ih0 := seichelaw03_great.mono_l k
    · intro y0 y1 y2 y3 y4
      unfold seichelaw03_great.l0
      repeat' first
      | (with_reducible exact ih0 _ _ _ _ _)
      | (with_reducible exact LeO.refl _)
      | (with_reducible exact LeO.none _)
      | (with_reducible refine LeO.ite ?_ ?_)
      | (with_reducible refine LeO.bind ?_ (fun _ => ?_))
      | exact ih0 _ _ _ _ _
      | exact LeO.none _
      | refine LeO.ite ?_ ?_
      | refine LeO.bind ?_ (fun _ => ?_)
theorem seichelaw03_great.mono : ∀ a0 k, LeO (seichelaw03_great.f k a0) (seichelaw03_great.f (k + 1) a0) := by
  intro a0 k
  have ih0 := seichelaw03_great.mono_l k
  unfold seichelaw03_great.f
  repeat' first
      | (with_reducible exact ih0 _ _ _ _ _)
      | (with_reducible exact LeO.refl _)
      | (with_reducible exact LeO.none _)
      | (with_reducible refine LeO.ite ?_ ?_)
      | (with_reducible refine LeO.bind ?_ (fun _ => ?_))
      | exact ih0 _ _ _ _ _
      | exact LeO.none _
      | refine LeO.ite ?_ ?_
      | refine LeO.bind ?_ (fun _ => ?_)
set_option maxHeartbeats 8000000 in
set_option maxRecDepth 100000 in
theorem seichelaw03_great.calls (k : Nat) (A0 : Option Addr) (c0 : Nat) (l0 : List (S50)) (r : Bool) (w : World) (hr0 : Kd.C k50 w A0 l0.length l0) (hc0 : l0.length ≤ c0) (h : seichelaw03_great.f k l0 = some r) :
    Calls Try.prog 23 #[.slice A0 l0.length c0] w fun e w' => e = .returned (.bool r) ∧ Below w.heap.size w w' := by
  have hu50 := Try.underlying50
  have HR0 := Aside0.mk hr0
  have HC0 := Aside0.mk hc0
  clear hr0 hc0
  have HB := Aside0.mk (Below.refl w.heap.size w)
  have H : (seichelaw03_great.l0 k l0 0 l0 (l0.length : Int) 0) = some r := h
  clear h
  have H' := Aside0.mk H
  clear H
  go_enter Try.func23, Try.ntmps23
  go_wp2
  go_loopg [3, 8] k (fun kq v3 v8 w' => ∃ (x3_1 : Int) (x8_1 : Int), v3 = .int .i64 x3_1 ∧ v8 = .int .i64 x8_1 ∧ Aside0 (seichelaw03_great.l0 kq l0 x3_1 l0 (l0.length : Int) x8_1 = some r) ∧ Aside0 (kq ≤ k) ∧ Aside0 (Below w.heap.size w w'))
  case atStart => exact ⟨(0), (0), (by first | rfl | (simp; done) | (simp [*]; done)), (by first | rfl | (simp; done) | (simp [*]; done)), H', ⟨Nat.le_refl _⟩, ⟨by repeat (first | (with_reducible first | exact HB.out | apply below_alloc | apply pw_below_drewN | apply below_drew1) | exact HB.out)⟩⟩
  case round =>
    clear H'
    obtain ⟨x3_1, x8_1, rfl, rfl, HA, HK1, HB⟩ := hrel
    cases gk with
    | zero => exact absurd HA.out (by simp [seichelaw03_great.l0])
    | succ k1 =>
      have H := HA.out
      clear HA
      simp only [seichelaw03_great.l0] at H
      by_cases c2 : x8_1 < (l0.length : Int)
      · rw [if_pos c2] at H
        have c2b0 : decide (x8_1 < (l0.length : Int)) = true := decide_eq_true c2
        clear c2
        by_cases c3 : 0 ≤ x8_1
        · rw [if_pos c3] at H
          have c3b0 : decide (0 ≤ x8_1) = true := decide_eq_true c3
          clear c3
          by_cases c4 : x8_1 < (l0.length : Int)
          · rw [if_pos c4] at H
            have c4b0 : decide (x8_1 < (l0.length : Int)) = true := decide_eq_true c4
            clear c4
            by_cases c5 : (wrap64 (x3_1 + (wrap64 ((wrap64 ((((rd_T50 l0 x8_1).f1).size : Int) + (((rd_T50 l0 x8_1).f2).size : Int))) + (((rd_T50 l0 x8_1).f6).length : Int))))) > 16384
            · rw [if_pos c5] at H
              have c5b0 : decide (16384 < (wrap64 (x3_1 + (wrap64 ((wrap64 ((((rd_T50 l0 x8_1).f1).size : Int) + (((rd_T50 l0 x8_1).f2).size : Int))) + (((rd_T50 l0 x8_1).f6).length : Int)))))) = true := decide_eq_true c5
              clear c5
              obtain rfl := Option.some.inj H
              have p221 : 0 ≤ (x8_1 : Int) := of_decide_eq_true (by first | (with_reducible assumption) | assumption)
              have q221 : x8_1 < (l0.length : Int) := of_decide_eq_true (by first | (with_reducible assumption) | assumption)
              obtain ⟨ad221, A221_6, c221_6, e221, hx221_0, hx221_1, hx221_2, hx221_3, hx221_4, hx221_5, hx221_6, hl221_6, hi221_6⟩ := at_T50 HR0.out x8_1 p221 q221
              cases e221
              replace hx221_0 := (HB.out.cell (World.block_lt_of_cell? w _ hx221_0)).trans hx221_0
              replace hx221_1 := (HB.out.cell (World.block_lt_of_cell? w _ hx221_1)).trans hx221_1
              replace hx221_2 := (HB.out.cell (World.block_lt_of_cell? w _ hx221_2)).trans hx221_2
              replace hx221_3 := (HB.out.cell (World.block_lt_of_cell? w _ hx221_3)).trans hx221_3
              replace hx221_4 := (HB.out.cell (World.block_lt_of_cell? w _ hx221_4)).trans hx221_4
              replace hx221_5 := (HB.out.cell (World.block_lt_of_cell? w _ hx221_5)).trans hx221_5
              replace hx221_6 := (HB.out.cell (World.block_lt_of_cell? w _ hx221_6)).trans hx221_6
              have HR221_6 := Aside0.mk hi221_6
              have HC221_6 := Aside0.mk hl221_6
              clear hi221_6 hl221_6
              replace p221 := eq_true p221
              replace q221 := eq_true q221
              go_wp2_with (first | ((with_reducible refine gate_dst (N := 5) rfl ?_); refine box_event ?hg (N := 5) ?hd (cs := #[.int .i64 0, .string (⟨#[]⟩ : ByteArray), .string (⟨#[]⟩ : ByteArray), .int .i64 0, .int .i64 0, .bool false, .slice none 0 0]) (t := 50) ?hr ?_; (case hd => rfl); (case hg => rfl); (case hr => first | (go_simp; done) | (go_simp; rfl)); intro gb222 hg w6 hbox hb; have n0_ := Aside0.mk (below_step (by repeat (first | (with_reducible first | exact HB.out | apply below_alloc | apply pw_below_drewN | apply below_drew1) | exact HB.out)) hb); have n1_ := Aside0.mk (hbox); have n2_ := Aside0.mk ((by rw [hg]; exact (below_size (by repeat (first | (with_reducible first | exact HB.out | apply below_alloc | apply pw_below_drewN | apply below_drew1) | exact HB.out))) : w.heap.size ≤ gb222)); have n3_ := Aside0.mk ((by rw [hg]; exact (below_size (by repeat (first | (with_reducible first | exact HB.out | apply below_alloc | apply pw_below_drewN | apply below_drew1) | exact HB.out))) : w.heap.size ≤ gb222)); clear HB; have HB := n0_; have BK222 := n1_; have GW222 := n2_; have GE222 := n3_; clear n0_ n1_ n2_ n3_; clear hb hbox hg; have hcz7_0 : w6.cell? ⟨gb222, 0, none⟩ = some (.int .i64 0) := (blk_cell BK222.out 0).trans rfl; have hcz7_1 : w6.cell? ⟨gb222, 1, none⟩ = some (.string (⟨#[]⟩ : ByteArray)) := (blk_cell BK222.out 1).trans rfl; have hcz7_2 : w6.cell? ⟨gb222, 2, none⟩ = some (.string (⟨#[]⟩ : ByteArray)) := (blk_cell BK222.out 2).trans rfl; have hcz7_3 : w6.cell? ⟨gb222, 3, none⟩ = some (.int .i64 0) := (blk_cell BK222.out 3).trans rfl; have hcz7_4 : w6.cell? ⟨gb222, 4, none⟩ = some (.int .i64 0) := (blk_cell BK222.out 4).trans rfl; have hcz7_5 : w6.cell? ⟨gb222, 5, none⟩ = some (.bool false) := (blk_cell BK222.out 5).trans rfl; have hcz7_6 : w6.cell? ⟨gb222, 6, none⟩ = some (.slice none 0 0) := (blk_cell BK222.out 6).trans rfl; have hfz7_0 := blk_frozen BK222.out 0; have hfz7_1 := blk_frozen BK222.out 1; have hfz7_2 := blk_frozen BK222.out 2; have hfz7_3 := blk_frozen BK222.out 3; have hfz7_4 := blk_frozen BK222.out 4; have hfz7_5 := blk_frozen BK222.out 5; have hfz7_6 := blk_frozen BK222.out 6))
              go_ret
              exact ⟨by first | rfl | (simp [errW_none, errW_some] <;> rfl) | (simp [*, errW_none, errW_some] <;> rfl), by repeat (first | (with_reducible first | exact HB.out | apply below_alloc | apply pw_below_drewN | apply below_drew1 | refine below_set ?_ GE222.out) | exact HB.out)⟩
            · rw [if_neg c5] at H
              have c5b0 : decide (16384 < (wrap64 (x3_1 + (wrap64 ((wrap64 ((((rd_T50 l0 x8_1).f1).size : Int) + (((rd_T50 l0 x8_1).f2).size : Int))) + (((rd_T50 l0 x8_1).f6).length : Int)))))) = false := decide_eq_false c5
              clear c5
              have H' := Aside0.mk H
              clear H
              have p221 : 0 ≤ (x8_1 : Int) := of_decide_eq_true (by first | (with_reducible assumption) | assumption)
              have q221 : x8_1 < (l0.length : Int) := of_decide_eq_true (by first | (with_reducible assumption) | assumption)
              obtain ⟨ad221, A221_6, c221_6, e221, hx221_0, hx221_1, hx221_2, hx221_3, hx221_4, hx221_5, hx221_6, hl221_6, hi221_6⟩ := at_T50 HR0.out x8_1 p221 q221
              cases e221
              replace hx221_0 := (HB.out.cell (World.block_lt_of_cell? w _ hx221_0)).trans hx221_0
              replace hx221_1 := (HB.out.cell (World.block_lt_of_cell? w _ hx221_1)).trans hx221_1
              replace hx221_2 := (HB.out.cell (World.block_lt_of_cell? w _ hx221_2)).trans hx221_2
              replace hx221_3 := (HB.out.cell (World.block_lt_of_cell? w _ hx221_3)).trans hx221_3
              replace hx221_4 := (HB.out.cell (World.block_lt_of_cell? w _ hx221_4)).trans hx221_4
              replace hx221_5 := (HB.out.cell (World.block_lt_of_cell? w _ hx221_5)).trans hx221_5
              replace hx221_6 := (HB.out.cell (World.block_lt_of_cell? w _ hx221_6)).trans hx221_6
              have HR221_6 := Aside0.mk hi221_6
              have HC221_6 := Aside0.mk hl221_6
              clear hi221_6 hl221_6
              replace p221 := eq_true p221
              replace q221 := eq_true q221
              go_wp2_with (first | ((with_reducible refine gate_dst (N := 5) rfl ?_); refine box_event ?hg (N := 5) ?hd (cs := #[.int .i64 0, .string (⟨#[]⟩ : ByteArray), .string (⟨#[]⟩ : ByteArray), .int .i64 0, .int .i64 0, .bool false, .slice none 0 0]) (t := 50) ?hr ?_; (case hd => rfl); (case hg => rfl); (case hr => first | (go_simp; done) | (go_simp; rfl)); intro gb222 hg w8 hbox hb; have n0_ := Aside0.mk (below_step (by repeat (first | (with_reducible first | exact HB.out | apply below_alloc | apply pw_below_drewN | apply below_drew1) | exact HB.out)) hb); have n1_ := Aside0.mk (hbox); have n2_ := Aside0.mk ((by rw [hg]; exact (below_size (by repeat (first | (with_reducible first | exact HB.out | apply below_alloc | apply pw_below_drewN | apply below_drew1) | exact HB.out))) : w.heap.size ≤ gb222)); have n3_ := Aside0.mk ((by rw [hg]; exact (below_size (by repeat (first | (with_reducible first | exact HB.out | apply below_alloc | apply pw_below_drewN | apply below_drew1) | exact HB.out))) : w.heap.size ≤ gb222)); clear HB; have HB := n0_; have BK222 := n1_; have GW222 := n2_; have GE222 := n3_; clear n0_ n1_ n2_ n3_; clear hb hbox hg; have hcz9_0 : w8.cell? ⟨gb222, 0, none⟩ = some (.int .i64 0) := (blk_cell BK222.out 0).trans rfl; have hcz9_1 : w8.cell? ⟨gb222, 1, none⟩ = some (.string (⟨#[]⟩ : ByteArray)) := (blk_cell BK222.out 1).trans rfl; have hcz9_2 : w8.cell? ⟨gb222, 2, none⟩ = some (.string (⟨#[]⟩ : ByteArray)) := (blk_cell BK222.out 2).trans rfl; have hcz9_3 : w8.cell? ⟨gb222, 3, none⟩ = some (.int .i64 0) := (blk_cell BK222.out 3).trans rfl; have hcz9_4 : w8.cell? ⟨gb222, 4, none⟩ = some (.int .i64 0) := (blk_cell BK222.out 4).trans rfl; have hcz9_5 : w8.cell? ⟨gb222, 5, none⟩ = some (.bool false) := (blk_cell BK222.out 5).trans rfl; have hcz9_6 : w8.cell? ⟨gb222, 6, none⟩ = some (.slice none 0 0) := (blk_cell BK222.out 6).trans rfl; have hfz9_0 := blk_frozen BK222.out 0; have hfz9_1 := blk_frozen BK222.out 1; have hfz9_2 := blk_frozen BK222.out 2; have hfz9_3 := blk_frozen BK222.out 3; have hfz9_4 := blk_frozen BK222.out 4; have hfz9_5 := blk_frozen BK222.out 5; have hfz9_6 := blk_frozen BK222.out 6))
              go_roundg k1
              case measure => have := HK1.out; omega
              case rel => exact ⟨(wrap64 (x3_1 + (wrap64 ((wrap64 ((((rd_T50 l0 x8_1).f1).size : Int) + (((rd_T50 l0 x8_1).f2).size : Int))) + (((rd_T50 l0 x8_1).f6).length : Int))))), (wrap64 (x8_1 + 1)), (by first | rfl | (simp; done) | (simp [*]; done)), (by first | rfl | (simp; done) | (simp [*]; done)), H', ⟨by have := HK1.out; omega⟩, ⟨by repeat (first | (with_reducible first | exact HB.out | apply below_alloc | apply pw_below_drewN | apply below_drew1 | refine below_set ?_ GE222.out) | exact HB.out)⟩⟩
          · rw [if_neg c4] at H
            exact absurd H (by simp)
        · rw [if_neg c3] at H
          exact absurd H (by simp)
      · rw [if_neg c2] at H
        have c2b0 : decide (x8_1 < (l0.length : Int)) = false := decide_eq_false c2
        clear c2
        obtain rfl := Option.some.inj H
        go_wp2
        go_ret
        exact ⟨by first | rfl | (simp [errW_none, errW_some] <;> rfl) | (simp [*, errW_none, errW_some] <;> rfl), by repeat (first | (with_reducible first | exact HB.out | apply below_alloc | apply pw_below_drewN | apply below_drew1) | exact HB.out)⟩

/-- A state of type 56 at block g of W; what its slices lead to came in by w0. -/
def IsS56 (w0 W : World) (g : Nat) (f0 : List (S75)) (f1 : Int) (f2 : Bool) (f3 : Int) (f4 : Int) (f5 : Int) (f6 : Bool) : Prop := ∃ A0 c0, W.heap[g]? = some (.cells #[.slice A0 f0.length c0, .int .i64 f1, .bool f2, .int .i64 f3, .int .i64 f4, .int .i64 f5, .bool f6] 56 (0, 0)) ∧ w0.heap.size ≤ g ∧ Kd.C k75 w0 A0 f0.length f0
theorem IsS56.grown {w0 W : World} {g : Nat} {f0 : List (S75)} {f1 : Int} {f2 : Bool} {f3 : Int} {f4 : Int} {f5 : Int} {f6 : Bool} {W1 : World} {row : Option Nat} (h : IsS56 w0 W g f0 f1 f2 f3 f4 f5 f6) (hw : W.grownBy W1 row) (hne : some g ≠ row) : IsS56 w0 W1 g f0 f1 f2 f3 f4 f5 f6 := by
  obtain ⟨A0, c0, hb, hg, hr0⟩ := h
  exact ⟨A0, c0, blk_grown hb hw hne, hg, hr0⟩
theorem IsS56.own_neN {w0 W : World} {g : Nat} {f0 : List (S75)} {f1 : Int} {f2 : Bool} {f3 : Int} {f4 : Int} {f5 : Int} {f6 : Bool} {α : Type} {d : Kd α} {e : Nat} {base : Nat} {ok : Nat → Prop} {v : Value} {xs : List α} (h : IsS56 w0 W g f0 f1 f2 f3 f4 f5 f6) (ho : Kd.N d e W base ok v xs) (ht : e ≠ 56) : some g ≠ v.ownBlock := by
  obtain ⟨A0, c0, hb, hg, hr0⟩ := h
  exact Kd.N_ne ho hb ht
theorem IsS56.fresh {w0 W : World} {g : Nat} {f0 : List (S75)} {f1 : Int} {f2 : Bool} {f3 : Int} {f4 : Int} {f5 : Int} {f6 : Bool} (h : IsS56 w0 W g f0 f1 f2 f3 f4 f5 f6) : ∀ k, W.heap.size ≤ k → k ≠ g := by
  obtain ⟨A0, c0, hb, hg, hr0⟩ := h
  exact Kd.freshB hb
theorem IsS56.kept {w0 W : World} {g : Nat} {f0 : List (S75)} {f1 : Int} {f2 : Bool} {f3 : Int} {f4 : Int} {f5 : Int} {f6 : Bool} {W1 : World} {S : Nat → Prop} (h : IsS56 w0 W g f0 f1 f2 f3 f4 f5 f6) (hk : Kept W W1 S) (hne : ¬ S g) : IsS56 w0 W1 g f0 f1 f2 f3 f4 f5 f6 := by
  obtain ⟨A0, c0, hb, hg, hr0⟩ := h
  exact ⟨A0, c0, blk_kept hb hk hne, hg, hr0⟩
theorem IsS56.below {w0 W : World} {g : Nat} {f0 : List (S75)} {f1 : Int} {f2 : Bool} {f3 : Int} {f4 : Int} {f5 : Int} {f6 : Bool} {W1 : World} (h : IsS56 w0 W g f0 f1 f2 f3 f4 f5 f6) (hw : Below W.heap.size W W1) : IsS56 w0 W1 g f0 f1 f2 f3 f4 f5 f6 := h.grown (grown_of_below hw none) (by simp)
theorem IsS56.alloc {w0 W : World} {g : Nat} {f0 : List (S75)} {f1 : Int} {f2 : Bool} {f3 : Int} {f4 : Int} {f5 : Int} {f6 : Bool} (h : IsS56 w0 W g f0 f1 f2 f3 f4 f5 f6) (o : Obj) : IsS56 w0 (W.alloc o) g f0 f1 f2 f3 f4 f5 f6 := h.below (below_alloc (Below.refl _ _) o)
theorem IsS56.drewN {w0 W : World} {g : Nat} {f0 : List (S75)} {f1 : Int} {f2 : Bool} {f3 : Int} {f4 : Int} {f5 : Int} {f6 : Bool} (h : IsS56 w0 W g f0 f1 f2 f3 f4 f5 f6) (m : Nat) : IsS56 w0 (W.drewN m) g f0 f1 f2 f3 f4 f5 f6 := h
theorem IsS56.drew {w0 W : World} {g : Nat} {f0 : List (S75)} {f1 : Int} {f2 : Bool} {f3 : Int} {f4 : Int} {f5 : Int} {f6 : Bool} (h : IsS56 w0 W g f0 f1 f2 f3 f4 f5 f6) : IsS56 w0 W.drew g f0 f1 f2 f3 f4 f5 f6 := h
theorem IsS56.at_ {w0 W : World} {g : Nat} {f0 : List (S75)} {f1 : Int} {f2 : Bool} {f3 : Int} {f4 : Int} {f5 : Int} {f6 : Bool} {w' : World} {m : Nat} (hq : W.drewN m = w') (h : IsS56 w0 W g f0 f1 f2 f3 f4 f5 f6) : IsS56 w0 w' g f0 f1 f2 f3 f4 f5 f6 := by subst hq; exact IsS56.drewN h m
theorem IsS56.apart {w0 W : World} {g : Nat} {f0 : List (S75)} {f1 : Int} {f2 : Bool} {f3 : Int} {f4 : Int} {f5 : Int} {f6 : Bool} {α : Type} {d : Kd α} {e : Nat} {base : Nat} {ok : Nat → Prop} {v : Value} {xs : List α} (h : IsS56 w0 W g f0 f1 f2 f3 f4 f5 f6) (ho : d.R e W base ok v xs) (ht : ∀ q, q ∈ e :: d.E → q ≠ 56) : d.R e W base (fun k => ok k ∧ k ≠ g) v xs := by
  obtain ⟨A0, c0, hb, hg, hr0⟩ := h
  exact Kd.R_types ho hb ht
theorem IsS56.own_ne {w0 W : World} {g : Nat} {f0 : List (S75)} {f1 : Int} {f2 : Bool} {f3 : Int} {f4 : Int} {f5 : Int} {f6 : Bool} {α : Type} {d : Kd α} {e : Nat} {base : Nat} {ok : Nat → Prop} {v : Value} {xs : List α} (h : IsS56 w0 W g f0 f1 f2 f3 f4 f5 f6) (ho : d.R e W base ok v xs) (ht : e ≠ 56) : some g ≠ v.ownBlock := by
  obtain ⟨A0, c0, hb, hg, hr0⟩ := h
  exact Kd.R_ne ho hb ht
theorem IsS56.apartQ {w0 W : World} {g : Nat} {f0 : List (S75)} {f1 : Int} {f2 : Bool} {f3 : Int} {f4 : Int} {f5 : Int} {f6 : Bool} {α : Type} {d : Kd α} {e : Nat} {base : Nat} {ok : Nat → Prop} {v : Value} {xs : List α} (h : IsS56 w0 W g f0 f1 f2 f3 f4 f5 f6) (ho : d.Q e W base ok v xs) (ht : ∀ q, q ∈ e :: d.E → q ≠ 56) : d.Q e W base (fun k => ok k ∧ k ≠ g) v xs := by
  obtain ⟨A0, c0, hb, hg, hr0⟩ := h
  exact Kd.Q_types ho hb ht
theorem IsS56.own_neQ {w0 W : World} {g : Nat} {f0 : List (S75)} {f1 : Int} {f2 : Bool} {f3 : Int} {f4 : Int} {f5 : Int} {f6 : Bool} {α : Type} {d : Kd α} {e : Nat} {base : Nat} {ok : Nat → Prop} {v : Value} {xs : List α} (h : IsS56 w0 W g f0 f1 f2 f3 f4 f5 f6) (ho : d.Q e W base ok v xs) (ht : e ≠ 56) : some g ≠ v.ownBlock := by
  obtain ⟨A0, c0, hb, hg, hr0⟩ := h
  exact Kd.Q_ne ho hb ht
theorem IsS56.apartS {w0 W : World} {g : Nat} {f0 : List (S75)} {f1 : Int} {f2 : Bool} {f3 : Int} {f4 : Int} {f5 : Int} {f6 : Bool} {α : Type} {d : Kd α} {e : Nat} {base : Nat} {ok : Nat → Prop} {v : Value} {xs : List α} (h : IsS56 w0 W g f0 f1 f2 f3 f4 f5 f6) (ho : d.S e W base ok v xs) (ht : ∀ q, q ∈ e :: d.E → q ≠ 56) : d.S e W base (fun k => ok k ∧ k ≠ g) v xs := by
  obtain ⟨A0, c0, hb, hg, hr0⟩ := h
  exact Kd.S_types ho hb ht
theorem IsS56.own_neS {w0 W : World} {g : Nat} {f0 : List (S75)} {f1 : Int} {f2 : Bool} {f3 : Int} {f4 : Int} {f5 : Int} {f6 : Bool} {α : Type} {d : Kd α} {e : Nat} {base : Nat} {ok : Nat → Prop} {v : Value} {xs : List α} (h : IsS56 w0 W g f0 f1 f2 f3 f4 f5 f6) (ho : d.S e W base ok v xs) (ht : e ≠ 56) : some g ≠ v.ownBlock := by
  obtain ⟨A0, c0, hb, hg, hr0⟩ := h
  exact Kd.S_ne ho hb ht
theorem IsS56.lt {w0 W : World} {g : Nat} {f0 : List (S75)} {f1 : Int} {f2 : Bool} {f3 : Int} {f4 : Int} {f5 : Int} {f6 : Bool} (h : IsS56 w0 W g f0 f1 f2 f3 f4 f5 f6) : g < W.heap.size := by
  obtain ⟨A0, c0, hb, hg, hr0⟩ := h
  exact blk_lt hb
theorem IsS56.ge {w0 W : World} {g : Nat} {f0 : List (S75)} {f1 : Int} {f2 : Bool} {f3 : Int} {f4 : Int} {f5 : Int} {f6 : Bool} (h : IsS56 w0 W g f0 f1 f2 f3 f4 f5 f6) : w0.heap.size ≤ g := by
  obtain ⟨A0, c0, hb, hg, hr0⟩ := h
  exact hg
theorem IsS56.ne_blk {w0 W : World} {g : Nat} {f0 : List (S75)} {f1 : Int} {f2 : Bool} {f3 : Int} {f4 : Int} {f5 : Int} {f6 : Bool} {a : Nat} {cs : Array Value} {t : TypeId} {fr : Nat × Nat} (h : IsS56 w0 W g f0 f1 f2 f3 f4 f5 f6) (hb2 : W.heap[a]? = some (.cells cs t fr)) (ht : t ≠ 56) : g ≠ a := by
  obtain ⟨A0, c0, hb, hg, hr0⟩ := h
  rintro rfl
  rw [hb] at hb2
  injection hb2 with hb2
  injection hb2 with _ ht2
  exact ht ht2.symm
theorem IsS56.far {w0 W : World} {g : Nat} {f0 : List (S75)} {f1 : Int} {f2 : Bool} {f3 : Int} {f4 : Int} {f5 : Int} {f6 : Bool} {p : Addr} (h : IsS56 w0 W g f0 f1 f2 f3 f4 f5 f6) (hne : g ≠ p.block) (u : Value) : IsS56 w0 (W.setCell p u) g f0 f1 f2 f3 f4 f5 f6 := by
  obtain ⟨A0, c0, hb, hg, hr0⟩ := h
  exact ⟨A0, c0, blk_far hb hne u, hg, hr0⟩
theorem cellS56_0 {W : World} {g : Nat} {A0 : Option Addr} {c0 : Nat} {f0 : List (S75)} {f1 : Int} {f2 : Bool} {f3 : Int} {f4 : Int} {f5 : Int} {f6 : Bool} (h : W.heap[g]? = some (.cells #[.slice A0 f0.length c0, .int .i64 f1, .bool f2, .int .i64 f3, .int .i64 f4, .int .i64 f5, .bool f6] 56 (0, 0))) : W.cell? ⟨g, 0, none⟩ = some (.slice A0 f0.length c0) := (blk_cell h 0).trans rfl
theorem cellS56_1 {W : World} {g : Nat} {A0 : Option Addr} {c0 : Nat} {f0 : List (S75)} {f1 : Int} {f2 : Bool} {f3 : Int} {f4 : Int} {f5 : Int} {f6 : Bool} (h : W.heap[g]? = some (.cells #[.slice A0 f0.length c0, .int .i64 f1, .bool f2, .int .i64 f3, .int .i64 f4, .int .i64 f5, .bool f6] 56 (0, 0))) : W.cell? ⟨g, 1, none⟩ = some (.int .i64 f1) := (blk_cell h 1).trans rfl
theorem IsS56.set_1 {w0 W : World} {g : Nat} {f0 : List (S75)} {f1 : Int} {f2 : Bool} {f3 : Int} {f4 : Int} {f5 : Int} {f6 : Bool} (h : IsS56 w0 W g f0 f1 f2 f3 f4 f5 f6) (x : Int) : IsS56 w0 (W.setCell ⟨g, 1, none⟩ (.int .i64 x)) g f0 x f2 f3 f4 f5 f6 := by
  obtain ⟨A0, c0, hb, hg, hr0⟩ := h
  exact ⟨A0, c0, by simpa using blk_set hb 1 (.int .i64 x), hg, hr0⟩
theorem cellS56_2 {W : World} {g : Nat} {A0 : Option Addr} {c0 : Nat} {f0 : List (S75)} {f1 : Int} {f2 : Bool} {f3 : Int} {f4 : Int} {f5 : Int} {f6 : Bool} (h : W.heap[g]? = some (.cells #[.slice A0 f0.length c0, .int .i64 f1, .bool f2, .int .i64 f3, .int .i64 f4, .int .i64 f5, .bool f6] 56 (0, 0))) : W.cell? ⟨g, 2, none⟩ = some (.bool f2) := (blk_cell h 2).trans rfl
theorem IsS56.set_2 {w0 W : World} {g : Nat} {f0 : List (S75)} {f1 : Int} {f2 : Bool} {f3 : Int} {f4 : Int} {f5 : Int} {f6 : Bool} (h : IsS56 w0 W g f0 f1 f2 f3 f4 f5 f6) (x : Bool) : IsS56 w0 (W.setCell ⟨g, 2, none⟩ (.bool x)) g f0 f1 x f3 f4 f5 f6 := by
  obtain ⟨A0, c0, hb, hg, hr0⟩ := h
  exact ⟨A0, c0, by simpa using blk_set hb 2 (.bool x), hg, hr0⟩
theorem cellS56_3 {W : World} {g : Nat} {A0 : Option Addr} {c0 : Nat} {f0 : List (S75)} {f1 : Int} {f2 : Bool} {f3 : Int} {f4 : Int} {f5 : Int} {f6 : Bool} (h : W.heap[g]? = some (.cells #[.slice A0 f0.length c0, .int .i64 f1, .bool f2, .int .i64 f3, .int .i64 f4, .int .i64 f5, .bool f6] 56 (0, 0))) : W.cell? ⟨g, 3, none⟩ = some (.int .i64 f3) := (blk_cell h 3).trans rfl
theorem IsS56.set_3 {w0 W : World} {g : Nat} {f0 : List (S75)} {f1 : Int} {f2 : Bool} {f3 : Int} {f4 : Int} {f5 : Int} {f6 : Bool} (h : IsS56 w0 W g f0 f1 f2 f3 f4 f5 f6) (x : Int) : IsS56 w0 (W.setCell ⟨g, 3, none⟩ (.int .i64 x)) g f0 f1 f2 x f4 f5 f6 := by
  obtain ⟨A0, c0, hb, hg, hr0⟩ := h
  exact ⟨A0, c0, by simpa using blk_set hb 3 (.int .i64 x), hg, hr0⟩
theorem cellS56_4 {W : World} {g : Nat} {A0 : Option Addr} {c0 : Nat} {f0 : List (S75)} {f1 : Int} {f2 : Bool} {f3 : Int} {f4 : Int} {f5 : Int} {f6 : Bool} (h : W.heap[g]? = some (.cells #[.slice A0 f0.length c0, .int .i64 f1, .bool f2, .int .i64 f3, .int .i64 f4, .int .i64 f5, .bool f6] 56 (0, 0))) : W.cell? ⟨g, 4, none⟩ = some (.int .i64 f4) := (blk_cell h 4).trans rfl
theorem IsS56.set_4 {w0 W : World} {g : Nat} {f0 : List (S75)} {f1 : Int} {f2 : Bool} {f3 : Int} {f4 : Int} {f5 : Int} {f6 : Bool} (h : IsS56 w0 W g f0 f1 f2 f3 f4 f5 f6) (x : Int) : IsS56 w0 (W.setCell ⟨g, 4, none⟩ (.int .i64 x)) g f0 f1 f2 f3 x f5 f6 := by
  obtain ⟨A0, c0, hb, hg, hr0⟩ := h
  exact ⟨A0, c0, by simpa using blk_set hb 4 (.int .i64 x), hg, hr0⟩
theorem cellS56_5 {W : World} {g : Nat} {A0 : Option Addr} {c0 : Nat} {f0 : List (S75)} {f1 : Int} {f2 : Bool} {f3 : Int} {f4 : Int} {f5 : Int} {f6 : Bool} (h : W.heap[g]? = some (.cells #[.slice A0 f0.length c0, .int .i64 f1, .bool f2, .int .i64 f3, .int .i64 f4, .int .i64 f5, .bool f6] 56 (0, 0))) : W.cell? ⟨g, 5, none⟩ = some (.int .i64 f5) := (blk_cell h 5).trans rfl
theorem IsS56.set_5 {w0 W : World} {g : Nat} {f0 : List (S75)} {f1 : Int} {f2 : Bool} {f3 : Int} {f4 : Int} {f5 : Int} {f6 : Bool} (h : IsS56 w0 W g f0 f1 f2 f3 f4 f5 f6) (x : Int) : IsS56 w0 (W.setCell ⟨g, 5, none⟩ (.int .i64 x)) g f0 f1 f2 f3 f4 x f6 := by
  obtain ⟨A0, c0, hb, hg, hr0⟩ := h
  exact ⟨A0, c0, by simpa using blk_set hb 5 (.int .i64 x), hg, hr0⟩
theorem cellS56_6 {W : World} {g : Nat} {A0 : Option Addr} {c0 : Nat} {f0 : List (S75)} {f1 : Int} {f2 : Bool} {f3 : Int} {f4 : Int} {f5 : Int} {f6 : Bool} (h : W.heap[g]? = some (.cells #[.slice A0 f0.length c0, .int .i64 f1, .bool f2, .int .i64 f3, .int .i64 f4, .int .i64 f5, .bool f6] 56 (0, 0))) : W.cell? ⟨g, 6, none⟩ = some (.bool f6) := (blk_cell h 6).trans rfl
theorem IsS56.set_6 {w0 W : World} {g : Nat} {f0 : List (S75)} {f1 : Int} {f2 : Bool} {f3 : Int} {f4 : Int} {f5 : Int} {f6 : Bool} (h : IsS56 w0 W g f0 f1 f2 f3 f4 f5 f6) (x : Bool) : IsS56 w0 (W.setCell ⟨g, 6, none⟩ (.bool x)) g f0 f1 f2 f3 f4 f5 x := by
  obtain ⟨A0, c0, hb, hg, hr0⟩ := h
  exact ⟨A0, c0, by simpa using blk_set hb 6 (.bool x), hg, hr0⟩
theorem IsS56.new (w0 W : World) (A0 : Option Addr) (c0 : Nat) (f0 : List (S75)) (f1 : Int) (f2 : Bool) (f3 : Int) (f4 : Int) (f5 : Int) (f6 : Bool) (hB : Below w0.heap.size w0 W) (hr0 : Kd.C k75 w0 A0 f0.length f0) : IsS56 w0 (W.alloc (.cells #[.slice A0 f0.length c0, .int .i64 f1, .bool f2, .int .i64 f3, .int .i64 f4, .int .i64 f5, .bool f6] 56)) W.heap.size f0 f1 f2 f3 f4 f5 f6 := ⟨A0, c0, by simpa using heap_alloc_new W _, hB.size, hr0⟩

/-! ### seicheref01_Same: function 27 -/
def seicheref01_Same.l0 : Nat → List ByteArray → List ByteArray → Int → Int → Option (Bool)
  | 0, _, _, _, _ => none
  | k + 1, x0, x1, x12, x13 => if x13 < x12 then (if 0 ≤ x13 then (if x13 < (x0.length : Int) then (if x13 < (x1.length : Int) then (if (rdOf ByteArray.empty x0 x13).toList = (rdOf ByteArray.empty x1 x13).toList then (seicheref01_Same.l0 k x0 x1 x12 (wrap64 (x13 + 1))) else (some false)) else (none)) else (none)) else (none)) else (some true)
def seicheref01_Same.f (k : Nat) (l0 : List ByteArray) (l1 : List ByteArray) : Option (Bool) := if (l0.length : Int) = (l1.length : Int) then (seicheref01_Same.l0 k l0 l1 (l0.length : Int) 0) else (some false)
theorem seicheref01_Same.mono_l : ∀ k, (∀ y0 y1 y2 y3, LeO (seicheref01_Same.l0 k y0 y1 y2 y3) (seicheref01_Same.l0 (k + 1) y0 y1 y2 y3))
  | 0 => fun _ _ _ _ r h => by simp [seicheref01_Same.l0] at h
  | k + 1 => by
    have ih0 := seicheref01_Same.mono_l k
    · intro y0 y1 y2 y3
      unfold seicheref01_Same.l0
      repeat' first
      | (with_reducible exact ih0 _ _ _ _)
      | (with_reducible exact LeO.refl _)
      | (with_reducible exact LeO.none _)
      | (with_reducible refine LeO.ite ?_ ?_)
      | (with_reducible refine LeO.bind ?_ (fun _ => ?_))
      | exact ih0 _ _ _ _
      | exact LeO.none _
      | refine LeO.ite ?_ ?_
      | refine LeO.bind ?_ (fun _ => ?_)
theorem seicheref01_Same.mono : ∀ a0 a1 k, LeO (seicheref01_Same.f k a0 a1) (seicheref01_Same.f (k + 1) a0 a1) := by
  intro a0 a1 k
  have ih0 := seicheref01_Same.mono_l k
  unfold seicheref01_Same.f
  repeat' first
      | (with_reducible exact ih0 _ _ _ _)
      | (with_reducible exact LeO.refl _)
      | (with_reducible exact LeO.none _)
      | (with_reducible refine LeO.ite ?_ ?_)
      | (with_reducible refine LeO.bind ?_ (fun _ => ?_))
      | exact ih0 _ _ _ _
      | exact LeO.none _
      | refine LeO.ite ?_ ?_
      | refine LeO.bind ?_ (fun _ => ?_)
set_option maxHeartbeats 8000000 in
set_option maxRecDepth 100000 in
theorem seicheref01_Same.calls (k : Nat) (A0 : Option Addr) (c0 : Nat) (l0 : List ByteArray) (A1 : Option Addr) (c1 : Nat) (l1 : List ByteArray) (r : Bool) (w : World) (hr0 : Kd.C Kd.string w A0 l0.length l0) (hc0 : l0.length ≤ c0) (hr1 : Kd.C Kd.string w A1 l1.length l1) (hc1 : l1.length ≤ c1) (h : seicheref01_Same.f k l0 l1 = some r) :
    Calls Try.prog 27 #[.slice A0 l0.length c0, .slice A1 l1.length c1] w fun e w' => e = .returned (.bool r) ∧ Drawn0 w w' := by
  have HR0 := Aside0.mk hr0
  have HC0 := Aside0.mk hc0
  clear hr0 hc0
  have HR1 := Aside0.mk hr1
  have HC1 := Aside0.mk hc1
  clear hr1 hc1
  have H : (if (l0.length : Int) = (l1.length : Int) then (seicheref01_Same.l0 k l0 l1 (l0.length : Int) 0) else (some false)) = some r := h
  clear h
  by_cases c3 : (l0.length : Int) = (l1.length : Int)
  · rw [if_pos c3] at H
    have c3b0 : ((l0.length : Int) == (l1.length : Int)) = true := beq_iff_eq.mpr c3
    have c3b1 : ((l0.length : Int) != (l1.length : Int)) = false := bne_eq_false_iff_eq.mpr c3
    have c3b2 : (l0.length == l1.length) = true := by first | simpa using c3 | (simp at c3 ⊢; omega)
    clear c3
    have H' := Aside0.mk H
    clear H
    go_enter Try.func27, Try.ntmps27
    go_wp2
    repeat (go_quiet (fail); try go_wp2)
    go_loopg [13] k (fun kq v13 w' => ∃ (x13_1 : Int), v13 = .int .i64 x13_1 ∧ Aside0 (seicheref01_Same.l0 kq l0 l1 (l0.length : Int) x13_1 = some r) ∧ Aside0 (kq ≤ k) ∧ Drawn0 w w')
    case atStart => exact ⟨(0), (by first | rfl | (simp; done) | (simp [*]; done)), H', ⟨Nat.le_refl _⟩, by repeat (first | exact Drawn0.refl _ | apply Drawn0.step)⟩
    case round =>
      clear H'
      try clear c1
      try clear c2
      try clear p2
      try clear c3
      try clear c3b0
      try clear c3b1
      try clear c3b2
      obtain ⟨x13_1, rfl, HA, HK1, ⟨m1, rfl⟩⟩ := hrel
      cases gk with
      | zero => exact absurd HA.out (by simp [seicheref01_Same.l0])
      | succ k1 =>
        have H := HA.out
        clear HA
        simp only [seicheref01_Same.l0] at H
        by_cases c4 : x13_1 < (l0.length : Int)
        · rw [if_pos c4] at H
          have c4b0 : decide (x13_1 < (l0.length : Int)) = true := decide_eq_true c4
          clear c4
          by_cases c5 : 0 ≤ x13_1
          · rw [if_pos c5] at H
            have c5b0 : decide (0 ≤ x13_1) = true := decide_eq_true c5
            clear c5
            by_cases c6 : x13_1 < (l0.length : Int)
            · rw [if_pos c6] at H
              have c6b0 : decide (x13_1 < (l0.length : Int)) = true := decide_eq_true c6
              clear c6
              by_cases c7 : x13_1 < (l1.length : Int)
              · rw [if_pos c7] at H
                have c7b0 : decide (x13_1 < (l1.length : Int)) = true := decide_eq_true c7
                clear c7
                by_cases c8 : (rdOf ByteArray.empty l0 x13_1).toList = (rdOf ByteArray.empty l1 x13_1).toList
                · rw [if_pos c8] at H
                  have c8b0 : ((rdOf ByteArray.empty l0 x13_1).toList == (rdOf ByteArray.empty l1 x13_1).toList) = true := beq_iff_eq.mpr c8
                  have c8b1 : ((rdOf ByteArray.empty l0 x13_1).toList != (rdOf ByteArray.empty l1 x13_1).toList) = false := bne_eq_false_iff_eq.mpr c8
                  clear c8
                  have H' := Aside0.mk H
                  clear H
                  have p382 : 0 ≤ (x13_1 : Int) := of_decide_eq_true (by first | (with_reducible assumption) | assumption)
                  have q382 : x13_1 < (l0.length : Int) := of_decide_eq_true (by first | (with_reducible assumption) | assumption)
                  obtain ⟨ad382, e382, hx382_0⟩ := Kd.at_string HR0.out x13_1 p382 q382
                  cases e382
                  replace p382 := eq_true p382
                  replace q382 := eq_true q382
                  have p383 : 0 ≤ (x13_1 : Int) := of_decide_eq_true (by first | (with_reducible assumption) | assumption)
                  have q383 : x13_1 < (l1.length : Int) := of_decide_eq_true (by first | (with_reducible assumption) | assumption)
                  obtain ⟨ad383, e383, hx383_0⟩ := Kd.at_string HR1.out x13_1 p383 q383
                  cases e383
                  replace p383 := eq_true p383
                  replace q383 := eq_true q383
                  go_wp2
                  repeat (go_quiet (fail); try go_wp2)
                  go_roundg k1
                  case measure => have := HK1.out; omega
                  case rel => exact ⟨(wrap64 (x13_1 + 1)), (by first | rfl | (simp; done) | (simp [*]; done)), H', ⟨by have := HK1.out; omega⟩, by repeat (first | exact Drawn0.refl _ | apply Drawn0.step)⟩
                · rw [if_neg c8] at H
                  have c8b0 : ((rdOf ByteArray.empty l0 x13_1).toList == (rdOf ByteArray.empty l1 x13_1).toList) = false := beq_eq_false_iff_ne.mpr c8
                  have c8b1 : ((rdOf ByteArray.empty l0 x13_1).toList != (rdOf ByteArray.empty l1 x13_1).toList) = true := bne_iff_ne.mpr c8
                  obtain rfl := Option.some.inj H
                  have p382 : 0 ≤ (x13_1 : Int) := of_decide_eq_true (by first | (with_reducible assumption) | assumption)
                  have q382 : x13_1 < (l0.length : Int) := of_decide_eq_true (by first | (with_reducible assumption) | assumption)
                  obtain ⟨ad382, e382, hx382_0⟩ := Kd.at_string HR0.out x13_1 p382 q382
                  cases e382
                  replace p382 := eq_true p382
                  replace q382 := eq_true q382
                  have p383 : 0 ≤ (x13_1 : Int) := of_decide_eq_true (by first | (with_reducible assumption) | assumption)
                  have q383 : x13_1 < (l1.length : Int) := of_decide_eq_true (by first | (with_reducible assumption) | assumption)
                  obtain ⟨ad383, e383, hx383_0⟩ := Kd.at_string HR1.out x13_1 p383 q383
                  cases e383
                  replace p383 := eq_true p383
                  replace q383 := eq_true q383
                  go_wp2
                  repeat (go_quiet (fail); try go_wp2)
                  go_ret
                  exact ⟨by first | rfl | (simp; done) | (simp [*]; done), by repeat (first | exact Drawn0.refl _ | apply Drawn0.step)⟩
              · rw [if_neg c7] at H
                exact absurd H (by simp)
            · rw [if_neg c6] at H
              exact absurd H (by simp)
          · rw [if_neg c5] at H
            exact absurd H (by simp)
        · rw [if_neg c4] at H
          have c4b0 : decide (x13_1 < (l0.length : Int)) = false := decide_eq_false c4
          clear c4
          obtain rfl := Option.some.inj H
          go_wp2
          repeat (go_quiet (fail); try go_wp2)
          go_ret
          exact ⟨by first | rfl | (simp; done) | (simp [*]; done), by repeat (first | exact Drawn0.refl _ | apply Drawn0.step)⟩
  · rw [if_neg c3] at H
    have c3b0 : ((l0.length : Int) == (l1.length : Int)) = false := beq_eq_false_iff_ne.mpr c3
    have c3b1 : ((l0.length : Int) != (l1.length : Int)) = true := bne_iff_ne.mpr c3
    have c3b2 : (l0.length == l1.length) = false := by first | simpa using c3 | (simp at c3 ⊢; omega)
    obtain rfl := Option.some.inj H
    go_enter Try.func27, Try.ntmps27
    go_wp2
    repeat (go_quiet (fail); try go_wp2)
    go_ret
    exact ⟨by first | rfl | (simp; done) | (simp [*]; done), by repeat (first | exact Drawn0.refl _ | apply Drawn0.step)⟩

end Go.Proofs.Ytoedkemjidgbeaa.PAll
/- does of every call; great, Same; a script among the arguments. -/
namespace Go.Proofs.Ytoedkemjidgbeaa.Dk
open Go Go.RowKit Go.Proofs.YtoedkemjidgbeaaW.PrintWords Go.Proofs.YtoedkemjidgbeaaW.PrintLast Go.Proofs.YtoedkemjidgbeaaW.PrintMore Go.Proofs.YtoedkemjidgbeaaMy Go.Proofs.Ytoedkemjidgbeaa Go.Proofs.YtoedkemjidgbeaaPw Go.Proofs.Ytoedkemjidgbeaa.PAll
set_option linter.unusedVariables false
set_option linter.unusedSimpArgs false
theorem byt_in {l : List Int} (h : ∀ x ∈ l, (Lit.int .u8 x).wf = true) : ∀ x ∈ l, 0 ≤ x ∧ x ≤ 255 := fun x hx => by have := byt_wf h x hx; omega
theorem i64_hi {n : Int} (h : (Lit.int .i64 n).wf = true) : n ≤ 9223372036854775807 := by
  simp only [Lit.wf, IntKind.min, IntKind.max, IntKind.signed, IntKind.bits, Bool.and_eq_true] at h
  simp at h
  omega
instance : Inhabited S50 := ⟨z50⟩
/-- A script that a law is given. -/
structure Script (W : World) (A : Option Addr) (n c : Nat) (l : List S50) : Prop where
  len : n = l.length
  C : Kd.C k50 W A l.length l
  cap : l.length ≤ c
  few : l.length ≤ 140737488351232
  n3 : ∀ x ∈ l, x.f3 ≤ 9223372036854775807
  byt : ∀ x ∈ l, ∀ y ∈ x.f6, 0 ≤ y ∧ y ≤ 255
  s1 : ∀ x ∈ l, x.f1.size ≤ 140737488351232
  s2 : ∀ x ∈ l, x.f2.size ≤ 140737488351232
  s6 : ∀ x ∈ l, x.f6.length ≤ 140737488351232
theorem call_opens {H : Type} {enc : TypeId × Value → H} {W : World} {base : Nat} {held : Bool} : YtoedkemjidgbeaaOp.Opens enc Try.prog W base held 50 k50
    (fun x => (Lit.int .i64 x.f0).wf = true ∧ x.f1.size ≤ maxLen ∧ x.f2.size ≤ maxLen ∧ (Lit.int .i64 x.f3).wf = true ∧ (Lit.int .i64 x.f4).wf = true ∧ True ∧ (x.f6.length ≤ maxLen ∧ ∀ a ∈ x.f6, (Lit.int .u8 a).wf = true))
    (fun x => [] ++ ([x.f1.size] ++ ([x.f2.size] ++ ([] ++ ([] ++ ([] ++ (x.f6.length * Try.prog.bytesOf 5 :: x.f6.flatMap fun _ => []))))))) := by
  have h := YtoedkemjidgbeaaOp.Opens.struct (enc := enc) (W := W) (base := base) (held := held) Try.underlying50 (by kernel_rfl) (.cons rfl (by kernel_rfl) (.int Try.underlying3) (.cons rfl (by kernel_rfl) (.string Try.underlying9) (.cons rfl (by kernel_rfl) (.string Try.underlying9) (.cons rfl (by kernel_rfl) (.int Try.underlying3)
    (.cons rfl (by kernel_rfl) (.int Try.underlying3) (.cons rfl (by kernel_rfl) (.bool Try.underlying4) (.one rfl (by kernel_rfl) (.slice 5 Try.underlying22 (by kernel_rfl) (.int Try.underlying5)))))))))
  exact YtoedkemjidgbeaaOp.Opens.iso (fun x : S50 => (x.f0, x.f1, x.f2, x.f3, x.f4, x.f5, x.f6)) (fun p => ⟨p.1, p.2.1, p.2.2.1, p.2.2.2.1, p.2.2.2.2.1, p.2.2.2.2.2.1, p.2.2.2.2.2.2⟩) (fun _ => rfl) h
theorem script_arg {H : Type} {enc : TypeId × Value → H} {W : World} {base : Nat} {held : Bool} {a : Option Addr} {len cap : Nat} {x : DataW H} {ps : List MemPlace} {ts : List TypeId} {ds : List (DataW H)} {j : Nat}
    (hs : (DataW.weightsEach Try.prog ts ds).all (· ≤ reachBytes) = true) (hj : ts[j]? = some 45) (hd : ds[j]? = some x)
    (h : DataW.Trod enc Try.prog W base (fun _ => true) held 45 (.slice a len cap) x ps) : ∃ l, Script W a len cap l := by
  obtain ⟨l, e, hC, hc, hok, hf, hm⟩ := YtoedkemjidgbeaaOp.slice_arg hs hj hd Try.underlying45 (by kernel_rfl) call_opens h
  have hb : Try.prog.bytesOf 50 = 88 := by kernel_rfl
  have hb1 : Try.prog.bytesOf 5 = 1 := by kernel_rfl
  rw [hb] at hf
  refine ⟨l, e, hC, hc, by omega, fun y hy => ?_, fun y hy z hz => ?_, fun y hy => hm y hy _ ?_, fun y hy => hm y hy _ ?_, fun y hy => ?_⟩
  · exact i64_hi (hok y hy).2.2.2.1
  · exact byt_in (hok y hy).2.2.2.2.2.2.2 z hz
  · simp
  · simp
  · have := hm y hy (y.f6.length * Try.prog.bytesOf 5) (by simp)
    rw [hb1] at this
    omega
/-! great. -/
theorem gw1 {a b : Nat} (h1 : a ≤ 140737488351232) (h2 : b ≤ 140737488351232) : wrap64 ((a : Int) + (b : Int)) = (a : Int) + (b : Int) := w64 (by omega) (by omega)
theorem gw2 {a b c : Nat} (h1 : a ≤ 140737488351232) (h2 : b ≤ 140737488351232) (h3 : c ≤ 140737488351232) : wrap64 ((a : Int) + (b : Int) + (c : Int)) = (a : Int) + (b : Int) + (c : Int) := w64 (by omega) (by omega)
theorem gw3 {a b c : Nat} {acc : Int} (h : 0 ≤ acc) (h0 : acc ≤ 16384) (h1 : a ≤ 140737488351232) (h2 : b ≤ 140737488351232) (h3 : c ≤ 140737488351232) : wrap64 (acc + ((a : Int) + (b : Int) + (c : Int))) = acc + ((a : Int) + (b : Int) + (c : Int)) := w64 (by omega) (by omega)
theorem gw4 {i : Nat} (h : i < 140737488351232) : wrap64 ((i : Int) + 1) = ((i + 1 : Nat) : Int) := by rw [w64 (by omega) (by omega)]; rfl
theorem great_ev (l : List S50) (h1 : ∀ x ∈ l, x.f1.size ≤ 140737488351232) (h2 : ∀ x ∈ l, x.f2.size ≤ 140737488351232) (h6 : ∀ x ∈ l, x.f6.length ≤ 140737488351232) (hl : l.length ≤ 140737488351232) :
    ∀ (k i : Nat) (acc : Int), i ≤ l.length → l.length - i < k → 0 ≤ acc → acc ≤ 16384 → (∀ j, j < i → ∀ x, l[j]? = some x → x.f6.length ≤ 16384) →
      ∃ r, seichelaw03_great.l0 k l acc l (l.length : Int) (i : Int) = some r ∧ (r = false → l.length ≤ 80 ∧ ∀ x ∈ l, x.f6.length ≤ 16384)
  | 0, i, acc, _, hk, _, _, _ => absurd hk (Nat.not_lt_zero _)
  | k + 1, i, acc, hi, hk, ha, hb, hall => by
    unfold seichelaw03_great.l0
    by_cases c : i < l.length
    · have hx : l[i]? = some (l[i]'c) := List.getElem?_eq_getElem c
      have hr : rd_T50 l (i : Int) = l[i]'c := by unfold rd_T50; rw [Int.toNat_natCast, List.getD_eq_getElem?_getD, hx]; rfl
      have hm : l[i]'c ∈ l := List.getElem_mem c
      rw [if_pos (by omega), if_pos (by omega), if_pos (by omega), hr]
      have e1 := h1 _ hm
      have e2 := h2 _ hm
      have e6 := h6 _ hm
      obtain ⟨x, hxe⟩ : ∃ x, x = l[i]'c := ⟨_, rfl⟩
      rw [← hxe] at hx e1 e2 e6 ⊢
      rw [gw1 e1 e2, gw2 e1 e2 e6, gw3 ha hb e1 e2 e6]
      by_cases c2 : acc + ((x.f1.size : Int) + (x.f2.size : Int) + (x.f6.length : Int)) > 16384
      · rw [if_pos c2]
        exact ⟨true, rfl, fun h => by cases h⟩
      · rw [if_neg c2, gw4 (Nat.lt_of_lt_of_le c hl)]
        refine great_ev l h1 h2 h6 hl k (i + 1) _ c (by clear h1 h2 h6 hl e1 e2 e6 hall; omega) (by clear h1 h2 h6 hl e1 e2 e6 hall; omega) (Int.not_lt.1 c2) (fun j hj y hy => ?_)
        rcases Nat.lt_succ_iff_lt_or_eq.1 hj with h | rfl
        · exact hall j h y hy
        · rw [hx] at hy
          cases hy
          clear h1 h2 h6 hl e1 e2 e6 hall
          omega
    · have ei : i = l.length := by omega
      subst ei
      rw [if_neg (by omega)]
      refine ⟨_, rfl, fun h => ?_⟩
      simp only [decide_eq_false_iff_not] at h
      refine ⟨by omega, fun x hx => ?_⟩
      obtain ⟨j, hj, rfl⟩ := List.getElem_of_mem hx
      exact hall j hj _ (List.getElem?_eq_getElem hj)
theorem great_Q {W : World} {A : Option Addr} {n c : Nat} {l : List S50} (h : Script W A n c l) : ∃ r, (r = false → l.length ≤ 80 ∧ ∀ x ∈ l, x.f6.length ≤ 16384) ∧ ∀ W', Below W.heap.size W W' → Calls Try.prog 23 #[.slice A n c] W' fun e w' => e = .returned (.bool r) ∧ Below W'.heap.size W' w' := by
  obtain ⟨r, h1, h2⟩ := great_ev l h.s1 h.s2 h.s6 h.few (l.length + 1) 0 0 (Nat.zero_le _) (by omega) (Int.le_refl _) (by decide) (fun j hj => absurd hj (Nat.not_lt_zero _))
  refine ⟨r, h2, fun W' hb => ?_⟩
  have e := h.len
  subst e
  exact seichelaw03_great.calls (l.length + 1) A c l r W' (Kd.C_below h.C hb) h.cap h1
theorem Script.at_ {W : World} {A : Option Addr} {n c : Nat} {l : List S50} (h : Script W A n c l) (k : Nat) (hk : k < n) : ∃ (ad : Addr) (A6 : Option Addr) (c6 : Nat) (x : S50), x ∈ l ∧ l[k]? = some x ∧ A = some ad ∧ W.cell? (ad.add (k * 7)) = some (.int .i64 x.f0) ∧ W.cell? ⟨(ad.add (k * 7)).block, (ad.add (k * 7)).off + 1, none⟩ = some (.string x.f1) ∧ W.cell? ⟨(ad.add (k * 7)).block, (ad.add (k * 7)).off + 2, none⟩ = some (.string x.f2) ∧ W.cell? ⟨(ad.add (k * 7)).block, (ad.add (k * 7)).off + 3, none⟩ = some (.int .i64 x.f3) ∧ W.cell? ⟨(ad.add (k * 7)).block, (ad.add (k * 7)).off + 4, none⟩ = some (.int .i64 x.f4) ∧ W.cell? ⟨(ad.add (k * 7)).block, (ad.add (k * 7)).off + 5, none⟩ = some (.bool x.f5) ∧ W.cell? ⟨(ad.add (k * 7)).block, (ad.add (k * 7)).off + 6, none⟩ = some (.slice A6 x.f6.length c6) ∧ bK.C W A6 x.f6.length x.f6 := by
  have e := h.len
  subst e
  obtain ⟨ad, A6, c6, e, h0, h1, h2, h3, h4, h5, h6, _, h8⟩ := at_T50 h.C (k : Int) (by omega) (by omega)
  have hx : l[k]? = some (l[k]'hk) := List.getElem?_eq_getElem hk
  have hr : rd_T50 l (k : Int) = l[k]'hk := by unfold rd_T50; rw [Int.toNat_natCast, List.getD_eq_getElem?_getD, hx]; rfl
  rw [hr] at h0 h1 h2 h3 h4 h5 h6 h8
  rw [Int.toNat_natCast] at h0 h1 h2 h3 h4 h5 h6
  exact ⟨ad, A6, c6, _, List.getElem_mem hk, hx, e, h0, h1, h2, h3, h4, h5, h6, h8⟩
/-! Same. -/
theorem same_ev (l : List ByteArray) (hl : l.length ≤ 4096) : ∀ (k i : Nat), i ≤ l.length → l.length - i < k → seicheref01_Same.l0 k l l (l.length : Int) (i : Int) = some true
  | 0, i, _, hk => absurd hk (Nat.not_lt_zero _)
  | k + 1, i, hi, hk => by
    unfold seicheref01_Same.l0
    by_cases c : i < l.length
    · rw [if_pos (by omega), if_pos (by omega), if_pos (by omega), if_pos (by omega), if_pos rfl]
      have w4 : wrap64 ((i : Int) + 1) = ((i + 1 : Nat) : Int) := by rw [w64 (by omega) (by omega)]; rfl
      rw [w4]
      exact same_ev l hl k (i + 1) c (by omega)
    · rw [if_neg (by omega)]
theorem Same_Q {W : World} {A0 A1 : Option Addr} {c0 c1 n : Nat} {l : List ByteArray} (hn : n = l.length) (hl : l.length ≤ 4096) (h0 : Kd.C Kd.string W A0 n l) (hc0 : n ≤ c0) (h1 : Kd.C Kd.string W A1 n l) (hc1 : n ≤ c1) :
    Calls Try.prog 27 #[.slice A0 n c0, .slice A1 n c1] W fun e w' => e = .returned (.bool true) ∧ Below W.heap.size W w' := by
  subst hn
  refine (seicheref01_Same.calls (l.length + 1) A0 c0 l A1 c1 l true W h0 hc0 h1 hc1 ?_).mono ?_
  · unfold seicheref01_Same.f
    rw [if_pos rfl]
    exact same_ev l hl _ 0 (Nat.zero_le _) (by omega)
  · rintro e w' ⟨rfl, hd⟩
    exact ⟨rfl, hd.below⟩
/-! Every call. -/
section
variable {S : Nat → Prop} {W w0 : World} {g g2 : Nat} {d m : DS} {k : Int}
theorem Does_Q {A : Option Addr} {c : Nat} (x : S50) (p : Pair S w0 W g g2 d m k) (hk : k < 4096) (hC : bK.C w0 A x.f6.length x.f6) (hn : x.f6.length ≤ 16384) (hx : ∀ y ∈ x.f6, 0 ≤ y ∧ y ≤ 255) (hn3 : x.f3 ≤ 9223372036854775807) :
    Calls Try.prog 25 #[.pointer (some ⟨g, 0, none⟩), .pointer (some ⟨g2, 0, none⟩), .agg #[.int .i64 x.f0, .string x.f1, .string x.f2, .int .i64 x.f3, .int .i64 x.f4, .bool x.f5, .slice A x.f6.length c]] W fun e W' => e = .returned (.bool true) ∧ ∃ S', Pair S' w0 W' g g2 (d.play x) (m.rplay x) (k + 1) ∧ Step S W S' W' := by
  have hn2 : x.f6.length ≤ 4294967296 := Nat.le_trans hn (by decide)
  obtain ⟨f0, f1, f2, f3, f4, f5, f6⟩ := x
  simp only at hC hn hx hn3 hn2
  unfold DS.play DS.rplay
  simp only
  by_cases h0 : f0 = 0
  · subst h0; exact Does_0 p hk hC hn2 hx hn3
  by_cases h1 : f0 = 1
  · subst h1; exact Does_1 p hk hC hn2 hx hn3
  by_cases h2 : f0 = 2
  · subst h2; exact Does_2 p hk hC hn2 hx hn3
  by_cases h3 : f0 = 3
  · subst h3; exact Does_3 p hk hC hn2 hx hn3
  by_cases h4 : f0 = 4
  · subst h4; exact Does_4 p hk hC hn2 hx hn3
  by_cases h5 : f0 = 5
  · subst h5; exact Does_5 p hk hC hn2 hx hn3
  by_cases h6 : f0 = 6
  · subst h6; exact Does_6 p hk hC hn2 hx hn3
  by_cases h7 : f0 = 7
  · subst h7; exact Does_7 p hk hC hn2 hx hn3
  by_cases h8 : f0 = 8
  · subst h8; exact Does_8 p hk hC hn2 hx hn3
  rw [if_neg h0, if_neg h1, if_neg h2, if_neg h3, if_neg h4, if_neg h5, if_neg h6, if_neg h7, if_neg h8, if_neg h0, if_neg h1, if_neg h2, if_neg h3, if_neg h4, if_neg h5, if_neg h6, if_neg h7, if_neg h8]
  exact Does_9 (by simpa using h0) (by simpa using h1) (by simpa using h2) (by simpa using h3) (by simpa using h4) (by simpa using h5) (by simpa using h6) (by simpa using h7) (by simpa using h8) p hk hC hn2 hx hn3
/-- A device and its twin, both new. -/
theorem Pair.new_ {w w1 w2 : World} {room : Int} (hb : Below w0.heap.size w0 w) (h1 : St w0 S w1 g (new room)) (hS : ∀ k, S k → w.heap.size ≤ k) (hb2 : Below w1.heap.size w1 w2) (h2 : RefAt (fun k => k = w1.heap.size) w2 w1.heap.size (new room)) :
    Pair (fun j => S j ∨ j = w1.heap.size) w0 w2 g w1.heap.size (new room) (new room) 0 := by
  have hlt : w1.heap.size < w2.heap.size := by
    obtain ⟨v, hv⟩ := h2
    exact blk_lt hv.blk
  refine ⟨h1.bel.trans (hb2.mono h1.bel.size), ⟨S, fun j => j = w1.heap.size, h1.dev.below hb2, ⟨h2, ?_, ?_⟩, ?_, fun _ => Iff.rfl⟩, Tw.new room, DS.Up.new room⟩
  · rintro j rfl; exact h1.bel.size
  · rintro j rfl; exact hlt
  · rintro j hj rfl
    exact Nat.lt_irrefl _ (h1.dev.hi _ hj)
theorem R_strs {W : World} {base : Nat} {v : Value} {xs : List ByteArray} (h : Kd.R Kd.string 9 W base (fun _ => True) v xs) : ∃ A c, v = .slice A xs.length c ∧ xs.length ≤ c ∧ Kd.C Kd.string W A xs.length xs := by
  obtain ⟨A, c, rfl⟩ := Kd.R_slice h
  refine ⟨A, c, rfl, ?_, (Kd.R_reads' h).2.2⟩
  obtain ⟨inner, ho⟩ := Kd.R_own h
  rcases ho.2 with ⟨_, hn⟩ | ⟨q, cap, cur, e1, hbg, hg, hnc, _⟩
  · rw [hn]; exact Nat.zero_le _
  · injection e1 with _ _ e1
    rw [e1]; exact hnc
/-! What a device and its twin tell. -/
theorem Dev.acts_ {B : Nat} (h : Dev S B W g d) : Calls Try.prog 26 #[.pointer (some ⟨g, 0, none⟩)] W fun e W' => e = .returned (.int .i64 d.acts) ∧ Below W.heap.size W W' := by
  refine (Acts_Q h.at_).mono ?_
  rintro e W' ⟨rfl, nd, rfl⟩
  exact ⟨rfl, pw_below_drewN (Below.refl _ _) nd⟩
theorem Dev.down_ {B : Nat} (h : Dev S B W g d) : Calls Try.prog 28 #[.pointer (some ⟨g, 0, none⟩)] W fun e W' => e = .returned (.bool d.down) ∧ Below W.heap.size W W' := by
  refine (Down_Q h.at_).mono ?_
  rintro e W' ⟨rfl, nd, rfl⟩
  exact ⟨rfl, pw_below_drewN (Below.refl _ _) nd⟩
theorem Dev.free_ {B : Nat} (h : Dev S B W g d) (u : d.Up k) : Calls Try.prog 22 #[.pointer (some ⟨g, 0, none⟩)] W fun e W' => e = .returned (.int .i64 d.free) ∧ Below W.heap.size W W' := by
  refine (Free_D h u).mono ?_
  rintro e W' ⟨rfl, _, hb⟩
  exact ⟨rfl, hb⟩
theorem Dev.names_ {B n : Nat} (h : Dev S B W g d) (u : d.Up k) (hk : k ≤ 4096) (hn : n = d.names.length) : Calls Try.prog 21 #[.pointer (some ⟨g, 0, none⟩)] W fun e W' => ∃ A c, e = .returned (.slice A n c) ∧ n ≤ c ∧ Kd.C Kd.string W' A n d.names ∧ Below W.heap.size W W' := by
  obtain ⟨mb, n', D, bl, vl, hd⟩ := h.at_
  subst hn
  refine (Names_Q hd (by have := u.acts.2; omega)).mono ?_
  rintro e W' ⟨v, rfl, hr, hb⟩
  obtain ⟨A, c, rfl, hc, hC⟩ := R_strs hr
  exact ⟨A, c, rfl, hc, hC, hb⟩
theorem Pair.acts_ (p : Pair S w0 W g g2 d m k) : Calls Try.prog 26 #[.pointer (some ⟨g, 0, none⟩)] W fun e W' => e = .returned (.int .i64 d.acts) ∧ Below W.heap.size W W' := by
  obtain ⟨S1, S2, h1, h2, hd, he⟩ := p.ex
  exact h1.acts_
theorem Pair.down_ (p : Pair S w0 W g g2 d m k) : Calls Try.prog 28 #[.pointer (some ⟨g, 0, none⟩)] W fun e W' => e = .returned (.bool d.down) ∧ Below W.heap.size W W' := by
  obtain ⟨S1, S2, h1, h2, hd, he⟩ := p.ex
  exact h1.down_
theorem Pair.free_ (p : Pair S w0 W g g2 d m k) : Calls Try.prog 22 #[.pointer (some ⟨g, 0, none⟩)] W fun e W' => e = .returned (.int .i64 d.free) ∧ Below W.heap.size W W' := by
  obtain ⟨S1, S2, h1, h2, hd, he⟩ := p.ex
  exact h1.free_ p.up
theorem Pair.names_ {n : Nat} (p : Pair S w0 W g g2 d m k) (hk : k ≤ 4096) (hn : n = d.names.length) : Calls Try.prog 21 #[.pointer (some ⟨g, 0, none⟩)] W fun e W' => ∃ A c, e = .returned (.slice A n c) ∧ n ≤ c ∧ Kd.C Kd.string W' A n d.names ∧ Below W.heap.size W W' := by
  obtain ⟨S1, S2, h1, h2, hd, he⟩ := p.ex
  exact h1.names_ p.up hk hn
theorem Pair.rfree_ (p : Pair S w0 W g g2 d m k) (hk : k ≤ 4096) : Calls Try.prog 29 #[.pointer (some ⟨g2, 0, none⟩)] W fun e W' => e = .returned (.int .i64 d.free) ∧ Below W.heap.size W W' := by
  obtain ⟨S1, S2, h1, h2, hd, he⟩ := p.ex
  obtain ⟨v, hv⟩ := h2.at_
  have hq := RFree_Q hv (p.tw.fit p.up.toFit) (p.tw.rg p.up hk).len
  rw [p.tw.free] at hq
  exact hq
theorem Pair.rnames_ {n : Nat} (p : Pair S w0 W g g2 d m k) (hk : k ≤ 4096) (hn : n = d.names.length) : Calls Try.prog 30 #[.pointer (some ⟨g2, 0, none⟩)] W fun e W' => ∃ A c, e = .returned (.slice A n c) ∧ n ≤ c ∧ Kd.C Kd.string W' A n d.names ∧ Below W.heap.size W W' := by
  obtain ⟨S1, S2, h1, h2, hd, he⟩ := p.ex
  obtain ⟨v, hv⟩ := h2.at_
  subst hn
  refine (RNames_Q hv (p.tw.rg p.up hk).len).mono ?_
  rintro e W' ⟨v1, rfl, hr, hb⟩
  rw [p.tw.names] at hr
  obtain ⟨A, c, rfl, hc, hC⟩ := R_strs hr
  exact ⟨A, c, rfl, hc, hC, hb⟩
theorem names_len (d : DS) : d.names.length = d.files.length := by
  unfold DS.names
  simp [nmL]
theorem Pair.few (p : Pair S w0 W g g2 d m k) (hk : k ≤ 4096) : d.names.length ≤ 4096 := by
  rw [names_len]
  have := p.tw.cnt
  have := p.up.acts.2
  omega
/-- A struct put to a new place. -/
theorem boxed {W W6 : World} {gb : Nat} {u0 u1 u2 u3 u4 u5 u6 : Value} (h : W6.heap[gb]? = some (.cells #[u0, u1, u2, u3, u4, u5, u6] 50 (0, 0))) (hg : W.heap.size ≤ gb) (hb : Below W.heap.size W W6) (v0 v1 v2 v3 v4 v5 v6 : Value) :
    (((((((W6.setCell ⟨gb, 0, none⟩ v0).setCell ⟨gb, 1, none⟩ v1).setCell ⟨gb, 2, none⟩ v2).setCell ⟨gb, 3, none⟩ v3).setCell ⟨gb, 4, none⟩ v4).setCell ⟨gb, 5, none⟩ v5).setCell ⟨gb, 6, none⟩ v6).heap[gb]? = some (.cells #[v0, v1, v2, v3, v4, v5, v6] 50 (0, 0)) ∧
    Below W.heap.size W (((((((W6.setCell ⟨gb, 0, none⟩ v0).setCell ⟨gb, 1, none⟩ v1).setCell ⟨gb, 2, none⟩ v2).setCell ⟨gb, 3, none⟩ v3).setCell ⟨gb, 4, none⟩ v4).setCell ⟨gb, 5, none⟩ v5).setCell ⟨gb, 6, none⟩ v6) := by
  refine ⟨?_, below_set (below_set (below_set (below_set (below_set (below_set (below_set hb hg) hg) hg) hg) hg) hg) hg⟩
  have h7 := blk_set (blk_set (blk_set (blk_set (blk_set (blk_set (blk_set h 0 v0) 1 v1) 2 v2) 3 v3) 4 v4) 5 v5) 6 v6
  rw [h7]
  simp only [List.setIfInBounds_toArray, List.set_cons_zero, List.set_cons_succ]
end
end Go.Proofs.Ytoedkemjidgbeaa.Dk
/- DiskTwins: the walk. -/
namespace Go.Proofs.Ytoedkemjidgbeaa.Dk
open Go Go.RowKit Go.Proofs.YtoedkemjidgbeaaW.PrintWords Go.Proofs.YtoedkemjidgbeaaW.PrintLast Go.Proofs.YtoedkemjidgbeaaW.PrintMore Go.Proofs.YtoedkemjidgbeaaMy Go.Proofs.Ytoedkemjidgbeaa Go.Proofs.YtoedkemjidgbeaaPw Go.Proofs.Ytoedkemjidgbeaa.PAll
attribute [local go_sem] max2_m min2_m max_two min_two
set_option linter.unusedVariables false
set_option linter.unusedSimpArgs false
section
variable {S Sa Sc Ss Sa' Sc' : Nat → Prop} {W W1 W2 W' w0 : World} {g ga gb gc gd gs : Nat} {d m d' m' : DS} {k k' : Int}
/-- Two devices with their twins, and a still one. -/
structure Trio (Sa Sc Ss : Nat → Prop) (w0 W : World) (ga gb gc gd gs : Nat) (d m ds : DS) (k : Int) : Prop where
  p1 : Pair Sa w0 W ga gb d m k
  p2 : Pair Sc w0 W gc gd d m k
  st : Dev Ss w0.heap.size W gs ds
  d12 : ∀ j, Sa j → ¬ Sc j
  d1s : ∀ j, Sa j → ¬ Ss j
  d2s : ∀ j, Sc j → ¬ Ss j
variable {ds : DS}
theorem Trio.below (t : Trio Sa Sc Ss w0 W ga gb gc gd gs d m ds k) (hb : Below W.heap.size W W') : Trio Sa Sc Ss w0 W' ga gb gc gd gs d m ds k := ⟨t.p1.below hb, t.p2.below hb, t.st.below hb, t.d12, t.d1s, t.d2s⟩
theorem Trio.half (t : Trio Sa Sc Ss w0 W ga gb gc gd gs d m ds k) (h1 : Pair Sa' w0 W1 ga gb d' m' k') (s1 : Step Sa W Sa' W1) : Pair Sc w0 W1 gc gd d m k := t.p2.other s1.only (fun j hj h => t.d12 j h hj) h1.bel
theorem Trio.next (t : Trio Sa Sc Ss w0 W ga gb gc gd gs d m ds k) (h1 : Pair Sa' w0 W1 ga gb d' m' k') (s1 : Step Sa W Sa' W1) (h2 : Pair Sc' w0 W2 gc gd d' m' k') (s2 : Step Sc W1 Sc' W2) : Trio Sa' Sc' Ss w0 W2 ga gb gc gd gs d' m' ds k' := by
  have hs1 := s1.only.size
  have e1 : ∀ j, Sc j → ¬ Sa' j := s1.disj (fun j hj h => t.d12 j h hj) t.p2.hi
  have e2 : ∀ j, Sa' j → ¬ Sc' j := s2.disj (fun j hj h => e1 j h hj) h1.hi
  have f1 : ∀ j, Ss j → ¬ Sa' j := s1.disj (fun j hj h => t.d1s j h hj) t.st.hi
  have f2 : ∀ j, Ss j → ¬ Sc' j := s2.disj (fun j hj h => t.d2s j h hj) (fun j hj => Nat.lt_of_lt_of_le (t.st.hi j hj) hs1)
  refine ⟨h1.other s2.only (fun j hj h => e1 j h hj) h2.bel, h2, (t.st.other s1.only (fun j hj h => t.d1s j h hj)).other s2.only (fun j hj h => t.d2s j h hj), e2, fun j hj h => f1 j h hj, fun j hj h => f2 j h hj⟩
end
theorem trio0 {S0 Ss Sc : Nat → Prop} {w w3 w4 w5 w6 w7 : World} {ga gs gc : Nat} {room : Int} (p3 : Pair S0 w w6 ga w3.heap.size (new room) (new room) 0) (p4 : Pair (fun j => Sc j ∨ j = w6.heap.size) w w7 gc w6.heap.size (new room) (new room) 0) (hs : Dev Ss w.heap.size w6 gs (new room))
    (hi : (∀ j, Ss j → w4.heap.size ≤ j) ∧ (∀ j, S0 j → j < w4.heap.size) ∧ (∀ j, Ss j → j < w5.heap.size) ∧ (∀ j, S0 j → j < w5.heap.size)) (hn : St w Sc w6 gc (new room) ∧ ∀ j, Sc j → w5.heap.size ≤ j) (hb : Below w6.heap.size w6 w7) :
    Trio S0 (fun j => Sc j ∨ j = w6.heap.size) Ss w w7 ga w3.heap.size gc w6.heap.size gs (new room) (new room) (new room) 0 := by
  obtain ⟨h1, h2, h3, h4⟩ := hi
  refine ⟨p3.below hb, p4, hs.below hb, fun j hj h => ?_, fun j hj h => ?_, fun j hj h => ?_⟩
  · rcases h with h | rfl
    · have := h4 j hj; have := hn.2 j h; omega
    · exact Nat.lt_irrefl _ (p3.hi _ hj)
  · have := h1 j h; have := h2 j hj; omega
  · rcases hj with hj | rfl
    · have := h3 j h; have := hn.2 j hj; omega
    · exact Nat.lt_irrefl _ (hs.hi _ h)
def plays (room : Int) (l : List S50) : DS := l.foldl DS.play (new room)
def rplays (room : Int) (l : List S50) : DS := l.foldl DS.rplay (new room)
theorem plays_step {room : Int} {l : List S50} {k : Nat} {x : S50} (h : l[k]? = some x) : plays room (l.take (k + 1)) = (plays room (l.take k)).play x := by
  obtain ⟨hk, e⟩ := List.getElem?_eq_some_iff.1 h
  unfold plays
  rw [List.take_add_one, h, List.foldl_append]
  rfl
theorem rplays_step {room : Int} {l : List S50} {k : Nat} {x : S50} (h : l[k]? = some x) : rplays room (l.take (k + 1)) = (rplays room (l.take k)).rplay x := by
  unfold rplays
  rw [List.take_add_one, h, List.foldl_append]
  rfl
theorem step_val80 {k n : Nat} (h : k < n) (hn : n ≤ 80) : Value.int .i64 (wrap64 ((k : Int) + 1)) = .int .i64 ((k + 1 : Nat) : Int) := step_val h (Nat.le_trans hn (by decide))
theorem step_meas80 {k n : Nat} (h : k < n) (hn : n ≤ 80) : n - (intOf (.int .i64 (wrap64 ((k : Int) + 1)))).toNat < n - (intOf (.int .i64 (k : Int))).toNat := step_meas h (Nat.le_trans hn (by decide))
theorem k_lt {k n : Nat} (h : k < n) (hn : n ≤ 80) : (k : Int) < 4096 := by omega
theorem k_le {k n : Nat} (h : k < n) (hn : n ≤ 80) : (k : Int) + 1 ≤ 4096 := by omega
section
variable {w : World} {A : Option Addr} {n c : Nat} {l : List S50} {room : Int}
set_option maxHeartbeats 4000000 in
set_option maxRecDepth 100000 in
theorem twins_t (hG : ∀ W', Below w.heap.size w W' → Calls Try.prog 23 #[.slice A n c] W' fun e w' => e = .returned (.bool true) ∧ Below W'.heap.size W' w') : Calls Try.prog 8 #[.int .i64 room, .slice A n c] w fun e w' => e = .returned (.bool true) ∧ Below w.heap.size w w' := by
  have HG := Aside0.mk hG
  clear hG
  go_enter Try.func8, Try.ntmps8
  go_wp2_with (first
    | (go_at_call 10; refine (alive_Q w).mono ?_; rintro e w1 ⟨rfl, hb⟩; have HA := Aside0.mk hb; clear hb)
    | (go_at_call 23; refine (HG.out _ HA.out).mono ?_; rintro e w2 ⟨rfl, hb⟩; have HB := Aside0.mk (HA.out.trans (hb.mono HA.out.size)); clear hb HA HG))
  go_ret
  exact ⟨rfl, HB.out⟩
set_option maxHeartbeats 8000000 in
set_option maxRecDepth 100000 in
theorem twins_f (h : Script w A n c l) (h80 : n ≤ 80) (h6 : ∀ x ∈ l, x.f6.length ≤ 16384) (hG : ∀ W', Below w.heap.size w W' → Calls Try.prog 23 #[.slice A n c] W' fun e w' => e = .returned (.bool false) ∧ Below W'.heap.size W' w') : Calls Try.prog 8 #[.int .i64 room, .slice A n c] w fun e w' => e = .returned (.bool true) ∧ Below w.heap.size w w' := by
  have hu50 := Try.underlying50
  have HG := Aside0.mk hG
  have HSc := Aside0.mk h
  have H80 := Aside0.mk h80
  have H6 := Aside0.mk h6
  clear hG h h80 h6
  go_enter Try.func8, Try.ntmps8
  go_wp2_with (first
    | (go_at_call 10; refine (alive_Q w).mono ?_; rintro e w1 ⟨rfl, hb⟩; have HA := Aside0.mk hb; clear hb)
    | (go_at_call 23; refine (HG.out _ HA.out).mono ?_; rintro e w2 ⟨rfl, hb⟩; have HB := Aside0.mk (HA.out.trans (hb.mono HA.out.size)); clear hb HA HG)
    | (go_at_call 11; refine (New_S' w _ HB.out room).mono ?_; rintro e w3 ⟨ga, S0, rfl, hs, hx1, hx2⟩; have HN := Aside0.mk (And.intro hs hx1); have HB0 := HB; clear hs hx1 hx2 HB)
    | (go_at_call 24; refine (RNew_Q _ room).mono ?_; rintro e w4 ⟨rfl, hr, hb⟩; have P1 := Aside0.mk (Pair.new_ HB0.out HN.out.1 HN.out.2 hb hr); clear hr hb HN HB0)
    | (go_at_call 11; refine (New_S' w _ P1.out.bel room).mono ?_; rintro e w5 ⟨gs, Ss, rfl, hs, hx1, hx2⟩; have P2 := Aside0.mk (P1.out.below hx2); have HS := Aside0.mk (And.intro hs (And.intro hx1 P1.out.hi)); clear hs hx1 hx2 P1)
    | (go_at_call 11; refine (New_S' w _ P2.out.bel room).mono ?_; rintro e w6 ⟨gc, Sc, rfl, hs, hx1, hx2⟩; have HB7 := Aside0.mk P2.out.bel; have P3 := Aside0.mk (P2.out.below hx2); have HSd := Aside0.mk (HS.out.1.dev.below hx2); have HSi := Aside0.mk (And.intro HS.out.2.1 (And.intro HS.out.2.2 (And.intro HS.out.1.dev.hi P2.out.hi))); have HN7 := Aside0.mk (And.intro hs hx1); clear hs hx1 hx2 P2 HS)
    | (go_at_call 24; refine (RNew_Q _ room).mono ?_; rintro e w7 ⟨rfl, hr, hb⟩; have P4 := Aside0.mk (Pair.new_ HB7.out HN7.out.1 HN7.out.2 hb hr); have T0 := Aside0.mk (trio0 P3.out P4.out HSd.out HSi.out HN7.out hb); clear hr hb HN7 HB7 P3 P4 HSd HSi))
  go_loopw [28] (fun i wr => ∃ (k : Nat) (Sa Sc : Nat → Prop), k ≤ n ∧ i = .int .i64 (k : Int) ∧ Aside0 (Trio Sa Sc Ss w wr ga w3.heap.size gc w6.heap.size gs (plays room (l.take k)) (rplays room (l.take k)) (new room) (k : Int))) (fun i _ => n - (intOf i).toNat)
  case atStart => exact ⟨0, _, _, Nat.zero_le _, rfl, T0⟩
  case round =>
    obtain ⟨k, Sa, Sc, hk, rfl, HT⟩ := hrel
    clear T0
    by_cases hlt : k < n
    · have kb : decide ((k : Int) < (n : Int)) = true := decide_eq_true (Int.ofNat_lt.2 hlt)
      obtain ⟨ad, A6, c6, x, hx1, hx2, rfl, t0, t1, t2, t3, t4, t5, t6, hC⟩ := HSc.out.at_ k hlt
      have y0 := pw_cell_below HT.out.p1.bel t0
      have y1 := pw_cell_below HT.out.p1.bel t1
      have y2 := pw_cell_below HT.out.p1.bel t2
      have y3 := pw_cell_below HT.out.p1.bel t3
      have y4 := pw_cell_below HT.out.p1.bel t4
      have y5 := pw_cell_below HT.out.p1.bel t5
      have y6 := pw_cell_below HT.out.p1.bel t6
      have HX1 := Aside0.mk hx1
      have HX2 := Aside0.mk hx2
      have HC := Aside0.mk hC
      clear hx1 hx2 hC t0 t1 t2 t3 t4 t5 t6
      obtain ⟨d, hd⟩ : ∃ d, d = plays room (l.take k) := ⟨_, rfl⟩
      obtain ⟨m, hm⟩ : ∃ m, m = rplays room (l.take k) := ⟨_, rfl⟩
      rw [← hd, ← hm] at HT
      have HD := Aside0.mk ((plays_step (room := room) HX2.out).trans (by rw [← hd]))
      have HM := Aside0.mk ((rplays_step (room := room) HX2.out).trans (by rw [← hm]))
      clear hd hm
      obtain ⟨d', hd'⟩ : ∃ d', d' = d.play x := ⟨_, rfl⟩
      obtain ⟨m', hm'⟩ : ∃ m', m' = m.rplay x := ⟨_, rfl⟩
      rw [← hd'] at HD
      rw [← hm'] at HM
      obtain ⟨ln, hln⟩ : ∃ ln, ln = d'.names.length := ⟨_, rfl⟩
      have HLn := Aside0.mk hln
      have HDx := Aside0.mk hd'
      have HMx := Aside0.mk hm'
      clear hd' hm' hln
      have HT0 := HT
      clear HT
      go_wp2_with (first
        | ((with_reducible refine gate_dst (N := 11) rfl ?_); refine box_event ?hg (N := 11) ?hd (cs := #[.int .i64 0, .string (⟨#[]⟩ : ByteArray), .string (⟨#[]⟩ : ByteArray), .int .i64 0, .int .i64 0, .bool false, .slice none 0 0]) (t := 50) ?hr ?_; (case hd => rfl); (case hg => rfl); (case hr => first | (go_simp; done) | (go_simp; rfl)); intro gb hg wq hbox hb; have BX := Aside0.mk (boxed (W := wr) hbox (Nat.le_of_eq hg.symm) hb (.int .i64 x.f0) (.string x.f1) (.string x.f2) (.int .i64 x.f3) (.int .i64 x.f4) (.bool x.f5) (.slice A6 x.f6.length c6)); have HG := Aside0.mk hg; have q0 : wq.cell? ⟨gb, 0, none⟩ = some (.int .i64 0) := (blk_cell hbox 0).trans rfl; have r0 := blk_frozen hbox 0; have q1 : wq.cell? ⟨gb, 1, none⟩ = some (.string (⟨#[]⟩ : ByteArray)) := (blk_cell hbox 1).trans rfl; have r1 := blk_frozen hbox 1; have q2 : wq.cell? ⟨gb, 2, none⟩ = some (.string (⟨#[]⟩ : ByteArray)) := (blk_cell hbox 2).trans rfl; have r2 := blk_frozen hbox 2; have q3 : wq.cell? ⟨gb, 3, none⟩ = some (.int .i64 0) := (blk_cell hbox 3).trans rfl; have r3 := blk_frozen hbox 3; have q4 : wq.cell? ⟨gb, 4, none⟩ = some (.int .i64 0) := (blk_cell hbox 4).trans rfl; have r4 := blk_frozen hbox 4; have q5 : wq.cell? ⟨gb, 5, none⟩ = some (.bool false) := (blk_cell hbox 5).trans rfl; have r5 := blk_frozen hbox 5; have q6 : wq.cell? ⟨gb, 6, none⟩ = some (.slice none 0 0) := (blk_cell hbox 6).trans rfl; have r6 := blk_frozen hbox 6; clear hbox hb hg)
        | (go_at_call 25; have HT1 := Aside0.mk (HT0.out.below BX.out.2); have hnS1 : ¬ Sa gb := (fun h => Nat.lt_irrefl _ (Nat.lt_of_lt_of_le (HT0.out.p1.hi _ h) (Nat.le_of_eq HG.out.symm))); clear HT0; refine (Does_Q x HT1.out.p1 (k_lt hlt H80.out) HC.out (H6.out x HX1.out) (HSc.out.byt x HX1.out) (HSc.out.n3 x HX1.out)).mono ?_; rintro e wa ⟨rfl, S1, hp1, hst1⟩; rw [← HDx.out, ← HMx.out] at hp1; have p0 : wa.cell? ⟨gb, 0, none⟩ = some (.int .i64 x.f0) := hst1.only.cell ((blk_cell BX.out.1 0).trans rfl) hnS1; have p1 : wa.cell? ⟨gb, 1, none⟩ = some (.string x.f1) := hst1.only.cell ((blk_cell BX.out.1 1).trans rfl) hnS1; have p2 : wa.cell? ⟨gb, 2, none⟩ = some (.string x.f2) := hst1.only.cell ((blk_cell BX.out.1 2).trans rfl) hnS1; have p3 : wa.cell? ⟨gb, 3, none⟩ = some (.int .i64 x.f3) := hst1.only.cell ((blk_cell BX.out.1 3).trans rfl) hnS1; have p4 : wa.cell? ⟨gb, 4, none⟩ = some (.int .i64 x.f4) := hst1.only.cell ((blk_cell BX.out.1 4).trans rfl) hnS1; have p5 : wa.cell? ⟨gb, 5, none⟩ = some (.bool x.f5) := hst1.only.cell ((blk_cell BX.out.1 5).trans rfl) hnS1; have p6 : wa.cell? ⟨gb, 6, none⟩ = some (.slice A6 x.f6.length c6) := hst1.only.cell ((blk_cell BX.out.1 6).trans rfl) hnS1; have HP1 := Aside0.mk hp1; have HS1 := Aside0.mk hst1; have HH := Aside0.mk (HT1.out.half hp1 hst1); clear hp1 hst1 hnS1 BX HG)
        | (go_at_call 25; refine (Does_Q x HH.out (k_lt hlt H80.out) HC.out (H6.out x HX1.out) (HSc.out.byt x HX1.out) (HSc.out.n3 x HX1.out)).mono ?_; rintro e wb ⟨rfl, S2, hp2, hst2⟩; rw [← HDx.out, ← HMx.out] at hp2; have HT2 := Aside0.mk (HT1.out.next HP1.out HS1.out hp2 hst2); clear hp2 hst2 HH HP1 HS1 HT1)
        | (go_at_call 26; refine (HT2.out.p1.acts_).mono ?_; rintro e wc ⟨rfl, hb⟩; have HT3 := Aside0.mk (HT2.out.below hb); clear hb HT2)
        | (go_at_call 26; refine (HT3.out.p2.acts_).mono ?_; rintro e wd ⟨rfl, hb⟩; have HT4 := Aside0.mk (HT3.out.below hb); clear hb HT3)
        | (go_at_call 22; refine (HT4.out.p1.free_).mono ?_; rintro e we ⟨rfl, hb⟩; have HT5 := Aside0.mk (HT4.out.below hb); clear hb HT4)
        | (go_at_call 22; refine (HT5.out.p2.free_).mono ?_; rintro e wf ⟨rfl, hb⟩; have HT6 := Aside0.mk (HT5.out.below hb); clear hb HT5)
        | (go_at_call 21; refine (HT6.out.p1.names_ (k_le hlt H80.out) HLn.out).mono ?_; rintro e wg ⟨A1, c1, rfl, hc, hC1, hb⟩; have HT7 := Aside0.mk (HT6.out.below hb); have HC1 := Aside0.mk hC1; have Hc1 := Aside0.mk hc; clear hb hc hC1 HT6)
        | (go_at_call 21; refine (HT7.out.p2.names_ (k_le hlt H80.out) HLn.out).mono ?_; rintro e wh ⟨A2, c2, rfl, hc, hC2, hb⟩; have HT8 := Aside0.mk (HT7.out.below hb); have HC2 := Aside0.mk (And.intro (Kd.C_below HC1.out hb) hC2); have Hc2 := Aside0.mk hc; clear hb hc hC2 HT7 HC1)
        | (go_at_call 27; refine (Same_Q HLn.out (HT8.out.p1.few (k_le hlt H80.out)) HC2.out.1 Hc1.out HC2.out.2 Hc2.out).mono ?_; rintro e wi ⟨rfl, hb⟩; have HT9 := Aside0.mk (HT8.out.below hb); clear hb HT8))
      go_roundw
      case rel => exact ⟨k + 1, _, _, hlt, step_val80 hlt H80.out, by rw [HD.out, HM.out]; exact HT9⟩
      case measure => exact step_meas80 hlt H80.out
    · have kb : decide ((k : Int) < (n : Int)) = false := decide_eq_false (fun h => hlt (Int.ofNat_lt.1 h))
      go_wp2_with (first
        | (go_at_call 26; refine (HT.out.st.acts_).mono ?_; rintro e wc ⟨rfl, hb⟩; have HD1 := Aside0.mk (HT.out.st.below hb); have HB1 := Aside0.mk (HT.out.p1.bel.trans (hb.mono HT.out.p1.bel.size)); clear hb HT)
        | (go_at_call 21; refine (HD1.out.names_ (n := 0) (DS.Up.new room) (by decide) (by rw [names_len]; rfl)).mono ?_; rintro e wg ⟨A1, c1, rfl, hc, hC1, hb⟩; have HB2 := Aside0.mk (HB1.out.trans (hb.mono HB1.out.size)); clear hb hc hC1 HD1 HB1))
      go_ret
      exact ⟨by first | rfl | simp, HB2.out⟩
theorem Twins_Q (h : Script w A n c l) (room : Int) : Calls Try.prog 8 #[.int .i64 room, .slice A n c] w fun e w' => e = .returned (.bool true) ∧ Below w.heap.size w w' := by
  obtain ⟨r, h1, h2⟩ := great_Q h
  cases r with
  | true => exact twins_t h2
  | false => exact twins_f h (by rw [h.len]; exact (h1 rfl).1) (h1 rfl).2 h2
end
end Go.Proofs.Ytoedkemjidgbeaa.Dk
/- DiskDoes. -/
namespace Go.Proofs.Ytoedkemjidgbeaa.Dk
open Go Go.RowKit Go.Proofs.YtoedkemjidgbeaaW.PrintWords Go.Proofs.YtoedkemjidgbeaaW.PrintLast Go.Proofs.YtoedkemjidgbeaaW.PrintMore Go.Proofs.YtoedkemjidgbeaaMy Go.Proofs.Ytoedkemjidgbeaa Go.Proofs.YtoedkemjidgbeaaPw Go.Proofs.Ytoedkemjidgbeaa.PAll
attribute [local go_sem] max2_m min2_m max_two min_two
set_option linter.unusedVariables false
set_option linter.unusedSimpArgs false
/-! Every file's name is one that a file can have. -/
def Named (d : DS) : Prop := ∀ f ∈ d.files, nameOk f.name = true
namespace Named
variable {d : DS}
theorem new_ (room : Int) : Named (new room) := fun f hf => by cases hf
theorem put (h : Named d) {f : Fl} (hf : nameOk f.name = true) : Named (d.put f) := by
  intro g hg
  have : ∀ l : List Fl, (∀ x ∈ l, nameOk x.name = true) → ∀ x ∈ putF l f, nameOk x.name = true := by
    intro l
    induction l with
    | nil => intro _ x hx; rcases List.mem_singleton.1 hx with rfl; exact hf
    | cons y r ih =>
      intro hl x hx
      unfold putF at hx
      split at hx
      · rcases List.mem_cons.1 hx with rfl | hx
        · exact hf
        · exact hl x (List.mem_cons_of_mem _ hx)
      · rcases List.mem_cons.1 hx with rfl | hx
        · exact hl x (List.mem_cons_self ..)
        · exact ih (fun z hz => hl z (List.mem_cons_of_mem _ hz)) x hx
  exact this d.files h g hg
theorem drop (h : Named d) (s : ByteArray) : Named (d.drop s) := fun f hf => h f (List.mem_filter.1 hf).1
theorem off (h : Named d) (k : Int) (t : Bool) : Named (d.off k t) := by
  unfold DS.off
  split
  · exact h
  · intro f hf
    obtain ⟨g, hg, rfl⟩ := List.mem_map.1 hf
    exact h g hg
theorem ends (h : Named d) : Named d.ends := h.off _ _
theorem act (h : Named d) : Named d.act := h
theorem ready_ok {s : ByteArray} (h : ¬ d.ready s ≠ 0) : nameOk s = true := by
  unfold DS.ready at h
  split at h
  · exact absurd (by decide) h
  · split at h
    · assumption
    · exact absurd (by decide) h
theorem there_ok {s : ByteArray} (h : ¬ d.there s ≠ 0) : nameOk s = true := by
  unfold DS.there at h
  split at h
  · rename_i hr; exact absurd hr h
  · rename_i hr; exact ready_ok hr
theorem orName (d : DS) {s : ByteArray} (h : nameOk s = true) : nameOk (d.fileOr s).name = true := by rw [fileOr_name]; exact h
theorem fall (h : Named d) {F : DS → DS} (hF : Named (F d.act)) : Named (d.fall F).2 := by
  unfold DS.fall
  split
  · show Named (DS.ends _)
    split
    · exact hF.ends
    · exact h.act.ends
  · exact hF
theorem append (h : Named d) (s : ByteArray) (x : List Int) : Named (d.append s x).2 := by
  unfold DS.append
  split
  · exact h
  · rename_i hr
    split
    · exact h
    · have h2 : Named (d.act.put { d.fileOr s with b := (d.fileOr s).b ++ x }) := h.act.put (orName d (ready_ok hr))
      dsimp only
      split
      · exact h2.ends
      · exact h2
theorem sync (h : Named d) (s : ByteArray) : Named (d.sync s).2 := by
  unfold DS.sync
  split
  · exact h
  · rename_i hr
    split
    · exact h.act.ends
    · exact h.act.put (orName d (there_ok hr))
theorem cut (h : Named d) (s : ByteArray) (n : Int) : Named (d.cut s n).2 := by
  unfold DS.cut
  split
  · exact h
  · rename_i hr
    split
    · exact h
    · exact h.fall (h.act.put (orName d.act (there_ok hr)))
theorem rename (h : Named d) (a b : ByteArray) : Named (d.rename a b).2 := by
  unfold DS.rename
  split
  · exact h
  · split
    · exact h
    · rename_i hb
      exact h.fall ((h.act.drop a).put (by simpa using hb))
theorem remove (h : Named d) (s : ByteArray) : Named (d.remove s).2 := by
  unfold DS.remove
  split
  · exact h
  · exact h.fall (h.act.drop s)
theorem play (h : Named d) (x : S50) : Named (d.play x) := by
  unfold DS.play
  repeat' split
  · exact h.append _ _
  · exact h
  · exact h.sync _
  · exact h.cut _ _
  · exact h.rename _ _
  · exact h.remove _
  · exact h.off _ _
  · exact h
  · exact h
  · exact h
end Named
theorem plays_named (room : Int) (l : List S50) : Named (plays room l) := by
  have : ∀ (l : List S50) (d : DS), Named d → Named (l.foldl DS.play d) := by
    intro l
    induction l with
    | nil => intro d h; exact h
    | cons x r ih => intro d h; exact ih _ (h.play x)
  exact this l _ (Named.new_ room)
theorem mem_names {d : DS} {s : ByteArray} (h : s ∈ d.names) : ∃ f ∈ d.files, f.name = s := by
  unfold DS.names at h
  obtain ⟨b, hb, rfl⟩ := List.mem_map.1 h
  rw [List.mem_mergeSort] at hb
  obtain ⟨f, hf, rfl⟩ := mem_nmL.1 hb
  exact ⟨f, hf, rfl⟩
theorem read_named {d : DS} (hn : Named d) (ho : Once d.files) (hd : d.down = false) {s : ByteArray} (h : s ∈ d.names) : (d.read s).2 = 0 := by
  obtain ⟨f, hf, rfl⟩ := mem_names h
  have hr : d.ready f.name = 0 := by
    unfold DS.ready
    rw [hd, if_neg (by decide), if_pos (hn f hf)]
  have ht : d.there f.name = 0 := by
    unfold DS.there
    rw [if_neg (fun h => h hr), findF_of ho hf]
    rfl
  unfold DS.read
  rw [if_neg (fun h => h ht)]
/-! A nil device. -/
theorem thenB {w W W1 : World} (h : Below w.heap.size w W) (h2 : Below W.heap.size W W1) : Below w.heap.size w W1 := h.trans (h2.mono h.size)
set_option maxHeartbeats 2000000 in
set_option maxRecDepth 100000 in
theorem off_nil (w : World) : Calls Try.prog 16 #[.pointer none, .int .i64 1, .bool true] w fun e w' => e = .returned (.tuple #[]) ∧ Below w.heap.size w w' := by
  have hb0 := Below.refl w.heap.size w
  go_enter Try.func16, Try.ntmps16
  go_wp2
  (try simp only [Exit.inBlock, Exit.then]); refine bodyPost_ret (results_none rfl _ _ _) rfl ?_
  exact ⟨by first | rfl | simp, by repeat (first | exact hb0 | exact hb1 | refine below_alloc ?_ _)⟩
set_option maxHeartbeats 2000000 in
set_option maxRecDepth 100000 in
theorem on_nil (w : World) : Calls Try.prog 17 #[.pointer none] w fun e w' => e = .returned (.tuple #[]) ∧ Below w.heap.size w w' := by
  have hb0 := Below.refl w.heap.size w
  go_enter Try.func17, Try.ntmps17
  go_wp2
  go_end0
  exact ⟨by first | rfl | simp, by repeat (first | exact hb0 | exact hb1 | refine below_alloc ?_ _)⟩
set_option maxHeartbeats 2000000 in
set_option maxRecDepth 100000 in
theorem arm_nil (w : World) : Calls Try.prog 14 #[.pointer none, .int .i64 1, .int .i64 1, .bool true] w fun e w' => e = .returned (.tuple #[]) ∧ Below w.heap.size w w' := by
  have hb0 := Below.refl w.heap.size w
  go_enter Try.func14, Try.ntmps14
  go_wp2
  go_end0
  exact ⟨by first | rfl | simp, by repeat (first | exact hb0 | exact hb1 | refine below_alloc ?_ _)⟩
set_option maxHeartbeats 2000000 in
set_option maxRecDepth 100000 in
theorem ready_nil (w : World) : Calls Try.prog 32 #[.pointer none, .string ⟨#[102]⟩] w fun e w' => e = .returned (.int .i64 2) ∧ Below w.heap.size w w' := by
  have hb0 := Below.refl w.heap.size w
  go_enter Try.func32, Try.ntmps32
  go_wp2
  go_ret
  exact ⟨by first | rfl | simp, by repeat (first | exact hb0 | exact hb1 | refine below_alloc ?_ _)⟩
set_option maxHeartbeats 2000000 in
set_option maxRecDepth 100000 in
theorem there_nil (w : World) : Calls Try.prog 34 #[.pointer none, .string ⟨#[102]⟩] w fun e w' => e = .returned (.tuple #[.pointer none, .int .i64 2]) ∧ Below w.heap.size w w' := by
  have hb0 := Below.refl w.heap.size w
  go_enter Try.func34, Try.ntmps34
  go_wp2_with (first
    | (go_at_call 32; refine (ready_nil _).mono ?_; rintro e w1 ⟨rfl, hb1⟩; replace hb1 := thenB (w := w) (by repeat (first | exact hb0 | refine below_alloc ?_ _)) hb1))
  go_ret2
  exact ⟨by first | rfl | simp, by repeat (first | exact hb0 | exact hb1 | refine below_alloc ?_ _)⟩
set_option maxHeartbeats 2000000 in
set_option maxRecDepth 100000 in
theorem read_nil (w : World) : Calls Try.prog 13 #[.pointer none, .string ⟨#[102]⟩] w fun e w' => e = .returned (.tuple #[.slice none 0 0, .int .i64 2]) ∧ Below w.heap.size w w' := by
  have hb0 := Below.refl w.heap.size w
  go_enter Try.func13, Try.ntmps13
  go_wp2_with (first
    | (go_at_call 34; refine (there_nil _).mono ?_; rintro e w1 ⟨rfl, hb1⟩; replace hb1 := thenB (w := w) (by repeat (first | exact hb0 | refine below_alloc ?_ _)) hb1))
  go_ret2
  exact ⟨by first | rfl | simp, by repeat (first | exact hb0 | exact hb1 | refine below_alloc ?_ _)⟩
set_option maxHeartbeats 2000000 in
set_option maxRecDepth 100000 in
theorem append_nil (w : World) : Calls Try.prog 12 #[.pointer none, .string ⟨#[102]⟩, .slice none 0 0] w fun e w' => e = .returned (.int .i64 2) ∧ Below w.heap.size w w' := by
  have hb0 := Below.refl w.heap.size w
  go_enter Try.func12, Try.ntmps12
  go_wp2_with (first
    | (go_at_call 32; refine (ready_nil _).mono ?_; rintro e w1 ⟨rfl, hb1⟩; replace hb1 := thenB (w := w) (by repeat (first | exact hb0 | refine below_alloc ?_ _)) hb1))
  go_ret
  exact ⟨by first | rfl | simp, by repeat (first | exact hb0 | exact hb1 | refine below_alloc ?_ _)⟩
set_option maxHeartbeats 2000000 in
set_option maxRecDepth 100000 in
theorem sync_nil (w : World) : Calls Try.prog 15 #[.pointer none, .string ⟨#[102]⟩] w fun e w' => e = .returned (.int .i64 2) ∧ Below w.heap.size w w' := by
  have hb0 := Below.refl w.heap.size w
  go_enter Try.func15, Try.ntmps15
  go_wp2_with (first
    | (go_at_call 34; refine (there_nil _).mono ?_; rintro e w1 ⟨rfl, hb1⟩; replace hb1 := thenB (w := w) (by repeat (first | exact hb0 | refine below_alloc ?_ _)) hb1))
  go_ret
  exact ⟨by first | rfl | simp, by repeat (first | exact hb0 | exact hb1 | refine below_alloc ?_ _)⟩
set_option maxHeartbeats 2000000 in
set_option maxRecDepth 100000 in
theorem cut_nil (w : World) : Calls Try.prog 19 #[.pointer none, .string ⟨#[102]⟩, .int .i64 0] w fun e w' => e = .returned (.int .i64 2) ∧ Below w.heap.size w w' := by
  have hb0 := Below.refl w.heap.size w
  go_enter Try.func19, Try.ntmps19
  go_wp2_with (first
    | (go_at_call 34; refine (there_nil _).mono ?_; rintro e w1 ⟨rfl, hb1⟩; replace hb1 := thenB (w := w) (by repeat (first | exact hb0 | refine below_alloc ?_ _)) hb1))
  go_ret
  exact ⟨by first | rfl | simp, by repeat (first | exact hb0 | exact hb1 | refine below_alloc ?_ _)⟩
set_option maxHeartbeats 2000000 in
set_option maxRecDepth 100000 in
theorem rename_nil (w : World) : Calls Try.prog 18 #[.pointer none, .string ⟨#[102]⟩, .string ⟨#[103]⟩] w fun e w' => e = .returned (.int .i64 2) ∧ Below w.heap.size w w' := by
  have hb0 := Below.refl w.heap.size w
  go_enter Try.func18, Try.ntmps18
  go_wp2_with (first
    | (go_at_call 34; refine (there_nil _).mono ?_; rintro e w1 ⟨rfl, hb1⟩; replace hb1 := thenB (w := w) (by repeat (first | exact hb0 | refine below_alloc ?_ _)) hb1))
  go_ret
  exact ⟨by first | rfl | simp, by repeat (first | exact hb0 | exact hb1 | refine below_alloc ?_ _)⟩
set_option maxHeartbeats 2000000 in
set_option maxRecDepth 100000 in
theorem remove_nil (w : World) : Calls Try.prog 20 #[.pointer none, .string ⟨#[102]⟩] w fun e w' => e = .returned (.int .i64 2) ∧ Below w.heap.size w w' := by
  have hb0 := Below.refl w.heap.size w
  go_enter Try.func20, Try.ntmps20
  go_wp2_with (first
    | (go_at_call 34; refine (there_nil _).mono ?_; rintro e w1 ⟨rfl, hb1⟩; replace hb1 := thenB (w := w) (by repeat (first | exact hb0 | refine below_alloc ?_ _)) hb1))
  go_ret
  exact ⟨by first | rfl | simp, by repeat (first | exact hb0 | exact hb1 | refine below_alloc ?_ _)⟩
set_option maxHeartbeats 2000000 in
set_option maxRecDepth 100000 in
theorem names_nil (w : World) : Calls Try.prog 21 #[.pointer none] w fun e w' => e = .returned (.slice none 0 0) ∧ Below w.heap.size w w' := by
  have hb0 := Below.refl w.heap.size w
  go_enter Try.func21, Try.ntmps21
  go_wp2
  go_ret
  exact ⟨by first | rfl | simp, by repeat (first | exact hb0 | exact hb1 | refine below_alloc ?_ _)⟩
set_option maxHeartbeats 2000000 in
set_option maxRecDepth 100000 in
theorem free_nil (w : World) : Calls Try.prog 22 #[.pointer none] w fun e w' => e = .returned (.int .i64 0) ∧ Below w.heap.size w w' := by
  have hb0 := Below.refl w.heap.size w
  go_enter Try.func22, Try.ntmps22
  go_wp2
  go_ret
  exact ⟨by first | rfl | simp, by repeat (first | exact hb0 | exact hb1 | refine below_alloc ?_ _)⟩
set_option maxHeartbeats 2000000 in
set_option maxRecDepth 100000 in
theorem acts_nil (w : World) : Calls Try.prog 26 #[.pointer none] w fun e w' => e = .returned (.int .i64 0) ∧ Below w.heap.size w w' := by
  have hb0 := Below.refl w.heap.size w
  go_enter Try.func26, Try.ntmps26
  go_wp2
  go_ret
  exact ⟨by first | rfl | simp, by repeat (first | exact hb0 | exact hb1 | refine below_alloc ?_ _)⟩
set_option maxHeartbeats 2000000 in
set_option maxRecDepth 100000 in
theorem down_nil (w : World) : Calls Try.prog 28 #[.pointer none] w fun e w' => e = .returned (.bool false) ∧ Below w.heap.size w w' := by
  have hb0 := Below.refl w.heap.size w
  go_enter Try.func28, Try.ntmps28
  go_wp2
  go_ret
  exact ⟨by first | rfl | simp, by repeat (first | exact hb0 | exact hb1 | refine below_alloc ?_ _)⟩
section
variable {P : Program} {ops : Array Oper} {Q : Exit → Act → World → Prop} {md : Region.Mode} {S S' : World → Prop} {ds ds' : List Nat}
/-- What is held may be another thing from here on, where nothing must keep the first. -/
theorem shift_all : ∀ (fuel : Nat) (l : Array Bool) (a : Act) (w : World), (∀ i, i < ops.size → l.getD i true = false → i ∈ ds) → wpAnyLast P md ops Q S' ds' fuel l a w → wpAnyLast P md ops Q S ds fuel l a w
  | 0, l, a, w, _, h => h
  | fuel + 1, l, a, w, hall, h => by
    refine ⟨h.1, fun i hi => ?_⟩
    obtain ⟨hr1, oi, hoi, _⟩ := mem_ready.1 hi
    have hlt : i < ops.size := (Array.getElem?_eq_some_iff.1 hoi).1
    refine wpOp_mono (fun a' w' h3 => ⟨fun hn => absurd (hall i hlt hr1) hn, shift_all fuel _ a' w' (fun j hj hjl => ?_) h3.2⟩) (h.2 i hi)
    refine hall j hj ?_
    by_cases hij : i = j
    · subst hij; exact hr1
    · rw [getD_set_ne true hij] at hjl; exact hjl
theorem shift_ {fuel : Nat} {l : Array Bool} {a : Act} {w : World} (S' : World → Prop) (ds' : List Nat) (hall : ((List.range ops.size).all fun i => l.getD i true || ds.contains i) = true) (h : wpAnyLast P md ops Q S' ds' fuel l a w) : wpAnyLast P md ops Q S ds fuel l a w := by
  refine shift_all fuel l a w (fun i hi hl => ?_) h
  have h1 := List.all_eq_true.1 hall i (List.mem_range.2 hi)
  rw [hl, Bool.false_or] at h1
  simpa using h1
end
theorem str_at {W : World} {A : Option Addr} {n j : Nat} {xs : List ByteArray} (h : Kd.C Kd.string W A n xs) (hn : n = xs.length) (hj : j < n) : ∃ (s : ByteArray) (a : Addr), s ∈ xs ∧ A = some a ∧ W.cell? (a.add j) = some (.string s) := by
  obtain ⟨a, e, hc⟩ := Kd.at_string h (j : Int) (by omega) (by omega)
  refine ⟨rdOf ByteArray.empty xs (j : Int), a, ?_, e, by rw [Int.toNat_natCast] at hc; exact hc⟩
  unfold rdOf
  rw [Int.toNat_natCast, List.getD_eq_getElem?_getD, List.getElem?_eq_getElem (by omega)]
  exact List.getElem_mem (by omega)
section
variable {S : Nat → Prop} {W w0 : World} {g g2 : Nat} {d m : DS} {k : Int}
theorem Pair.cells_ (p : Pair S w0 W g g2 d m k) : W.cell? ⟨g2, 3, none⟩ = some (.int .i64 d.acts) ∧ W.cell? ⟨g2, 2, none⟩ = some (.bool d.down) := by
  obtain ⟨S1, S2, h1, h2, hd, he⟩ := p.ex
  obtain ⟨v, hv⟩ := h2.at_
  refine ⟨?_, ?_⟩
  · rw [hv.cell 3, ← p.tw.acts]; rfl
  · rw [hv.cell 2, ← p.tw.down]; rfl
end
section
variable {w : World} {A : Option Addr} {n c : Nat} {l : List S50} {room : Int}
set_option maxHeartbeats 4000000 in
set_option maxRecDepth 100000 in
theorem ddoes_t (hG : ∀ W', Below w.heap.size w W' → Calls Try.prog 23 #[.slice A n c] W' fun e w' => e = .returned (.bool true) ∧ Below W'.heap.size W' w') : Calls Try.prog 9 #[.int .i64 room, .slice A n c] w fun e w' => e = .returned (.bool true) ∧ Below w.heap.size w w' := by
  have HG := Aside0.mk hG
  clear hG
  go_enter Try.func9, Try.ntmps9
  go_wp2_with (first
    | (go_at_call 10; refine (alive_Q w).mono ?_; rintro e w1 ⟨rfl, hb⟩; have HA := Aside0.mk hb; clear hb)
    | (go_at_call 23; refine (HG.out _ HA.out).mono ?_; rintro e w2 ⟨rfl, hb⟩; have HB := Aside0.mk (HA.out.trans (hb.mono HA.out.size)); clear hb HA HG))
  go_ret
  exact ⟨rfl, HB.out⟩
set_option maxHeartbeats 16000000 in
set_option maxRecDepth 100000 in
theorem ddoes_f (h : Script w A n c l) (h80 : n ≤ 80) (h6 : ∀ x ∈ l, x.f6.length ≤ 16384) (hG : ∀ W', Below w.heap.size w W' → Calls Try.prog 23 #[.slice A n c] W' fun e w' => e = .returned (.bool false) ∧ Below W'.heap.size W' w') : Calls Try.prog 9 #[.int .i64 room, .slice A n c] w fun e w' => e = .returned (.bool true) ∧ Below w.heap.size w w' := by
  have hu50 := Try.underlying50
  have HG := Aside0.mk hG
  have HSc := Aside0.mk h
  have H80 := Aside0.mk h80
  have H6 := Aside0.mk h6
  have HLe := Aside0.mk h.len
  clear hG h h80 h6
  go_enter Try.func9, Try.ntmps9
  go_wp2_with (first
    | (go_at_call 10; refine (alive_Q w).mono ?_; rintro e w1 ⟨rfl, hb⟩; have HA := Aside0.mk hb; clear hb)
    | (go_at_call 23; refine (HG.out _ HA.out).mono ?_; rintro e w2 ⟨rfl, hb⟩; have HB := Aside0.mk (HA.out.trans (hb.mono HA.out.size)); clear hb HA HG)
    | (go_at_call 11; refine (New_S' w _ HB.out room).mono ?_; rintro e w3 ⟨ga, S0, rfl, hs, hx1, hx2⟩; have HN := Aside0.mk (And.intro hs hx1); have HB0 := HB; clear hs hx1 hx2 HB)
    | (go_at_call 24; refine (RNew_Q _ room).mono ?_; rintro e w4 ⟨rfl, hr, hb⟩; have T0 := Aside0.mk (Pair.new_ HB0.out HN.out.1 HN.out.2 hb hr); clear hr hb HN HB0))
  go_loopw [28] (fun i wr => ∃ (k : Nat) (Sa : Nat → Prop), k ≤ n ∧ i = .int .i64 (k : Int) ∧ Aside0 (Pair Sa w wr ga w3.heap.size (plays room (l.take k)) (rplays room (l.take k)) (k : Int))) (fun i _ => n - (intOf i).toNat)
  case atStart => exact ⟨0, _, Nat.zero_le _, rfl, T0⟩
  case round =>
    obtain ⟨k, Sa, hk, rfl, HT⟩ := hrel
    clear T0
    by_cases hlt : k < n
    · have kb : decide ((k : Int) < (n : Int)) = true := decide_eq_true (Int.ofNat_lt.2 hlt)
      obtain ⟨ad, A6, c6, x, hx1, hx2, rfl, t0, t1, t2, t3, t4, t5, t6, hC⟩ := HSc.out.at_ k hlt
      have y0 := pw_cell_below HT.out.bel t0
      have y1 := pw_cell_below HT.out.bel t1
      have y2 := pw_cell_below HT.out.bel t2
      have y3 := pw_cell_below HT.out.bel t3
      have y4 := pw_cell_below HT.out.bel t4
      have y5 := pw_cell_below HT.out.bel t5
      have y6 := pw_cell_below HT.out.bel t6
      have HX1 := Aside0.mk hx1
      have HX2 := Aside0.mk hx2
      have HC := Aside0.mk hC
      clear hx1 hx2 hC t0 t1 t2 t3 t4 t5 t6
      obtain ⟨d, hd⟩ : ∃ d, d = plays room (l.take k) := ⟨_, rfl⟩
      obtain ⟨m, hm⟩ : ∃ m, m = rplays room (l.take k) := ⟨_, rfl⟩
      rw [← hd, ← hm] at HT
      have HD := Aside0.mk ((plays_step (room := room) HX2.out).trans (by rw [← hd]))
      have HM := Aside0.mk ((rplays_step (room := room) HX2.out).trans (by rw [← hm]))
      clear hd hm
      obtain ⟨d', hd'⟩ : ∃ d', d' = d.play x := ⟨_, rfl⟩
      obtain ⟨m', hm'⟩ : ∃ m', m' = m.rplay x := ⟨_, rfl⟩
      rw [← hd'] at HD
      rw [← hm'] at HM
      obtain ⟨ln, hln⟩ : ∃ ln, ln = d'.names.length := ⟨_, rfl⟩
      obtain ⟨ac, hac⟩ : ∃ ac, ac = d'.acts := ⟨_, rfl⟩
      obtain ⟨off, hof⟩ : ∃ off, off = d'.down := ⟨_, rfl⟩
      obtain ⟨fr, hfr⟩ : ∃ fr, fr = d'.free := ⟨_, rfl⟩
      have HLn := Aside0.mk hln
      have HAc := Aside0.mk hac
      have HOf := Aside0.mk hof
      have HFr := Aside0.mk hfr
      have HDx := Aside0.mk hd'
      have HMx := Aside0.mk hm'
      clear hd' hm' hln hac hof hfr
      have HT0 := HT
      clear HT
      go_wp2_with (first
        | ((with_reducible refine gate_dst (N := 8) rfl ?_); refine box_event ?hg (N := 8) ?hd (cs := #[.int .i64 0, .string (⟨#[]⟩ : ByteArray), .string (⟨#[]⟩ : ByteArray), .int .i64 0, .int .i64 0, .bool false, .slice none 0 0]) (t := 50) ?hr ?_; (case hd => rfl); (case hg => rfl); (case hr => first | (go_simp; done) | (go_simp; rfl)); intro gb hg wq hbox hb; have BX := Aside0.mk (boxed (W := wr) hbox (Nat.le_of_eq hg.symm) hb (.int .i64 x.f0) (.string x.f1) (.string x.f2) (.int .i64 x.f3) (.int .i64 x.f4) (.bool x.f5) (.slice A6 x.f6.length c6)); have HG := Aside0.mk hg; have q0 : wq.cell? ⟨gb, 0, none⟩ = some (.int .i64 0) := (blk_cell hbox 0).trans rfl; have r0 := blk_frozen hbox 0; have q1 : wq.cell? ⟨gb, 1, none⟩ = some (.string (⟨#[]⟩ : ByteArray)) := (blk_cell hbox 1).trans rfl; have r1 := blk_frozen hbox 1; have q2 : wq.cell? ⟨gb, 2, none⟩ = some (.string (⟨#[]⟩ : ByteArray)) := (blk_cell hbox 2).trans rfl; have r2 := blk_frozen hbox 2; have q3 : wq.cell? ⟨gb, 3, none⟩ = some (.int .i64 0) := (blk_cell hbox 3).trans rfl; have r3 := blk_frozen hbox 3; have q4 : wq.cell? ⟨gb, 4, none⟩ = some (.int .i64 0) := (blk_cell hbox 4).trans rfl; have r4 := blk_frozen hbox 4; have q5 : wq.cell? ⟨gb, 5, none⟩ = some (.bool false) := (blk_cell hbox 5).trans rfl; have r5 := blk_frozen hbox 5; have q6 : wq.cell? ⟨gb, 6, none⟩ = some (.slice none 0 0) := (blk_cell hbox 6).trans rfl; have r6 := blk_frozen hbox 6; clear hbox hb hg))
      obtain ⟨Wx, hWx⟩ : ∃ W, W = (((((((wq.setCell ⟨gb, 0, none⟩ (.int .i64 x.f0)).setCell ⟨gb, 1, none⟩ (.string x.f1)).setCell ⟨gb, 2, none⟩ (.string x.f2)).setCell ⟨gb, 3, none⟩ (.int .i64 x.f3)).setCell ⟨gb, 4, none⟩ (.int .i64 x.f4)).setCell ⟨gb, 5, none⟩ (.bool x.f5)).setCell ⟨gb, 6, none⟩ (.slice A6 x.f6.length c6)) := ⟨_, rfl⟩
      rw [← hWx]
      rw [← hWx] at BX
      obtain ⟨hz, hbx⟩ := BX.out
      have PX := Aside0.mk (HT0.out.below (below_drew1 hbx))
      clear hWx BX HG HT0 hbx q0 r0 y0 q1 r1 y1 q2 r2 y2 q3 r3 y3 q4 r4 y4 q5 r5 y5 q6 r6 y6
      have q0 : Wx.cell? ⟨gb, 0, none⟩ = some (.int .i64 x.f0) := (blk_cell hz 0).trans rfl
      have q1 : Wx.cell? ⟨gb, 1, none⟩ = some (.string x.f1) := (blk_cell hz 1).trans rfl
      have q2 : Wx.cell? ⟨gb, 2, none⟩ = some (.string x.f2) := (blk_cell hz 2).trans rfl
      have q3 : Wx.cell? ⟨gb, 3, none⟩ = some (.int .i64 x.f3) := (blk_cell hz 3).trans rfl
      have q4 : Wx.cell? ⟨gb, 4, none⟩ = some (.int .i64 x.f4) := (blk_cell hz 4).trans rfl
      have q5 : Wx.cell? ⟨gb, 5, none⟩ = some (.bool x.f5) := (blk_cell hz 5).trans rfl
      have q6 : Wx.cell? ⟨gb, 6, none⟩ = some (.slice A6 x.f6.length c6) := (blk_cell hz 6).trans rfl
      clear hz
      refine start_ (n := 38) (S := fun w' => w'.cell? ⟨gb, 0, none⟩ = some (.int .i64 x.f0) ∧ w'.cell? ⟨gb, 1, none⟩ = some (.string x.f1) ∧ w'.cell? ⟨gb, 2, none⟩ = some (.string x.f2) ∧ w'.cell? ⟨gb, 3, none⟩ = some (.int .i64 x.f3) ∧ w'.cell? ⟨gb, 4, none⟩ = some (.int .i64 x.f4) ∧ w'.cell? ⟨gb, 5, none⟩ = some (.bool x.f5) ∧ w'.cell? ⟨gb, 6, none⟩ = some (.slice A6 x.f6.length c6)) (ds := [3, 4, 5, 6, 7, 8, 9, 10, 11, 12, 13, 14, 15, 16, 17, 18, 19, 20, 21, 22, 23, 24, 25, 26, 27, 28, 29, 30, 31, 32, 33, 34, 35, 36, 37]) #[false, false, false, false, false, false, false, false, false, false, false, false, false, false, false, false, false, false, false, false, false, false, false, false, false, false, false, false, false, false, false, false, false, false, false, false, false, false] (by kernel_rfl) rfl rfl ⟨q0, q1, q2, q3, q4, q5, q6⟩ (fun hHeld => ?_)
      refine pure_ (i := 0) (N := some 32) (v := ?_) (a' := ?_) #[true, false, false, false, false, false, false, false, false, false, false, false, false, false, false, false, false, false, false, false, false, false, false, false, false, false, false, false, false, false, false, false, false, false, false, false, false, false] rfl rfl (by kernel_rfl) (fun _ _ _ h => h) (Or.inl ⟨by rfl, ?_⟩) ?_ ?_
      rotate_left
      · intro w'
        go_simp
        with_reducible rfl
      rotate_left
      · simp only [Act.put, List.setIfInBounds_toArray, List.set_cons_zero, List.set_cons_succ, i64_w, i32_w]
        rfl
      refine pure_ (i := 1) (N := some 33) (v := ?_) (a' := ?_) #[true, true, false, false, false, false, false, false, false, false, false, false, false, false, false, false, false, false, false, false, false, false, false, false, false, false, false, false, false, false, false, false, false, false, false, false, false, false] rfl rfl (by kernel_rfl) (fun _ _ _ h => h) (Or.inl ⟨by rfl, ?_⟩) ?_ ?_
      rotate_left
      · intro w'
        go_simp
        with_reducible rfl
      rotate_left
      · simp only [Act.put, List.setIfInBounds_toArray, List.set_cons_zero, List.set_cons_succ, i64_w, i32_w]
        rfl
      refine take_ (i := 2) (N := some 34) (v := ?_) (a' := ?_) #[true, true, true, false, false, false, false, false, false, false, false, false, false, false, false, false, false, false, false, false, false, false, false, false, false, false, false, false, false, false, false, false, false, false, false, false, false, false] rfl rfl (by kernel_rfl) (fun _ _ _ h => h) (Or.inl ⟨by rfl, ?_⟩) hHeld ?_ ?_
      rotate_left
      · intro w' s0
        obtain ⟨y0, y1, y2, y3, y4, y5, y6⟩ := s0
        go_simp
        with_reducible rfl
      rotate_left
      · simp only [Act.put, List.setIfInBounds_toArray, List.set_cons_zero, List.set_cons_succ, i64_w, i32_w]
        rfl
      clear hHeld q0 q1 q2 q3 q4 q5 q6
      refine last_ (i := 3) (N := some 35) #[true, true, true, true, false, false, false, false, false, false, false, false, false, false, false, false, false, false, false, false, false, false, false, false, false, false, false, false, false, false, false, false, false, false, false, false, false, false] rfl rfl (by kernel_rfl) (by decide) (fun K hK => ?_)
      refine goes_ Try.func25 (by kernel_rfl) rfl #[.pointer (some ⟨ga, 0, none⟩), .pointer (some ⟨w3.heap.size, 0, none⟩), .agg #[.int .i64 x.f0, .string x.f1, .string x.f2, .int .i64 x.f3, .int .i64 x.f4, .bool x.f5, .slice A6 x.f6.length c6]] (by rfl) rfl rfl (by (try simp only [List.map_toArray, List.map_cons, List.map_nil]); first | done | rfl) ?_
      refine (Does_Q x PX.out (k_lt hlt H80.out) HC.out (H6.out x HX1.out) (HSc.out.byt x HX1.out) (HSc.out.n3 x HX1.out)).mono ?_
      rintro e wa ⟨rfl, S1, hp1, hst1⟩
      refine ⟨_, rfl, ?_⟩
      rw [← HDx.out, ← HMx.out] at hp1
      clear hst1 PX
      obtain ⟨cA, cO⟩ := hp1.cells_
      rw [← HAc.out] at cA
      rw [← HOf.out] at cO
      have HP1 := Aside0.mk hp1
      clear hp1
      refine hK.out _ _ ?_
      clear hK K
      refine norm_ (a' := ?_) ?_ ?_
      rotate_left
      · show Act.put _ (some 35) _ = _
        simp only [Act.put, List.setIfInBounds_toArray, List.set_cons_zero, List.set_cons_succ, i64_w, i32_w]
        rfl
      refine shift_ (fun w' => Below wa.heap.size wa w') [] (by kernel_rfl) ?_
      have hHeld := Below.refl wa.heap.size wa
      refine pure_ (i := 4) (N := some 36) (v := ?_) (a' := ?_) #[true, true, true, true, true, false, false, false, false, false, false, false, false, false, false, false, false, false, false, false, false, false, false, false, false, false, false, false, false, false, false, false, false, false, false, false, false, false] rfl rfl (by kernel_rfl) (fun _ _ _ h => h) (Or.inl ⟨by rfl, ?_⟩) ?_ ?_
      rotate_left
      · intro w'
        go_simp
        with_reducible rfl
      rotate_left
      · simp only [Act.put, List.setIfInBounds_toArray, List.set_cons_zero, List.set_cons_succ, i64_w, i32_w]
        rfl
      refine pure_ (i := 5) (N := some 37) (v := ?_) (a' := ?_) #[true, true, true, true, true, true, false, false, false, false, false, false, false, false, false, false, false, false, false, false, false, false, false, false, false, false, false, false, false, false, false, false, false, false, false, false, false, false] rfl rfl (by kernel_rfl) (fun _ _ _ h => h) (Or.inl ⟨by rfl, ?_⟩) ?_ ?_
      rotate_left
      · intro w'
        go_simp
        with_reducible rfl
      rotate_left
      · simp only [Act.put, List.setIfInBounds_toArray, List.set_cons_zero, List.set_cons_succ, i64_w, i32_w]
        rfl
      refine pure_ (i := 6) (N := some 38) (v := ?_) (a' := ?_) #[true, true, true, true, true, true, true, false, false, false, false, false, false, false, false, false, false, false, false, false, false, false, false, false, false, false, false, false, false, false, false, false, false, false, false, false, false, false] rfl rfl (by kernel_rfl) (fun _ _ _ h => h) (Or.inl ⟨by rfl, ?_⟩) ?_ ?_
      rotate_left
      · intro w'
        go_simp
        with_reducible rfl
      rotate_left
      · simp only [Act.put, List.setIfInBounds_toArray, List.set_cons_zero, List.set_cons_succ, i64_w, i32_w]
        rfl
      refine pure_ (i := 8) (N := some 40) (v := ?_) (a' := ?_) #[true, true, true, true, true, true, true, false, true, false, false, false, false, false, false, false, false, false, false, false, false, false, false, false, false, false, false, false, false, false, false, false, false, false, false, false, false, false] rfl rfl (by kernel_rfl) (fun _ _ _ h => h) (Or.inl ⟨by rfl, ?_⟩) ?_ ?_
      rotate_left
      · intro w'
        go_simp
        with_reducible rfl
      rotate_left
      · simp only [Act.put, List.setIfInBounds_toArray, List.set_cons_zero, List.set_cons_succ, i64_w, i32_w]
        rfl
      refine pure_ (i := 9) (N := some 41) (v := ?_) (a' := ?_) #[true, true, true, true, true, true, true, false, true, true, false, false, false, false, false, false, false, false, false, false, false, false, false, false, false, false, false, false, false, false, false, false, false, false, false, false, false, false] rfl rfl (by kernel_rfl) (fun _ _ _ h => h) (Or.inl ⟨by rfl, ?_⟩) ?_ ?_
      rotate_left
      · intro w'
        go_simp
        with_reducible rfl
      rotate_left
      · simp only [Act.put, List.setIfInBounds_toArray, List.set_cons_zero, List.set_cons_succ, i64_w, i32_w]
        rfl
      refine pure_ (i := 10) (N := some 42) (v := ?_) (a' := ?_) #[true, true, true, true, true, true, true, false, true, true, true, false, false, false, false, false, false, false, false, false, false, false, false, false, false, false, false, false, false, false, false, false, false, false, false, false, false, false] rfl rfl (by kernel_rfl) (fun _ _ _ h => h) (Or.inl ⟨by rfl, ?_⟩) ?_ ?_
      rotate_left
      · intro w'
        go_simp
        with_reducible rfl
      rotate_left
      · simp only [Act.put, List.setIfInBounds_toArray, List.set_cons_zero, List.set_cons_succ, i64_w, i32_w]
        rfl
      refine take_ (i := 11) (N := some 43) (v := ?_) (a' := ?_) #[true, true, true, true, true, true, true, false, true, true, true, true, false, false, false, false, false, false, false, false, false, false, false, false, false, false, false, false, false, false, false, false, false, false, false, false, false, false] rfl rfl (by kernel_rfl) (fun _ _ _ h => h) (Or.inl ⟨by rfl, ?_⟩) hHeld ?_ ?_
      rotate_left
      · intro w' s0
        have cA' := pw_cell_below s0 cA
        have cO' := pw_cell_below s0 cO
        go_simp
        with_reducible rfl
      rotate_left
      · simp only [Act.put, List.setIfInBounds_toArray, List.set_cons_zero, List.set_cons_succ, i64_w, i32_w]
        rfl
      refine one_ (i := 7) (N := some 39) #[true, true, true, true, true, true, true, true, true, true, true, true, false, false, false, false, false, false, false, false, false, false, false, false, false, false, false, false, false, false, false, false, false, false, false, false, false, false] rfl rfl (by kernel_rfl) (by decide) (fun K hK => ?_)
      refine goes_ Try.func26 (by kernel_rfl) rfl #[.pointer (some ⟨ga, 0, none⟩)] (by rfl) rfl rfl (by (try simp only [List.map_toArray, List.map_cons, List.map_nil]); first | done | rfl) ?_
      refine (HAc.out ▸ HP1.out.acts_).mono ?_
      rintro e wb ⟨rfl, hb⟩
      refine ⟨_, rfl, ?_⟩
      have HBwb := Aside0.mk hb
      have HPwb := Aside0.mk (HP1.out.below hb)
      clear hb HP1
      refine hK.out _ _ HBwb.out (fun hHeld => ?_)
      clear hK K
      refine norm_ (a' := ?_) ?_ ?_
      rotate_left
      · show Act.put _ (some 39) _ = _
        simp only [Act.put, List.setIfInBounds_toArray, List.set_cons_zero, List.set_cons_succ, i64_w, i32_w]
        rfl
      refine pure_ (i := 12) (N := some 44) (v := ?_) (a' := ?_) #[true, true, true, true, true, true, true, true, true, true, true, true, true, false, false, false, false, false, false, false, false, false, false, false, false, false, false, false, false, false, false, false, false, false, false, false, false, false] rfl rfl (by kernel_rfl) (fun _ _ _ h => h) (Or.inl ⟨by rfl, ?_⟩) ?_ ?_
      rotate_left
      · intro w'
        go_simp
        with_reducible rfl
      rotate_left
      · simp only [Act.put, List.setIfInBounds_toArray, List.set_cons_zero, List.set_cons_succ, i64_w, i32_w]
        rfl
      refine pure_ (i := 13) (N := some 45) (v := ?_) (a' := ?_) #[true, true, true, true, true, true, true, true, true, true, true, true, true, true, false, false, false, false, false, false, false, false, false, false, false, false, false, false, false, false, false, false, false, false, false, false, false, false] rfl rfl (by kernel_rfl) (fun _ _ _ h => h) (Or.inl ⟨by rfl, ?_⟩) ?_ ?_
      rotate_left
      · intro w'
        go_simp
        with_reducible rfl
      rotate_left
      · simp only [Act.put, List.setIfInBounds_toArray, List.set_cons_zero, List.set_cons_succ, i64_w, i32_w]
        rfl
      refine pure_ (i := 14) (N := some 46) (v := ?_) (a' := ?_) #[true, true, true, true, true, true, true, true, true, true, true, true, true, true, true, false, false, false, false, false, false, false, false, false, false, false, false, false, false, false, false, false, false, false, false, false, false, false] rfl rfl (by kernel_rfl) (fun _ _ _ h => h) (Or.inl ⟨by rfl, ?_⟩) ?_ ?_
      rotate_left
      · intro w'
        go_simp
        with_reducible rfl
      rotate_left
      · simp only [Act.put, List.setIfInBounds_toArray, List.set_cons_zero, List.set_cons_succ, i64_w, i32_w]
        rfl
      refine pure_ (i := 15) (N := some 47) (v := ?_) (a' := ?_) #[true, true, true, true, true, true, true, true, true, true, true, true, true, true, true, true, false, false, false, false, false, false, false, false, false, false, false, false, false, false, false, false, false, false, false, false, false, false] rfl rfl (by kernel_rfl) (fun _ _ _ h => h) (Or.inl ⟨by rfl, ?_⟩) ?_ ?_
      rotate_left
      · intro w'
        go_simp
        with_reducible rfl
      rotate_left
      · simp only [Act.put, List.setIfInBounds_toArray, List.set_cons_zero, List.set_cons_succ, i64_w, i32_w]
        rfl
      refine pure_ (i := 17) (N := some 49) (v := ?_) (a' := ?_) #[true, true, true, true, true, true, true, true, true, true, true, true, true, true, true, true, false, true, false, false, false, false, false, false, false, false, false, false, false, false, false, false, false, false, false, false, false, false] rfl rfl (by kernel_rfl) (fun _ _ _ h => h) (Or.inl ⟨by rfl, ?_⟩) ?_ ?_
      rotate_left
      · intro w'
        go_simp
        with_reducible rfl
      rotate_left
      · simp only [Act.put, List.setIfInBounds_toArray, List.set_cons_zero, List.set_cons_succ, i64_w, i32_w]
        rfl
      refine pure_ (i := 18) (N := some 50) (v := ?_) (a' := ?_) #[true, true, true, true, true, true, true, true, true, true, true, true, true, true, true, true, false, true, true, false, false, false, false, false, false, false, false, false, false, false, false, false, false, false, false, false, false, false] rfl rfl (by kernel_rfl) (fun _ _ _ h => h) (Or.inl ⟨by rfl, ?_⟩) ?_ ?_
      rotate_left
      · intro w'
        go_simp
        with_reducible rfl
      rotate_left
      · simp only [Act.put, List.setIfInBounds_toArray, List.set_cons_zero, List.set_cons_succ, i64_w, i32_w]
        rfl
      refine pure_ (i := 19) (N := some 51) (v := ?_) (a' := ?_) #[true, true, true, true, true, true, true, true, true, true, true, true, true, true, true, true, false, true, true, true, false, false, false, false, false, false, false, false, false, false, false, false, false, false, false, false, false, false] rfl rfl (by kernel_rfl) (fun _ _ _ h => h) (Or.inl ⟨by rfl, ?_⟩) ?_ ?_
      rotate_left
      · intro w'
        go_simp
        with_reducible rfl
      rotate_left
      · simp only [Act.put, List.setIfInBounds_toArray, List.set_cons_zero, List.set_cons_succ, i64_w, i32_w]
        rfl
      refine take_ (i := 20) (N := some 52) (v := ?_) (a' := ?_) #[true, true, true, true, true, true, true, true, true, true, true, true, true, true, true, true, false, true, true, true, true, false, false, false, false, false, false, false, false, false, false, false, false, false, false, false, false, false] rfl rfl (by kernel_rfl) (fun _ _ _ h => h) (Or.inl ⟨by rfl, ?_⟩) hHeld ?_ ?_
      rotate_left
      · intro w' s0
        have cA' := pw_cell_below s0 cA
        have cO' := pw_cell_below s0 cO
        go_simp
        with_reducible rfl
      rotate_left
      · simp only [Act.put, List.setIfInBounds_toArray, List.set_cons_zero, List.set_cons_succ, i64_w, i32_w]
        rfl
      refine one_ (i := 16) (N := some 48) #[true, true, true, true, true, true, true, true, true, true, true, true, true, true, true, true, true, true, true, true, true, false, false, false, false, false, false, false, false, false, false, false, false, false, false, false, false, false] rfl rfl (by kernel_rfl) (by decide) (fun K hK => ?_)
      refine goes_ Try.func28 (by kernel_rfl) rfl #[.pointer (some ⟨ga, 0, none⟩)] (by rfl) rfl rfl (by (try simp only [List.map_toArray, List.map_cons, List.map_nil]); first | done | rfl) ?_
      refine (HOf.out ▸ HPwb.out.down_).mono ?_
      rintro e wc ⟨rfl, hb⟩
      refine ⟨_, rfl, ?_⟩
      have HBwc := Aside0.mk (HBwb.out.trans (hb.mono HBwb.out.size))
      have HPwc := Aside0.mk (HPwb.out.below hb)
      clear hb HPwb
      refine hK.out _ _ HBwc.out (fun hHeld => ?_)
      clear hK K
      refine norm_ (a' := ?_) ?_ ?_
      rotate_left
      · show Act.put _ (some 48) _ = _
        simp only [Act.put, List.setIfInBounds_toArray, List.set_cons_zero, List.set_cons_succ, i64_w, i32_w]
        rfl
      refine pure_ (i := 21) (N := some 53) (v := ?_) (a' := ?_) #[true, true, true, true, true, true, true, true, true, true, true, true, true, true, true, true, true, true, true, true, true, true, false, false, false, false, false, false, false, false, false, false, false, false, false, false, false, false] rfl rfl (by kernel_rfl) (fun _ _ _ h => h) (Or.inl ⟨by rfl, ?_⟩) ?_ ?_
      rotate_left
      · intro w'
        go_simp
        with_reducible rfl
      rotate_left
      · simp only [Act.put, List.setIfInBounds_toArray, List.set_cons_zero, List.set_cons_succ, i64_w, i32_w]
        rfl
      refine pure_ (i := 22) (N := some 54) (v := ?_) (a' := ?_) #[true, true, true, true, true, true, true, true, true, true, true, true, true, true, true, true, true, true, true, true, true, true, true, false, false, false, false, false, false, false, false, false, false, false, false, false, false, false] rfl rfl (by kernel_rfl) (fun _ _ _ h => h) (Or.inl ⟨by rfl, ?_⟩) ?_ ?_
      rotate_left
      · intro w'
        go_simp
        with_reducible rfl
      rotate_left
      · simp only [Act.put, List.setIfInBounds_toArray, List.set_cons_zero, List.set_cons_succ, i64_w, i32_w]
        rfl
      refine pure_ (i := 23) (N := some 55) (v := ?_) (a' := ?_) #[true, true, true, true, true, true, true, true, true, true, true, true, true, true, true, true, true, true, true, true, true, true, true, true, false, false, false, false, false, false, false, false, false, false, false, false, false, false] rfl rfl (by kernel_rfl) (fun _ _ _ h => h) (Or.inl ⟨by rfl, ?_⟩) ?_ ?_
      rotate_left
      · intro w'
        go_simp
        with_reducible rfl
      rotate_left
      · simp only [Act.put, List.setIfInBounds_toArray, List.set_cons_zero, List.set_cons_succ, i64_w, i32_w]
        rfl
      refine pure_ (i := 24) (N := some 56) (v := ?_) (a' := ?_) #[true, true, true, true, true, true, true, true, true, true, true, true, true, true, true, true, true, true, true, true, true, true, true, true, true, false, false, false, false, false, false, false, false, false, false, false, false, false] rfl rfl (by kernel_rfl) (fun _ _ _ h => h) (Or.inl ⟨by rfl, ?_⟩) ?_ ?_
      rotate_left
      · intro w'
        go_simp
        with_reducible rfl
      rotate_left
      · simp only [Act.put, List.setIfInBounds_toArray, List.set_cons_zero, List.set_cons_succ, i64_w, i32_w]
        rfl
      refine pure_ (i := 26) (N := some 58) (v := ?_) (a' := ?_) #[true, true, true, true, true, true, true, true, true, true, true, true, true, true, true, true, true, true, true, true, true, true, true, true, true, false, true, false, false, false, false, false, false, false, false, false, false, false] rfl rfl (by kernel_rfl) (fun _ _ _ h => h) (Or.inl ⟨by rfl, ?_⟩) ?_ ?_
      rotate_left
      · intro w'
        go_simp
        with_reducible rfl
      rotate_left
      · simp only [Act.put, List.setIfInBounds_toArray, List.set_cons_zero, List.set_cons_succ, i64_w, i32_w]
        rfl
      refine one_ (i := 25) (N := some 57) #[true, true, true, true, true, true, true, true, true, true, true, true, true, true, true, true, true, true, true, true, true, true, true, true, true, true, true, false, false, false, false, false, false, false, false, false, false, false] rfl rfl (by kernel_rfl) (by decide) (fun K hK => ?_)
      refine goes_ Try.func22 (by kernel_rfl) rfl #[.pointer (some ⟨ga, 0, none⟩)] (by rfl) rfl rfl (by (try simp only [List.map_toArray, List.map_cons, List.map_nil]); first | done | rfl) ?_
      refine (HFr.out ▸ HPwc.out.free_).mono ?_
      rintro e wd ⟨rfl, hb⟩
      refine ⟨_, rfl, ?_⟩
      have HBwd := Aside0.mk (HBwc.out.trans (hb.mono HBwc.out.size))
      have HPwd := Aside0.mk (HPwc.out.below hb)
      clear hb HPwc
      refine hK.out _ _ HBwd.out (fun hHeld => ?_)
      clear hK K
      refine norm_ (a' := ?_) ?_ ?_
      rotate_left
      · show Act.put _ (some 57) _ = _
        simp only [Act.put, List.setIfInBounds_toArray, List.set_cons_zero, List.set_cons_succ, i64_w, i32_w]
        rfl
      refine one_ (i := 27) (N := some 59) #[true, true, true, true, true, true, true, true, true, true, true, true, true, true, true, true, true, true, true, true, true, true, true, true, true, true, true, true, false, false, false, false, false, false, false, false, false, false] rfl rfl (by kernel_rfl) (by decide) (fun K hK => ?_)
      refine goes_ Try.func29 (by kernel_rfl) rfl #[.pointer (some ⟨w3.heap.size, 0, none⟩)] (by rfl) rfl rfl (by (try simp only [List.map_toArray, List.map_cons, List.map_nil]); first | done | rfl) ?_
      refine (HFr.out ▸ HPwd.out.rfree_ (k_le hlt H80.out)).mono ?_
      rintro e we ⟨rfl, hb⟩
      refine ⟨_, rfl, ?_⟩
      have HBwe := Aside0.mk (HBwd.out.trans (hb.mono HBwd.out.size))
      have HPwe := Aside0.mk (HPwd.out.below hb)
      clear hb HPwd
      refine hK.out _ _ HBwe.out (fun hHeld => ?_)
      clear hK K
      refine norm_ (a' := ?_) ?_ ?_
      rotate_left
      · show Act.put _ (some 59) _ = _
        simp only [Act.put, List.setIfInBounds_toArray, List.set_cons_zero, List.set_cons_succ, i64_w, i32_w]
        rfl
      refine pure_ (i := 28) (N := some 60) (v := ?_) (a' := ?_) #[true, true, true, true, true, true, true, true, true, true, true, true, true, true, true, true, true, true, true, true, true, true, true, true, true, true, true, true, true, false, false, false, false, false, false, false, false, false] rfl rfl (by kernel_rfl) (fun _ _ _ h => h) (Or.inl ⟨by rfl, ?_⟩) ?_ ?_
      rotate_left
      · intro w'
        go_simp
        with_reducible rfl
      rotate_left
      · simp only [Act.put, List.setIfInBounds_toArray, List.set_cons_zero, List.set_cons_succ, i64_w, i32_w]
        rfl
      refine pure_ (i := 29) (N := some 61) (v := ?_) (a' := ?_) #[true, true, true, true, true, true, true, true, true, true, true, true, true, true, true, true, true, true, true, true, true, true, true, true, true, true, true, true, true, true, false, false, false, false, false, false, false, false] rfl rfl (by kernel_rfl) (fun _ _ _ h => h) (Or.inl ⟨by rfl, ?_⟩) ?_ ?_
      rotate_left
      · intro w'
        go_simp
        with_reducible rfl
      rotate_left
      · simp only [Act.put, List.setIfInBounds_toArray, List.set_cons_zero, List.set_cons_succ, i64_w, i32_w]
        rfl
      refine pure_ (i := 30) (N := some 62) (v := ?_) (a' := ?_) #[true, true, true, true, true, true, true, true, true, true, true, true, true, true, true, true, true, true, true, true, true, true, true, true, true, true, true, true, true, true, true, false, false, false, false, false, false, false] rfl rfl (by kernel_rfl) (fun _ _ _ h => h) (Or.inl ⟨by rfl, ?_⟩) ?_ ?_
      rotate_left
      · intro w'
        go_simp
        with_reducible rfl
      rotate_left
      · simp only [Act.put, List.setIfInBounds_toArray, List.set_cons_zero, List.set_cons_succ, i64_w, i32_w]
        rfl
      refine pure_ (i := 31) (N := some 63) (v := ?_) (a' := ?_) #[true, true, true, true, true, true, true, true, true, true, true, true, true, true, true, true, true, true, true, true, true, true, true, true, true, true, true, true, true, true, true, true, false, false, false, false, false, false] rfl rfl (by kernel_rfl) (fun _ _ _ h => h) (Or.inl ⟨by rfl, ?_⟩) ?_ ?_
      rotate_left
      · intro w'
        go_simp
        with_reducible rfl
      rotate_left
      · simp only [Act.put, List.setIfInBounds_toArray, List.set_cons_zero, List.set_cons_succ, i64_w, i32_w]
        rfl
      refine pure_ (i := 33) (N := some 65) (v := ?_) (a' := ?_) #[true, true, true, true, true, true, true, true, true, true, true, true, true, true, true, true, true, true, true, true, true, true, true, true, true, true, true, true, true, true, true, true, false, true, false, false, false, false] rfl rfl (by kernel_rfl) (fun _ _ _ h => h) (Or.inl ⟨by rfl, ?_⟩) ?_ ?_
      rotate_left
      · intro w'
        go_simp
        with_reducible rfl
      rotate_left
      · simp only [Act.put, List.setIfInBounds_toArray, List.set_cons_zero, List.set_cons_succ, i64_w, i32_w]
        rfl
      refine one_ (i := 32) (N := some 64) #[true, true, true, true, true, true, true, true, true, true, true, true, true, true, true, true, true, true, true, true, true, true, true, true, true, true, true, true, true, true, true, true, true, true, false, false, false, false] rfl rfl (by kernel_rfl) (by decide) (fun K hK => ?_)
      refine goes_ Try.func21 (by kernel_rfl) rfl #[.pointer (some ⟨ga, 0, none⟩)] (by rfl) rfl rfl (by (try simp only [List.map_toArray, List.map_cons, List.map_nil]); first | done | rfl) ?_
      refine (HPwe.out.names_ (k_le hlt H80.out) HLn.out).mono ?_
      rintro e wf ⟨A1, c1, rfl, hc, hC1, hb⟩
      refine ⟨_, rfl, ?_⟩
      have HBwf := Aside0.mk (HBwe.out.trans (hb.mono HBwe.out.size))
      have HPwf := Aside0.mk (HPwe.out.below hb)
      have HC1 := Aside0.mk hC1
      have Hc1 := Aside0.mk hc
      clear hC1 hc
      clear hb HPwe
      refine hK.out _ _ HBwf.out (fun hHeld => ?_)
      clear hK K
      refine norm_ (a' := ?_) ?_ ?_
      rotate_left
      · show Act.put _ (some 64) _ = _
        simp only [Act.put, List.setIfInBounds_toArray, List.set_cons_zero, List.set_cons_succ, i64_w, i32_w]
        rfl
      refine one_ (i := 34) (N := some 66) #[true, true, true, true, true, true, true, true, true, true, true, true, true, true, true, true, true, true, true, true, true, true, true, true, true, true, true, true, true, true, true, true, true, true, true, false, false, false] rfl rfl (by kernel_rfl) (by decide) (fun K hK => ?_)
      refine goes_ Try.func30 (by kernel_rfl) rfl #[.pointer (some ⟨w3.heap.size, 0, none⟩)] (by rfl) rfl rfl (by (try simp only [List.map_toArray, List.map_cons, List.map_nil]); first | done | rfl) ?_
      refine (HPwf.out.rnames_ (k_le hlt H80.out) HLn.out).mono ?_
      rintro e wg ⟨A2, c2, rfl, hc, hC2, hb⟩
      refine ⟨_, rfl, ?_⟩
      have HBwg := Aside0.mk (HBwf.out.trans (hb.mono HBwf.out.size))
      have HPwg := Aside0.mk (HPwf.out.below hb)
      have HC2 := Aside0.mk (And.intro (Kd.C_below HC1.out hb) hC2)
      have Hc2 := Aside0.mk hc
      clear hC2 hc HC1
      clear hb HPwf
      refine hK.out _ _ HBwg.out (fun hHeld => ?_)
      clear hK K
      refine norm_ (a' := ?_) ?_ ?_
      rotate_left
      · show Act.put _ (some 66) _ = _
        simp only [Act.put, List.setIfInBounds_toArray, List.set_cons_zero, List.set_cons_succ, i64_w, i32_w]
        rfl
      refine one_ (i := 35) (N := some 67) #[true, true, true, true, true, true, true, true, true, true, true, true, true, true, true, true, true, true, true, true, true, true, true, true, true, true, true, true, true, true, true, true, true, true, true, true, false, false] rfl rfl (by kernel_rfl) (by decide) (fun K hK => ?_)
      refine goes_ Try.func27 (by kernel_rfl) rfl #[.slice A1 ln c1, .slice A2 ln c2] (by rfl) rfl rfl (by (try simp only [List.map_toArray, List.map_cons, List.map_nil]); first | done | rfl) ?_
      refine (Same_Q HLn.out (HPwg.out.few (k_le hlt H80.out)) HC2.out.1 Hc1.out HC2.out.2 Hc2.out).mono ?_
      rintro e wh ⟨rfl, hb⟩
      refine ⟨_, rfl, ?_⟩
      have HBwh := Aside0.mk (HBwg.out.trans (hb.mono HBwg.out.size))
      have HPwh := Aside0.mk (HPwg.out.below hb)
      clear hb HPwg
      refine hK.out _ _ HBwh.out (fun hHeld => ?_)
      clear hK K
      refine norm_ (a' := ?_) ?_ ?_
      rotate_left
      · show Act.put _ (some 67) _ = _
        simp only [Act.put, List.setIfInBounds_toArray, List.set_cons_zero, List.set_cons_succ, i64_w, i32_w]
        rfl
      refine pure_ (i := 36) (N := some 68) (v := ?_) (a' := ?_) #[true, true, true, true, true, true, true, true, true, true, true, true, true, true, true, true, true, true, true, true, true, true, true, true, true, true, true, true, true, true, true, true, true, true, true, true, true, false] rfl rfl (by kernel_rfl) (fun _ _ _ h => h) (Or.inl ⟨by rfl, ?_⟩) ?_ ?_
      rotate_left
      · intro w'
        go_simp
        with_reducible rfl
      rotate_left
      · simp only [Act.put, List.setIfInBounds_toArray, List.set_cons_zero, List.set_cons_succ, i64_w, i32_w]
        rfl
      refine pure_ (i := 37) (N := some 69) (v := ?_) (a' := ?_) #[true, true, true, true, true, true, true, true, true, true, true, true, true, true, true, true, true, true, true, true, true, true, true, true, true, true, true, true, true, true, true, true, true, true, true, true, true, true] rfl rfl (by kernel_rfl) (fun _ _ _ h => h) (Or.inl ⟨by rfl, ?_⟩) ?_ ?_
      rotate_left
      · intro w'
        go_simp
        with_reducible rfl
      rotate_left
      · simp only [Act.put, List.setIfInBounds_toArray, List.set_cons_zero, List.set_cons_succ, i64_w, i32_w]
        rfl
      refine done_ (by kernel_rfl) ?_
      go_wp2
      go_roundw
      case rel => exact ⟨k + 1, _, hlt, step_val80 hlt H80.out, by rw [HD.out, HM.out]; exact HPwh⟩
      case measure => exact step_meas80 hlt H80.out
    · have kb : decide ((k : Int) < (n : Int)) = false := decide_eq_false (fun h => hlt (Int.ofNat_lt.1 h))
      have ek : k = n := Nat.le_antisymm hk (Nat.le_of_not_lt hlt)
      have HNd := Aside0.mk (plays_named room (l.take k))
      obtain ⟨d, hd⟩ : ∃ d, d = plays room (l.take k) := ⟨_, rfl⟩
      obtain ⟨m, hm⟩ : ∃ m, m = rplays room (l.take k) := ⟨_, rfl⟩
      rw [← hd, ← hm] at HT
      rw [← hd] at HNd
      clear hd hm
      obtain ⟨ln, hln⟩ : ∃ ln, ln = d.on.names.length := ⟨_, rfl⟩
      have HLn := Aside0.mk hln
      have HK := Aside0.mk (show (k : Int) + 1 ≤ 4096 by have := H80.out; omega)
      have HK2 := Aside0.mk (show (k : Int) + 1 < 4096 by have := H80.out; omega)
      have HFew := Aside0.mk (show ln ≤ 4096 from by rw [hln]; exact (show d.names.length ≤ 4096 from HT.out.few (by have := HK.out; omega)))
      clear hln
      go_wp2_with (first
        | (go_at_call 17; refine (HT.out.on_).mono ?_; rintro e wa ⟨rfl, hb1, j2, jf, S3, hp3, hst3⟩; have HP3 := Aside0.mk hp3; clear hb1 hp3 hst3 HT)
        | (go_at_call 30; refine (HP3.out.rnames_ HK.out HLn.out).mono ?_; rintro e wb ⟨A1, c1, rfl, hc, hC1, hb⟩; have HP4 := Aside0.mk (HP3.out.below hb); have HC1 := Aside0.mk hC1; clear hb hc hC1 HP3 j2 jf))
      go_loopw [79] (fun i wr => ∃ (j : Nat), j ≤ ln ∧ i = .int .i64 (j : Int) ∧ Aside0 (Below wb.heap.size wb wr)) (fun i _ => ln - (intOf i).toNat)
      case atStart => exact ⟨0, Nat.zero_le _, rfl, ⟨Below.refl _ _⟩⟩
      case round =>
        obtain ⟨j, hj, rfl, HBr⟩ := hrel
        by_cases hjl : j < ln
        · have jb : decide ((j : Int) < (ln : Int)) = true := decide_eq_true (Int.ofNat_lt.2 hjl)
          obtain ⟨s, a1, hs, rfl, y0⟩ := str_at HC1.out HLn.out hjl
          have x0 := pw_cell_below HBr.out y0
          have HR := Aside0.mk (read_named (d := d.on) HNd.out HP4.out.tw.once rfl hs)
          have HP5 := Aside0.mk (HP4.out.below HBr.out)
          clear hs y0
          obtain ⟨xs, hxs⟩ : ∃ xs, xs = (d.on.read s).1 := ⟨_, rfl⟩
          have HXs := Aside0.mk hxs
          obtain ⟨st, hst⟩ : ∃ st, st = strOfNums xs := ⟨_, rfl⟩
          have HSt := Aside0.mk hst
          clear hxs hst
          go_wp2_with (first
            | (go_at_call 13; refine (HP5.out.read_ (s := s)).mono ?_; rintro e wc ⟨A2, n2, c2, rfl, hC2, hb⟩; rw [← HXs.out] at hC2; rw [HR.out]; have HP6 := Aside0.mk (HP5.out.below hb); have HC2 := Aside0.mk hC2; have HB5 := Aside0.mk (HBr.out.trans (hb.mono HBr.out.size)); clear hb hC2 HP5 HBr)
            | (go_at_call 31; refine (HP6.out.rread_ (s := s) HK2.out).mono ?_; rintro e wd ⟨rfl, hb⟩; rw [← HXs.out, ← HSt.out]; have hcv := str_C (c := c2) (C_below HC2.out hb); rw [← HSt.out] at hcv; have HB6 := Aside0.mk (HB5.out.trans (hb.mono HB5.out.size)); clear hb HP6 HB5))
          go_roundw
          case rel => exact ⟨j + 1, hjl, step_val hjl HFew.out, HB6⟩
          case measure => exact step_meas hjl HFew.out
        · have jb : decide ((j : Int) < (ln : Int)) = false := decide_eq_false (fun h => hjl (Int.ofNat_lt.1 h))
          have B0 := Aside0.mk ((HP4.out.below HBr.out).bel)
          clear HP4 HBr
          go_wp2_with (first
            | (go_at_call 16; refine (off_nil _).mono ?_; rintro e v0 ⟨rfl, hb⟩; have B1 := Aside0.mk (B0.out.trans (hb.mono B0.out.size)); clear hb B0)
            | (go_at_call 17; refine (on_nil _).mono ?_; rintro e v1 ⟨rfl, hb⟩; have B2 := Aside0.mk (B1.out.trans (hb.mono B1.out.size)); clear hb B1)
            | (go_at_call 14; refine (arm_nil _).mono ?_; rintro e v2 ⟨rfl, hb⟩; have B3 := Aside0.mk (B2.out.trans (hb.mono B2.out.size)); clear hb B2)
            | (go_at_call 13; refine (read_nil _).mono ?_; rintro e v3 ⟨rfl, hb⟩; have B4 := Aside0.mk (B3.out.trans (hb.mono B3.out.size)); clear hb B3)
            | (go_at_call 12; refine (append_nil _).mono ?_; rintro e v4 ⟨rfl, hb⟩; have B5 := Aside0.mk (B4.out.trans (hb.mono B4.out.size)); clear hb B4)
            | (go_at_call 15; refine (sync_nil _).mono ?_; rintro e v5 ⟨rfl, hb⟩; have B6 := Aside0.mk (B5.out.trans (hb.mono B5.out.size)); clear hb B5)
            | (go_at_call 19; refine (cut_nil _).mono ?_; rintro e v6 ⟨rfl, hb⟩; have B7 := Aside0.mk (B6.out.trans (hb.mono B6.out.size)); clear hb B6)
            | (go_at_call 18; refine (rename_nil _).mono ?_; rintro e v7 ⟨rfl, hb⟩; have B8 := Aside0.mk (B7.out.trans (hb.mono B7.out.size)); clear hb B7)
            | (go_at_call 20; refine (remove_nil _).mono ?_; rintro e v8 ⟨rfl, hb⟩; have B9 := Aside0.mk (B8.out.trans (hb.mono B8.out.size)); clear hb B8)
            | (go_at_call 21; refine (names_nil _).mono ?_; rintro e v9 ⟨rfl, hb⟩; have B10 := Aside0.mk (B9.out.trans (hb.mono B9.out.size)); clear hb B9)
            | (go_at_call 22; refine (free_nil _).mono ?_; rintro e v10 ⟨rfl, hb⟩; have B11 := Aside0.mk (B10.out.trans (hb.mono B10.out.size)); clear hb B10)
            | (go_at_call 26; refine (acts_nil _).mono ?_; rintro e v11 ⟨rfl, hb⟩; have B12 := Aside0.mk (B11.out.trans (hb.mono B11.out.size)); clear hb B11)
            | (go_at_call 28; refine (down_nil _).mono ?_; rintro e v12 ⟨rfl, hb⟩; have B13 := Aside0.mk (B12.out.trans (hb.mono B12.out.size)); clear hb B12))
          go_ret
          exact ⟨by first | rfl | simp, B13.out⟩
theorem DDoes_Q (h : Script w A n c l) (room : Int) : Calls Try.prog 9 #[.int .i64 room, .slice A n c] w fun e w' => e = .returned (.bool true) ∧ Below w.heap.size w w' := by
  obtain ⟨r, h1, h2⟩ := great_Q h
  cases r with
  | true => exact ddoes_t h2
  | false => exact ddoes_f h (by rw [h.len]; exact (h1 rfl).1) (h1 rfl).2 h2
end
end Go.Proofs.Ytoedkemjidgbeaa.Dk
