/- A new device; a row's copy. -/
import Derived.Test.YtoedkemjidgbeaaDkC
namespace Go.Proofs.Ytoedkemjidgbeaa.Dk
open Go Go.RowKit Go.Proofs.YtoedkemjidgbeaaW.PrintWords Go.Proofs.YtoedkemjidgbeaaW.PrintLast Go.Proofs.YtoedkemjidgbeaaW.PrintMore Go.Proofs.YtoedkemjidgbeaaMy Go.Proofs.Ytoedkemjidgbeaa Go.Proofs.YtoedkemjidgbeaaPw Go.Proofs.Ytoedkemjidgbeaa.PAll
attribute [local go_sem] max2_int min2_int max_two min_two max_three min_three
set_option linter.unusedVariables false
set_option linter.unusedSimpArgs false
theorem new_at (w : World) (room : Int) : DevAt (fun k => w.heap.size ≤ k) ((w.alloc (.map #[] 0)).alloc (.cells (devCells w.heap.size (new room)) 61 (0, 0))) (w.heap.size + 1) (new room) := by
  have hs : (w.alloc (.map #[] 0)).heap.size = w.heap.size + 1 := by simp
  have h1 := (World.ownsMap_made w Try.prog 9 ptrR).alloc (.cells (devCells w.heap.size (new room)) 61 (0, 0))
  refine ⟨w.heap.size, 0, .map [], fun _ => 0, fun _ => .pointer none, ?_, Nat.le_succ _, Nat.le_refl _, h1, Int.le_refl _, MapRep.nil _, Cells.nil _ _ _ _⟩
  have := blk_new (w.alloc (.map #[] 0)) (.cells (devCells w.heap.size (new room)) 61 (0, 0))
  rw [hs] at this
  exact this
set_option maxHeartbeats 2000000 in
set_option maxRecDepth 100000 in
theorem New_Q (w : World) (room : Int) : Calls Try.prog 11 #[.int .i64 room] w fun e w' => ∃ g, e = .returned (.pointer (some ⟨g, 0, none⟩)) ∧ DevAt (fun k => w.heap.size ≤ k) w' g (new room) ∧ Below w.heap.size w w' := by
  have hd := new_at w room
  have hm := run_makeMap (P := Try.prog) 59 w
  by_cases c1 : room < 0
  · have e : new room = ⟨[], 0, false, 0, 0, 0, false⟩ := by
      unfold new
      rw [show min (max room 0) 1048576 = (0 : Int) by omega]
    rw [e] at hd ⊢
    have HD := Aside0.mk hd
    clear hd e
    go_enter Try.func11, Try.ntmps11
    go_wp2
    all_goals first | omega | skip
    go_ret
    exact ⟨_, rfl, HD.out, below_alloc (below_alloc (Below.refl _ _) _) _⟩
  · by_cases c2 : room ≤ 1048576
    · have e : new room = ⟨[], room, false, 0, 0, 0, false⟩ := by
        unfold new
        rw [show min (max room 0) 1048576 = room by omega]
      rw [e] at hd ⊢
      have HD := Aside0.mk hd
      clear hd e
      go_enter Try.func11, Try.ntmps11
      go_wp2
      all_goals first | omega | skip
      go_ret
      exact ⟨_, rfl, HD.out, below_alloc (below_alloc (Below.refl _ _) _) _⟩
    · have e : new room = ⟨[], 1048576, false, 0, 0, 0, false⟩ := by
        unfold new
        rw [show min (max room 0) 1048576 = (1048576 : Int) by omega]
      rw [e] at hd ⊢
      have HD := Aside0.mk hd
      clear hd e
      go_enter Try.func11, Try.ntmps11
      go_wp2
      all_goals first | omega | skip
      go_ret
      exact ⟨_, rfl, HD.out, below_alloc (below_alloc (Below.refl _ _) _) _⟩
set_option maxHeartbeats 2000000 in
set_option maxRecDepth 100000 in
theorem Clone_Q (w : World) (A : Option Addr) (n c : Nat) (xs : List Int) (h : bK.C w A n xs) (hn : A = none → n = 0 ∧ c = 0) (hl : n ≤ 4294967296) : Calls Try.prog 35 #[.slice A n c] w fun e w' => ∃ v1, e = .returned v1 ∧ bK.R 5 w' w.heap.size (fun _ => True) v1 xs ∧ Below w.heap.size w w' := by
  have hu := Try.underlying22
  cases A with
  | none =>
    obtain ⟨rfl, rfl⟩ := hn rfl
    have hx : xs = [] := List.eq_nil_of_length_eq_zero h.1
    subst hx
    have he : ∀ W, (binOp .eql 22 (.slice none 0 0) (.slice none 0 0)).run Try.prog W = .ok (.bool true) W := fun _ => by kernel_rfl
    clear h hn hl
    go_enter Try.func35, Try.ntmps35
    go_wp2
    go_ret
    exact ⟨_, rfl, Kd.R_nil _ _ _ _ _, Below.refl _ _⟩
  | some ad =>
    have he : ∀ W, (binOp .eql 22 (.slice (some ad) n c) (.slice none 0 0)).run Try.prog W = .ok (.bool false) W := fun _ => by kernel_rfl
    have hrow : bK.R 5 (w.alloc (.cells #[] 5)) w.heap.size (fun _ => True) (.slice (some ⟨w.heap.size, 0, none⟩) 0 0) [] :=
      Kd.R_of_own (World.ownsRow_lit w #[] 0 (Nat.le_refl _) (by decide) rfl) (fun _ _ => trivial)
    have H0 := Aside0.mk hrow
    have H := Aside0.mk (Kd.C_alloc h (.cells #[] 5))
    have HL := Aside0.mk hl
    clear h hn hl hrow
    go_enter Try.func35, Try.ntmps35
    go_wp2_with (first | ((with_reducible refine gate_builtin (b := .append) (xs := #[.tmp 5, .tmp 6]) rfl ?_); (try (refine gate_guard (by rfl) ?_; dsimp only)); at_builtin; refine Kd.R_append_row (Value.int .u8) 0 (w0 := w) w.heap.size rfl (.tmp 5) (.tmp 6) 22 5 (.int .u8 0) 1 rfl Try.underlying22 info5_ rfl (by decide) (.slice (some ⟨w.heap.size, 0, none⟩) 0 0) [] xs (some ad) n c (fun _ => True) rfl rfl (fun _ _ => trivial) H0.out H.out (below_alloc (Below.refl _ _) _) ?aS ?aL ?_; (case aS => exact (below_alloc (Below.refl _ _) _).size); (case aL => have := HL.out; simp only [List.length_nil]; omega); intro v1 w1 ho hb hg hat; have HO := Aside0.mk ho; have HB := Aside0.mk hb; clear ho hb hg hat))
    go_ret
    exact ⟨_, rfl, HO.out, HB.out⟩
end Go.Proofs.Ytoedkemjidgbeaa.Dk
