/- The parser of expr in memory: what it holds, told as a text, a place, a list and a number. -/
import Derived.Test.YtcpemjolabofnaaPAllx0
namespace Go.Proofs.Ytcpemjolabofnaa.PAll
open Go Go.RowKit Go.Proofs.YtcpemjolabofnaaW.PrintWords Go.Proofs.YtcpemjolabofnaaW.PrintLast Go.Proofs.YtcpemjolabofnaaW.PrintMore Go.Proofs.YtcpemjolabofnaaMy Go.Proofs.Ytcpemjolabofnaa
set_option linter.unusedVariables false
set_option linter.unusedSimpArgs false
/-- The parser at block g: its text, its place, its parts (in a row of the call's own), how deep it is. -/
def IsS42 (w0 W : World) (g : Nat) (s : ByteArray) (p : Int) (O : List ByteArray) (d : Int) : Prop :=
  ∃ ov, W.heap[g]? = some (.cells #[.string s, .int .i64 p, ov, .int .i64 d] 42 (0, 0)) ∧ w0.heap.size ≤ g ∧ Kd.R Kd.string 9 W w0.heap.size (fun _ => True) ov O
section
variable {w0 W W1 : World} {g : Nat} {s : ByteArray} {p : Int} {O : List ByteArray} {d : Int}
theorem IsS42.below (h : IsS42 w0 W g s p O d) (hb : Below W.heap.size W W1) : IsS42 w0 W1 g s p O d := by
  obtain ⟨ov, h0, h1, h2⟩ := h
  exact ⟨ov, blk_below h0 hb, h1, Kd.R_below h2 hb⟩
theorem IsS42.alloc (h : IsS42 w0 W g s p O d) (o : Obj) : IsS42 w0 (W.alloc o) g s p O d := h.below (below_alloc (Below.refl _ _) o)
theorem IsS42.drew (h : IsS42 w0 W g s p O d) : IsS42 w0 W.drew g s p O d := h.below (below_drew1 (Below.refl _ _))
theorem IsS42.drewN (h : IsS42 w0 W g s p O d) (m : Nat) : IsS42 w0 (W.drewN m) g s p O d := h.below (pw_below_drewN (Below.refl _ _) m)
theorem IsS42.at_ {w' : World} {m : Nat} (hq : W.drewN m = w') (h : IsS42 w0 W g s p O d) : IsS42 w0 w' g s p O d := by subst hq; exact h.drewN m
theorem IsS42.rows_set {v : Value} {ok : Nat → Prop} {xs : List ByteArray} {cs : Array Value} {B : Nat} (h0 : W.heap[g]? = some (.cells cs 42 (0, 0))) (h : Kd.R Kd.string 9 W B ok v xs) (j : Nat) (u : Value) : Kd.R Kd.string 9 (W.setCell ⟨g, j, none⟩ u) B ok v xs :=
  Kd.R_set h h0 (by intro q hq; simp [Kd.string, Kd.scalar] at hq; omega) j u
theorem IsS42.set_1 (h : IsS42 w0 W g s p O d) (x : Int) : IsS42 w0 (W.setCell ⟨g, 1, none⟩ (.int .i64 x)) g s x O d := by
  obtain ⟨ov, h0, h1, h2⟩ := h
  exact ⟨ov, blk_set h0 1 _, h1, IsS42.rows_set h0 h2 1 _⟩
theorem IsS42.set_3 (h : IsS42 w0 W g s p O d) (x : Int) : IsS42 w0 (W.setCell ⟨g, 3, none⟩ (.int .i64 x)) g s p O x := by
  obtain ⟨ov, h0, h1, h2⟩ := h
  exact ⟨ov, blk_set h0 3 _, h1, IsS42.rows_set h0 h2 3 _⟩
theorem IsS42.ge (h : IsS42 w0 W g s p O d) : w0.heap.size ≤ g := by
  obtain ⟨ov, h0, h1, h2⟩ := h
  exact h1
theorem IsS42.cell_0 (h : IsS42 w0 W g s p O d) : W.cell? ⟨g, 0, none⟩ = some (.string s) := by
  obtain ⟨ov, h0, h1, h2⟩ := h
  exact (blk_cell h0 0).trans rfl
theorem IsS42.cell_1 (h : IsS42 w0 W g s p O d) : W.cell? ⟨g, 1, none⟩ = some (.int .i64 p) := by
  obtain ⟨ov, h0, h1, h2⟩ := h
  exact (blk_cell h0 1).trans rfl
theorem IsS42.cell_3 (h : IsS42 w0 W g s p O d) : W.cell? ⟨g, 3, none⟩ = some (.int .i64 d) := by
  obtain ⟨ov, h0, h1, h2⟩ := h
  exact (blk_cell h0 3).trans rfl
variable {ov : Value}
theorem cellS42_0 (h : W.heap[g]? = some (.cells #[.string s, .int .i64 p, ov, .int .i64 d] 42 (0, 0))) : W.cell? ⟨g, 0, none⟩ = some (.string s) := (blk_cell h 0).trans rfl
theorem cellS42_1 (h : W.heap[g]? = some (.cells #[.string s, .int .i64 p, ov, .int .i64 d] 42 (0, 0))) : W.cell? ⟨g, 1, none⟩ = some (.int .i64 p) := (blk_cell h 1).trans rfl
theorem cellS42_2 (h : W.heap[g]? = some (.cells #[.string s, .int .i64 p, ov, .int .i64 d] 42 (0, 0))) : W.cell? ⟨g, 2, none⟩ = some ov := (blk_cell h 2).trans rfl
theorem cellS42_3 (h : W.heap[g]? = some (.cells #[.string s, .int .i64 p, ov, .int .i64 d] 42 (0, 0))) : W.cell? ⟨g, 3, none⟩ = some (.int .i64 d) := (blk_cell h 3).trans rfl
/-- The parts' row lies in no block of the parser's own. -/
theorem IsS42.ne {ok : Nat → Prop} {xs : List ByteArray} {cs : Array Value} {B : Nat} (h0 : W.heap[g]? = some (.cells cs 42 (0, 0))) (h : Kd.R Kd.string 9 W B ok ov xs) : some g ≠ ov.ownBlock := by
  intro e
  obtain ⟨inner, ho⟩ := Kd.R_own h
  obtain ⟨cells, hc⟩ := own_typed ho g e.symm
  rw [h0] at hc
  simp at hc
/-- A part is put behind the parts, and stored. -/
theorem IsS42.put {v1 : Value} {x : ByteArray} (hg0 : w0.heap.size ≤ g) (h0 : W.heap[g]? = some (.cells #[.string s, .int .i64 p, ov, .int .i64 d] 42 (0, 0))) (h2 : Kd.R Kd.string 9 W w0.heap.size (fun _ => True) ov O)
    (ho : Kd.R Kd.string 9 W1 w0.heap.size (fun _ => True) v1 (O ++ [x])) (hg : W.grownBy W1 ov.ownBlock) : IsS42 w0 (W1.setCell ⟨g, 2, none⟩ v1) g s p (O ++ [x]) d := by
  have b1 := blk_grown h0 hg (IsS42.ne h0 h2)
  exact ⟨v1, blk_set b1 2 v1, hg0, IsS42.rows_set b1 ho 2 v1⟩
end
/-- Nothing: all that a caller keeps is the state and what is elder than it. -/
def Kq (w w' : World) (g : Nat) (r : Option Nat) : Prop := True
section
variable {w W W2 : World} {g : Nat} {r : Option Nat}
theorem Kq.refl (w : World) (g : Nat) (r : Option Nat) : Kq w w g r := trivial
theorem Kq.of_below (h : Below w.heap.size w W) (g : Nat) (r : Option Nat) : Kq w W g r := trivial
theorem Kq.set_ (h : Kq w W g r) (j : Nat) (u : Value) : Kq w (W.setCell ⟨g, j, none⟩ u) g r := trivial
theorem Kq.trans {r1 : Option Nat} (h : Kq w W g r) (k : Kq W W2 g r1) (hr : r1 = r ∨ True) : Kq w W2 g r := trivial
theorem kq_drewN (h : Kq w W g r) (m : Nat) : Kq w (W.drewN m) g r := trivial
theorem kq_drew (h : Kq w W g r) : Kq w W.drew g r := trivial
theorem kq_alloc (h : Kq w W g r) (o : Obj) : Kq w (W.alloc o) g r := trivial
end
end Go.Proofs.Ytcpemjolabofnaa.PAll
