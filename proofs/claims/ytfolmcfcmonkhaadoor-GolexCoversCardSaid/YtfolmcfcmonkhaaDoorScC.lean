/- What the printed methods of the scanner are told of it (IsS36), and the contracts of put, bad and feed in their form. -/
import Derived.Test.YtfolmcfcmonkhaaDoorScB
import Derived.Test.YtfolmcfcmonkhaaDoorPAllx2
namespace Go.Proofs.YtfolmcfcmonkhaaDoor.PAll
open Go Go.RowKit Go.Proofs.YtfolmcfcmonkhaaDoorW.PrintWords Go.Proofs.YtfolmcfcmonkhaaDoorW.PrintLast Go.Proofs.YtfolmcfcmonkhaaDoorW.PrintMore Go.Proofs.YtfolmcfcmonkhaaDoorMy Go.Proofs.YtfolmcfcmonkhaaDoor
set_option linter.unusedVariables false
set_option linter.unusedSimpArgs false
def IsS36 (w0 W : World) (g : Nat) (s : ByteArray) (p : Int) (T N : List S27) : Prop := Sc w0.heap.size W g s p T N
section
variable {w0 W W1 : World} {g : Nat} {s : ByteArray} {p : Int} {T N : List S27}
theorem IsS36.below (h : IsS36 w0 W g s p T N) (hb : Below W.heap.size W W1) : IsS36 w0 W1 g s p T N := Sc.below h hb
theorem IsS36.alloc (h : IsS36 w0 W g s p T N) (o : Obj) : IsS36 w0 (W.alloc o) g s p T N := h.below (below_alloc (Below.refl _ _) o)
theorem IsS36.drew (h : IsS36 w0 W g s p T N) : IsS36 w0 W.drew g s p T N := h.below (below_drew1 (Below.refl _ _))
theorem IsS36.drewN (h : IsS36 w0 W g s p T N) (m : Nat) : IsS36 w0 (W.drewN m) g s p T N := h.below (pw_below_drewN (Below.refl _ _) m)
theorem IsS36.at_ {w' : World} {m : Nat} (hq : W.drewN m = w') (h : IsS36 w0 W g s p T N) : IsS36 w0 w' g s p T N := by subst hq; exact h.drewN m
theorem IsS36.set_1 (h : IsS36 w0 W g s p T N) (x : Int) : IsS36 w0 (W.setCell ⟨g, 1, none⟩ (.int .i64 x)) g s x T N := Sc.at_set h x
theorem IsS36.ge (h : IsS36 w0 W g s p T N) : w0.heap.size ≤ g := by
  obtain ⟨tv, nv, h0, h1, h2, h3⟩ := h
  exact h1
theorem IsS36.cell_0 (h : IsS36 w0 W g s p T N) : W.cell? ⟨g, 0, none⟩ = some (.string s) := by
  obtain ⟨tv, nv, h0, h1, h2, h3⟩ := h
  exact (blk_cell h0 0).trans rfl
theorem IsS36.cell_1 (h : IsS36 w0 W g s p T N) : W.cell? ⟨g, 1, none⟩ = some (.int .i64 p) := by
  obtain ⟨tv, nv, h0, h1, h2, h3⟩ := h
  exact (blk_cell h0 1).trans rfl
variable {tv nv : Value}
theorem cellS36_0 (h : W.heap[g]? = some (.cells #[.string s, .int .i64 p, tv, nv] 36 (0, 0))) : W.cell? ⟨g, 0, none⟩ = some (.string s) := (blk_cell h 0).trans rfl
theorem cellS36_1 (h : W.heap[g]? = some (.cells #[.string s, .int .i64 p, tv, nv] 36 (0, 0))) : W.cell? ⟨g, 1, none⟩ = some (.int .i64 p) := (blk_cell h 1).trans rfl
theorem cellS36_2 (h : W.heap[g]? = some (.cells #[.string s, .int .i64 p, tv, nv] 36 (0, 0))) : W.cell? ⟨g, 2, none⟩ = some tv := (blk_cell h 2).trans rfl
theorem cellS36_3 (h : W.heap[g]? = some (.cells #[.string s, .int .i64 p, tv, nv] 36 (0, 0))) : W.cell? ⟨g, 3, none⟩ = some nv := (blk_cell h 3).trans rfl
end
/-- Nothing: all that a caller keeps is the state and what is elder than it. -/
def Kq (w w' : World) (g : Nat) (r : Option Nat) : Prop := True
section
variable {w W W2 : World} {g : Nat} {r : Option Nat}
theorem Kq.refl (w : World) (g : Nat) (r : Option Nat) : Kq w w g r := trivial
theorem Kq.of_below (h : Below w.heap.size w W) (g : Nat) (r : Option Nat) : Kq w W g r := trivial
theorem Kq.set_ (h : Kq w W g r) (j : Nat) (u : Value) : Kq w (W.setCell ⟨g, j, none⟩ u) g r := trivial
theorem Kq.trans {r1 : Option Nat} (h : Kq w W g r) (k : Kq W W2 g r1) (hr : r1 = r ∨ True) : Kq w W2 g r := trivial
theorem kq_drewN (h : Kq w W g r) (m : Nat) : Kq w (W.drewN m) g r := trivial
theorem kq_drew (h : Kq w W g r) : Kq w W.drew g r := trivial
theorem kq_alloc (h : Kq w W g r) (o : Obj) : Kq w (W.alloc o) g r := trivial
end
def strings_IndexByte.f (a0 : ByteArray) (a1 : Int) : Option (Int) := some (Lib.indexByte a0.data.toList a1.toNat.toUInt8 : Int)
theorem strings_IndexByte.calls (a0 : ByteArray) (a1 : Int) (r : Int) (w : World) (h : strings_IndexByte.f a0 a1 = some r) :
    Calls Tryd.prog 53 #[.string a0, .int .u8 a1] w fun e w' => e = .returned (.int .i64 r) ∧ Drawn0 w w' := by
  obtain rfl := Option.some.inj h
  refine (Tryd.strings_IndexByte a0 a1 w).mono ?_
  rintro e w' ⟨rfl, rfl⟩
  exact ⟨rfl, Drawn0.refl _⟩
def golex_scanner_bad.f (s0_0 : ByteArray) (s0_1 : Int) (s0_2 : List (S27)) (s0_3 : List (S27)) (a1 : Int) : Option (Bool × ByteArray × Int × (List (S27)) × (List (S27))) := if s0_2.length < 4398046511104 then some (false, s0_0, s0_1, s0_2 ++ [(⟨7, (⟨#[]⟩ : ByteArray), a1⟩ : S27)], s0_3) else none
theorem golex_scanner_bad.calls (g : Nat) (s0_0 : ByteArray) (s0_1 : Int) (s0_2 : List (S27)) (s0_3 : List (S27)) (a1 : Int) (r1 : Bool) (r2 : ByteArray) (r3 : Int) (r4 r5 : List (S27)) (w0 w : World) (hT : Tabs w0) (hI : IsS36 w0 w g s0_0 s0_1 s0_2 s0_3) (hB : Below w0.heap.size w0 w) (h : golex_scanner_bad.f s0_0 s0_1 s0_2 s0_3 a1 = some (r1, r2, r3, r4, r5)) :
    Calls Tryd.prog 39 #[.pointer (some ⟨g, 0, none⟩), .int .i64 a1] w fun e w' => e = .returned (.bool r1) ∧ IsS36 w0 w' g r2 r3 r4 r5 ∧ Below w0.heap.size w0 w' ∧ Kq w w' g none := by
  unfold golex_scanner_bad.f at h
  split at h
  · next hl =>
    simp only [Option.some.injEq, Prod.mk.injEq] at h
    obtain ⟨rfl, rfl, rfl, rfl, rfl⟩ := h
    refine (scanner_bad.calls g s0_0 s0_1 s0_2 s0_3 a1 w0 w hI hB hl).mono ?_
    rintro e w' ⟨h1, h2, h3⟩
    exact ⟨h1, h2, h3, trivial⟩
  · exact absurd h (by simp)
def golex_scanner_put.f (s0_0 : ByteArray) (s0_1 : Int) (s0_2 : List (S27)) (s0_3 : List (S27)) (a1 : Int) (a2 : Int) (a3 : Int) : Option (ByteArray × Int × (List (S27)) × (List (S27))) := if 0 ≤ a2 ∧ a2 ≤ a3 ∧ a3 ≤ (s0_0.size : Int) ∧ s0_2.length < 4398046511104 then some (s0_0, a3, s0_2 ++ [(⟨a1, s0_0.extract a2.toNat a3.toNat, a2⟩ : S27)], s0_3) else none
theorem golex_scanner_put.calls (g : Nat) (s0_0 : ByteArray) (s0_1 : Int) (s0_2 : List (S27)) (s0_3 : List (S27)) (a1 a2 a3 : Int) (r1 : ByteArray) (r2 : Int) (r3 r4 : List (S27)) (w0 w : World) (hT : Tabs w0) (hI : IsS36 w0 w g s0_0 s0_1 s0_2 s0_3) (hB : Below w0.heap.size w0 w) (h : golex_scanner_put.f s0_0 s0_1 s0_2 s0_3 a1 a2 a3 = some (r1, r2, r3, r4)) :
    Calls Tryd.prog 38 #[.pointer (some ⟨g, 0, none⟩), .int .i64 a1, .int .i64 a2, .int .i64 a3] w fun e w' => e = .returned (.tuple #[]) ∧ IsS36 w0 w' g r1 r2 r3 r4 ∧ Below w0.heap.size w0 w' ∧ Kq w w' g none := by
  unfold golex_scanner_put.f at h
  split at h
  · next hl =>
    simp only [Option.some.injEq, Prod.mk.injEq] at h
    obtain ⟨rfl, rfl, rfl, rfl⟩ := h
    refine (scanner_put.calls g s0_0 s0_1 s0_2 s0_3 a1 a2 a3 w0 w hI hB hl.2.2.2 hl.1 hl.2.1 hl.2.2.1).mono ?_
    rintro e w' ⟨h1, h2, h3⟩
    exact ⟨h1, h2, h3, trivial⟩
  · exact absurd h (by simp)
def golex_scanner_feed.f (s0_0 : ByteArray) (s0_1 : Int) (s0_2 : List (S27)) (s0_3 : List (S27)) (a1 : Int) : Option (ByteArray × Int × (List (S27)) × (List (S27))) := if s0_2.length < 4398046511104 then some (s0_0, s0_1, feedT s0_2 a1, s0_3) else none
theorem golex_scanner_feed.calls (g : Nat) (s0_0 : ByteArray) (s0_1 : Int) (s0_2 : List (S27)) (s0_3 : List (S27)) (a1 : Int) (r1 : ByteArray) (r2 : Int) (r3 r4 : List (S27)) (w0 w : World) (hT : Tabs w0) (hI : IsS36 w0 w g s0_0 s0_1 s0_2 s0_3) (hB : Below w0.heap.size w0 w) (h : golex_scanner_feed.f s0_0 s0_1 s0_2 s0_3 a1 = some (r1, r2, r3, r4)) :
    Calls Tryd.prog 37 #[.pointer (some ⟨g, 0, none⟩), .int .i64 a1] w fun e w' => e = .returned (.tuple #[]) ∧ IsS36 w0 w' g r1 r2 r3 r4 ∧ Below w0.heap.size w0 w' ∧ Kq w w' g none := by
  unfold golex_scanner_feed.f at h
  split at h
  · next hl =>
    simp only [Option.some.injEq, Prod.mk.injEq] at h
    obtain ⟨rfl, rfl, rfl, rfl⟩ := h
    refine (scanner_feed.calls g s0_0 s0_1 s0_2 s0_3 a1 w0 w (hT.below hB) hI hB hl).mono ?_
    rintro e w' ⟨h1, h2, h3⟩
    exact ⟨h1, h2, h3, trivial⟩
  · exact absurd h (by simp)
end Go.Proofs.YtfolmcfcmonkhaaDoor.PAll
