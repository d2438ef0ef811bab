/- The power goes: the walk. -/
import Derived.Test.YtoedkemjidgbeaaDkF
namespace Go.Proofs.Ytoedkemjidgbeaa.Dk
open Go Go.RowKit Go.Proofs.YtoedkemjidgbeaaW.PrintWords Go.Proofs.YtoedkemjidgbeaaW.PrintLast Go.Proofs.YtoedkemjidgbeaaW.PrintMore Go.Proofs.YtoedkemjidgbeaaMy Go.Proofs.Ytoedkemjidgbeaa Go.Proofs.YtoedkemjidgbeaaPw Go.Proofs.Ytoedkemjidgbeaa.PAll
attribute [local go_sem] max2_m min2_m max_two min_two
set_option linter.unusedVariables false
set_option linter.unusedSimpArgs false
abbrev Rg (W : World) (mb r n : Nat) (D : DataW Unit) (left : Lit → Bool) (cnt : Nat) : Prop := W.ranges Try.prog 9 ptrR mb r n D left cnt
theorem Rg.move {W W1 : World} {mb r n : Nat} {D : DataW Unit} {left : Lit → Bool} {cnt : Nat} (h : Rg W mb r n D left cnt) (h1 : W1.heap[mb]? = W.heap[mb]?) (h2 : W1.heap[r]? = W.heap[r]?) : Rg W1 mb r n D left cnt := by
  obtain ⟨es, clock, since, seen, c0, hb, F, hs, hD, hr, rest⟩ := h
  exact ⟨es, clock, since, seen, c0, h1.trans hb, F, hs, hD, h2.trans hr, rest⟩
theorem Rg.iter {W : World} {mb r n : Nat} {D : DataW Unit} {left : Lit → Bool} {cnt : Nat} (h : Rg W mb r n D left cnt) : ∃ a b c e, W.heap[r]? = some (.mapIter a b c e) := by
  obtain ⟨es, clock, since, seen, c0, hb, F, hs, hD, hr, rest⟩ := h
  exact ⟨_, _, _, _, hr⟩
theorem Cells.notIter {S : Nat → Prop} {W : World} {l : List Fl} {bl : ByteArray → Nat} {vl : ByteArray → Value} (h : Cells S W l bl vl) {m : Nat} (hm : ∃ a b c e, W.heap[m]? = some (.mapIter a b c e)) {f : Fl} (hf : f ∈ l) {k : Nat} (hk : k = bl f.name ∨ (vl f.name).ownBlock = some k) : k ≠ m := by
  obtain ⟨_, _, _, _, hg⟩ := hm
  obtain ⟨a, b, c, d⟩ := h.2.1 f hf
  rintro rfl
  rcases hk with rfl | e
  · rw [hg] at a
    cases a
  · obtain ⟨inner, ho⟩ := Kd.R_own c
    obtain ⟨cells, hc⟩ := own_typed ho k e
    rw [hg] at hc
    cases hc
section
variable {S : Nat → Prop} {w : World} {g : Nat} {d : DS} {mb n : Nat} {D : DataW Unit} {bl : ByteArray → Nat} {vl : ByteArray → Value}
/-- Where the loop stands. -/
structure OffAt (S : Nat → Prop) (w : World) (g : Nat) (d : DS) (mb n : Nat) (D : DataW Unit) (bl : ByteArray → Nat) (keep : Int) (torn : Bool) (left : Lit → Bool) (cnt : Nat) (todo : List Fl) (vl : ByteArray → Value) (W : World) : Prop where
  rg : Rg W mb w.heap.size n D left cnt
  rest : Rest d.files D left todo
  cells : Cells (Grow S w) W (offL keep torn d.files todo) bl vl
  blk : W.heap[g]? = some (.cells (devCells mb d) 61 (0, 0))
  only : Only S w W
/-- A round: the file that has come is written anew. -/
theorem OffAt.round {keep : Int} {torn : Bool} {left' : Lit → Bool} {cnt' : Nat} {todo : List Fl} {vl1 : ByteArray → Value} {w1 W2 W4 : World} {v1 : Value} {f : Fl}
    (hw : DevW S w g d mb n D bl vl) (hC : Cells (Grow S w) w1 (offL keep torn d.files todo) bl vl1) (hrg : Rg w1 mb w.heap.size n D left' cnt') (hR : Rest d.files D left' (delF todo f.name)) (hO : Only S w w1) (hblk : w1.heap[g]? = some (.cells (devCells mb d) 61 (0, 0)))
    (hf : f ∈ todo) (hfl : f ∈ d.files) {xs : List Int} (hb : Below w1.heap.size w1 W2) (hr : bK.R 5 W2 w1.heap.size (fun _ => True) v1 xs) (h4 : Only (fun k => k = bl f.name ∨ v1.ownBlock = some k) W2 W4)
    (hb4 : W4.heap[bl f.name]? = some (.cells #[v1, .int .i64 ((loseB keep torn f).length : Int)] 64 (0, 0))) (hr4 : bK.R 5 W4 0 (fun _ => True) v1 (loseB keep torn f)) :
    ∃ vl2, OffAt S w g d mb n D bl keep torn left' cnt' (delF todo f.name) vl2 W4 := by
  have hf1 := offL_mem (keep := keep) (torn := torn) hf hfl
  have hge : ∀ k, v1.ownBlock = some k → w1.heap.size ≤ k := fun k hk => by
    rcases Kd.R_base2 hr with h0 | ⟨k2, h2, h3⟩
    · rw [hk] at h0; cases h0
    · rw [hk] at h2; cases h2; exact h3
  have hkeep : ∀ k, k < w1.heap.size → k ≠ bl f.name → W4.heap[k]? = w1.heap[k]? := fun k hk hne => by
    rw [h4.block k (Nat.lt_of_lt_of_le hk hb.size) (fun h => h.elim hne (fun h => by have := hge k h; omega)), hb.block k hk]
  refine ⟨upd vl1 f.name v1, ?_, hR, ?_, ?_, ?_⟩
  · exact hrg.move (hkeep mb hrg.owns.lt (fun e => Owns.ne hrg.owns (hC.2.1 f hf1).1 e)) (hkeep _ hrg.lt (fun e => hC.notIter hrg.iter hf1 (.inl rfl) e.symm))
  · have := hC.cloned (S1 := Grow S w) hf1 (fun _ h => h) (fun k hk => .inr (Nat.le_trans hO.size hk)) hb hr (ys := loseB keep torn f) h4 hb4 hr4
    rw [← offL_step hw.cells.1 hf hfl]
    exact this
  · rw [hkeep g (blk_lt hblk) (fun e => hC.other hblk (by decide) (by decide) hf1 (.inl rfl) e.symm)]
    exact hblk
  · refine (hO.below hb).thenN h4 (fun k hk => ?_)
    rcases hk with rfl | hk
    · exact hC.both_S hf1 (.inl rfl)
    · have := hge k hk
      have := hO.size
      exact .inr (by omega)
/-- A round in which no byte is turned. -/
theorem OffAt.round0 {keep : Int} {torn : Bool} {left' : Lit → Bool} {cnt' : Nat} {todo : List Fl} {vl1 : ByteArray → Value} {w1 W2 : World} {v1 u sv : Value} {f : Fl}
    (hw : DevW S w g d mb n D bl vl) (hC : Cells (Grow S w) w1 (offL keep torn d.files todo) bl vl1) (hrg : Rg w1 mb w.heap.size n D left' cnt') (hR : Rest d.files D left' (delF todo f.name)) (hO : Only S w w1) (hblk : w1.heap[g]? = some (.cells (devCells mb d) 61 (0, 0)))
    (hf : f ∈ todo) (hfl : f ∈ d.files) (hb : Below w1.heap.size w1 W2) (hr : bK.R 5 W2 w1.heap.size (fun _ => True) v1 (loseB keep torn f)) (hq : w1.heap[bl f.name]? = some (.cells #[u, sv] 64 (0, 0))) {z : Int} (hz : ((loseB keep torn f).length : Int) = z) {b : Nat} (hbl : b = bl f.name) :
    ∃ vl2, OffAt S w g d mb n D bl keep torn left' cnt' (delF todo f.name) vl2 ((W2.setCell ⟨b, 0, none⟩ v1).setCell ⟨b, 1, none⟩ (.int .i64 z)) := by
  subst hbl
  subst hz
  have e2 : W2.heap[bl f.name]? = some (.cells #[u, sv] 64 (0, 0)) := (hb.block _ (blk_lt hq)).trans hq
  have e3 := blk_set e2 0 v1
  have e4 := blk_set e3 1 (.int .i64 ((loseB keep torn f).length : Int))
  have hne : ∀ q, q ∈ 5 :: bK.E → q ≠ 64 := by intro q hq; simp [bK, Kd.int, Kd.scalar] at hq; omega
  exact OffAt.round hw hC hrg hR hO hblk hf hfl hb hr (((Only.refl _ W2).setCell (.inl (.inl rfl)) _).setCell (.inl (.inl rfl)) _) e4 (R_base0 (Kd.R_set (Kd.R_set hr e2 hne 0 v1) e3 hne 1 _))
theorem OffAt.drew_ {keep : Int} {torn : Bool} {left : Lit → Bool} {cnt : Nat} {todo : List Fl} {vl1 : ByteArray → Value} {W : World} (h : OffAt S w g d mb n D bl keep torn left cnt todo vl1 W) : OffAt S w g d mb n D bl keep torn left cnt todo vl1 W.drew :=
  ⟨Rg.move h.rg rfl rfl, h.rest, h.cells.below (below_drew1 (Below.refl _ _)), h.blk, h.only.below (below_drew1 (Below.refl _ _))⟩
/-- A round in which the last byte is turned. -/
theorem OffAt.round1 {keep : Int} {torn : Bool} {left' : Lit → Bool} {cnt' : Nat} {todo : List Fl} {vl1 : ByteArray → Value} {w1 W2 : World} {u sv : Value} {f : Fl} {g2 m c2 : Nat} {xs : List Int}
    (hw : DevW S w g d mb n D bl vl) (hC : Cells (Grow S w) w1 (offL keep torn d.files todo) bl vl1) (hrg : Rg w1 mb w.heap.size n D left' cnt') (hR : Rest d.files D left' (delF todo f.name)) (hO : Only S w w1) (hblk : w1.heap[g]? = some (.cells (devCells mb d) 61 (0, 0)))
    (hf : f ∈ todo) (hfl : f ∈ d.files) (hb : Below w1.heap.size w1 W2) (hr : bK.R 5 W2 w1.heap.size (fun _ => True) (.slice (some ⟨g2, 0, none⟩) m c2) xs) (hl : loseB keep torn f = turnLast xs) (hm : 0 < m) (hq : w1.heap[bl f.name]? = some (.cells #[u, sv] 64 (0, 0))) {z y : Int} (hz : (m : Int) = z) (hy : y = 255 - xs.getD (m - 1) 0) {b : Nat} (hbl : b = bl f.name) :
    ∃ vl2, OffAt S w g d mb n D bl keep torn left' cnt' (delF todo f.name) vl2 (((W2.setCell ⟨b, 0, none⟩ (.slice (some ⟨g2, 0, none⟩) m c2)).setCell ⟨g2, m - 1, none⟩ (.int .u8 y)).setCell ⟨b, 1, none⟩ (.int .i64 z)) := by
  subst hbl
  subst hz
  have hlen : m = xs.length := (Kd.R_reads' hr).1
  have e2 : W2.heap[bl f.name]? = some (.cells #[u, sv] 64 (0, 0)) := (hb.block _ (blk_lt hq)).trans hq
  have hne : ∀ q, q ∈ 5 :: bK.E → q ≠ 64 := by intro q hq; simp [bK, Kd.int, Kd.scalar] at hq; omega
  have hg2 : w1.heap.size ≤ g2 := by
    rcases Kd.R_base2 hr with h0 | ⟨k2, h2, h3⟩
    · cases h0
    · have h2 : some g2 = some k2 := h2
      cases h2; exact h3
  have hgb : bl f.name ≠ g2 := by have := blk_lt hq; omega
  have e3 := blk_set e2 0 (.slice (some ⟨g2, 0, none⟩) m c2)
  have r3 := Kd.R_set hr e2 hne 0 (.slice (some ⟨g2, 0, none⟩) m c2)
  obtain ⟨r4, _⟩ := Kd.R_putg r3 ((m - 1 : Nat) : Int) y
  rw [Int.toNat_natCast] at r4
  have e4 := (Below.heap_setCell (W2.setCell ⟨bl f.name, 0, none⟩ (.slice (some ⟨g2, 0, none⟩) m c2)) ⟨g2, m - 1, none⟩ (.int .u8 y) (bl f.name) hgb).trans e3
  have e5 := blk_set e4 1 (.int .i64 (m : Int))
  have r5 := Kd.R_set r4 e4 hne 1 (.int .i64 (m : Int))
  have hset : xs.set (m - 1) y = loseB keep torn f := by rw [hl, hy, hlen]; rfl
  have hln : (loseB keep torn f).length = m := by rw [← hset, List.length_set, hlen]
  rw [hset] at r5
  refine OffAt.round hw hC hrg hR hO hblk hf hfl hb hr ((((Only.refl _ W2).setCell (.inl (.inl rfl)) _).setCell (.inl (.inr rfl)) _).setCell (.inl (.inl rfl)) _) ?_ (R_base0 r5)
  rw [hln]
  exact e5
end
end Go.Proofs.Ytoedkemjidgbeaa.Dk
