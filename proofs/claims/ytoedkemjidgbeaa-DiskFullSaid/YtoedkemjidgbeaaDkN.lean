/- The three closures: what is done at once or not at all. -/
import Derived.Test.YtoedkemjidgbeaaDkM
namespace Go.Proofs.Ytoedkemjidgbeaa.Dk
open Go Go.RowKit Go.Proofs.YtoedkemjidgbeaaW.PrintWords Go.Proofs.YtoedkemjidgbeaaW.PrintLast Go.Proofs.YtoedkemjidgbeaaW.PrintMore Go.Proofs.YtoedkemjidgbeaaMy Go.Proofs.Ytoedkemjidgbeaa Go.Proofs.YtoedkemjidgbeaaPw Go.Proofs.Ytoedkemjidgbeaa.PAll
attribute [local go_sem] max2_m min2_m max_two min_two
set_option linter.unusedVariables false
set_option linter.unusedSimpArgs false
section
variable {S : Nat → Prop} {w W W1 W2 : World} {g : Nat} {d : DS} {mb n : Nat} {D : DataW Unit} {bl : ByteArray → Nat} {vl : ByteArray → Value}
theorem Only.cell (h : Only S w W) {c j : Nat} {v : Value} (hk : w.cell? ⟨c, j, none⟩ = some v) (hc : ¬ S c) : W.cell? ⟨c, j, none⟩ = some v :=
  (World.cell?_of_block (a := ⟨c, j, none⟩) (h.block c (World.block_lt_of_cell? w ⟨c, j, none⟩ hk) hc)).trans hk
/-- A name is taken out. -/
theorem DevW.dropped (h : DevW S W g d mb n D bl vl) (s : ByteArray) (h2 : Owns W1 mb n (D.del (ky s))) (hg : W.grownBy W1 (some mb)) : DevW S W1 g (d.drop s) mb n (D.del (ky s)) bl vl ∧ Only S W W1 :=
  ⟨⟨(hg.block g (blk_lt h.blk) (fun e => h.own.ne h.blk (Option.some.inj e).symm)).trans h.blk, h.sg, h.sm, h2, h.cnt, h.rep.del (h.own.tidy keyed) h.cells.1 s, (h.cells.move (fun f hf k hk => hg.block k (h.cells.both_lt hf hk) (fun e => h.notMap hf hk (Option.some.inj e)))).del s⟩, (Only.refl S W).grown hg (fun k e => .inl (by cases e; exact h.sm))⟩
/-- A file is put under another name. -/
theorem DevW.moved (h : DevW S W g d mb n D bl vl) {f : Fl} (hf : f ∈ d.files) (b : ByteArray) (hc : (n : Int) + 1 ≤ d.acts) (hO : Owns W1 mb n (D.del (ky f.name))) (hg : W.grownBy W1 (some mb))
    (h2 : Owns W2 mb (n + 1) ((D.del (ky f.name)).put (ky b) (.lit (.int .i64 (bl f.name : Int))))) (hg2 : W1.grownBy W2 (some mb)) :
    DevW S W2 g ((d.drop f.name).put ⟨b, f.b, f.safe⟩) mb (n + 1) ((D.del (ky f.name)).put (ky b) (.lit (.int .i64 (bl f.name : Int)))) (upd bl b (bl f.name)) (upd vl b (vl f.name)) ∧ Only S W W2 := by
  obtain ⟨h1, ho1⟩ := h.dropped f.name hO hg
  have hk2 : ∀ k, k < W1.heap.size → k ≠ mb → W2.heap[k]? = W1.heap[k]? := fun k hk hne => hg2.block k hk (fun e => hne (Option.some.inj e))
  have hk1 : ∀ k, k < W.heap.size → k ≠ mb → W1.heap[k]? = W.heap[k]? := fun k hk hne => hg.block k hk (fun e => hne (Option.some.inj e))
  have hmv : ∀ k, k = bl f.name ∨ (vl f.name).ownBlock = some k → W2.heap[k]? = W.heap[k]? := fun k hk =>
    (hk2 k (Nat.lt_of_lt_of_le (h.cells.both_lt hf hk) ho1.size) (h.notMap hf hk)).trans (hk1 k (h.cells.both_lt hf hk) (h.notMap hf hk))
  obtain ⟨q1, q2, q3, q4, q5⟩ := h.cells.2.1 f hf
  refine ⟨⟨(hk2 g (blk_lt h1.blk) (fun e => h.own.ne h.blk e.symm)).trans h1.blk, h.sg, h.sm, h2, by rw [Int.natCast_add]; exact hc, h1.rep.put (h1.own.tidy keyed) ⟨b, f.b, f.safe⟩ (bl f.name), ?_⟩, ho1.grown hg2 (fun k e => .inl (by cases e; exact h.sm))⟩
  refine h1.cells.put (S1 := S) ⟨b, f.b, f.safe⟩ (bl f.name) (vl f.name) (fun _ h => h) (fun x hx hne => ?_) ((hmv _ (.inl rfl)).trans q1) q2 (R_moved q3 (fun k hk => hmv k (.inr hk))) q4 q5
  obtain ⟨hx1, hx2⟩ := (delF_mem _ _ _).1 hx
  obtain ⟨o1, o2⟩ := h.cells.2.2 x hx1 f hf hx2
  exact ⟨fun k hk => hk2 k (h1.cells.both_lt hx hk) (h1.notMap hx hk), o1, fun k hk hk2 => o2 k hk2 hk⟩
theorem DevW.drew (h : DevW S W g d mb n D bl vl) : DevW S W.drew g d mb n D bl vl := h.below (below_drew1 (Below.refl _ _))
set_option maxHeartbeats 4000000 in
set_option maxRecDepth 100000 in
theorem RemoveIn_Q (h : DevW S W g d mb n D bl vl) (s : ByteArray) (hs : s.size ≤ 32) {c1 c2 : Nat} (k1 : W.cell? ⟨c1, 0, none⟩ = some (.pointer (some ⟨g, 0, none⟩))) (k2 : W.cell? ⟨c2, 0, none⟩ = some (.string s)) :
    Calls Try.prog 40 #[.pointer (some ⟨c1, 0, none⟩), .pointer (some ⟨c2, 0, none⟩)] W fun e w' => e = .returned (.tuple #[]) ∧ DevAt (Grow S W) w' g (d.drop s) ∧ Only S W w' := by
  have z0 : W.cell? ⟨g, 0, none⟩ = some (.map (some mb)) := h.cell 0
  obtain ⟨W1, hrun, hO, ht⟩ := World.ownsMap.drop h.drew.own keyed Try.underlying59 (ky_of (s := s) (by omega)) 0
  obtain ⟨h1, ho1⟩ := h.drew.dropped s hO ht.grown
  have H1 := Aside0.mk h1
  have O1 := Aside0.mk (((Only.refl S W).below (below_drew1 (Below.refl _ _))).trans ho1)
  clear h h1 ho1 hO ht
  go_enter Try.func40, Try.ntmps40
  go_region
  go_end0
  exact ⟨rfl, (H1.out.mono (fun _ h => .inl h)).at, O1.out⟩
set_option maxHeartbeats 4000000 in
set_option maxRecDepth 100000 in
theorem RenameIn_Q (h : DevW S W g d mb n D bl vl) {f : Fl} (hf : f ∈ d.files) (hs : f.name.size ≤ 32) (b : ByteArray) (hb : b.size ≤ 32) (hn : n < maxLen) (hc : (n : Int) + 1 ≤ d.acts) {c1 c2 c3 c4 : Nat} (k1 : W.cell? ⟨c1, 0, none⟩ = some (.pointer (some ⟨g, 0, none⟩))) (k2 : W.cell? ⟨c2, 0, none⟩ = some (.string f.name)) (k3 : W.cell? ⟨c3, 0, none⟩ = some (.pointer (some ⟨bl f.name, 0, none⟩))) (k4 : W.cell? ⟨c4, 0, none⟩ = some (.string b)) (n1 : ¬ S c1) (n2 : ¬ S c2) (n3 : ¬ S c3) (n4 : ¬ S c4) :
    Calls Try.prog 38 #[.pointer (some ⟨c1, 0, none⟩), .pointer (some ⟨c2, 0, none⟩), .pointer (some ⟨c3, 0, none⟩), .pointer (some ⟨c4, 0, none⟩)] W fun e w' => e = .returned (.tuple #[]) ∧ DevAt (Grow S W) w' g ((d.drop f.name).put ⟨b, f.b, f.safe⟩) ∧ Only S W w' := by
  have z0 : W.cell? ⟨g, 0, none⟩ = some (.map (some mb)) := h.cell 0
  obtain ⟨W1, hrun, hO, ht⟩ := World.ownsMap.drop h.drew.own keyed Try.underlying59 (ky_of (s := f.name) (by omega)) 0
  obtain ⟨h1, ho1⟩ := h.drew.dropped f.name hO ht.grown
  have e1 := ((Only.refl S W).below (below_drew1 (Below.refl _ _))).trans ho1
  have y0 : W1.cell? ⟨g, 0, none⟩ = some (.map (some mb)) := h1.cell 0
  have y1 := e1.cell k1 n1
  have y3 := e1.cell k3 n3
  have y4 := e1.cell k4 n4
  obtain ⟨W2, hrun2, hO2, ht2⟩ := World.ownsMap.store (w := W1.drew) (Owns.move (W1 := W1.drew) hO rfl) keyed Try.underlying59 hn (ky_of (s := b) (by omega)) (val := .pointer (some ⟨bl f.name, 0, none⟩)) (d := .lit (.int .i64 (bl f.name : Int))) (ps := []) rfl
  have hg1 : W.drew.grownBy W1.drew (some mb) := by
    have hh := ht.grown
    exact ⟨hh.os, hh.tape, hh.output, hh.size, hh.block⟩
  obtain ⟨h2, ho2⟩ := h.drew.moved hf b hc (Owns.move (W1 := W1.drew) hO rfl) hg1 hO2 ht2.grown
  have H2 := Aside0.mk h2
  have O2 := Aside0.mk (((Only.refl S W).below (below_drew1 (Below.refl _ _))).trans ho2)
  clear h h1 ho1 hO ht hO2 ht2 h2 ho2 e1 hg1
  go_enter Try.func38, Try.ntmps38
  go_wp2
  go_region
  go_wp2
  go_region
  go_end0
  exact ⟨rfl, (H2.out.mono (fun _ h => .inl h)).at, O2.out⟩
end
end Go.Proofs.Ytoedkemjidgbeaa.Dk
