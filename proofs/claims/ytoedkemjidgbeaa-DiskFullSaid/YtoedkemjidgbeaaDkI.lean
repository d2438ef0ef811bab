/- A device whose files are written: what is in memory behind it. -/
import Derived.Test.YtoedkemjidgbeaaDkH
import Derived.Maps.OwnSet
namespace Go.Proofs.Ytoedkemjidgbeaa.Dk
open Go Go.RowKit Go.Proofs.YtoedkemjidgbeaaW.PrintWords Go.Proofs.YtoedkemjidgbeaaW.PrintLast Go.Proofs.YtoedkemjidgbeaaW.PrintMore Go.Proofs.YtoedkemjidgbeaaMy Go.Proofs.Ytoedkemjidgbeaa Go.Proofs.YtoedkemjidgbeaaPw Go.Proofs.Ytoedkemjidgbeaa.PAll
set_option linter.unusedVariables false
set_option linter.unusedSimpArgs false
theorem putF_has {l : List Fl} {f f' : Fl} (hf : f ∈ l) (hn : f'.name = f.name) : (∀ s, s ∈ (putF l f').map Fl.name ↔ s ∈ l.map Fl.name) ∧ (putF l f').length = l.length := by
  have hm : f'.name ∈ l.map Fl.name := by rw [hn]; exact List.mem_map.2 ⟨f, hf, rfl⟩
  refine ⟨fun s => ?_, (putF_len f').1 hm⟩
  rw [putF_names]
  exact ⟨fun h => h.elim (fun e => by rw [e]; exact hm) id, .inr⟩
section
variable {S : Nat → Prop} {W W1 W4 : World} {g mb n : Nat} {d : DS} {D : DataW Unit} {bl : ByteArray → Nat} {vl : ByteArray → Value}
theorem DevW.notMap (h : DevW S W g d mb n D bl vl) {f : Fl} (hf : f ∈ d.files) {k : Nat} (hk : k = bl f.name ∨ (vl f.name).ownBlock = some k) : k ≠ mb := by
  obtain ⟨es, clock, a, _⟩ := h.own
  exact h.cells.notMap a hf hk
theorem DevW.notDev (h : DevW S W g d mb n D bl vl) {f : Fl} (hf : f ∈ d.files) {k : Nat} (hk : k = bl f.name ∨ (vl f.name).ownBlock = some k) : k ≠ g := h.cells.other h.blk (by decide) (by decide) hf hk
/-- A file that is there is written in its place. -/
theorem DevW.rewrite (h : DevW S W g d mb n D bl vl) {f f' : Fl} (hf : f ∈ d.files) (hn : f'.name = f.name) (v1 : Value) (ho : Only (fun k => k = bl f.name ∨ (vl f.name).ownBlock = some k) W W4)
    (hblk : W4.heap[bl f.name]? = some (.cells #[v1, .int .i64 (f'.safe : Int)] 64 (0, 0))) (hrow : bK.R 5 W4 0 (fun _ => True) v1 f'.b) (hat : ∀ k, v1.ownBlock = some k → (vl f.name).ownBlock = some k ∨ W.heap.size ≤ k) (hsafe : f'.safe ≤ f'.b.length) :
    DevW (Grow S W) W4 g (d.put f') mb n D bl (upd vl f.name v1) ∧ Only S W W4 := by
  refine ⟨⟨?_, .inl h.sg, .inl h.sm, ?_, h.cnt, ?_, ?_⟩, ho.mono (fun k hk => h.cells.both_S hf hk)⟩
  · exact (ho.block g (blk_lt h.blk) (fun hk => h.notDev hf hk rfl)).trans h.blk
  · exact Owns.move h.own (ho.block mb h.own.lt (fun hk => h.notMap hf hk rfl))
  · obtain ⟨h1, h2⟩ := putF_has hf hn
    exact h.rep.names h1 h2
  · exact h.cells.rewrite (S1 := Grow S W) hf hn v1 (fun _ hk => .inl hk) (fun k hk h1 h2 => ho.block k hk (fun h3 => h3.elim h1 h2)) hblk hrow (fun k hk => (hat k hk).imp id (fun h1 => ⟨h1, .inr h1⟩)) hsafe
theorem file_ne : ∀ q, q ∈ 5 :: bK.E → q ≠ 64 := by intro q hq; simp [bK, Kd.int, Kd.scalar] at hq; omega
/-- A file's two cells. -/
theorem DevW.file (h : DevW S W g d mb n D bl vl) {f : Fl} (hf : f ∈ d.files) : ∃ A cc, vl f.name = .slice A f.b.length cc ∧ W.cell? ⟨bl f.name, 0, none⟩ = some (.slice A f.b.length cc) ∧ W.cell? ⟨bl f.name, 1, none⟩ = some (.int .i64 (f.safe : Int)) ∧ W.frozen? ⟨bl f.name, 0, none⟩ = false ∧ W.frozen? ⟨bl f.name, 1, none⟩ = false ∧ bK.R 5 W 0 (fun _ => True) (.slice A f.b.length cc) f.b ∧ f.b.length ≤ cc ∧ (A = none → f.b.length = 0 ∧ cc = 0) ∧ f.safe ≤ f.b.length := by
  obtain ⟨q1, q2, q3, q4, q5⟩ := h.cells.2.1 f hf
  obtain ⟨A, cc, ev⟩ := Kd.R_slice q3
  rw [ev] at q1 q3
  refine ⟨A, cc, ev, (blk_cell q1 0).trans rfl, (blk_cell q1 1).trans rfl, blk_frozen q1 0, blk_frozen q1 1, q3, ?_, ?_, q5⟩
  · rcases R_shape q3 with ⟨e1, e2⟩ | ⟨g0, cap, e1, _, e2⟩
    · rw [e2]; exact Nat.zero_le _
    · injection e1 with _ _ e1
      rw [e1]; exact e2
  · rintro rfl
    rcases R_shape q3 with ⟨e1, e2⟩ | ⟨g0, cap, e1, _, e2⟩
    · injection e1 with _ e3 e4
      exact ⟨e3, e4⟩
    · injection e1 with e1
      cases e1
/-- Bytes are put behind a file's. -/
theorem DevW.appended (h : DevW S W g d mb n D bl vl) {f : Fl} (hf : f ∈ d.files) {v1 : Value} {ys : List Int} (hr : bK.R 5 W1 0 (fun _ => True) v1 (f.b ++ ys)) (hg : W.grownBy W1 (vl f.name).ownBlock) (hat : v1.ownBlock = (vl f.name).ownBlock ∨ ∃ b, v1.ownBlock = some b ∧ W.heap.size ≤ b) :
    DevW (Grow S W) (W1.setCell ⟨bl f.name, 0, none⟩ v1) g (d.put { f with b := f.b ++ ys }) mb n D bl (upd vl f.name v1) ∧ Only S W (W1.setCell ⟨bl f.name, 0, none⟩ v1) := by
  obtain ⟨q1, q2, q3, q4, q5⟩ := h.cells.2.1 f hf
  have e1 : W1.heap[bl f.name]? = some (.cells #[vl f.name, .int .i64 (f.safe : Int)] 64 (0, 0)) := blk_grown q1 hg (fun e => h.cells.blk_row hf hf e.symm)
  refine h.rewrite (f' := { f with b := f.b ++ ys }) hf rfl v1 (((Only.refl _ W).grown hg (fun k hk => .inl (.inr hk))).setCell (.inl (.inl rfl)) _) (blk_set e1 0 v1) (Kd.R_set hr e1 file_ne 0 v1) (fun k hk => ?_) (by simp only [List.length_append]; omega)
  rcases hat with h1 | ⟨b, h1, h2⟩
  · exact .inl (h1 ▸ hk)
  · rw [h1] at hk
    cases hk
    exact .inr h2
/-- All of a file is safe. -/
theorem DevW.synced (h : DevW S W g d mb n D bl vl) {f : Fl} (hf : f ∈ d.files) :
    DevW (Grow S W) (W.setCell ⟨bl f.name, 1, none⟩ (.int .i64 (f.b.length : Int))) g (d.put { f with safe := f.b.length }) mb n D bl (upd vl f.name (vl f.name)) ∧ Only S W (W.setCell ⟨bl f.name, 1, none⟩ (.int .i64 (f.b.length : Int))) := by
  obtain ⟨q1, q2, q3, q4, q5⟩ := h.cells.2.1 f hf
  exact h.rewrite (f' := { f with safe := f.b.length }) hf rfl (vl f.name) ((Only.refl _ W).setCell (.inl (.inl rfl)) _) (blk_set q1 1 _) (Kd.R_set q3 q1 file_ne 1 _) (fun k hk => .inl hk) (Nat.le_refl _)
/-- A file's row is a new one, and so is the number of its bytes that are safe. -/
theorem DevW.cutted (h : DevW S W g d mb n D bl vl) {f : Fl} (hf : f ∈ d.files) {v1 : Value} {xs : List Int} (hr : bK.R 5 W1 W.heap.size (fun _ => True) v1 xs) (hb : Below W.heap.size W W1) (s : Nat) (hs : s ≤ xs.length) :
    DevW (Grow S W) ((W1.setCell ⟨bl f.name, 0, none⟩ v1).setCell ⟨bl f.name, 1, none⟩ (.int .i64 (s : Int))) g (d.put ⟨f.name, xs, s⟩) mb n D bl (upd vl f.name v1) ∧ Only S W ((W1.setCell ⟨bl f.name, 0, none⟩ v1).setCell ⟨bl f.name, 1, none⟩ (.int .i64 (s : Int))) := by
  obtain ⟨q1, q2, q3, q4, q5⟩ := h.cells.2.1 f hf
  have e1 := (hb.block _ (blk_lt q1)).trans q1
  have e2 := blk_set e1 0 v1
  have hge : ∀ k, v1.ownBlock = some k → W.heap.size ≤ k := fun k hk => by
    rcases Kd.R_base2 hr with h0 | ⟨k2, h2, h3⟩
    · rw [hk] at h0; cases h0
    · rw [hk] at h2; cases h2; exact h3
  exact h.rewrite (f' := ⟨f.name, xs, s⟩) hf rfl v1 ((((Only.refl _ W).below hb).setCell (.inl (.inl rfl)) _).setCell (.inl (.inl rfl)) _) (blk_set e2 1 _) (R_base0 (Kd.R_set (Kd.R_set hr e1 file_ne 0 v1) e2 file_ne 1 _)) (fun k hk => .inr (hge k hk)) hs
abbrev fileCells : Obj := .cells #[.slice none 0 0, .int .i64 0] 64 (0, 0)
/-- A new file. -/
theorem DevW.newFile (h : DevW S W g d mb n D bl vl) (s : ByteArray) (hn : findF d.files s = none) (hc : (n : Int) + 1 ≤ d.acts)
    (h2 : Owns W1 mb (n + 1) (D.put (ky s) (.lit (.int .i64 (W.heap.size : Int))))) (hg : (W.alloc fileCells).grownBy W1 (some mb)) :
    DevW (Grow S W) W1 g (d.put ⟨s, [], 0⟩) mb (n + 1) (D.put (ky s) (.lit (.int .i64 (W.heap.size : Int)))) (upd bl s W.heap.size) (upd vl s (.slice none 0 0)) ∧ Only S W W1 := by
  have hsz : (W.alloc fileCells).heap.size = W.heap.size + 1 := by simp
  have hml := h.own.lt
  have hk : ∀ k, k < W.heap.size → k ≠ mb → W1.heap[k]? = W.heap[k]? := fun k hk hne =>
    (hg.block k (by omega) (fun e => hne (Option.some.inj e))).trans ((below_alloc (Below.refl W.heap.size W) _).block k hk)
  refine ⟨⟨?_, .inl h.sg, .inl h.sm, h2, by rw [Int.natCast_add]; exact hc, h.rep.put (h.own.tidy keyed) ⟨s, [], 0⟩ W.heap.size, ?_⟩, ((Only.refl S W).below (below_alloc (Below.refl _ _) _)).grown hg (fun k e => .inl (by cases e; exact h.sm))⟩
  · exact (hk g (blk_lt h.blk) (fun e => h.own.ne h.blk e.symm)).trans h.blk
  · refine h.cells.put (S1 := Grow S W) ⟨s, [], 0⟩ W.heap.size (.slice none 0 0) (fun _ h => .inl h) (fun f hf hne => ⟨fun k hkk => hk k (h.cells.both_lt hf hkk) (h.notMap hf hkk), ?_, fun k e => (by cases e)⟩) ?_ (.inr (Nat.le_refl _)) (Kd.R_nil _ _ _ _ _) (fun k e => (by cases e)) (Nat.le_refl _)
    · have := h.cells.lt hf
      omega
    · exact (hg.block W.heap.size (by omega) (fun e => by have := Option.some.inj e; omega)).trans (blk_new W fileCells)
theorem putF_putF {l : List Fl} {f f' : Fl} (hn : f'.name = f.name) : putF (putF l f) f' = putF l f' := by
  induction l with
  | nil => simp [putF, hn]
  | cons x r ih =>
    by_cases e : x.name = f.name
    · rw [show putF (x :: r) f = f :: r from if_pos e, show putF (x :: r) f' = f' :: r from if_pos (e.trans hn.symm), show putF (f :: r) f' = f' :: r from if_pos hn.symm]
    · have e2 : ¬ x.name = f'.name := fun h => e (h.trans hn)
      rw [show putF (x :: r) f = x :: putF r f from if_neg e, show putF (x :: r) f' = x :: putF r f' from if_neg e2, show putF (x :: putF r f) f' = x :: putF (putF r f) f' from if_neg e2, ih]
theorem DS.put_put (d : DS) {f f' : Fl} (hn : f'.name = f.name) : (d.put f).put f' = d.put f' := by unfold DS.put; simp only [putF_putF hn]
end
end Go.Proofs.Ytoedkemjidgbeaa.Dk
