/- A device of files in memory: a map of names to files, each file its bytes and a number. -/
import Derived.Test.YtoedkemjidgbeaaDkA
import Derived.Test.YtoedkemjidgbeaaPAllx0
import Derived.Maps.RangeWalk
import Derived.StringKeys
namespace Go.Proofs.Ytoedkemjidgbeaa.Dk
open Go Go.RowKit Go.Proofs.YtoedkemjidgbeaaW.PrintWords Go.Proofs.YtoedkemjidgbeaaW.PrintLast Go.Proofs.YtoedkemjidgbeaaW.PrintMore Go.Proofs.YtoedkemjidgbeaaMy Go.Proofs.Ytoedkemjidgbeaa Go.Proofs.YtoedkemjidgbeaaPw
set_option linter.unusedVariables false
set_option linter.unusedSimpArgs false
theorem info5_ : (Try.prog.info? 5).map (fun i => (i.zero, i.size, i.bytes)) = some (some (.int .u8 0), 1, 1) := by kernel_rfl
/-- A pointer to a file reads as its block's number. -/
def ptrR : Value → Option (DataW Unit × List MemPlace)
  | .pointer none => some (.nil, [])
  | .pointer (some ⟨f, 0, none⟩) => some (.lit (.int .i64 (f : Int)), [])
  | _ => none
theorem ptrR_nil {v : Value} {ps : List MemPlace} (h : ptrR v = some (.nil, ps)) : v = .pointer none := by
  unfold ptrR at h
  split at h
  · rfl
  · simp at h
  · cases h
theorem ptrR_lit {v : Value} {n : Int} {ps : List MemPlace} (h : ptrR v = some (.lit (.int .i64 n), ps)) : ∃ f : Nat, v = .pointer (some ⟨f, 0, none⟩) ∧ n = (f : Int) := by
  unfold ptrR at h
  split at h
  · simp at h
  · next f =>
    simp only [Option.some.injEq, Prod.mk.injEq, DataW.lit.injEq, Lit.int.injEq, true_and] at h
    exact ⟨f, rfl, h.1.symm⟩
  · cases h
def ky (s : ByteArray) : Lit := .string s.data.toList
theorem ky_inj {a b : ByteArray} (h : ky a = ky b) : a = b := by
  unfold ky at h
  injection h with h
  exact ba_inj (by rw [ba_toList, ba_toList]; exact h)
theorem ky_ne {a b : ByteArray} (h : a ≠ b) : ky a ≠ ky b := fun e => h (ky_inj e)
theorem ky_key (s : ByteArray) : WideAt.IsKeyLit (ky s) := trivial
theorem keyed : Maps.Keyed Try.prog 9 := Maps.string_keyed Try.underlying9
theorem ky_of {s : ByteArray} (h : s.size ≤ 4294967296) : keyOf Try.prog 9 (.string s) = some (ky s) := WideMaps.keyOf_string_mk Try.underlying9 (by unfold maxLen; omega)
/-- The map's datum has just the files' names, each with its file's block. -/
def MapRep (D : DataW Unit) (l : List Fl) (bl : ByteArray → Nat) : Prop :=
  (∀ s, D.atKey (ky s) .nil = if (findF l s).isSome then .lit (.int .i64 (bl s : Int)) else .nil) ∧ (∀ kl, Maps.has D kl = true → ∃ f, f ∈ l ∧ kl = ky f.name) ∧ (∀ f ∈ l, Maps.has D (ky f.name) = true) ∧ Maps.size D = l.length
theorem MapRep.nil (bl : ByteArray → Nat) : MapRep (.map []) [] bl := ⟨fun _ => rfl, fun kl h => (by cases h), fun f h => (by cases h), rfl⟩
theorem findF_isSome {l : List Fl} {s : ByteArray} : (findF l s).isSome = true ↔ s ∈ l.map Fl.name := by
  unfold findF
  rw [List.find?_isSome]
  constructor
  · rintro ⟨f, hf, h⟩
    exact List.mem_map.2 ⟨f, hf, of_decide_eq_true h⟩
  · intro h
    obtain ⟨f, hf, e⟩ := List.mem_map.1 h
    exact ⟨f, hf, decide_eq_true e⟩
/-- Only the names count. -/
theorem MapRep.names {D : DataW Unit} {l l' : List Fl} {bl : ByteArray → Nat} (h : MapRep D l bl) (hn : ∀ s, s ∈ l'.map Fl.name ↔ s ∈ l.map Fl.name) (hl : l'.length = l.length) : MapRep D l' bl := by
  obtain ⟨h1, h2, h3, h4⟩ := h
  refine ⟨fun s => ?_, fun kl hk => ?_, fun f hf => ?_, by rw [hl, h4]⟩
  · rw [h1 s]
    by_cases c : s ∈ l.map Fl.name
    · rw [if_pos (findF_isSome.2 c), if_pos (findF_isSome.2 ((hn s).2 c))]
    · rw [if_neg (fun e => c (findF_isSome.1 e)), if_neg (fun e => c ((hn s).1 (findF_isSome.1 e)))]
  · obtain ⟨f, hf, rfl⟩ := h2 kl hk
    obtain ⟨g, hg, e⟩ := List.mem_map.1 ((hn f.name).2 (List.mem_map.2 ⟨f, hf, rfl⟩))
    exact ⟨g, hg, by rw [e]⟩
  · obtain ⟨g, hg, e⟩ := List.mem_map.1 ((hn f.name).1 (List.mem_map.2 ⟨f, hf, rfl⟩))
    rw [← e]
    exact h3 g hg
theorem putF_len {l : List Fl} (f : Fl) : (f.name ∈ l.map Fl.name → (putF l f).length = l.length) ∧ (f.name ∉ l.map Fl.name → (putF l f).length = l.length + 1) := by
  induction l with
  | nil => exact ⟨fun h => (by cases h), fun _ => rfl⟩
  | cons x r ih =>
    unfold putF
    rw [List.map_cons, List.mem_cons]
    by_cases e : x.name = f.name
    · rw [if_pos e]
      exact ⟨fun _ => rfl, fun h => absurd (.inl e.symm) h⟩
    · rw [if_neg e, List.length_cons, List.length_cons]
      exact ⟨fun h => by rw [ih.1 (h.resolve_left (fun h => e h.symm))], fun h => by rw [ih.2 (fun h2 => h (.inr h2))]⟩
def upd {α : Type} (bl : ByteArray → α) (s : ByteArray) (b : α) : ByteArray → α := fun t => if t = s then b else bl t
theorem upd_same {α : Type} (bl : ByteArray → α) (s : ByteArray) (b : α) : upd bl s b s = b := if_pos rfl
theorem upd_other {α : Type} (bl : ByteArray → α) {s t : ByteArray} (b : α) (h : t ≠ s) : upd bl s b t = bl t := if_neg h
/-- A file's block is put under its name. -/
theorem MapRep.put {D : DataW Unit} {l : List Fl} {bl : ByteArray → Nat} (h : MapRep D l bl) (ht : Maps.Tidy D) (f : Fl) (b : Nat) : MapRep (D.put (ky f.name) (.lit (.int .i64 (b : Int)))) (putF l f) (upd bl f.name b) := by
  obtain ⟨h1, h2, h3, h4⟩ := h
  have hm := ht.isMap
  have hin : f.name ∈ l.map Fl.name ↔ Maps.has D (ky f.name) = true := by
    constructor
    · intro h
      obtain ⟨g, hg, e⟩ := List.mem_map.1 h
      rw [← e]
      exact h3 g hg
    · intro h
      obtain ⟨g, hg, e⟩ := h2 _ h
      exact List.mem_map.2 ⟨g, hg, (ky_inj e).symm⟩
  refine ⟨fun s => ?_, fun kl hk => ?_, fun g hg => ?_, ?_⟩
  · by_cases e : s = f.name
    · subst e
      rw [Maps.atKey_put_same hm (ky_key _), if_pos (findF_isSome.2 ((putF_names l f _).2 (.inl rfl))), upd_same]
    · rw [Maps.atKey_put_other (ky_ne e), h1 s, upd_other _ _ e]
      by_cases c : s ∈ l.map Fl.name
      · rw [if_pos (findF_isSome.2 c), if_pos (findF_isSome.2 ((putF_names l f s).2 (.inr c)))]
      · rw [if_neg (fun h => c (findF_isSome.1 h)), if_neg (fun h => ((putF_names l f s).1 (findF_isSome.1 h)).elim e c)]
  · by_cases e : kl = ky f.name
    · obtain ⟨g, hg, e2⟩ := List.mem_map.1 ((putF_names l f f.name).2 (.inl rfl))
      exact ⟨g, hg, by rw [e, e2]⟩
    · rw [Maps.has_put_other e] at hk
      obtain ⟨g, hg, rfl⟩ := h2 kl hk
      obtain ⟨g', hg', e2⟩ := List.mem_map.1 ((putF_names l f g.name).2 (.inr (List.mem_map.2 ⟨g, hg, rfl⟩)))
      exact ⟨g', hg', by rw [e2]⟩
  · by_cases e : g.name = f.name
    · rw [e]
      exact Maps.has_put_same hm (ky_key _) _
    · rw [Maps.has_put_other (ky_ne e)]
      have := (putF_names l f g.name).1 (List.mem_map.2 ⟨g, hg, rfl⟩)
      obtain ⟨g', hg', e2⟩ := List.mem_map.1 (this.resolve_left e)
      rw [← e2]
      exact h3 g' hg'
  · rw [Maps.size_put ht, h4]
    by_cases c : f.name ∈ l.map Fl.name
    · rw [(putF_len f).1 c, if_pos (hin.1 c)]
    · rw [(putF_len f).2 c, if_neg (fun h => c (hin.2 h))]
theorem delF_len {l : List Fl} (h : Once l) (s : ByteArray) : (s ∈ l.map Fl.name → (delF l s).length + 1 = l.length) ∧ (s ∉ l.map Fl.name → (delF l s).length = l.length) := by
  induction l with
  | nil => exact ⟨fun h => (by cases h), fun _ => rfl⟩
  | cons x r ih =>
    unfold Once at h
    rw [List.map_cons, List.nodup_cons] at h
    have ih := ih h.2
    unfold delF at ih ⊢
    rw [List.filter_cons, List.map_cons, List.mem_cons]
    by_cases e : x.name = s
    · have hn : s ∉ r.map Fl.name := by rw [← e]; exact h.1
      have e2 := ih.2 hn
      rw [if_neg (by simp [e]), List.length_cons]
      exact ⟨fun _ => by omega, fun h => absurd (.inl e.symm) h⟩
    · rw [if_pos (by simp [e]), List.length_cons, List.length_cons]
      exact ⟨fun h => by rw [← ih.1 (h.resolve_left (fun h => e h.symm))], fun h => by rw [ih.2 (fun h2 => h (.inr h2))]⟩
/-- A name is taken out. -/
theorem MapRep.del {D : DataW Unit} {l : List Fl} {bl : ByteArray → Nat} (h : MapRep D l bl) (ht : Maps.Tidy D) (ho : Once l) (s : ByteArray) : MapRep (D.del (ky s)) (delF l s) bl := by
  obtain ⟨h1, h2, h3, h4⟩ := h
  have hmem : ∀ t, t ∈ (delF l s).map Fl.name ↔ t ∈ l.map Fl.name ∧ t ≠ s := by
    intro t
    constructor
    · intro h
      obtain ⟨g, hg, e⟩ := List.mem_map.1 h
      obtain ⟨a, b⟩ := (delF_mem l s g).1 hg
      exact ⟨List.mem_map.2 ⟨g, a, e⟩, by rw [← e]; exact b⟩
    · rintro ⟨h, hne⟩
      obtain ⟨g, hg, e⟩ := List.mem_map.1 h
      exact List.mem_map.2 ⟨g, (delF_mem l s g).2 ⟨hg, by rw [e]; exact hne⟩, e⟩
  refine ⟨fun t => ?_, fun kl hk => ?_, fun g hg => ?_, ?_⟩
  · by_cases e : t = s
    · subst e
      rw [Maps.atKey_del_same, if_neg (fun h => ((hmem t).1 (findF_isSome.1 h)).2 rfl)]
    · rw [Maps.atKey_del_other (ky_ne e), h1 t]
      by_cases c : t ∈ l.map Fl.name
      · rw [if_pos (findF_isSome.2 c), if_pos (findF_isSome.2 ((hmem t).2 ⟨c, e⟩))]
      · rw [if_neg (fun h => c (findF_isSome.1 h)), if_neg (fun h => c ((hmem t).1 (findF_isSome.1 h)).1)]
  · by_cases e : kl = ky s
    · rw [e, Maps.has_del_same] at hk
      cases hk
    · rw [Maps.has_del_other e] at hk
      obtain ⟨g, hg, rfl⟩ := h2 kl hk
      exact ⟨g, (delF_mem l s g).2 ⟨hg, fun h => e (by rw [h])⟩, rfl⟩
  · obtain ⟨a, b⟩ := (delF_mem l s g).1 hg
    rw [Maps.has_del_other (ky_ne b)]
    exact h3 g a
  · have e1 := Maps.size_del ht (k := ky s)
    have e2 := delF_len ho s
    have hin : s ∈ l.map Fl.name ↔ Maps.has D (ky s) = true := by
      constructor
      · intro h
        obtain ⟨g, hg, e⟩ := List.mem_map.1 h
        rw [← e]
        exact h3 g hg
      · intro h
        obtain ⟨g, hg, e⟩ := h2 _ h
        exact List.mem_map.2 ⟨g, hg, (ky_inj e).symm⟩
    by_cases c : s ∈ l.map Fl.name
    · have e3 := e2.1 c
      rw [if_pos (hin.1 c)] at e1
      omega
    · have e3 := e2.2 c
      rw [if_neg (fun h => c (hin.2 h))] at e1
      omega
/-! What a call may turn. -/
/-- Only blocks of S have turned, and there are new ones. -/
structure Only (S : Nat → Prop) (w w' : World) : Prop where
  os : w'.os = w.os
  tape : w'.tape = w.tape
  output : w'.output = w.output
  size : w.heap.size ≤ w'.heap.size
  block : ∀ k, k < w.heap.size → ¬ S k → w'.heap[k]? = w.heap[k]?
/-- S and what is new. -/
def Grow (S : Nat → Prop) (w : World) : Nat → Prop := fun k => S k ∨ w.heap.size ≤ k
theorem Grow.of {S : Nat → Prop} {w : World} {k : Nat} (h : S k) : Grow S w k := .inl h
section
variable {S T : Nat → Prop} {a b w w' : World}
theorem Only.refl (S : Nat → Prop) (w : World) : Only S w w := ⟨rfl, rfl, rfl, Nat.le_refl _, fun _ _ _ => rfl⟩
theorem Only.thenN (h : Only S a b) (k : Only T b w) (hT : ∀ k, T k → S k ∨ a.heap.size ≤ k) : Only S a w :=
  ⟨k.os.trans h.os, k.tape.trans h.tape, k.output.trans h.output, Nat.le_trans h.size k.size, fun i hi hS => (k.block i (Nat.lt_of_lt_of_le hi h.size) (fun ht => (hT i ht).elim hS (by omega))).trans (h.block i hi hS)⟩
theorem Only.trans (h : Only S a b) (k : Only S b w) : Only S a w := h.thenN k (fun _ => .inl)
theorem Only.step (h : Only S a b) (k : Only (Grow S a) b w) : Only S a w := h.thenN k (fun _ => id)
theorem Only.mono (h : Only S a b) (hT : ∀ k, S k → T k) : Only T a b := ⟨h.os, h.tape, h.output, h.size, fun i hi hS => h.block i hi (fun hs => hS (hT i hs))⟩
theorem Only.drewN (h : Only S a b) (m : Nat) : Only S a (b.drewN m) := ⟨h.os, h.tape, h.output, h.size, h.block⟩
theorem Only.grown {row : Option Nat} (h : Only S a w) (hg : w.grownBy w' row) (hr : ∀ k, row = some k → S k ∨ a.heap.size ≤ k) : Only S a w' :=
  h.thenN (T := fun k => row = some k) ⟨hg.os, hg.tape, hg.output, hg.size, fun k hk hs => hg.block k hk (fun e => hs e.symm)⟩ hr
theorem Only.setCell (h : Only S a w) {g j : Nat} (hg : S g ∨ a.heap.size ≤ g) (u : Value) : Only S a (w.setCell ⟨g, j, none⟩ u) :=
  h.thenN (T := fun k => k = g) ⟨rfl, rfl, rfl, by simp [World.setCell], fun k _ hs => Below.heap_setCell w ⟨g, j, none⟩ u k hs⟩ (fun k e => by rw [e]; exact hg)
theorem Only.below (h : Only S a w) (hb : Below w.heap.size w w') : Only S a w' :=
  h.thenN (T := fun _ => False) ⟨hb.os, hb.tape, hb.output, hb.size, fun k hk _ => hb.block k hk⟩ (fun _ => False.elim)
theorem Only.toBelow {B : Nat} (h : Only S a w) (hS : ∀ k, S k → B ≤ k) (hB : B ≤ a.heap.size) : Below B a w :=
  ⟨h.os, h.tape, h.output, h.size, fun k hk => h.block k (by omega) (fun hs => by have := hS k hs; omega)⟩
theorem Only.lt_ (h : Only S a w) {k : Nat} {o : Obj} (hk : a.heap[k]? = some o) (hS : ¬ S k) : w.heap[k]? = some o := (h.block k (blk_lt hk) hS).trans hk
theorem F_only {α : Type} {d : Kd α} {ok : Nat → Prop} {A : Option Addr} {n : Nat} {xs : List α} (h : Kd.F d a ok A n xs) (ho : Only S a w) (hok : ∀ k, ok k → ¬ S k) : Kd.F d w ok A n xs := Kd.F_step h (fun k hk hlt => ho.block k hlt (hok k hk))
end
/-! The files' own cells. -/
abbrev bK : Kd Int := Kd.int .u8
/-- Each file in a block of its own, its bytes in a row of its own. -/
def Cells (S : Nat → Prop) (W : World) (l : List Fl) (bl : ByteArray → Nat) (vl : ByteArray → Value) : Prop :=
  Once l ∧ (∀ f ∈ l, W.heap[bl f.name]? = some (.cells #[vl f.name, .int .i64 (f.safe : Int)] 64 (0, 0)) ∧ S (bl f.name) ∧ bK.R 5 W 0 (fun _ => True) (vl f.name) f.b ∧ (∀ k, (vl f.name).ownBlock = some k → S k) ∧ f.safe ≤ f.b.length) ∧
    ∀ f ∈ l, ∀ g ∈ l, f.name ≠ g.name → bl f.name ≠ bl g.name ∧ ∀ k, (vl f.name).ownBlock = some k → (vl g.name).ownBlock ≠ some k
theorem Cells.nil (S : Nat → Prop) (W : World) (bl : ByteArray → Nat) (vl : ByteArray → Value) : Cells S W [] bl vl := ⟨List.nodup_nil, fun f h => (by cases h), fun f h => (by cases h)⟩
theorem upd_self {α : Type} (bl : ByteArray → α) (s : ByteArray) : upd bl s (bl s) = bl := by
  funext t
  by_cases e : t = s
  · subst e; exact upd_same _ _ _
  · exact upd_other _ _ e
theorem R_moved {W W1 : World} {v : Value} {xs : List Int} {ok : Nat → Prop} {e base : Nat} (c : bK.R e W base ok v xs) (hm : ∀ k, v.ownBlock = some k → W1.heap[k]? = W.heap[k]?) : bK.R e W1 base ok v xs := by
  obtain ⟨hok, inner, ho, hr⟩ := c
  exact ⟨hok, inner, own_move ho hm, hr⟩
section
variable {S S1 : Nat → Prop} {W W1 : World} {l : List Fl} {bl : ByteArray → Nat} {vl : ByteArray → Value}
/-- What is none of the files' blocks and rows may turn. -/
theorem Cells.move (h : Cells S W l bl vl) (hm : ∀ f ∈ l, ∀ k, k = bl f.name ∨ (vl f.name).ownBlock = some k → W1.heap[k]? = W.heap[k]?) : Cells S W1 l bl vl := by
  obtain ⟨h1, h2, h3⟩ := h
  refine ⟨h1, fun f hf => ?_, h3⟩
  obtain ⟨a, b, c, d⟩ := h2 f hf
  exact ⟨(hm f hf _ (.inl rfl)).trans a, b, R_moved c (fun k hk => hm f hf k (.inr hk)), d⟩
theorem Cells.mono (h : Cells S W l bl vl) (hS : ∀ k, S k → S1 k) : Cells S1 W l bl vl :=
  ⟨h.1, fun f hf => by obtain ⟨a, b, c, d, e⟩ := h.2.1 f hf; exact ⟨a, hS _ b, c, fun k hk => hS _ (d k hk), e⟩, h.2.2⟩
theorem Cells.lt (h : Cells S W l bl vl) {f : Fl} (hf : f ∈ l) : bl f.name < W.heap.size := blk_lt (h.2.1 f hf).1
theorem Cells.row_lt (h : Cells S W l bl vl) {f : Fl} (hf : f ∈ l) : ∀ k, (vl f.name).ownBlock = some k → k < W.heap.size := Kd.R_lt (h.2.1 f hf).2.2.1
theorem Cells.both_lt (h : Cells S W l bl vl) {f : Fl} (hf : f ∈ l) {k : Nat} (hk : k = bl f.name ∨ (vl f.name).ownBlock = some k) : k < W.heap.size := by
  rcases hk with rfl | hk
  · exact h.lt hf
  · exact h.row_lt hf k hk
theorem Cells.both_S (h : Cells S W l bl vl) {f : Fl} (hf : f ∈ l) {k : Nat} (hk : k = bl f.name ∨ (vl f.name).ownBlock = some k) : S k := by
  obtain ⟨a, b, c, d, e⟩ := h.2.1 f hf
  rcases hk with rfl | hk
  · exact b
  · exact d k hk
theorem Cells.below (h : Cells S W l bl vl) (hb : Below W.heap.size W W1) : Cells S W1 l bl vl := h.move (fun f hf k hk => hb.block k (h.both_lt hf hk))
/-- A block's kind says that it is no file's and no file's row. -/
theorem Cells.other (h : Cells S W l bl vl) {g t : Nat} {cs : Array Value} (hg : W.heap[g]? = some (.cells cs t (0, 0))) (h1 : t ≠ 64) (h2 : t ≠ 5) {f : Fl} (hf : f ∈ l) {k : Nat} (hk : k = bl f.name ∨ (vl f.name).ownBlock = some k) : k ≠ g := by
  obtain ⟨a, b, c, d⟩ := h.2.1 f hf
  rintro rfl
  rcases hk with rfl | e
  · rw [hg] at a
    injection a with a
    injection a with _ a
    exact h1 a
  · obtain ⟨inner, ho⟩ := Kd.R_own c
    obtain ⟨cells, hc⟩ := own_typed ho k e
    rw [hg] at hc
    injection hc with hc
    injection hc with _ hc
    exact h2 hc
theorem Cells.notMap (h : Cells S W l bl vl) {m : Nat} {es : Array MapEntry} {clock : Nat} (hg : W.heap[m]? = some (.map es clock)) {f : Fl} (hf : f ∈ l) {k : Nat} (hk : k = bl f.name ∨ (vl f.name).ownBlock = some k) : k ≠ m := by
  obtain ⟨a, b, c, d⟩ := h.2.1 f hf
  rintro rfl
  rcases hk with rfl | e
  · rw [hg] at a
    cases a
  · obtain ⟨inner, ho⟩ := Kd.R_own c
    obtain ⟨cells, hc⟩ := own_typed ho k e
    rw [hg] at hc
    cases hc
/-- A store into a block of another kind. -/
theorem Cells.setCell (h : Cells S W l bl vl) {g t : Nat} {cs : Array Value} (hg : W.heap[g]? = some (.cells cs t (0, 0))) (h1 : t ≠ 64) (h2 : t ≠ 5) (j : Nat) (u : Value) : Cells S (W.setCell ⟨g, j, none⟩ u) l bl vl :=
  h.move (fun f hf k hk => Below.heap_setCell W ⟨g, j, none⟩ u k (h.other hg h1 h2 hf hk))
/-- A file's block is no file's row. -/
theorem Cells.blk_row (h : Cells S W l bl vl) {f g : Fl} (hf : f ∈ l) (hg : g ∈ l) : (vl g.name).ownBlock ≠ some (bl f.name) := by
  intro e
  obtain ⟨inner, ho⟩ := Kd.R_own (h.2.1 g hg).2.2.1
  obtain ⟨cells, hc⟩ := own_typed ho _ e
  rw [(h.2.1 f hf).1] at hc
  injection hc with hc
  injection hc with _ hc
  exact absurd hc (by decide)
/-- A file, in a new block or in the place of one of its name. -/
theorem Cells.put (h : Cells S W l bl vl) (f' : Fl) (b : Nat) (v1 : Value) (hS : ∀ k, S k → S1 k)
    (hoth : ∀ g ∈ l, g.name ≠ f'.name → (∀ k, k = bl g.name ∨ (vl g.name).ownBlock = some k → W1.heap[k]? = W.heap[k]?) ∧ bl g.name ≠ b ∧ ∀ k, v1.ownBlock = some k → (vl g.name).ownBlock ≠ some k)
    (hblk : W1.heap[b]? = some (.cells #[v1, .int .i64 (f'.safe : Int)] 64 (0, 0))) (hb : S1 b) (hrow : bK.R 5 W1 0 (fun _ => True) v1 f'.b) (hrS : ∀ k, v1.ownBlock = some k → S1 k) (hsafe : f'.safe ≤ f'.b.length) :
    Cells S1 W1 (putF l f') (upd bl f'.name b) (upd vl f'.name v1) := by
  refine ⟨putF_once h.1 f', fun g hg => ?_, fun f hf g hg hne => ?_⟩
  · rcases (putF_mem h.1 f' g).1 hg with rfl | ⟨hm, hn⟩
    · rw [upd_same, upd_same]
      exact ⟨hblk, hb, hrow, hrS, hsafe⟩
    · rw [upd_other _ _ hn, upd_other _ _ hn]
      obtain ⟨a, b, c, d, e⟩ := h.2.1 g hm
      obtain ⟨o1, _, _⟩ := hoth g hm hn
      exact ⟨(o1 _ (.inl rfl)).trans a, hS _ b, R_moved c (fun k hk => o1 k (.inr hk)), fun k hk => hS _ (d k hk), e⟩
  · rcases (putF_mem h.1 f' f).1 hf with rfl | ⟨hm, hn⟩
    · rcases (putF_mem h.1 f g).1 hg with rfl | ⟨hm2, hn2⟩
      · exact absurd rfl hne
      · obtain ⟨_, o2, o3⟩ := hoth g hm2 hn2
        rw [upd_same, upd_same, upd_other _ _ hn2, upd_other _ _ hn2]
        exact ⟨fun e => o2 e.symm, o3⟩
    · rcases (putF_mem h.1 f' g).1 hg with rfl | ⟨hm2, hn2⟩
      · obtain ⟨_, o2, o3⟩ := hoth f hm hn
        rw [upd_same, upd_same, upd_other _ _ hn, upd_other _ _ hn]
        exact ⟨o2, fun k hk hk2 => o3 k hk2 hk⟩
      · rw [upd_other _ _ hn, upd_other _ _ hn, upd_other _ _ hn2, upd_other _ _ hn2]
        exact h.2.2 f hm g hm2 hne
/-- A file that is there is written in its place: its row is its old one, or a new one. -/
theorem Cells.rewrite (h : Cells S W l bl vl) {f f' : Fl} (hf : f ∈ l) (hn : f'.name = f.name) (v1 : Value) (hS : ∀ k, S k → S1 k)
    (hmv : ∀ k, k < W.heap.size → k ≠ bl f.name → (vl f.name).ownBlock ≠ some k → W1.heap[k]? = W.heap[k]?)
    (hblk : W1.heap[bl f.name]? = some (.cells #[v1, .int .i64 (f'.safe : Int)] 64 (0, 0))) (hrow : bK.R 5 W1 0 (fun _ => True) v1 f'.b) (hat : ∀ k, v1.ownBlock = some k → (vl f.name).ownBlock = some k ∨ (W.heap.size ≤ k ∧ S1 k)) (hsafe : f'.safe ≤ f'.b.length) :
    Cells S1 W1 (putF l f') bl (upd vl f.name v1) := by
  have hp := h.put (W1 := W1) (S1 := S1) f' (bl f.name) v1 hS (fun g hg hne => ?_) hblk (hS _ (h.both_S hf (.inl rfl))) hrow (fun k hk => ?_) hsafe
  · rw [hn, upd_self] at hp
    exact hp
  · rw [hn] at hne
    obtain ⟨o1, o2⟩ := h.2.2 g hg f hf hne
    refine ⟨fun k hk => hmv k (h.both_lt hg hk) ?_ ?_, o1, fun k hk hk2 => ?_⟩
    · rintro rfl
      rcases hk with hk | hk
      · exact o1 hk.symm
      · exact h.blk_row hf hg hk
    · intro e
      rcases hk with hk | hk
      · rw [hk] at e
        exact h.blk_row hg hf e
      · exact o2 k hk e
    · rcases hat k hk with hk3 | hk3
      · exact o2 k hk2 hk3
      · have := h.row_lt hg k hk2
        omega
  · rcases hat k hk with hk3 | hk3
    · exact hS _ (h.both_S hf (.inr hk3))
    · exact hk3.2
theorem Cells.del (h : Cells S W l bl vl) (s : ByteArray) : Cells S W (delF l s) bl vl :=
  ⟨delF_once h.1 s, fun f hf => h.2.1 f ((delF_mem l s f).1 hf).1, fun f hf g hg => h.2.2 f ((delF_mem l s f).1 hf).1 g ((delF_mem l s g).1 hg).1⟩
end
/-! The device. -/
abbrev devCells (mb : Nat) (d : DS) : Array Value := #[.map (some mb), .int .i64 d.room, .bool d.down, .int .i64 d.acts, .int .i64 d.fuse, .int .i64 d.keep, .bool d.torn]
abbrev Owns (W : World) (m n : Nat) (D : DataW Unit) : Prop := W.ownsMap Try.prog 9 ptrR m n D
/-- What a device is made of. -/
structure DevW (S : Nat → Prop) (W : World) (g : Nat) (d : DS) (mb n : Nat) (D : DataW Unit) (bl : ByteArray → Nat) (vl : ByteArray → Value) : Prop where
  blk : W.heap[g]? = some (.cells (devCells mb d) 61 (0, 0))
  sg : S g
  sm : S mb
  own : Owns W mb n D
  cnt : (n : Int) ≤ d.acts
  rep : MapRep D d.files bl
  cells : Cells S W d.files bl vl
/-- The device at block g; what it is made of lies in S. -/
def DevAt (S : Nat → Prop) (W : World) (g : Nat) (d : DS) : Prop := ∃ mb n D bl vl, DevW S W g d mb n D bl vl
theorem Owns.move {W W1 : World} {m n : Nat} {D : DataW Unit} (h : Owns W m n D) (hm : W1.heap[m]? = W.heap[m]?) : Owns W1 m n D := by
  obtain ⟨es, clock, a, b, c⟩ := h
  exact ⟨es, clock, hm.trans a, b, c⟩
theorem Owns.ne {W : World} {m n g t : Nat} {D : DataW Unit} {cs : Array Value} (h : Owns W m n D) (hg : W.heap[g]? = some (.cells cs t (0, 0))) : m ≠ g := by
  rintro rfl
  obtain ⟨es, clock, a, _⟩ := h
  rw [a] at hg
  cases hg
section
variable {S S1 : Nat → Prop} {W W1 : World} {g mb n : Nat} {d : DS} {D : DataW Unit} {bl : ByteArray → Nat} {vl : ByteArray → Value}
theorem DevW.at (h : DevW S W g d mb n D bl vl) : DevAt S W g d := ⟨mb, n, D, bl, vl, h⟩
/-- What is none of the device's may turn. -/
theorem DevW.move (h : DevW S W g d mb n D bl vl) (hm : ∀ k, S k → k < W.heap.size → W1.heap[k]? = W.heap[k]?) : DevW S W1 g d mb n D bl vl :=
  ⟨(hm g h.sg (blk_lt h.blk)).trans h.blk, h.sg, h.sm, Owns.move h.own (hm mb h.sm h.own.lt), h.cnt, h.rep, h.cells.move (fun f hf k hk => hm k (h.cells.both_S hf hk) (h.cells.both_lt hf hk))⟩
theorem DevW.mono (h : DevW S W g d mb n D bl vl) (hS : ∀ k, S k → S1 k) : DevW S1 W g d mb n D bl vl := ⟨h.blk, hS _ h.sg, hS _ h.sm, h.own, h.cnt, h.rep, h.cells.mono hS⟩
theorem DevW.below (h : DevW S W g d mb n D bl vl) (hb : Below W.heap.size W W1) : DevW S W1 g d mb n D bl vl := h.move (fun k _ hk => hb.block k hk)
theorem DevW.drewN (h : DevW S W g d mb n D bl vl) (m : Nat) : DevW S (W.drewN m) g d mb n D bl vl := h.move (fun k _ hk => rfl)
/-- A cell that is no map is written. -/
theorem DevW.set_ (h : DevW S W g d mb n D bl vl) (d' : DS) (j : Nat) (u : Value) (hf : d'.files = d.files) (ha : d.acts ≤ d'.acts) (hc : (devCells mb d).setIfInBounds j u = devCells mb d') : DevW S (W.setCell ⟨g, j, none⟩ u) g d' mb n D bl vl := by
  refine ⟨?_, h.sg, h.sm, Owns.move h.own (Below.heap_setCell W ⟨g, j, none⟩ u mb (h.own.ne h.blk)), Int.le_trans h.cnt ha, ?_, ?_⟩
  · rw [blk_set h.blk j u, hc]
  · rw [hf]; exact h.rep
  · rw [hf]; exact h.cells.setCell h.blk (by decide) (by decide) j u
theorem DevW.cell (h : DevW S W g d mb n D bl vl) (j : Nat) : W.cell? ⟨g, j, none⟩ = (devCells mb d)[j]? := blk_cell h.blk j
theorem DevW.frozen (h : DevW S W g d mb n D bl vl) (j : Nat) : W.frozen? ⟨g, j, none⟩ = false := blk_frozen h.blk j
theorem DevAt.mono (h : DevAt S W g d) (hS : ∀ k, S k → S1 k) : DevAt S1 W g d := by
  obtain ⟨mb, n, D, bl, vl, h⟩ := h
  exact ⟨mb, n, D, bl, vl, h.mono hS⟩
theorem DevAt.below (h : DevAt S W g d) (hb : Below W.heap.size W W1) : DevAt S W1 g d := by
  obtain ⟨mb, n, D, bl, vl, h⟩ := h
  exact ⟨mb, n, D, bl, vl, h.below hb⟩
theorem DevAt.drewN (h : DevAt S W g d) (m : Nat) : DevAt S (W.drewN m) g d := by
  obtain ⟨mb, n, D, bl, vl, h⟩ := h
  exact ⟨mb, n, D, bl, vl, h.drewN m⟩
end
end Go.Proofs.Ytoedkemjidgbeaa.Dk
