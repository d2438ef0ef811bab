/- Joined texts of this claim, in build order. -/
import Derived.Test.YtclkcipakncjkaaPw
import Derived.Test.YtclkcipakncjkaaPAllx0
import Derived.Maps.RangeWalk
import Derived.StringKeys
import Derived.Test.YtclkcipakncjkaaPAllx1
import Derived.WalkKit
import Derived.Laws.BitsAllLaws
import Derived.Maps.OwnSet
import Derived.Laws.ByValue
namespace Go.Proofs.Ytclkcipakncjkaa.Dk
open Go Go.RowKit Go.Proofs.YtclkcipakncjkaaW.PrintWords
set_option linter.unusedVariables false
structure Fl where
  name : ByteArray
  b : List Int
  safe : Nat
structure DS where
  files : List Fl
  room : Int
  down : Bool
  acts : Int
  fuse : Int
  keep : Int
  torn : Bool
def nameOk (s : ByteArray) : Bool := decide (0 < s.size ∧ s.size ≤ 32)
def findF (l : List Fl) (s : ByteArray) : Option Fl := l.find? fun f => decide (f.name = s)
def putF : List Fl → Fl → List Fl
  | [], f => [f]
  | x :: r, f => if x.name = f.name then f :: r else x :: putF r f
def delF (l : List Fl) (s : ByteArray) : List Fl := l.filter fun f => decide (f.name ≠ s)
def sizes (l : List Fl) : Int := (l.map fun f => (f.b.length : Int)).sum
def DS.free (d : DS) : Int := d.room - sizes d.files
def DS.ready (d : DS) (s : ByteArray) : Int := if d.down = true then 7 else if nameOk s = true then 0 else 1
def kept (keep : Int) (f : Fl) : Nat := (min (max keep 0) ((f.b.length : Int) - (f.safe : Int))).toNat
def turnLast (l : List Int) : List Int := l.set (l.length - 1) (255 - l.getD (l.length - 1) 0)
def loseB (keep : Int) (torn : Bool) (f : Fl) : List Int := if torn = true ∧ 0 < kept keep f then turnLast (f.b.take (f.safe + kept keep f)) else f.b.take (f.safe + kept keep f)
def lose1 (keep : Int) (torn : Bool) (f : Fl) : Fl := ⟨f.name, loseB keep torn f, (loseB keep torn f).length⟩
def DS.off (d : DS) (keep : Int) (torn : Bool) : DS := if d.down = true then d else { d with files := d.files.map (lose1 keep torn), down := true, fuse := 0 }
def DS.on (d : DS) : DS := { d with down := false }
def DS.arm (d : DS) (n keep : Int) (torn : Bool) : DS := { d with fuse := max n 0, keep := keep, torn := torn }
def DS.goes (d : DS) : Bool := decide (d.fuse = 1)
def DS.act (d : DS) : DS := { d with acts := d.acts + 1, fuse := if d.fuse = 0 then 0 else d.fuse - 1 }
def DS.ends (d : DS) : DS := d.off d.keep d.torn
def DS.put (d : DS) (f : Fl) : DS := { d with files := putF d.files f }
def DS.fileOr (d : DS) (s : ByteArray) : Fl := (findF d.files s).getD ⟨s, [], 0⟩
def DS.append (d : DS) (s : ByteArray) (x : List Int) : Int × DS :=
  if d.ready s ≠ 0 then (d.ready s, d) else if (x.length : Int) > d.free then (6, d) else
  let d1 := d.act.put { d.fileOr s with b := (d.fileOr s).b ++ x }
  if d.goes = true then (7, d1.ends) else (0, d1)
def DS.there (d : DS) (s : ByteArray) : Int := if d.ready s ≠ 0 then d.ready s else if (findF d.files s).isSome then 0 else 5
def DS.sync (d : DS) (s : ByteArray) : Int × DS :=
  if d.there s ≠ 0 then (d.there s, d) else if d.goes = true then (7, d.act.ends) else (0, d.act.put { d.fileOr s with safe := (d.fileOr s).b.length })
def DS.fall (d : DS) (done : DS → DS) : Int × DS := if d.goes = true then (7, (if 0 < d.keep then done d.act else d.act).ends) else (0, done d.act)
def cutTo (f : Fl) (n : Int) : Fl := ⟨f.name, f.b.take n.toNat, min f.safe (f.b.take n.toNat).length⟩
def DS.cut (d : DS) (s : ByteArray) (n : Int) : Int × DS := if d.there s ≠ 0 then (d.there s, d) else if n < 0 then (1, d) else d.fall fun e => e.put (cutTo (e.fileOr s) n)
def DS.drop (d : DS) (s : ByteArray) : DS := { d with files := delF d.files s }
def DS.rename (d : DS) (a b : ByteArray) : Int × DS := if d.there a ≠ 0 then (d.there a, d) else if nameOk b = false then (1, d) else d.fall fun e => (e.drop a).put ⟨b, (e.fileOr a).b, (e.fileOr a).safe⟩
def DS.remove (d : DS) (s : ByteArray) : Int × DS := if d.there s ≠ 0 then (d.there s, d) else d.fall fun e => e.drop s
def DS.read (d : DS) (s : ByteArray) : List Int × Int := if d.there s ≠ 0 then ([], d.there s) else ((d.fileOr s).b, 0)
def new (room : Int) : DS := ⟨[], min (max room 0) 1048576, false, 0, 0, 0, false⟩
def Once (l : List Fl) : Prop := (l.map Fl.name).Nodup
theorem findF_some {l : List Fl} {s : ByteArray} {f : Fl} (h : findF l s = some f) : f ∈ l ∧ f.name = s := by
  unfold findF at h
  exact ⟨List.mem_of_find?_eq_some h, of_decide_eq_true (List.find?_some (p := fun f : Fl => decide (f.name = s)) h)⟩
theorem findF_of {l : List Fl} (h : Once l) {f : Fl} (hf : f ∈ l) : findF l f.name = some f := by
  induction l with
  | nil => cases hf
  | cons x r ih =>
    unfold findF
    rw [List.find?_cons]
    by_cases e : x.name = f.name
    · rw [decide_eq_true e]
      rcases List.mem_cons.1 hf with rfl | hm
      · rfl
      · exact absurd (List.mem_map.2 ⟨f, hm, e.symm⟩) (List.nodup_cons.1 h).1
    · rw [decide_eq_false e]
      rcases List.mem_cons.1 hf with rfl | hm
      · exact absurd rfl e
      · exact ih (List.nodup_cons.1 h).2 hm
theorem putF_names (l : List Fl) (f : Fl) : ∀ s, s ∈ (putF l f).map Fl.name ↔ s = f.name ∨ s ∈ l.map Fl.name := by
  induction l with
  | nil => intro s; simp [putF]
  | cons x r ih =>
    intro s
    unfold putF
    by_cases e : x.name = f.name
    · rw [if_pos e]
      simp [e]
    · rw [if_neg e]
      simp only [List.map_cons, List.mem_cons, ih]
      constructor
      · rintro (h | h | h)
        · exact .inr (.inl h)
        · exact .inl h
        · exact .inr (.inr h)
      · rintro (h | h | h)
        · exact .inr (.inl h)
        · exact .inl h
        · exact .inr (.inr h)
theorem putF_once {l : List Fl} (h : Once l) (f : Fl) : Once (putF l f) := by
  induction l with
  | nil => simp [Once, putF]
  | cons x r ih =>
    unfold Once at h
    rw [List.map_cons, List.nodup_cons] at h
    unfold putF
    by_cases e : x.name = f.name
    · rw [if_pos e]
      unfold Once
      rw [List.map_cons, List.nodup_cons, ← e]
      exact h
    · rw [if_neg e]
      unfold Once
      rw [List.map_cons, List.nodup_cons]
      refine ⟨fun hm => ?_, ih h.2⟩
      rcases (putF_names r f x.name).1 hm with h2 | h2
      · exact e h2
      · exact h.1 h2
theorem putF_mem {l : List Fl} (h : Once l) (f : Fl) : ∀ g, g ∈ putF l f ↔ g = f ∨ (g ∈ l ∧ g.name ≠ f.name) := by
  induction l with
  | nil => intro g; simp [putF]
  | cons x r ih =>
    intro g
    unfold Once at h
    rw [List.map_cons, List.nodup_cons] at h
    unfold putF
    by_cases e : x.name = f.name
    · rw [if_pos e]
      simp only [List.mem_cons]
      constructor
      · rintro (h2 | h2)
        · exact .inl h2
        · exact .inr ⟨.inr h2, fun e2 => h.1 (by rw [e, ← e2]; exact List.mem_map.2 ⟨g, h2, rfl⟩)⟩
      · rintro (h2 | ⟨h2 | h2, h3⟩)
        · exact .inl h2
        · rw [h2] at h3; exact absurd e h3
        · exact .inr h2
    · rw [if_neg e]
      simp only [List.mem_cons, ih h.2]
      constructor
      · rintro (h2 | h2 | h2)
        · rw [h2]; exact .inr ⟨.inl rfl, e⟩
        · exact .inl h2
        · exact .inr ⟨.inr h2.1, h2.2⟩
      · rintro (h2 | ⟨h2 | h2, h3⟩)
        · exact .inr (.inl h2)
        · exact .inl h2
        · exact .inr (.inr ⟨h2, h3⟩)
theorem delF_once {l : List Fl} (h : Once l) (s : ByteArray) : Once (delF l s) := by
  unfold Once delF
  exact h.sublist (List.filter_sublist.map _)
theorem delF_mem (l : List Fl) (s : ByteArray) (g : Fl) : g ∈ delF l s ↔ g ∈ l ∧ g.name ≠ s := by
  unfold delF
  rw [List.mem_filter, decide_eq_true_iff]
theorem lose_once {l : List Fl} (h : Once l) (keep : Int) (torn : Bool) : Once (l.map (lose1 keep torn)) := by
  unfold Once
  rw [List.map_map]
  exact h
end Go.Proofs.Ytclkcipakncjkaa.Dk
namespace Go.Proofs.Ytclkcipakncjkaa.Dk
open Go Go.RowKit Go.Proofs.YtclkcipakncjkaaW.PrintWords Go.Proofs.YtclkcipakncjkaaW.PrintLast Go.Proofs.YtclkcipakncjkaaW.PrintMore Go.Proofs.YtclkcipakncjkaaMy Go.Proofs.Ytclkcipakncjkaa Go.Proofs.YtclkcipakncjkaaPw
set_option linter.unusedVariables false
set_option linter.unusedSimpArgs false
theorem info5_ : (Try.prog.info? 5).map (fun i => (i.zero, i.size, i.bytes)) = some (some (.int .u8 0), 1, 1) := by kernel_rfl
def ptrR : Value → Option (DataW Unit × List MemPlace)
  | .pointer none => some (.nil, [])
  | .pointer (some ⟨f, 0, none⟩) => some (.lit (.int .i64 (f : Int)), [])
  | _ => none
theorem ptrR_nil {v : Value} {ps : List MemPlace} (h : ptrR v = some (.nil, ps)) : v = .pointer none := by
  unfold ptrR at h
  split at h
  · rfl
  · simp at h
  · cases h
theorem ptrR_lit {v : Value} {n : Int} {ps : List MemPlace} (h : ptrR v = some (.lit (.int .i64 n), ps)) : ∃ f : Nat, v = .pointer (some ⟨f, 0, none⟩) ∧ n = (f : Int) := by
  unfold ptrR at h
  split at h
  · simp at h
  · next f =>
    simp only [Option.some.injEq, Prod.mk.injEq, DataW.lit.injEq, Lit.int.injEq, true_and] at h
    exact ⟨f, rfl, h.1.symm⟩
  · cases h
def ky (s : ByteArray) : Lit := .string s.data.toList
theorem ky_inj {a b : ByteArray} (h : ky a = ky b) : a = b := by
  unfold ky at h
  injection h with h
  exact ba_inj (by rw [ba_toList, ba_toList]; exact h)
theorem ky_ne {a b : ByteArray} (h : a ≠ b) : ky a ≠ ky b := fun e => h (ky_inj e)
theorem ky_key (s : ByteArray) : WideAt.IsKeyLit (ky s) := trivial
theorem keyed : Maps.Keyed Try.prog 9 := Maps.string_keyed Try.underlying9
theorem ky_of {s : ByteArray} (h : s.size ≤ 4294967296) : keyOf Try.prog 9 (.string s) = some (ky s) := WideMaps.keyOf_string_mk Try.underlying9 (by unfold maxLen; omega)
def MapRep (D : DataW Unit) (l : List Fl) (bl : ByteArray → Nat) : Prop :=
  (∀ s, D.atKey (ky s) .nil = if (findF l s).isSome then .lit (.int .i64 (bl s : Int)) else .nil) ∧ (∀ kl, Maps.has D kl = true → ∃ f, f ∈ l ∧ kl = ky f.name) ∧ (∀ f ∈ l, Maps.has D (ky f.name) = true) ∧ Maps.size D = l.length
theorem MapRep.nil (bl : ByteArray → Nat) : MapRep (.map []) [] bl := ⟨fun _ => rfl, fun kl h => (by cases h), fun f h => (by cases h), rfl⟩
theorem findF_isSome {l : List Fl} {s : ByteArray} : (findF l s).isSome = true ↔ s ∈ l.map Fl.name := by
  unfold findF
  rw [List.find?_isSome]
  constructor
  · rintro ⟨f, hf, h⟩
    exact List.mem_map.2 ⟨f, hf, of_decide_eq_true h⟩
  · intro h
    obtain ⟨f, hf, e⟩ := List.mem_map.1 h
    exact ⟨f, hf, decide_eq_true e⟩
theorem MapRep.names {D : DataW Unit} {l l' : List Fl} {bl : ByteArray → Nat} (h : MapRep D l bl) (hn : ∀ s, s ∈ l'.map Fl.name ↔ s ∈ l.map Fl.name) (hl : l'.length = l.length) : MapRep D l' bl := by
  obtain ⟨h1, h2, h3, h4⟩ := h
  refine ⟨fun s => ?_, fun kl hk => ?_, fun f hf => ?_, by rw [hl, h4]⟩
  · rw [h1 s]
    by_cases c : s ∈ l.map Fl.name
    · rw [if_pos (findF_isSome.2 c), if_pos (findF_isSome.2 ((hn s).2 c))]
    · rw [if_neg (fun e => c (findF_isSome.1 e)), if_neg (fun e => c ((hn s).1 (findF_isSome.1 e)))]
  · obtain ⟨f, hf, rfl⟩ := h2 kl hk
    obtain ⟨g, hg, e⟩ := List.mem_map.1 ((hn f.name).2 (List.mem_map.2 ⟨f, hf, rfl⟩))
    exact ⟨g, hg, by rw [e]⟩
  · obtain ⟨g, hg, e⟩ := List.mem_map.1 ((hn f.name).1 (List.mem_map.2 ⟨f, hf, rfl⟩))
    rw [← e]
    exact h3 g hg
theorem putF_len {l : List Fl} (f : Fl) : (f.name ∈ l.map Fl.name → (putF l f).length = l.length) ∧ (f.name ∉ l.map Fl.name → (putF l f).length = l.length + 1) := by
  induction l with
  | nil => exact ⟨fun h => (by cases h), fun _ => rfl⟩
  | cons x r ih =>
    unfold putF
    rw [List.map_cons, List.mem_cons]
    by_cases e : x.name = f.name
    · rw [if_pos e]
      exact ⟨fun _ => rfl, fun h => absurd (.inl e.symm) h⟩
    · rw [if_neg e, List.length_cons, List.length_cons]
      exact ⟨fun h => by rw [ih.1 (h.resolve_left (fun h => e h.symm))], fun h => by rw [ih.2 (fun h2 => h (.inr h2))]⟩
def upd {α : Type} (bl : ByteArray → α) (s : ByteArray) (b : α) : ByteArray → α := fun t => if t = s then b else bl t
theorem upd_same {α : Type} (bl : ByteArray → α) (s : ByteArray) (b : α) : upd bl s b s = b := if_pos rfl
theorem upd_other {α : Type} (bl : ByteArray → α) {s t : ByteArray} (b : α) (h : t ≠ s) : upd bl s b t = bl t := if_neg h
theorem MapRep.put {D : DataW Unit} {l : List Fl} {bl : ByteArray → Nat} (h : MapRep D l bl) (ht : Maps.Tidy D) (f : Fl) (b : Nat) : MapRep (D.put (ky f.name) (.lit (.int .i64 (b : Int)))) (putF l f) (upd bl f.name b) := by
  obtain ⟨h1, h2, h3, h4⟩ := h
  have hm := ht.isMap
  have hin : f.name ∈ l.map Fl.name ↔ Maps.has D (ky f.name) = true := by
    constructor
    · intro h
      obtain ⟨g, hg, e⟩ := List.mem_map.1 h
      rw [← e]
      exact h3 g hg
    · intro h
      obtain ⟨g, hg, e⟩ := h2 _ h
      exact List.mem_map.2 ⟨g, hg, (ky_inj e).symm⟩
  refine ⟨fun s => ?_, fun kl hk => ?_, fun g hg => ?_, ?_⟩
  · by_cases e : s = f.name
    · subst e
      rw [Maps.atKey_put_same hm (ky_key _), if_pos (findF_isSome.2 ((putF_names l f _).2 (.inl rfl))), upd_same]
    · rw [Maps.atKey_put_other (ky_ne e), h1 s, upd_other _ _ e]
      by_cases c : s ∈ l.map Fl.name
      · rw [if_pos (findF_isSome.2 c), if_pos (findF_isSome.2 ((putF_names l f s).2 (.inr c)))]
      · rw [if_neg (fun h => c (findF_isSome.1 h)), if_neg (fun h => ((putF_names l f s).1 (findF_isSome.1 h)).elim e c)]
  · by_cases e : kl = ky f.name
    · obtain ⟨g, hg, e2⟩ := List.mem_map.1 ((putF_names l f f.name).2 (.inl rfl))
      exact ⟨g, hg, by rw [e, e2]⟩
    · rw [Maps.has_put_other e] at hk
      obtain ⟨g, hg, rfl⟩ := h2 kl hk
      obtain ⟨g', hg', e2⟩ := List.mem_map.1 ((putF_names l f g.name).2 (.inr (List.mem_map.2 ⟨g, hg, rfl⟩)))
      exact ⟨g', hg', by rw [e2]⟩
  · by_cases e : g.name = f.name
    · rw [e]
      exact Maps.has_put_same hm (ky_key _) _
    · rw [Maps.has_put_other (ky_ne e)]
      have := (putF_names l f g.name).1 (List.mem_map.2 ⟨g, hg, rfl⟩)
      obtain ⟨g', hg', e2⟩ := List.mem_map.1 (this.resolve_left e)
      rw [← e2]
      exact h3 g' hg'
  · rw [Maps.size_put ht, h4]
    by_cases c : f.name ∈ l.map Fl.name
    · rw [(putF_len f).1 c, if_pos (hin.1 c)]
    · rw [(putF_len f).2 c, if_neg (fun h => c (hin.2 h))]
theorem delF_len {l : List Fl} (h : Once l) (s : ByteArray) : (s ∈ l.map Fl.name → (delF l s).length + 1 = l.length) ∧ (s ∉ l.map Fl.name → (delF l s).length = l.length) := by
  induction l with
  | nil => exact ⟨fun h => (by cases h), fun _ => rfl⟩
  | cons x r ih =>
    unfold Once at h
    rw [List.map_cons, List.nodup_cons] at h
    have ih := ih h.2
    unfold delF at ih ⊢
    rw [List.filter_cons, List.map_cons, List.mem_cons]
    by_cases e : x.name = s
    · have hn : s ∉ r.map Fl.name := by rw [← e]; exact h.1
      have e2 := ih.2 hn
      rw [if_neg (by simp [e]), List.length_cons]
      exact ⟨fun _ => by omega, fun h => absurd (.inl e.symm) h⟩
    · rw [if_pos (by simp [e]), List.length_cons, List.length_cons]
      exact ⟨fun h => by rw [← ih.1 (h.resolve_left (fun h => e h.symm))], fun h => by rw [ih.2 (fun h2 => h (.inr h2))]⟩
theorem MapRep.del {D : DataW Unit} {l : List Fl} {bl : ByteArray → Nat} (h : MapRep D l bl) (ht : Maps.Tidy D) (ho : Once l) (s : ByteArray) : MapRep (D.del (ky s)) (delF l s) bl := by
  obtain ⟨h1, h2, h3, h4⟩ := h
  have hmem : ∀ t, t ∈ (delF l s).map Fl.name ↔ t ∈ l.map Fl.name ∧ t ≠ s := by
    intro t
    constructor
    · intro h
      obtain ⟨g, hg, e⟩ := List.mem_map.1 h
      obtain ⟨a, b⟩ := (delF_mem l s g).1 hg
      exact ⟨List.mem_map.2 ⟨g, a, e⟩, by rw [← e]; exact b⟩
    · rintro ⟨h, hne⟩
      obtain ⟨g, hg, e⟩ := List.mem_map.1 h
      exact List.mem_map.2 ⟨g, (delF_mem l s g).2 ⟨hg, by rw [e]; exact hne⟩, e⟩
  refine ⟨fun t => ?_, fun kl hk => ?_, fun g hg => ?_, ?_⟩
  · by_cases e : t = s
    · subst e
      rw [Maps.atKey_del_same, if_neg (fun h => ((hmem t).1 (findF_isSome.1 h)).2 rfl)]
    · rw [Maps.atKey_del_other (ky_ne e), h1 t]
      by_cases c : t ∈ l.map Fl.name
      · rw [if_pos (findF_isSome.2 c), if_pos (findF_isSome.2 ((hmem t).2 ⟨c, e⟩))]
      · rw [if_neg (fun h => c (findF_isSome.1 h)), if_neg (fun h => c ((hmem t).1 (findF_isSome.1 h)).1)]
  · by_cases e : kl = ky s
    · rw [e, Maps.has_del_same] at hk
      cases hk
    · rw [Maps.has_del_other e] at hk
      obtain ⟨g, hg, rfl⟩ := h2 kl hk
      exact ⟨g, (delF_mem l s g).2 ⟨hg, fun h => e (by rw [h])⟩, rfl⟩
  · obtain ⟨a, b⟩ := (delF_mem l s g).1 hg
    rw [Maps.has_del_other (ky_ne b)]
    exact h3 g a
  · have e1 := Maps.size_del ht (k := ky s)
    have e2 := delF_len ho s
    have hin : s ∈ l.map Fl.name ↔ Maps.has D (ky s) = true := by
      constructor
      · intro h
        obtain ⟨g, hg, e⟩ := List.mem_map.1 h
        rw [← e]
        exact h3 g hg
      · intro h
        obtain ⟨g, hg, e⟩ := h2 _ h
        exact List.mem_map.2 ⟨g, hg, (ky_inj e).symm⟩
    by_cases c : s ∈ l.map Fl.name
    · have e3 := e2.1 c
      rw [if_pos (hin.1 c)] at e1
      omega
    · have e3 := e2.2 c
      rw [if_neg (fun h => c (hin.2 h))] at e1
      omega
structure Only (S : Nat → Prop) (w w' : World) : Prop where
  os : w'.os = w.os
  tape : w'.tape = w.tape
  output : w'.output = w.output
  size : w.heap.size ≤ w'.heap.size
  block : ∀ k, k < w.heap.size → ¬ S k → w'.heap[k]? = w.heap[k]?
def Grow (S : Nat → Prop) (w : World) : Nat → Prop := fun k => S k ∨ w.heap.size ≤ k
theorem Grow.of {S : Nat → Prop} {w : World} {k : Nat} (h : S k) : Grow S w k := .inl h
section
variable {S T : Nat → Prop} {a b w w' : World}
theorem Only.refl (S : Nat → Prop) (w : World) : Only S w w := ⟨rfl, rfl, rfl, Nat.le_refl _, fun _ _ _ => rfl⟩
theorem Only.thenN (h : Only S a b) (k : Only T b w) (hT : ∀ k, T k → S k ∨ a.heap.size ≤ k) : Only S a w :=
  ⟨k.os.trans h.os, k.tape.trans h.tape, k.output.trans h.output, Nat.le_trans h.size k.size, fun i hi hS => (k.block i (Nat.lt_of_lt_of_le hi h.size) (fun ht => (hT i ht).elim hS (by omega))).trans (h.block i hi hS)⟩
theorem Only.trans (h : Only S a b) (k : Only S b w) : Only S a w := h.thenN k (fun _ => .inl)
theorem Only.step (h : Only S a b) (k : Only (Grow S a) b w) : Only S a w := h.thenN k (fun _ => id)
theorem Only.mono (h : Only S a b) (hT : ∀ k, S k → T k) : Only T a b := ⟨h.os, h.tape, h.output, h.size, fun i hi hS => h.block i hi (fun hs => hS (hT i hs))⟩
theorem Only.drewN (h : Only S a b) (m : Nat) : Only S a (b.drewN m) := ⟨h.os, h.tape, h.output, h.size, h.block⟩
theorem Only.grown {row : Option Nat} (h : Only S a w) (hg : w.grownBy w' row) (hr : ∀ k, row = some k → S k ∨ a.heap.size ≤ k) : Only S a w' :=
  h.thenN (T := fun k => row = some k) ⟨hg.os, hg.tape, hg.output, hg.size, fun k hk hs => hg.block k hk (fun e => hs e.symm)⟩ hr
theorem Only.setCell (h : Only S a w) {g j : Nat} (hg : S g ∨ a.heap.size ≤ g) (u : Value) : Only S a (w.setCell ⟨g, j, none⟩ u) :=
  h.thenN (T := fun k => k = g) ⟨rfl, rfl, rfl, by simp [World.setCell], fun k _ hs => Below.heap_setCell w ⟨g, j, none⟩ u k hs⟩ (fun k e => by rw [e]; exact hg)
theorem Only.below (h : Only S a w) (hb : Below w.heap.size w w') : Only S a w' :=
  h.thenN (T := fun _ => False) ⟨hb.os, hb.tape, hb.output, hb.size, fun k hk _ => hb.block k hk⟩ (fun _ => False.elim)
theorem Only.toBelow {B : Nat} (h : Only S a w) (hS : ∀ k, S k → B ≤ k) (hB : B ≤ a.heap.size) : Below B a w :=
  ⟨h.os, h.tape, h.output, h.size, fun k hk => h.block k (by omega) (fun hs => by have := hS k hs; omega)⟩
theorem F_only {α : Type} {d : Kd α} {ok : Nat → Prop} {A : Option Addr} {n : Nat} {xs : List α} (h : Kd.F d a ok A n xs) (ho : Only S a w) (hok : ∀ k, ok k → ¬ S k) : Kd.F d w ok A n xs := Kd.F_step h (fun k hk hlt => ho.block k hlt (hok k hk))
end
abbrev bK : Kd Int := Kd.int .u8
def Cells (S : Nat → Prop) (W : World) (l : List Fl) (bl : ByteArray → Nat) (vl : ByteArray → Value) : Prop :=
  Once l ∧ (∀ f ∈ l, W.heap[bl f.name]? = some (.cells #[vl f.name, .int .i64 (f.safe : Int)] 94 (0, 0)) ∧ S (bl f.name) ∧ bK.R 5 W 0 (fun _ => True) (vl f.name) f.b ∧ (∀ k, (vl f.name).ownBlock = some k → S k) ∧ f.safe ≤ f.b.length) ∧
    ∀ f ∈ l, ∀ g ∈ l, f.name ≠ g.name → bl f.name ≠ bl g.name ∧ ∀ k, (vl f.name).ownBlock = some k → (vl g.name).ownBlock ≠ some k
theorem Cells.nil (S : Nat → Prop) (W : World) (bl : ByteArray → Nat) (vl : ByteArray → Value) : Cells S W [] bl vl := ⟨List.nodup_nil, fun f h => (by cases h), fun f h => (by cases h)⟩
theorem upd_self {α : Type} (bl : ByteArray → α) (s : ByteArray) : upd bl s (bl s) = bl := by
  funext t
  by_cases e : t = s
  · subst e; exact upd_same _ _ _
  · exact upd_other _ _ e
theorem R_moved {W W1 : World} {v : Value} {xs : List Int} {ok : Nat → Prop} {e base : Nat} (c : bK.R e W base ok v xs) (hm : ∀ k, v.ownBlock = some k → W1.heap[k]? = W.heap[k]?) : bK.R e W1 base ok v xs := by
  obtain ⟨hok, inner, ho, hr⟩ := c
  exact ⟨hok, inner, own_move ho hm, hr⟩
section
variable {S S1 : Nat → Prop} {W W1 : World} {l : List Fl} {bl : ByteArray → Nat} {vl : ByteArray → Value}
theorem Cells.move (h : Cells S W l bl vl) (hm : ∀ f ∈ l, ∀ k, k = bl f.name ∨ (vl f.name).ownBlock = some k → W1.heap[k]? = W.heap[k]?) : Cells S W1 l bl vl := by
  obtain ⟨h1, h2, h3⟩ := h
  refine ⟨h1, fun f hf => ?_, h3⟩
  obtain ⟨a, b, c, d⟩ := h2 f hf
  exact ⟨(hm f hf _ (.inl rfl)).trans a, b, R_moved c (fun k hk => hm f hf k (.inr hk)), d⟩
theorem Cells.mono (h : Cells S W l bl vl) (hS : ∀ k, S k → S1 k) : Cells S1 W l bl vl :=
  ⟨h.1, fun f hf => by obtain ⟨a, b, c, d, e⟩ := h.2.1 f hf; exact ⟨a, hS _ b, c, fun k hk => hS _ (d k hk), e⟩, h.2.2⟩
theorem Cells.lt (h : Cells S W l bl vl) {f : Fl} (hf : f ∈ l) : bl f.name < W.heap.size := blk_lt (h.2.1 f hf).1
theorem Cells.row_lt (h : Cells S W l bl vl) {f : Fl} (hf : f ∈ l) : ∀ k, (vl f.name).ownBlock = some k → k < W.heap.size := Kd.R_lt (h.2.1 f hf).2.2.1
theorem Cells.both_lt (h : Cells S W l bl vl) {f : Fl} (hf : f ∈ l) {k : Nat} (hk : k = bl f.name ∨ (vl f.name).ownBlock = some k) : k < W.heap.size := by
  rcases hk with rfl | hk
  · exact h.lt hf
  · exact h.row_lt hf k hk
theorem Cells.both_S (h : Cells S W l bl vl) {f : Fl} (hf : f ∈ l) {k : Nat} (hk : k = bl f.name ∨ (vl f.name).ownBlock = some k) : S k := by
  obtain ⟨a, b, c, d, e⟩ := h.2.1 f hf
  rcases hk with rfl | hk
  · exact b
  · exact d k hk
theorem Cells.below (h : Cells S W l bl vl) (hb : Below W.heap.size W W1) : Cells S W1 l bl vl := h.move (fun f hf k hk => hb.block k (h.both_lt hf hk))
theorem Cells.other (h : Cells S W l bl vl) {g t : Nat} {cs : Array Value} (hg : W.heap[g]? = some (.cells cs t (0, 0))) (h1 : t ≠ 94) (h2 : t ≠ 5) {f : Fl} (hf : f ∈ l) {k : Nat} (hk : k = bl f.name ∨ (vl f.name).ownBlock = some k) : k ≠ g := by
  obtain ⟨a, b, c, d⟩ := h.2.1 f hf
  rintro rfl
  rcases hk with rfl | e
  · rw [hg] at a
    injection a with a
    injection a with _ a
    exact h1 a
  · obtain ⟨inner, ho⟩ := Kd.R_own c
    obtain ⟨cells, hc⟩ := own_typed ho k e
    rw [hg] at hc
    injection hc with hc
    injection hc with _ hc
    exact h2 hc
theorem Cells.notMap (h : Cells S W l bl vl) {m : Nat} {es : Array MapEntry} {clock : Nat} (hg : W.heap[m]? = some (.map es clock)) {f : Fl} (hf : f ∈ l) {k : Nat} (hk : k = bl f.name ∨ (vl f.name).ownBlock = some k) : k ≠ m := by
  obtain ⟨a, b, c, d⟩ := h.2.1 f hf
  rintro rfl
  rcases hk with rfl | e
  · rw [hg] at a
    cases a
  · obtain ⟨inner, ho⟩ := Kd.R_own c
    obtain ⟨cells, hc⟩ := own_typed ho k e
    rw [hg] at hc
    cases hc
theorem Cells.setCell (h : Cells S W l bl vl) {g t : Nat} {cs : Array Value} (hg : W.heap[g]? = some (.cells cs t (0, 0))) (h1 : t ≠ 94) (h2 : t ≠ 5) (j : Nat) (u : Value) : Cells S (W.setCell ⟨g, j, none⟩ u) l bl vl :=
  h.move (fun f hf k hk => Below.heap_setCell W ⟨g, j, none⟩ u k (h.other hg h1 h2 hf hk))
theorem Cells.blk_row (h : Cells S W l bl vl) {f g : Fl} (hf : f ∈ l) (hg : g ∈ l) : (vl g.name).ownBlock ≠ some (bl f.name) := by
  intro e
  obtain ⟨inner, ho⟩ := Kd.R_own (h.2.1 g hg).2.2.1
  obtain ⟨cells, hc⟩ := own_typed ho _ e
  rw [(h.2.1 f hf).1] at hc
  injection hc with hc
  injection hc with _ hc
  exact absurd hc (by decide)
theorem Cells.put (h : Cells S W l bl vl) (f' : Fl) (b : Nat) (v1 : Value) (hS : ∀ k, S k → S1 k)
    (hoth : ∀ g ∈ l, g.name ≠ f'.name → (∀ k, k = bl g.name ∨ (vl g.name).ownBlock = some k → W1.heap[k]? = W.heap[k]?) ∧ bl g.name ≠ b ∧ ∀ k, v1.ownBlock = some k → (vl g.name).ownBlock ≠ some k)
    (hblk : W1.heap[b]? = some (.cells #[v1, .int .i64 (f'.safe : Int)] 94 (0, 0))) (hb : S1 b) (hrow : bK.R 5 W1 0 (fun _ => True) v1 f'.b) (hrS : ∀ k, v1.ownBlock = some k → S1 k) (hsafe : f'.safe ≤ f'.b.length) :
    Cells S1 W1 (putF l f') (upd bl f'.name b) (upd vl f'.name v1) := by
  refine ⟨putF_once h.1 f', fun g hg => ?_, fun f hf g hg hne => ?_⟩
  · rcases (putF_mem h.1 f' g).1 hg with rfl | ⟨hm, hn⟩
    · rw [upd_same, upd_same]
      exact ⟨hblk, hb, hrow, hrS, hsafe⟩
    · rw [upd_other _ _ hn, upd_other _ _ hn]
      obtain ⟨a, b, c, d, e⟩ := h.2.1 g hm
      obtain ⟨o1, _, _⟩ := hoth g hm hn
      exact ⟨(o1 _ (.inl rfl)).trans a, hS _ b, R_moved c (fun k hk => o1 k (.inr hk)), fun k hk => hS _ (d k hk), e⟩
  · rcases (putF_mem h.1 f' f).1 hf with rfl | ⟨hm, hn⟩
    · rcases (putF_mem h.1 f g).1 hg with rfl | ⟨hm2, hn2⟩
      · exact absurd rfl hne
      · obtain ⟨_, o2, o3⟩ := hoth g hm2 hn2
        rw [upd_same, upd_same, upd_other _ _ hn2, upd_other _ _ hn2]
        exact ⟨fun e => o2 e.symm, o3⟩
    · rcases (putF_mem h.1 f' g).1 hg with rfl | ⟨hm2, hn2⟩
      · obtain ⟨_, o2, o3⟩ := hoth f hm hn
        rw [upd_same, upd_same, upd_other _ _ hn, upd_other _ _ hn]
        exact ⟨o2, fun k hk hk2 => o3 k hk2 hk⟩
      · rw [upd_other _ _ hn, upd_other _ _ hn, upd_other _ _ hn2, upd_other _ _ hn2]
        exact h.2.2 f hm g hm2 hne
theorem Cells.rewrite (h : Cells S W l bl vl) {f f' : Fl} (hf : f ∈ l) (hn : f'.name = f.name) (v1 : Value) (hS : ∀ k, S k → S1 k)
    (hmv : ∀ k, k < W.heap.size → k ≠ bl f.name → (vl f.name).ownBlock ≠ some k → W1.heap[k]? = W.heap[k]?)
    (hblk : W1.heap[bl f.name]? = some (.cells #[v1, .int .i64 (f'.safe : Int)] 94 (0, 0))) (hrow : bK.R 5 W1 0 (fun _ => True) v1 f'.b) (hat : ∀ k, v1.ownBlock = some k → (vl f.name).ownBlock = some k ∨ (W.heap.size ≤ k ∧ S1 k)) (hsafe : f'.safe ≤ f'.b.length) :
    Cells S1 W1 (putF l f') bl (upd vl f.name v1) := by
  have hp := h.put (W1 := W1) (S1 := S1) f' (bl f.name) v1 hS (fun g hg hne => ?_) hblk (hS _ (h.both_S hf (.inl rfl))) hrow (fun k hk => ?_) hsafe
  · rw [hn, upd_self] at hp
    exact hp
  · rw [hn] at hne
    obtain ⟨o1, o2⟩ := h.2.2 g hg f hf hne
    refine ⟨fun k hk => hmv k (h.both_lt hg hk) ?_ ?_, o1, fun k hk hk2 => ?_⟩
    · rintro rfl
      rcases hk with hk | hk
      · exact o1 hk.symm
      · exact h.blk_row hf hg hk
    · intro e
      rcases hk with hk | hk
      · rw [hk] at e
        exact h.blk_row hg hf e
      · exact o2 k hk e
    · rcases hat k hk with hk3 | hk3
      · exact o2 k hk2 hk3
      · have := h.row_lt hg k hk2
        omega
  · rcases hat k hk with hk3 | hk3
    · exact hS _ (h.both_S hf (.inr hk3))
    · exact hk3.2
theorem Cells.del (h : Cells S W l bl vl) (s : ByteArray) : Cells S W (delF l s) bl vl :=
  ⟨delF_once h.1 s, fun f hf => h.2.1 f ((delF_mem l s f).1 hf).1, fun f hf g hg => h.2.2 f ((delF_mem l s f).1 hf).1 g ((delF_mem l s g).1 hg).1⟩
end
abbrev devCells (mb : Nat) (d : DS) : Array Value := #[.map (some mb), .int .i64 d.room, .bool d.down, .int .i64 d.acts, .int .i64 d.fuse, .int .i64 d.keep, .bool d.torn]
abbrev Owns (W : World) (m n : Nat) (D : DataW Unit) : Prop := W.ownsMap Try.prog 9 ptrR m n D
structure DevW (S : Nat → Prop) (W : World) (g : Nat) (d : DS) (mb n : Nat) (D : DataW Unit) (bl : ByteArray → Nat) (vl : ByteArray → Value) : Prop where
  blk : W.heap[g]? = some (.cells (devCells mb d) 79 (0, 0))
  sg : S g
  sm : S mb
  own : Owns W mb n D
  cnt : (n : Int) ≤ d.acts
  rep : MapRep D d.files bl
  cells : Cells S W d.files bl vl
def DevAt (S : Nat → Prop) (W : World) (g : Nat) (d : DS) : Prop := ∃ mb n D bl vl, DevW S W g d mb n D bl vl
theorem Owns.move {W W1 : World} {m n : Nat} {D : DataW Unit} (h : Owns W m n D) (hm : W1.heap[m]? = W.heap[m]?) : Owns W1 m n D := by
  obtain ⟨es, clock, a, b, c⟩ := h
  exact ⟨es, clock, hm.trans a, b, c⟩
theorem Owns.ne {W : World} {m n g t : Nat} {D : DataW Unit} {cs : Array Value} (h : Owns W m n D) (hg : W.heap[g]? = some (.cells cs t (0, 0))) : m ≠ g := by
  rintro rfl
  obtain ⟨es, clock, a, _⟩ := h
  rw [a] at hg
  cases hg
section
variable {S S1 : Nat → Prop} {W W1 : World} {g mb n : Nat} {d : DS} {D : DataW Unit} {bl : ByteArray → Nat} {vl : ByteArray → Value}
theorem DevW.at (h : DevW S W g d mb n D bl vl) : DevAt S W g d := ⟨mb, n, D, bl, vl, h⟩
theorem DevW.move (h : DevW S W g d mb n D bl vl) (hm : ∀ k, S k → k < W.heap.size → W1.heap[k]? = W.heap[k]?) : DevW S W1 g d mb n D bl vl :=
  ⟨(hm g h.sg (blk_lt h.blk)).trans h.blk, h.sg, h.sm, Owns.move h.own (hm mb h.sm h.own.lt), h.cnt, h.rep, h.cells.move (fun f hf k hk => hm k (h.cells.both_S hf hk) (h.cells.both_lt hf hk))⟩
theorem DevW.mono (h : DevW S W g d mb n D bl vl) (hS : ∀ k, S k → S1 k) : DevW S1 W g d mb n D bl vl := ⟨h.blk, hS _ h.sg, hS _ h.sm, h.own, h.cnt, h.rep, h.cells.mono hS⟩
theorem DevW.below (h : DevW S W g d mb n D bl vl) (hb : Below W.heap.size W W1) : DevW S W1 g d mb n D bl vl := h.move (fun k _ hk => hb.block k hk)
theorem DevW.drewN (h : DevW S W g d mb n D bl vl) (m : Nat) : DevW S (W.drewN m) g d mb n D bl vl := h.move (fun k _ hk => rfl)
theorem DevW.set_ (h : DevW S W g d mb n D bl vl) (d' : DS) (j : Nat) (u : Value) (hf : d'.files = d.files) (ha : d.acts ≤ d'.acts) (hc : (devCells mb d).setIfInBounds j u = devCells mb d') : DevW S (W.setCell ⟨g, j, none⟩ u) g d' mb n D bl vl := by
  refine ⟨?_, h.sg, h.sm, Owns.move h.own (Below.heap_setCell W ⟨g, j, none⟩ u mb (h.own.ne h.blk)), Int.le_trans h.cnt ha, ?_, ?_⟩
  · rw [blk_set h.blk j u, hc]
  · rw [hf]; exact h.rep
  · rw [hf]; exact h.cells.setCell h.blk (by decide) (by decide) j u
theorem DevW.cell (h : DevW S W g d mb n D bl vl) (j : Nat) : W.cell? ⟨g, j, none⟩ = (devCells mb d)[j]? := blk_cell h.blk j
theorem DevW.frozen (h : DevW S W g d mb n D bl vl) (j : Nat) : W.frozen? ⟨g, j, none⟩ = false := blk_frozen h.blk j
theorem DevAt.mono (h : DevAt S W g d) (hS : ∀ k, S k → S1 k) : DevAt S1 W g d := by
  obtain ⟨mb, n, D, bl, vl, h⟩ := h
  exact ⟨mb, n, D, bl, vl, h.mono hS⟩
theorem DevAt.below (h : DevAt S W g d) (hb : Below W.heap.size W W1) : DevAt S W1 g d := by
  obtain ⟨mb, n, D, bl, vl, h⟩ := h
  exact ⟨mb, n, D, bl, vl, h.below hb⟩
theorem DevAt.drewN (h : DevAt S W g d) (m : Nat) : DevAt S (W.drewN m) g d := by
  obtain ⟨mb, n, D, bl, vl, h⟩ := h
  exact ⟨mb, n, D, bl, vl, h.drewN m⟩
end
end Go.Proofs.Ytclkcipakncjkaa.Dk
namespace Go.Proofs.Ytclkcipakncjkaa.Dk
open Go Go.RowKit Go.Proofs.YtclkcipakncjkaaW.PrintWords Go.Proofs.YtclkcipakncjkaaW.PrintLast Go.Proofs.YtclkcipakncjkaaW.PrintMore Go.Proofs.YtclkcipakncjkaaMy Go.Proofs.Ytclkcipakncjkaa Go.Proofs.YtclkcipakncjkaaPw Go.Proofs.Ytclkcipakncjkaa.PAll
attribute [local go_sem] max2_int min2_int max_two min_two max_three min_three
set_option linter.unusedVariables false
set_option linter.unusedSimpArgs false
theorem name_f (s : ByteArray) : disk_name.f s = some (nameOk s) := by
  unfold disk_name.f nameOk
  have e : s.toList = [] ↔ s.size = 0 := by
    rw [ba_toList, List.eq_nil_iff_length_eq_zero]
    rfl
  by_cases c : s.toList = []
  · rw [if_pos c]
    have := e.1 c
    rw [decide_eq_false (by omega)]
  · rw [if_neg c]
    have h : 0 < s.size := Nat.pos_of_ne_zero (fun h => c (e.2 h))
    congr 1
    by_cases c2 : s.size ≤ 32
    · rw [decide_eq_true (by omega), decide_eq_true ⟨h, c2⟩]
    · rw [decide_eq_false (by omega), decide_eq_false (fun h => c2 h.2)]
theorem infoPtr : (Try.prog.info? 89).map (fun i => (i.zero, i.size, i.bytes)) = some (some (.pointer none), 1, 8) := by kernel_rfl
theorem zero_run {P : Program} {t : TypeId} {z : Value} {a b : Nat} (h : (P.info? t).map (fun i => (i.zero, i.size, i.bytes)) = some (some z, a, b)) (w : World) : (zeroValue t).run P w = .ok z w := by
  obtain ⟨i, hi, hz⟩ := Option.map_eq_some_iff.1 h
  simp only [Prod.mk.injEq] at hz
  simp [zeroValue, typeInfo, hi, hz.1]
def fileP (d : DS) (bl : ByteArray → Nat) (s : ByteArray) : Value := if (findF d.files s).isSome then .pointer (some ⟨bl s, 0, none⟩) else .pointer none
section
variable {S : Nat → Prop} {w : World} {g : Nat} {d : DS}
set_option maxHeartbeats 2000000 in
set_option maxRecDepth 100000 in
theorem ready_Q (h : DevAt S w g d) (s : ByteArray) : Calls Try.prog 68 #[.pointer (some ⟨g, 0, none⟩), .string s] w fun e w' => e = .returned (.int .i64 (d.ready s)) ∧ ∃ nd, w' = w.drewN nd := by
  obtain ⟨mb, n, D, bl, vl, h⟩ := h
  have z2 : w.cell? ⟨g, 2, none⟩ = some (.bool d.down) := h.cell 2
  have HN := Aside0.mk (name_f s)
  clear h
  unfold DS.ready
  obtain ⟨dn, hd⟩ : ∃ b, b = d.down := ⟨_, rfl⟩
  rw [← hd] at z2 ⊢
  clear hd
  obtain ⟨nk, hk⟩ : ∃ b, b = nameOk s := ⟨_, rfl⟩
  rw [← hk] at HN ⊢
  clear hk
  cases dn <;> cases nk
  all_goals
    go_enter Try.func68, Try.ntmps68
    go_wp2_with (first | (go_at_call 71; refine (disk_name.calls s _ _ HN.out).mono ?_; rintro e w2 ⟨rfl, ⟨nd, rfl⟩⟩))
    go_ret
    first | exact ⟨by simp, _, rfl⟩ | exact ⟨by simp, 0, rfl⟩
structure DS.Fit (d : DS) : Prop where
  room : d.room ≤ 1048576
  fits : sizes d.files ≤ d.room
  bytes : ∀ f ∈ d.files, ∀ x ∈ f.b, 0 ≤ x ∧ x ≤ 255
structure DS.Ok (d : DS) : Prop extends DS.Fit d where
  acts : 0 ≤ d.acts ∧ d.acts < 4611686018427387904
  fuse : 0 ≤ d.fuse ∧ d.fuse ≤ 9223372036854775807
variable {mb n : Nat} {D : DataW Unit} {bl : ByteArray → Nat} {vl : ByteArray → Value}
theorem DevW.look (h : DevW S w g d mb n D bl vl) (s : ByteArray) (hs : s.size ≤ 32) : (Instr.lookup 77 (.map (some mb)) (.string s) false).run Try.prog w = .ok (fileP d bl s) w := by
  obtain ⟨v, ps, hrun, hv⟩ := World.ownsMap.lookup (t := 77) (e := 89) h.own keyed Try.underlying77 (zero_run infoPtr w) (zd := .nil) (zp := []) rfl (ky_of (s := s) (by omega))
  rw [h.rep.1 s] at hv
  have e : v = fileP d bl s := by
    unfold fileP
    by_cases c : (findF d.files s).isSome = true
    · rw [if_pos c] at hv ⊢
      obtain ⟨f, rfl, e⟩ := ptrR_lit hv
      rw [show bl s = f by omega]
    · rw [if_neg c] at hv ⊢
      exact ptrR_nil hv
  rw [hrun, e]
set_option maxHeartbeats 2000000 in
set_option maxRecDepth 100000 in
theorem there_Q (h : DevW S w g d mb n D bl vl) (s : ByteArray) : Calls Try.prog 45 #[.pointer (some ⟨g, 0, none⟩), .string s] w fun e w' => e = .returned (.tuple #[if d.there s = 0 then .pointer (some ⟨bl s, 0, none⟩) else .pointer none, .int .i64 (d.there s)]) ∧ ∃ nd, w' = w.drewN nd := by
  have z0 : w.cell? ⟨g, 0, none⟩ = some (.map (some mb)) := h.cell 0
  have HR := Aside0.mk (ready_Q h.at s)
  have HW := Aside0.mk h
  clear h
  have hr : d.ready s = 0 → s.size ≤ 32 := by
    unfold DS.ready nameOk
    intro h
    split at h
    · cases h
    · split at h
      · next h2 => exact (of_decide_eq_true h2).2
      · cases h
  obtain ⟨r, hq⟩ : ∃ r, r = d.ready s := ⟨_, rfl⟩
  have ht : d.there s = if r ≠ 0 then r else if (findF d.files s).isSome then 0 else 5 := by rw [hq]; rfl
  rw [← hq] at HR hr
  clear hq
  by_cases c : r = 0
  · subst c
    have hs := hr rfl
    clear hr
    by_cases c2 : (findF d.files s).isSome = true
    · have e : fileP d bl s = .pointer (some ⟨bl s, 0, none⟩) := if_pos c2
      rw [if_neg (by simp), if_pos c2] at ht
      rw [ht, if_pos rfl]
      clear c2 ht
      obtain ⟨x, hx⟩ : ∃ x, x = bl s := ⟨_, rfl⟩
      rw [← hx] at e ⊢
      clear hx
      have HS := Aside0.mk hs
      have HE := Aside0.mk e
      clear hs e
      go_enter Try.func45, Try.ntmps45
      go_wp2_with (first | (go_at_call 68; refine HR.out.mono ?_; rintro e w2 ⟨rfl, ⟨nd, rfl⟩⟩; have hl := (HW.out.drewN nd).look s HS.out; rw [HE.out] at hl))
      go_ret2
      exact ⟨rfl, _, rfl⟩
    · have e : fileP d bl s = .pointer none := if_neg c2
      rw [if_neg (by simp), if_neg c2] at ht
      rw [ht, if_neg (by decide)]
      clear c2 ht
      have HS := Aside0.mk hs
      have HE := Aside0.mk e
      clear hs e
      go_enter Try.func45, Try.ntmps45
      go_wp2_with (first | (go_at_call 68; refine HR.out.mono ?_; rintro e w2 ⟨rfl, ⟨nd, rfl⟩⟩; have hl := (HW.out.drewN nd).look s HS.out; rw [HE.out] at hl))
      go_ret2
      exact ⟨rfl, _, rfl⟩
  · rw [if_pos c] at ht
    rw [ht, if_neg c]
    clear ht
    have cb : (r == 0) = false := beq_eq_false_iff_ne.mpr c
    have cn : (r != 0) = true := bne_iff_ne.mpr c
    clear c hr
    go_enter Try.func45, Try.ntmps45
    go_wp2_with (first | (go_at_call 68; refine HR.out.mono ?_; rintro e w2 ⟨rfl, ⟨nd, rfl⟩⟩))
    go_ret2
    exact ⟨rfl, _, rfl⟩
set_option maxHeartbeats 2000000 in
set_option maxRecDepth 100000 in
theorem act_Q (h : DevW S w g d mb n D bl vl) (hok : d.Ok) : Calls Try.prog 69 #[.pointer (some ⟨g, 0, none⟩)] w fun e w' => e = .returned (.bool d.goes) ∧ DevW S w' g d.act mb n D bl vl ∧ Only S w w' := by
  have z3 : w.cell? ⟨g, 3, none⟩ = some (.int .i64 d.acts) := h.cell 3
  have z4 : w.cell? ⟨g, 4, none⟩ = some (.int .i64 d.fuse) := h.cell 4
  have f3 := h.frozen 3
  have f4 := h.frozen 4
  have ha := w64 (x := d.acts + 1) (by have := hok.acts; omega) (by have := hok.acts; omega)
  have hb := w64 (x := d.fuse - 1) (by have := hok.fuse; omega) (by have := hok.fuse; omega)
  have h3 := h.set_ { d with acts := d.acts + 1 } 3 (.int .i64 (d.acts + 1)) rfl (by simp; omega) rfl
  have o3 := (Only.refl S w).setCell (g := g) (j := 3) (.inl h.sg) (.int .i64 (d.acts + 1))
  by_cases c : d.fuse = 0
  · have cb : (d.fuse == 0) = true := beq_iff_eq.mpr c
    have e1 : d.act = { d with acts := d.acts + 1 } := by
      unfold DS.act
      rw [if_pos c, ← c]
    have e2 : d.goes = false := decide_eq_false (by omega)
    rw [e1, e2]
    have H3 := Aside0.mk h3
    have O3 := Aside0.mk o3
    clear h h3 o3 hok c e1 e2 hb
    go_enter Try.func69, Try.ntmps69
    go_wp2
    go_ret
    exact ⟨rfl, H3.out, O3.out⟩
  · have cb : (d.fuse == 0) = false := beq_eq_false_iff_ne.mpr c
    have e1 : d.act = { d with acts := d.acts + 1, fuse := d.fuse - 1 } := by
      unfold DS.act
      rw [if_neg c]
    have h4 := h3.set_ { d with acts := d.acts + 1, fuse := d.fuse - 1 } 4 (.int .i64 (d.fuse - 1)) rfl (Int.le_refl _) rfl
    have o4 := o3.setCell (g := g) (j := 4) (.inl h.sg) (.int .i64 (d.fuse - 1))
    have e2 : d.goes = (d.fuse - 1 == 0) := by
      unfold DS.goes
      by_cases c1 : d.fuse = 1
      · rw [c1]; rfl
      · rw [decide_eq_false c1, beq_eq_false_iff_ne.mpr (by omega)]
    rw [e1, e2]
    have H4 := Aside0.mk h4
    have O4 := Aside0.mk o4
    clear h h3 o3 hok c e1 e2 h4 o4
    go_enter Try.func69, Try.ntmps69
    go_wp2
    go_ret
    exact ⟨rfl, H4.out, O4.out⟩
end
attribute [local go_sem] max2_int min2_int max_two min_two max_three min_three
set_option linter.unusedVariables false
set_option linter.unusedSimpArgs false
theorem new_at (w : World) (room : Int) : DevAt (fun k => w.heap.size ≤ k) ((w.alloc (.map #[] 0)).alloc (.cells (devCells w.heap.size (new room)) 79 (0, 0))) (w.heap.size + 1) (new room) := by
  have hs : (w.alloc (.map #[] 0)).heap.size = w.heap.size + 1 := by simp
  have h1 := (World.ownsMap_made w Try.prog 9 ptrR).alloc (.cells (devCells w.heap.size (new room)) 79 (0, 0))
  refine ⟨w.heap.size, 0, .map [], fun _ => 0, fun _ => .pointer none, ?_, Nat.le_succ _, Nat.le_refl _, h1, Int.le_refl _, MapRep.nil _, Cells.nil _ _ _ _⟩
  have := blk_new (w.alloc (.map #[] 0)) (.cells (devCells w.heap.size (new room)) 79 (0, 0))
  rw [hs] at this
  exact this
set_option maxHeartbeats 2000000 in
set_option maxRecDepth 100000 in
theorem New_Q (w : World) (room : Int) : Calls Try.prog 11 #[.int .i64 room] w fun e w' => ∃ g, e = .returned (.pointer (some ⟨g, 0, none⟩)) ∧ DevAt (fun k => w.heap.size ≤ k) w' g (new room) ∧ Below w.heap.size w w' := by
  have hd := new_at w room
  have hm := run_makeMap (P := Try.prog) 77 w
  by_cases c1 : room < 0
  · have e : new room = ⟨[], 0, false, 0, 0, 0, false⟩ := by
      unfold new
      rw [show min (max room 0) 1048576 = (0 : Int) by omega]
    rw [e] at hd ⊢
    have HD := Aside0.mk hd
    clear hd e
    go_enter Try.func11, Try.ntmps11
    go_wp2
    all_goals first | omega | skip
    go_ret
    exact ⟨_, rfl, HD.out, below_alloc (below_alloc (Below.refl _ _) _) _⟩
  · by_cases c2 : room ≤ 1048576
    · have e : new room = ⟨[], room, false, 0, 0, 0, false⟩ := by
        unfold new
        rw [show min (max room 0) 1048576 = room by omega]
      rw [e] at hd ⊢
      have HD := Aside0.mk hd
      clear hd e
      go_enter Try.func11, Try.ntmps11
      go_wp2
      all_goals first | omega | skip
      go_ret
      exact ⟨_, rfl, HD.out, below_alloc (below_alloc (Below.refl _ _) _) _⟩
    · have e : new room = ⟨[], 1048576, false, 0, 0, 0, false⟩ := by
        unfold new
        rw [show min (max room 0) 1048576 = (1048576 : Int) by omega]
      rw [e] at hd ⊢
      have HD := Aside0.mk hd
      clear hd e
      go_enter Try.func11, Try.ntmps11
      go_wp2
      all_goals first | omega | skip
      go_ret
      exact ⟨_, rfl, HD.out, below_alloc (below_alloc (Below.refl _ _) _) _⟩
set_option maxHeartbeats 2000000 in
set_option maxRecDepth 100000 in
theorem Clone_Q (w : World) (A : Option Addr) (n c : Nat) (xs : List Int) (h : bK.C w A n xs) (hn : A = none → n = 0 ∧ c = 0) (hl : n ≤ 4294967296) : Calls Try.prog 46 #[.slice A n c] w fun e w' => ∃ v1, e = .returned v1 ∧ bK.R 5 w' w.heap.size (fun _ => True) v1 xs ∧ Below w.heap.size w w' := by
  have hu := Try.underlying46
  cases A with
  | none =>
    obtain ⟨rfl, rfl⟩ := hn rfl
    have hx : xs = [] := List.eq_nil_of_length_eq_zero h.1
    subst hx
    have he : ∀ W, (binOp .eql 46 (.slice none 0 0) (.slice none 0 0)).run Try.prog W = .ok (.bool true) W := fun _ => by kernel_rfl
    clear h hn hl
    go_enter Try.func46, Try.ntmps46
    go_wp2
    go_ret
    exact ⟨_, rfl, Kd.R_nil _ _ _ _ _, Below.refl _ _⟩
  | some ad =>
    have he : ∀ W, (binOp .eql 46 (.slice (some ad) n c) (.slice none 0 0)).run Try.prog W = .ok (.bool false) W := fun _ => by kernel_rfl
    have hrow : bK.R 5 (w.alloc (.cells #[] 5)) w.heap.size (fun _ => True) (.slice (some ⟨w.heap.size, 0, none⟩) 0 0) [] :=
      Kd.R_of_own (World.ownsRow_lit w #[] 0 (Nat.le_refl _) (by decide) rfl) (fun _ _ => trivial)
    have H0 := Aside0.mk hrow
    have H := Aside0.mk (Kd.C_alloc h (.cells #[] 5))
    have HL := Aside0.mk hl
    clear h hn hl hrow
    go_enter Try.func46, Try.ntmps46
    go_wp2_with (first | ((with_reducible refine gate_builtin (b := .append) (xs := #[.tmp 5, .tmp 6]) rfl ?_); (try (refine gate_guard (by rfl) ?_; dsimp only)); at_builtin; refine Kd.R_append_row (Value.int .u8) 0 (w0 := w) w.heap.size rfl (.tmp 5) (.tmp 6) 46 5 (.int .u8 0) 1 rfl Try.underlying46 info5_ rfl (by decide) (.slice (some ⟨w.heap.size, 0, none⟩) 0 0) [] xs (some ad) n c (fun _ => True) rfl rfl (fun _ _ => trivial) H0.out H.out (below_alloc (Below.refl _ _) _) ?aS ?aL ?_; (case aS => exact (below_alloc (Below.refl _ _) _).size); (case aL => have := HL.out; simp only [List.length_nil]; omega); intro v1 w1 ho hb hg hat; have HO := Aside0.mk ho; have HB := Aside0.mk hb; clear ho hb hg hat))
    go_ret
    exact ⟨_, rfl, HO.out, HB.out⟩
attribute [local go_sem] max2_int min2_int max_two min_two max_three min_three
set_option linter.unusedVariables false
set_option linter.unusedSimpArgs false
structure Rest (l : List Fl) (D : DataW Unit) (left : Lit → Bool) (todo : List Fl) : Prop where
  once : Once todo
  mem : ∀ f ∈ todo, f ∈ l ∧ left (ky f.name) = true
  all : ∀ f ∈ l, left (ky f.name) = true → f ∈ todo
  has : ∀ kl, left kl = true → Maps.has D kl = true
section
variable {l todo : List Fl} {D : DataW Unit} {left : Lit → Bool} {bl : ByteArray → Nat}
theorem Rest.start (h : MapRep D l bl) (ho : Once l) : Rest l D (Maps.has D) l := ⟨ho, fun f hf => ⟨hf, h.2.2.1 f hf⟩, fun f hf _ => hf, fun _ h => h⟩
theorem Rest.done (h : Rest l D left todo) (hl : ∀ kl, left kl = false) : todo = [] := by
  cases todo with
  | nil => rfl
  | cons f r =>
    have := (h.mem f List.mem_cons_self).2
    rw [hl] at this
    cases this
theorem Rest.took (h : Rest l D left todo) (hm : MapRep D l bl) {kl : Lit} (hl : left kl = true) : ∃ f, f ∈ todo ∧ kl = ky f.name := by
  obtain ⟨f, hf, rfl⟩ := hm.2.1 kl (h.has kl hl)
  exact ⟨f, h.all f hf hl, rfl⟩
theorem ky_same (a b : ByteArray) : (ky a).sameKey (ky b) = decide (a = b) := by
  by_cases e : a = b
  · subst e
    simp [ky, Lit.sameKey]
  · rw [decide_eq_false e, Maps.sameKey_ne (ky_ne e)]
theorem Rest.strike (h : Rest l D left todo) (f : Fl) : Rest l D (fun z => left z && !z.sameKey (ky f.name)) (delF todo f.name) := by
  refine ⟨delF_once h.once _, fun g hg => ?_, fun g hg hl => ?_, fun kl hl => ?_⟩
  · obtain ⟨a, b⟩ := (delF_mem todo f.name g).1 hg
    refine ⟨(h.mem g a).1, ?_⟩
    simp only [ky_same, (h.mem g a).2, decide_eq_false b]
    rfl
  · simp only [ky_same, Bool.and_eq_true, Bool.not_eq_true', decide_eq_false_iff_not] at hl
    exact (delF_mem todo f.name g).2 ⟨h.all g hg hl.1, hl.2⟩
  · simp only [Bool.and_eq_true] at hl
    exact h.has kl hl.1
theorem sizes_cons (f : Fl) (l : List Fl) : sizes (f :: l) = f.b.length + sizes l := rfl
theorem sizes_nonneg (l : List Fl) : 0 ≤ sizes l := by
  induction l with
  | nil => exact Int.le_refl _
  | cons f r ih => rw [sizes_cons]; omega
theorem delF_notin {l : List Fl} {s : ByteArray} (h : s ∉ l.map Fl.name) : delF l s = l := by
  unfold delF
  rw [List.filter_eq_self]
  intro f hf
  exact decide_eq_true (fun e => h (List.mem_map.2 ⟨f, hf, e⟩))
theorem sizes_del (h : Once l) {f : Fl} (hf : f ∈ l) : sizes l = sizes (delF l f.name) + f.b.length := by
  induction l with
  | nil => cases hf
  | cons x r ih =>
    unfold Once at h
    rw [List.map_cons, List.nodup_cons] at h
    rcases List.mem_cons.1 hf with rfl | hm
    · have : delF (f :: r) f.name = r := by
        rw [← delF_notin h.1]
        unfold delF
        simp
      rw [this, sizes_cons]
      omega
    · have hne : x.name ≠ f.name := fun e => h.1 (by rw [e]; exact List.mem_map.2 ⟨f, hm, rfl⟩)
      have : delF (x :: r) f.name = x :: delF r f.name := by
        unfold delF
        simp [hne]
      rw [this, sizes_cons, sizes_cons, ih h.2 hm]
      omega
end
section
variable {S : Nat → Prop} {w : World} {g : Nat} {d : DS} {mb n : Nat} {D : DataW Unit} {bl : ByteArray → Nat} {vl : ByteArray → Value}
theorem elem_ptr {l : List Fl} (h : MapRep D l bl) {f : Fl} (hf : f ∈ l) {c : Value} {yd : DataW Unit} {yp : List MemPlace} (hv : ptrR c = some (yd, yp)) (hat : ∀ zd, D.atKey (ky f.name) zd = yd) : c = .pointer (some ⟨bl f.name, 0, none⟩) := by
  have e := h.1 f.name
  rw [hat .nil, if_pos (findF_isSome.2 (List.mem_map.2 ⟨f, hf, rfl⟩))] at e
  subst e
  obtain ⟨q, rfl, hq⟩ := ptrR_lit hv
  rw [show bl f.name = q by omega]
set_option maxHeartbeats 4000000 in
set_option maxRecDepth 100000 in
theorem Free_Q (h : DevW S w g d mb n D bl vl) (hok : d.Fit) : Calls Try.prog 19 #[.pointer (some ⟨g, 0, none⟩)] w fun e w' => e = .returned (.int .i64 d.free) ∧ Below w.heap.size w w' := by
  have z0 : w.cell? ⟨g, 0, none⟩ = some (.map (some mb)) := h.cell 0
  have z1 : w.cell? ⟨g, 1, none⟩ = some (.int .i64 d.room) := h.cell 1
  have hown := h.own
  have hmlt := h.own.lt
  have HW := Aside0.mk h
  have HOk := Aside0.mk hok
  clear h hok
  go_enter Try.func19, Try.ntmps19
  go_wp2_with (first | (at_range; refine wpList_range_own _ rfl _ 77 rfl 9 89 keyed Try.underlying77 ptrR mb n D rfl hown ?_; intro w1 hrg hg hs) | go_in)
  go_frame
  go_loopw [3, 5] (fun u3 _ wr => ∃ left cnt todo, u3 = .int .i64 (d.room - sizes d.files + sizes todo) ∧ wr.ranges Try.prog 9 ptrR mb w.heap.size n D left cnt ∧ Rest d.files D left todo ∧ sizes todo ≤ sizes d.files ∧ Below w.heap.size w wr)
    (fun _ _ wr => wr.rangeLeft mb w.heap.size)
  case atStart => exact ⟨_, _, d.files, by simp, hrg, Rest.start HW.out.rep HW.out.cells.1, Int.le_refl _, (Below.refl _ _).grown hg (Nat.le_refl _) (fun k hk => by cases hk)⟩
  case round =>
    clear hown z0 z1
    obtain ⟨left, cnt, todo, rfl, hrg, hR, hle, hb⟩ := hrel
    have HRest := Aside0.mk hR
    have HB := Aside0.mk hb
    have HLe := Aside0.mk hle
    clear hR hb hle
    go_wp2_with (first
      | (at_next; refine wpList_next_ranges _ rfl _ rfl 9 keyed ptrR id id (fun key _ _ => ⟨key, rfl⟩) (fun v _ _ => ⟨v, rfl⟩) mb w.heap.size n _ _ _ rfl hrg ?_ ?_)
      | go_in)
    · intro hc0 hl0
      have e := HRest.out.done hl0
      subst e
      go_wp2
      go_ret
      exact ⟨by simp [DS.free, sizes], HB.out⟩
    · intro x c kl yd yp w1 cnt1 hkey hlx hv hat hrg1 hlt hg1 hs1 hen
      obtain ⟨f, hf, rfl⟩ := HRest.out.took HW.out.rep hlx
      have hfl := (HRest.out.mem f hf).1
      have e := elem_ptr (c := c) HW.out.rep hfl hv hat
      subst e
      change (Instr.entry (.pointer (some ⟨w.heap.size, 0, none⟩))).run Try.prog w1 = .ok (.tuple #[x, .pointer (some ⟨bl f.name, 0, none⟩)]) w1 at hen
      have hb1 : Below w.heap.size w w1 := HB.out.grown hg1 HB.out.size (fun k hk => by cases hk; exact Nat.le_refl _)
      obtain ⟨q1, q2, q3, q4, q5⟩ := (HW.out.below hb1).cells.2.1 f hfl
      obtain ⟨A, cc, ev⟩ := Kd.R_slice q3
      have zf : w1.cell? ⟨bl f.name, 0, none⟩ = some (.slice A f.b.length cc) := by
        rw [← ev]
        exact (blk_cell q1 0).trans rfl
      have HQ := Aside0.mk (sizes_del HRest.out.once hf)
      have hR1 := Aside0.mk (HRest.out.strike f)
      obtain ⟨m, hm⟩ : ∃ m : Nat, m = f.b.length := ⟨_, rfl⟩
      rw [← hm] at zf
      have HM := Aside0.mk hm
      have HB1 := Aside0.mk hb1
      have hbl : ∃ b, b = bl f.name := ⟨_, rfl⟩
      obtain ⟨b, hbl⟩ := hbl
      rw [← hbl] at hen zf
      clear q1 q2 q3 q4 q5 hm hb1 hf hfl hat hv hkey hlx ev hbl
      go_wp2
      go_roundw
      case rel =>
        refine ⟨_, cnt1, delF todo f.name, ?_, hrg1, hR1.out, ?_, HB1.out⟩
        · have h1 := HQ.out
          have h2 := HM.out
          have h3 := HLe.out
          have h4 := sizes_nonneg (delF todo f.name)
          have h5 := HOk.out.fits
          have h6 := HOk.out.room
          have h7 := sizes_nonneg d.files
          rw [← h2] at h1
          congr 1
          rw [w64 (by omega) (by omega)]
          omega
        · have h1 := HQ.out
          have h3 := HLe.out
          omega
      case measure => rw [hrg1.left_eq, hrg.left_eq]; exact hlt
end
end Go.Proofs.Ytclkcipakncjkaa.Dk
namespace Go.Proofs.Ytclkcipakncjkaa.Dk
open Go Go.RowKit Go.Proofs.YtclkcipakncjkaaW.PrintWords Go.Proofs.YtclkcipakncjkaaW.PrintLast Go.Proofs.YtclkcipakncjkaaW.PrintMore Go.Proofs.YtclkcipakncjkaaMy Go.Proofs.Ytclkcipakncjkaa Go.Proofs.YtclkcipakncjkaaPw Go.Proofs.Ytclkcipakncjkaa.PAll
set_option linter.unusedVariables false
set_option linter.unusedSimpArgs false
theorem max2_m (k k' : IntKind) (x y : Int) : Builtin.max2 (.int k x) (.int k' y) = pure (.int k (max x y)) := by
  rw [max2_int]
  congr 2
  by_cases h : x < y
  · rw [if_pos h]; omega
  · rw [if_neg h]; omega
theorem min2_m (k k' : IntKind) (x y : Int) : Builtin.min2 (.int k x) (.int k' y) = pure (.int k (min x y)) := by
  rw [min2_int]
  congr 2
  by_cases h : y < x
  · rw [if_pos h]; omega
  · rw [if_neg h]; omega
theorem kept_le (keep : Int) (f : Fl) (h : f.safe ≤ f.b.length) : f.safe + kept keep f ≤ f.b.length := by unfold kept; omega
theorem kept_min (keep : Int) (f : Fl) (h : f.safe ≤ f.b.length) : min (max keep 0) ((f.b.length : Int) - (f.safe : Int)) = (kept keep f : Int) := by unfold kept; omega
theorem diff_w {m s : Nat} (h : m ≤ 1048576) (hs : s ≤ m) : wrap64 ((m : Int) - (s : Int)) = (m : Int) - (s : Int) := w64 (by omega) (by omega)
theorem sum_w {m s k : Nat} (h : m ≤ 1048576) (hs : s + k ≤ m) : wrap64 ((s : Int) + (k : Int)) = (s : Int) + (k : Int) := w64 (by omega) (by omega)
theorem cast_le {m s k : Nat} (hs : s + k ≤ m) : 0 ≤ (s : Int) + (k : Int) ∧ (s : Int) + (k : Int) ≤ (m : Int) := by omega
theorem cast_nat (s k : Nat) : ((s : Int) + (k : Int)).toNat = s + k := by omega
theorem size_le {l : List Fl} (ho : Once l) {f : Fl} (hf : f ∈ l) {r : Int} (h1 : sizes l ≤ r) (h2 : r ≤ 1048576) : f.b.length ≤ 1048576 := by
  have e1 := sizes_del ho hf
  have e2 := sizes_nonneg (delF l f.name)
  omega
set_option maxRecDepth 10000 in
theorem xor_nat : ∀ a : Fin 256, (a.val ^^^ 255 : Nat) = 255 - a.val := by decide
theorem xor_255 {x : Int} (h0 : 0 ≤ x) (h1 : x ≤ 255) : bits .xor .u8 x 255 = 255 - x := by
  rw [u8_xor x 255 h0 (by omega) (by decide) (by decide)]
  have h := xor_nat ⟨x.toNat, by omega⟩
  simp only at h
  rw [show ((255 : Int).toNat) = 255 from rfl, h]
  omega
theorem R_base0 {e base : Nat} {W : World} {v : Value} {xs : List Int} {ok : Nat → Prop} (h : bK.R e W base ok v xs) : bK.R e W 0 ok v xs := Kd.R_of_own (own_less (Kd.own_of_R h) (Nat.zero_le _)) h.1
theorem R_shape {e base : Nat} {W : World} {v : Value} {xs : List Int} {ok : Nat → Prop} (h : bK.R e W base ok v xs) : (v = .slice none 0 0 ∧ xs = []) ∨ ∃ g cap, v = .slice (some ⟨g, 0, none⟩) xs.length cap ∧ base ≤ g ∧ xs.length ≤ cap := by
  obtain ⟨inner, ho⟩ := Kd.R_own h
  rcases ho.2 with ⟨rfl, hn⟩ | ⟨g, cap, cur, rfl, hbg, hg, hnc, _⟩
  · exact .inl ⟨rfl, List.eq_nil_of_length_eq_zero hn⟩
  · exact .inr ⟨g, cap, rfl, hbg, hnc⟩
section
variable {S S1 : Nat → Prop} {W W2 W4 : World} {l : List Fl} {bl : ByteArray → Nat} {vl : ByteArray → Value}
theorem Cells.cloned (h : Cells S W l bl vl) {f : Fl} (hf : f ∈ l) (hS : ∀ k, S k → S1 k) (hS1 : ∀ k, W.heap.size ≤ k → S1 k) {v1 : Value} {xs ys : List Int}
    (hb : Below W.heap.size W W2) (hr : bK.R 5 W2 W.heap.size (fun _ => True) v1 xs) (e4 : Only (fun k => k = bl f.name ∨ v1.ownBlock = some k) W2 W4)
    (hblk : W4.heap[bl f.name]? = some (.cells #[v1, .int .i64 (ys.length : Int)] 94 (0, 0))) (hr4 : bK.R 5 W4 0 (fun _ => True) v1 ys) :
    Cells S1 W4 (putF l ⟨f.name, ys, ys.length⟩) bl (upd vl f.name v1) := by
  have hge : ∀ k, v1.ownBlock = some k → W.heap.size ≤ k := fun k hk => by
    rcases Kd.R_base2 hr with h0 | ⟨k2, h2, h3⟩
    · rw [hk] at h0; cases h0
    · rw [hk] at h2; cases h2; exact h3
  refine h.rewrite (f' := ⟨f.name, ys, ys.length⟩) hf rfl v1 hS (fun k hk hne hro => ?_) hblk hr4 (fun k hk => .inr ⟨hge k hk, hS1 k (hge k hk)⟩) (Nat.le_refl _)
  rw [e4.block k (Nat.lt_of_lt_of_le hk hb.size) (fun h => h.elim hne (fun e => by have := hge k e; omega)), hb.block k hk]
theorem Cells.drewN (h : Cells S W l bl vl) (m : Nat) : Cells S (W.drewN m) l bl vl := h.below (pw_below_drewN (Below.refl _ _) m)
end
def offL (keep : Int) (torn : Bool) (l todo : List Fl) : List Fl := l.map fun f => if (findF todo f.name).isSome = true then f else lose1 keep torn f
theorem offL_all (keep : Int) (torn : Bool) (l : List Fl) : offL keep torn l l = l := by
  unfold offL
  conv => rhs; rw [← List.map_id l]
  exact List.map_congr_left (fun f hf => if_pos (findF_isSome.2 (List.mem_map.2 ⟨f, hf, rfl⟩)))
theorem offL_none (keep : Int) (torn : Bool) (l : List Fl) : offL keep torn l [] = l.map (lose1 keep torn) := List.map_congr_left (fun f hf => if_neg (by simp [findF]))
theorem offL_mem {keep : Int} {torn : Bool} {l todo : List Fl} {f : Fl} (hf : f ∈ todo) (hl : f ∈ l) : f ∈ offL keep torn l todo := List.mem_map.2 ⟨f, hl, if_pos (findF_isSome.2 (List.mem_map.2 ⟨f, hf, rfl⟩))⟩
theorem putF_map {l : List Fl} (h : Once l) {f' : Fl} (hn : f'.name ∈ l.map Fl.name) : putF l f' = l.map fun g => if g.name = f'.name then f' else g := by
  induction l with
  | nil => cases hn
  | cons x r ih =>
    unfold Once at h
    rw [List.map_cons, List.nodup_cons] at h
    unfold putF
    rw [List.map_cons]
    by_cases e : x.name = f'.name
    · rw [if_pos e, if_pos e]
      congr 1
      conv => lhs; rw [← List.map_id r]
      refine List.map_congr_left (fun g hg => ?_)
      rw [if_neg (fun e2 => h.1 (by rw [e, ← e2]; exact List.mem_map.2 ⟨g, hg, rfl⟩))]
      rfl
    · rw [if_neg e, if_neg e, ih h.2 ((List.mem_cons.1 hn).resolve_left (fun e2 => e e2.symm))]
theorem offL_name (keep : Int) (torn : Bool) (todo : List Fl) (f : Fl) : (if (findF todo f.name).isSome = true then f else lose1 keep torn f).name = f.name := by
  by_cases c : (findF todo f.name).isSome = true
  · rw [if_pos c]
  · rw [if_neg c]; rfl
theorem offL_names (keep : Int) (torn : Bool) (l todo : List Fl) : (offL keep torn l todo).map Fl.name = l.map Fl.name := by
  unfold offL
  rw [List.map_map]
  exact List.map_congr_left (fun f hf => offL_name keep torn todo f)
theorem offL_step {keep : Int} {torn : Bool} {l todo : List Fl} (ho : Once l) {f : Fl} (hf : f ∈ todo) (hl : f ∈ l) : putF (offL keep torn l todo) (lose1 keep torn f) = offL keep torn l (delF todo f.name) := by
  have h1 : Once (offL keep torn l todo) := by unfold Once; rw [offL_names]; exact ho
  rw [putF_map h1 (by rw [offL_names]; exact List.mem_map.2 ⟨f, hl, rfl⟩)]
  unfold offL
  rw [List.map_map]
  refine List.map_congr_left (fun g hg => ?_)
  simp only [Function.comp]
  rw [offL_name]
  have hd : (findF (delF todo f.name) g.name).isSome = true ↔ (findF todo g.name).isSome = true ∧ g.name ≠ f.name := by
    rw [findF_isSome, findF_isSome]
    constructor
    · intro h
      obtain ⟨x, hx, e⟩ := List.mem_map.1 h
      obtain ⟨a, b⟩ := (delF_mem todo f.name x).1 hx
      exact ⟨List.mem_map.2 ⟨x, a, e⟩, by rw [← e]; exact b⟩
    · rintro ⟨h, hne⟩
      obtain ⟨x, hx, e⟩ := List.mem_map.1 h
      exact List.mem_map.2 ⟨x, (delF_mem todo f.name x).2 ⟨hx, by rw [e]; exact hne⟩, e⟩
  by_cases e : g.name = f.name
  · have eg : g = f := by
      have a := findF_of ho hg
      have b := findF_of ho hl
      rw [e, b] at a
      exact (Option.some.inj a).symm
    subst eg
    rw [if_pos (show g.name = (lose1 keep torn g).name from rfl), if_neg (fun h => (hd.1 h).2 rfl)]
  · have e2 : ¬ g.name = (lose1 keep torn f).name := e
    rw [if_neg e2]
    by_cases c : (findF todo g.name).isSome = true
    · rw [if_pos c, if_pos (hd.2 ⟨c, e⟩)]
    · rw [if_neg c, if_neg (fun h => c (hd.1 h).1)]
end Go.Proofs.Ytclkcipakncjkaa.Dk
namespace Go.Proofs.Ytclkcipakncjkaa.Dk
open Go Go.RowKit Go.Proofs.YtclkcipakncjkaaW.PrintWords Go.Proofs.YtclkcipakncjkaaW.PrintLast Go.Proofs.YtclkcipakncjkaaW.PrintMore Go.Proofs.YtclkcipakncjkaaMy Go.Proofs.Ytclkcipakncjkaa Go.Proofs.YtclkcipakncjkaaPw Go.Proofs.Ytclkcipakncjkaa.PAll
attribute [local go_sem] max2_m min2_m max_two min_two
set_option linter.unusedVariables false
set_option linter.unusedSimpArgs false
abbrev Rg (W : World) (mb r n : Nat) (D : DataW Unit) (left : Lit → Bool) (cnt : Nat) : Prop := W.ranges Try.prog 9 ptrR mb r n D left cnt
theorem Rg.move {W W1 : World} {mb r n : Nat} {D : DataW Unit} {left : Lit → Bool} {cnt : Nat} (h : Rg W mb r n D left cnt) (h1 : W1.heap[mb]? = W.heap[mb]?) (h2 : W1.heap[r]? = W.heap[r]?) : Rg W1 mb r n D left cnt := by
  obtain ⟨es, clock, since, seen, c0, hb, F, hs, hD, hr, rest⟩ := h
  exact ⟨es, clock, since, seen, c0, h1.trans hb, F, hs, hD, h2.trans hr, rest⟩
theorem Rg.iter {W : World} {mb r n : Nat} {D : DataW Unit} {left : Lit → Bool} {cnt : Nat} (h : Rg W mb r n D left cnt) : ∃ a b c e, W.heap[r]? = some (.mapIter a b c e) := by
  obtain ⟨es, clock, since, seen, c0, hb, F, hs, hD, hr, rest⟩ := h
  exact ⟨_, _, _, _, hr⟩
theorem Cells.notIter {S : Nat → Prop} {W : World} {l : List Fl} {bl : ByteArray → Nat} {vl : ByteArray → Value} (h : Cells S W l bl vl) {m : Nat} (hm : ∃ a b c e, W.heap[m]? = some (.mapIter a b c e)) {f : Fl} (hf : f ∈ l) {k : Nat} (hk : k = bl f.name ∨ (vl f.name).ownBlock = some k) : k ≠ m := by
  obtain ⟨_, _, _, _, hg⟩ := hm
  obtain ⟨a, b, c, d⟩ := h.2.1 f hf
  rintro rfl
  rcases hk with rfl | e
  · rw [hg] at a
    cases a
  · obtain ⟨inner, ho⟩ := Kd.R_own c
    obtain ⟨cells, hc⟩ := own_typed ho k e
    rw [hg] at hc
    cases hc
section
variable {S : Nat → Prop} {w : World} {g : Nat} {d : DS} {mb n : Nat} {D : DataW Unit} {bl : ByteArray → Nat} {vl : ByteArray → Value}
structure OffAt (S : Nat → Prop) (w : World) (g : Nat) (d : DS) (mb n : Nat) (D : DataW Unit) (bl : ByteArray → Nat) (keep : Int) (torn : Bool) (left : Lit → Bool) (cnt : Nat) (todo : List Fl) (vl : ByteArray → Value) (W : World) : Prop where
  rg : Rg W mb w.heap.size n D left cnt
  rest : Rest d.files D left todo
  cells : Cells (Grow S w) W (offL keep torn d.files todo) bl vl
  blk : W.heap[g]? = some (.cells (devCells mb d) 79 (0, 0))
  only : Only S w W
theorem OffAt.round {keep : Int} {torn : Bool} {left' : Lit → Bool} {cnt' : Nat} {todo : List Fl} {vl1 : ByteArray → Value} {w1 W2 W4 : World} {v1 : Value} {f : Fl}
    (hw : DevW S w g d mb n D bl vl) (hC : Cells (Grow S w) w1 (offL keep torn d.files todo) bl vl1) (hrg : Rg w1 mb w.heap.size n D left' cnt') (hR : Rest d.files D left' (delF todo f.name)) (hO : Only S w w1) (hblk : w1.heap[g]? = some (.cells (devCells mb d) 79 (0, 0)))
    (hf : f ∈ todo) (hfl : f ∈ d.files) {xs : List Int} (hb : Below w1.heap.size w1 W2) (hr : bK.R 5 W2 w1.heap.size (fun _ => True) v1 xs) (h4 : Only (fun k => k = bl f.name ∨ v1.ownBlock = some k) W2 W4)
    (hb4 : W4.heap[bl f.name]? = some (.cells #[v1, .int .i64 ((loseB keep torn f).length : Int)] 94 (0, 0))) (hr4 : bK.R 5 W4 0 (fun _ => True) v1 (loseB keep torn f)) :
    ∃ vl2, OffAt S w g d mb n D bl keep torn left' cnt' (delF todo f.name) vl2 W4 := by
  have hf1 := offL_mem (keep := keep) (torn := torn) hf hfl
  have hge : ∀ k, v1.ownBlock = some k → w1.heap.size ≤ k := fun k hk => by
    rcases Kd.R_base2 hr with h0 | ⟨k2, h2, h3⟩
    · rw [hk] at h0; cases h0
    · rw [hk] at h2; cases h2; exact h3
  have hkeep : ∀ k, k < w1.heap.size → k ≠ bl f.name → W4.heap[k]? = w1.heap[k]? := fun k hk hne => by
    rw [h4.block k (Nat.lt_of_lt_of_le hk hb.size) (fun h => h.elim hne (fun h => by have := hge k h; omega)), hb.block k hk]
  refine ⟨upd vl1 f.name v1, ?_, hR, ?_, ?_, ?_⟩
  · exact hrg.move (hkeep mb hrg.owns.lt (fun e => Owns.ne hrg.owns (hC.2.1 f hf1).1 e)) (hkeep _ hrg.lt (fun e => hC.notIter hrg.iter hf1 (.inl rfl) e.symm))
  · have := hC.cloned (S1 := Grow S w) hf1 (fun _ h => h) (fun k hk => .inr (Nat.le_trans hO.size hk)) hb hr (ys := loseB keep torn f) h4 hb4 hr4
    rw [← offL_step hw.cells.1 hf hfl]
    exact this
  · rw [hkeep g (blk_lt hblk) (fun e => hC.other hblk (by decide) (by decide) hf1 (.inl rfl) e.symm)]
    exact hblk
  · refine (hO.below hb).thenN h4 (fun k hk => ?_)
    rcases hk with rfl | hk
    · exact hC.both_S hf1 (.inl rfl)
    · have := hge k hk
      have := hO.size
      exact .inr (by omega)
theorem OffAt.round0 {keep : Int} {torn : Bool} {left' : Lit → Bool} {cnt' : Nat} {todo : List Fl} {vl1 : ByteArray → Value} {w1 W2 : World} {v1 u sv : Value} {f : Fl}
    (hw : DevW S w g d mb n D bl vl) (hC : Cells (Grow S w) w1 (offL keep torn d.files todo) bl vl1) (hrg : Rg w1 mb w.heap.size n D left' cnt') (hR : Rest d.files D left' (delF todo f.name)) (hO : Only S w w1) (hblk : w1.heap[g]? = some (.cells (devCells mb d) 79 (0, 0)))
    (hf : f ∈ todo) (hfl : f ∈ d.files) (hb : Below w1.heap.size w1 W2) (hr : bK.R 5 W2 w1.heap.size (fun _ => True) v1 (loseB keep torn f)) (hq : w1.heap[bl f.name]? = some (.cells #[u, sv] 94 (0, 0))) {z : Int} (hz : ((loseB keep torn f).length : Int) = z) {b : Nat} (hbl : b = bl f.name) :
    ∃ vl2, OffAt S w g d mb n D bl keep torn left' cnt' (delF todo f.name) vl2 ((W2.setCell ⟨b, 0, none⟩ v1).setCell ⟨b, 1, none⟩ (.int .i64 z)) := by
  subst hbl
  subst hz
  have e2 : W2.heap[bl f.name]? = some (.cells #[u, sv] 94 (0, 0)) := (hb.block _ (blk_lt hq)).trans hq
  have e3 := blk_set e2 0 v1
  have e4 := blk_set e3 1 (.int .i64 ((loseB keep torn f).length : Int))
  have hne : ∀ q, q ∈ 5 :: bK.E → q ≠ 94 := by intro q hq; simp [bK, Kd.int, Kd.scalar] at hq; omega
  exact OffAt.round hw hC hrg hR hO hblk hf hfl hb hr (((Only.refl _ W2).setCell (.inl (.inl rfl)) _).setCell (.inl (.inl rfl)) _) e4 (R_base0 (Kd.R_set (Kd.R_set hr e2 hne 0 v1) e3 hne 1 _))
theorem OffAt.drew_ {keep : Int} {torn : Bool} {left : Lit → Bool} {cnt : Nat} {todo : List Fl} {vl1 : ByteArray → Value} {W : World} (h : OffAt S w g d mb n D bl keep torn left cnt todo vl1 W) : OffAt S w g d mb n D bl keep torn left cnt todo vl1 W.drew :=
  ⟨Rg.move h.rg rfl rfl, h.rest, h.cells.below (below_drew1 (Below.refl _ _)), h.blk, h.only.below (below_drew1 (Below.refl _ _))⟩
theorem OffAt.round1 {keep : Int} {torn : Bool} {left' : Lit → Bool} {cnt' : Nat} {todo : List Fl} {vl1 : ByteArray → Value} {w1 W2 : World} {u sv : Value} {f : Fl} {g2 m c2 : Nat} {xs : List Int}
    (hw : DevW S w g d mb n D bl vl) (hC : Cells (Grow S w) w1 (offL keep torn d.files todo) bl vl1) (hrg : Rg w1 mb w.heap.size n D left' cnt') (hR : Rest d.files D left' (delF todo f.name)) (hO : Only S w w1) (hblk : w1.heap[g]? = some (.cells (devCells mb d) 79 (0, 0)))
    (hf : f ∈ todo) (hfl : f ∈ d.files) (hb : Below w1.heap.size w1 W2) (hr : bK.R 5 W2 w1.heap.size (fun _ => True) (.slice (some ⟨g2, 0, none⟩) m c2) xs) (hl : loseB keep torn f = turnLast xs) (hm : 0 < m) (hq : w1.heap[bl f.name]? = some (.cells #[u, sv] 94 (0, 0))) {z y : Int} (hz : (m : Int) = z) (hy : y = 255 - xs.getD (m - 1) 0) {b : Nat} (hbl : b = bl f.name) :
    ∃ vl2, OffAt S w g d mb n D bl keep torn left' cnt' (delF todo f.name) vl2 (((W2.setCell ⟨b, 0, none⟩ (.slice (some ⟨g2, 0, none⟩) m c2)).setCell ⟨g2, m - 1, none⟩ (.int .u8 y)).setCell ⟨b, 1, none⟩ (.int .i64 z)) := by
  subst hbl
  subst hz
  have hlen : m = xs.length := (Kd.R_reads' hr).1
  have e2 : W2.heap[bl f.name]? = some (.cells #[u, sv] 94 (0, 0)) := (hb.block _ (blk_lt hq)).trans hq
  have hne : ∀ q, q ∈ 5 :: bK.E → q ≠ 94 := by intro q hq; simp [bK, Kd.int, Kd.scalar] at hq; omega
  have hg2 : w1.heap.size ≤ g2 := by
    rcases Kd.R_base2 hr with h0 | ⟨k2, h2, h3⟩
    · cases h0
    · have h2 : some g2 = some k2 := h2
      cases h2; exact h3
  have hgb : bl f.name ≠ g2 := by have := blk_lt hq; omega
  have e3 := blk_set e2 0 (.slice (some ⟨g2, 0, none⟩) m c2)
  have r3 := Kd.R_set hr e2 hne 0 (.slice (some ⟨g2, 0, none⟩) m c2)
  obtain ⟨r4, _⟩ := Kd.R_putg r3 ((m - 1 : Nat) : Int) y
  rw [Int.toNat_natCast] at r4
  have e4 := (Below.heap_setCell (W2.setCell ⟨bl f.name, 0, none⟩ (.slice (some ⟨g2, 0, none⟩) m c2)) ⟨g2, m - 1, none⟩ (.int .u8 y) (bl f.name) hgb).trans e3
  have e5 := blk_set e4 1 (.int .i64 (m : Int))
  have r5 := Kd.R_set r4 e4 hne 1 (.int .i64 (m : Int))
  have hset : xs.set (m - 1) y = loseB keep torn f := by rw [hl, hy, hlen]; rfl
  have hln : (loseB keep torn f).length = m := by rw [← hset, List.length_set, hlen]
  rw [hset] at r5
  refine OffAt.round hw hC hrg hR hO hblk hf hfl hb hr ((((Only.refl _ W2).setCell (.inl (.inl rfl)) _).setCell (.inl (.inr rfl)) _).setCell (.inl (.inl rfl)) _) ?_ (R_base0 r5)
  rw [hln]
  exact e5
end
attribute [local go_sem] max2_m min2_m max_two min_two
set_option linter.unusedVariables false
set_option linter.unusedSimpArgs false
theorem infoB : (Try.prog.info? 5).map (fun i => (i.zero, i.size, i.bytes)) = some (some (.int .u8 0), 1, 1) := by kernel_rfl
section
variable {S : Nat → Prop} {w : World} {g : Nat} {d : DS} {mb n : Nat} {D : DataW Unit} {bl : ByteArray → Nat} {vl : ByteArray → Value}
set_option maxHeartbeats 4000000 in
set_option maxRecDepth 100000 in
theorem Off_Q (h : DevW S w g d mb n D bl vl) (hok : d.Fit) (keep : Int) (torn : Bool) : Calls Try.prog 29 #[.pointer (some ⟨g, 0, none⟩), .int .i64 keep, .bool torn] w fun e w' => e = .returned (.tuple #[]) ∧ DevAt (Grow S w) w' g (d.off keep torn) ∧ Only S w w' := by
  have z0 : w.cell? ⟨g, 0, none⟩ = some (.map (some mb)) := h.cell 0
  have z2 : w.cell? ⟨g, 2, none⟩ = some (.bool d.down) := h.cell 2
  have hu := Try.underlying46
  have hown := h.own
  have HW := Aside0.mk h
  have HOk := Aside0.mk hok
  clear h hok
  obtain ⟨dn, hd⟩ : ∃ b, b = d.down := ⟨_, rfl⟩
  rw [← hd] at z2
  cases dn with
  | true =>
    have e : d.off keep torn = d := if_pos hd.symm
    rw [e]
    clear e hown z0 hd
    go_enter Try.func29, Try.ntmps29
    go_wp2
    (try simp only [Exit.inBlock, Exit.then]); refine bodyPost_ret (results_none rfl _ _ _) rfl ?_
    exact ⟨rfl, (HW.out.mono (fun _ h => .inl h)).at, Only.refl _ _⟩
  | false =>
    have HD := Aside0.mk hd.symm
    clear hd
    go_enter Try.func29, Try.ntmps29
    go_wp2_with (first | (at_range; refine wpList_range_own _ rfl _ 77 rfl 9 89 keyed Try.underlying77 ptrR mb n D rfl hown ?_; intro w1 hrg hg hs) | go_in)
    go_frame
    go_loopw [7, 8] (fun _ _ wr => ∃ left cnt todo vl', OffAt S w g d mb n D bl keep torn left cnt todo vl' wr)
      (fun _ _ wr => wr.rangeLeft mb w.heap.size)
    case atStart =>
      have hb : Below w.heap.size w w1 := (Below.refl _ _).grown hg (Nat.le_refl _) (fun k hk => by cases hk)
      have hw1 := HW.out.below hb
      exact ⟨_, _, d.files, vl, hrg, Rest.start HW.out.rep HW.out.cells.1, by rw [offL_all]; exact hw1.cells.mono (fun _ h => .inl h), hw1.blk, (Only.refl _ _).below hb⟩
    case round =>
      clear hown z0 z2
      obtain ⟨left, cnt, todo, vl', HA⟩ := hrel
      have hrg := HA.rg
      have HA := Aside0.mk HA
      go_wp2_with (first
        | (at_next; refine wpList_next_ranges _ rfl _ rfl 9 keyed ptrR id id (fun key _ _ => ⟨key, rfl⟩) (fun v _ _ => ⟨v, rfl⟩) mb w.heap.size n _ _ _ rfl hrg ?_ ?_)
        | go_in)
      · intro hc0 hl0
        have e0 := HA.out.rest.done hl0
        subst e0
        have hC := HA.out.cells
        rw [offL_none] at hC
        have hD : DevW (Grow S w) wr g { d with files := d.files.map (lose1 keep torn) } mb n D bl vl' := ⟨HA.out.blk, .inl HW.out.sg, .inl HW.out.sm, HA.out.rg.owns, HW.out.cnt, HW.out.rep.names (fun s => by rw [show (d.files.map (lose1 keep torn)).map Fl.name = d.files.map Fl.name by rw [List.map_map]; rfl]) (by rw [List.length_map]), hC⟩
        have y2 : wr.cell? ⟨g, 2, none⟩ = some (.bool d.down) := hD.cell 2
        have y4 : wr.cell? ⟨g, 4, none⟩ = some (.int .i64 d.fuse) := hD.cell 4
        have y2f := hD.frozen 2
        have y4f := hD.frozen 4
        have h2 := hD.set_ { d with files := d.files.map (lose1 keep torn), down := true } 2 (.bool true) rfl (Int.le_refl _) rfl
        have h4 := h2.set_ { d with files := d.files.map (lose1 keep torn), down := true, fuse := 0 } 4 (.int .i64 0) rfl (Int.le_refl _) rfl
        have H4 := Aside0.mk h4
        have HO := Aside0.mk ((HA.out.only.setCell (g := g) (j := 2) (.inl HW.out.sg) (.bool true)).setCell (g := g) (j := 4) (.inl HW.out.sg) (.int .i64 0))
        have e : d.off keep torn = { d with files := d.files.map (lose1 keep torn), down := true, fuse := 0 } := if_neg (by rw [HD.out]; simp)
        have HE := Aside0.mk e
        clear hC hD h2 h4 e hl0
        go_wp2
        go_end0
        refine ⟨rfl, ?_, HO.out⟩
        rw [HE.out]
        exact H4.out.at
      · intro x c kl yd yp w1 cnt1 hkey hlx hv hat hrg1 hlt hg1 hs1 hen
        obtain ⟨f, hf, rfl⟩ := HA.out.rest.took HW.out.rep hlx
        have hfl := (HA.out.rest.mem f hf).1
        have e := elem_ptr (c := c) HW.out.rep hfl hv hat
        subst e
        change (Instr.entry (.pointer (some ⟨w.heap.size, 0, none⟩))).run Try.prog w1 = .ok (.tuple #[x, .pointer (some ⟨bl f.name, 0, none⟩)]) w1 at hen
        have hC1 : Cells (Grow S w) w1 (offL keep torn d.files todo) bl vl' := HA.out.cells.move (fun f hf k hk => hg1.block k (HA.out.cells.both_lt hf hk) (fun e => HA.out.cells.notIter hrg.iter hf hk (Option.some.inj e)))
        have hO1 : Only S w w1 := HA.out.only.grown hg1 (fun k hk => by cases hk; exact .inr (Nat.le_refl _))
        have hB1 : w1.heap[g]? = some (.cells (devCells mb d) 79 (0, 0)) := by
          rw [hg1.block g (blk_lt HA.out.blk) (fun e => by have e := Option.some.inj e; have h1 := blk_lt HW.out.blk; omega)]
          exact HA.out.blk
        obtain ⟨q1, q2, q3, q4, q5⟩ := hC1.2.1 f (offL_mem hf hfl)
        obtain ⟨A, cc, ev⟩ := Kd.R_slice q3
        have zf : w1.cell? ⟨bl f.name, 0, none⟩ = some (.slice A f.b.length cc) := by
          rw [← ev]
          exact (blk_cell q1 0).trans rfl
        have zs : w1.cell? ⟨bl f.name, 1, none⟩ = some (.int .i64 (f.safe : Int)) := (blk_cell q1 1).trans rfl
        have zff := blk_frozen q1 0
        have zsf := blk_frozen q1 1
        have hlen := size_le HW.out.cells.1 hfl HOk.out.fits HOk.out.room
        have hkle := kept_le keep f q5
        have hw1 := diff_w hlen q5
        have hmin := kept_min keep f q5
        have hw2 := sum_w hlen hkle
        obtain ⟨i0, hi0, _, hsz, _⟩ := info_parts infoB
        have hcc : f.b.length ≤ cc := by
          rcases R_shape q3 with ⟨e1, e2⟩ | ⟨g0, cap, e1, _, e2⟩
          · rw [e2]; exact Nat.zero_le _
          · rw [ev] at e1
            injection e1 with _ _ e1
            rw [e1]; exact e2
        have hA0 : A = none → f.b.length = 0 ∧ cc = 0 := by
          rintro rfl
          rcases R_shape q3 with ⟨e1, e2⟩ | ⟨g0, cap, e1, _, e2⟩
          · rw [ev] at e1
            injection e1 with _ e3 e4
            exact ⟨e3, e4⟩
          · rw [ev] at e1
            injection e1 with e1
            cases e1
        have hcut := cut_to (P := Try.prog) 46 5 .i64 hu hi0 A f.b.length cc ((f.safe : Int) + (kept keep f : Int)) (cast_le hkle).1 (cast_le hkle).2 hcc
        have hCt : bK.C w1 A (f.safe + kept keep f) (f.b.take (f.safe + kept keep f)) := by
          rw [ev] at q3
          have h1 := Kd.C_take (m := f.safe + kept keep f) (Kd.R_reads' q3).2.2 hkle
          rw [List.length_take, Nat.min_eq_left hkle] at h1
          exact h1
        have e3 : ((f.safe : Int) + (kept keep f : Int)).toNat = f.safe + kept keep f := cast_nat _ _
        rw [e3] at hcut
        have HC1 := Aside0.mk hC1
        have HO1 := Aside0.mk hO1
        have HB1 := Aside0.mk hB1
        have HF := Aside0.mk hf
        have HFl := Aside0.mk hfl
        have HQ1 := Aside0.mk q1
        have HQ3 := Aside0.mk q3
        have HLen := Aside0.mk hlen
        have HKle := Aside0.mk hkle
        have HA0 := Aside0.mk hA0
        have HCt := Aside0.mk hCt
        have HRs := Aside0.mk (HA.out.rest.strike f)
        obtain ⟨k, hk⟩ : ∃ k, k = kept keep f := ⟨_, rfl⟩
        have HK := Aside0.mk hk
        rw [← hk] at hmin hw2 hcut
        obtain ⟨b, hb⟩ : ∃ b, b = bl f.name := ⟨_, rfl⟩
        have HBl := Aside0.mk hb
        rw [← hb] at hen zf zs zff zsf
        obtain ⟨m, hm⟩ : ∃ m, m = f.b.length := ⟨_, rfl⟩
        have HM := Aside0.mk hm
        rw [← hm] at zf hmin hw1 hcut
        obtain ⟨s, hs⟩ : ∃ s, s = f.safe := ⟨_, rfl⟩
        have HS := Aside0.mk hs
        rw [← hs] at zs hmin hw1 hw2 hcut
        clear q1 q2 q3 q4 q5 hm hb hs hk hf hfl hat hv hkey hlx ev hC1 hO1 hB1 hlen hkle hA0 hCt hcc e3 hi0 hsz
        go_wp2
        go_region
        go_wp2
        have zf1 : w1.drew.cell? ⟨b, 0, none⟩ = some (.slice A m cc) := zf
        have zs1 : w1.drew.cell? ⟨b, 1, none⟩ = some (.int .i64 (s : Int)) := zs
        refine start_ (n := 16) (S := fun w' => w'.cell? ⟨b, 0, none⟩ = some (.slice A m cc) ∧ w'.cell? ⟨b, 1, none⟩ = some (.int .i64 (s : Int))) (ds := [15]) #[false, false, false, false, false, false, false, false, false, false, false, false, false, false, false, false] (by kernel_rfl) rfl rfl ⟨zf1, zs1⟩ (fun hHeld => ?_)
        refine pure_ (i := 0) (N := some 39) (v := ?_) (a' := ?_) #[true, false, false, false, false, false, false, false, false, false, false, false, false, false, false, false] rfl rfl (by kernel_rfl) (fun _ _ _ h => h) (Or.inl ⟨by rfl, ?_⟩) ?_ ?_
        rotate_left
        · intro w'
          go_simp
          with_reducible rfl
        rotate_left
        · simp only [Act.put, List.setIfInBounds_toArray, List.set_cons_zero, List.set_cons_succ, i64_w, i32_w]
          rfl
        refine pure_ (i := 1) (N := some 40) (v := ?_) (a' := ?_) #[true, true, false, false, false, false, false, false, false, false, false, false, false, false, false, false] rfl rfl (by kernel_rfl) (fun _ _ _ h => h) (Or.inl ⟨by rfl, ?_⟩) ?_ ?_
        rotate_left
        · intro w'
          go_simp
          with_reducible rfl
        rotate_left
        · simp only [Act.put, List.setIfInBounds_toArray, List.set_cons_zero, List.set_cons_succ, i64_w, i32_w]
          rfl
        refine pure_ (i := 2) (N := some 41) (v := ?_) (a' := ?_) #[true, true, true, false, false, false, false, false, false, false, false, false, false, false, false, false] rfl rfl (by kernel_rfl) (fun _ _ _ h => h) (Or.inl ⟨by rfl, ?_⟩) ?_ ?_
        rotate_left
        · intro w'
          go_simp
          with_reducible rfl
        rotate_left
        · simp only [Act.put, List.setIfInBounds_toArray, List.set_cons_zero, List.set_cons_succ, i64_w, i32_w]
          rfl
        refine pure_ (i := 3) (N := some 42) (v := ?_) (a' := ?_) #[true, true, true, true, false, false, false, false, false, false, false, false, false, false, false, false] rfl rfl (by kernel_rfl) (fun _ _ _ h => h) (Or.inl ⟨by rfl, ?_⟩) ?_ ?_
        rotate_left
        · intro w'
          go_simp
          with_reducible rfl
        rotate_left
        · simp only [Act.put, List.setIfInBounds_toArray, List.set_cons_zero, List.set_cons_succ, i64_w, i32_w]
          rfl
        refine take_ (i := 4) (N := some 43) (v := ?_) (a' := ?_) #[true, true, true, true, true, false, false, false, false, false, false, false, false, false, false, false] rfl rfl (by kernel_rfl) (fun _ _ _ h => h) (Or.inl ⟨by rfl, ?_⟩) hHeld ?_ ?_
        rotate_left
        · intro w' s0
          obtain ⟨y0, y1⟩ := s0
          go_simp
          with_reducible rfl
        rotate_left
        · simp only [Act.put, List.setIfInBounds_toArray, List.set_cons_zero, List.set_cons_succ, i64_w, i32_w]
          rfl
        refine pure_ (i := 5) (N := some 44) (v := ?_) (a' := ?_) #[true, true, true, true, true, true, false, false, false, false, false, false, false, false, false, false] rfl rfl (by kernel_rfl) (fun _ _ _ h => h) (Or.inl ⟨by rfl, ?_⟩) ?_ ?_
        rotate_left
        · intro w'
          go_simp
          with_reducible rfl
        rotate_left
        · simp only [Act.put, List.setIfInBounds_toArray, List.set_cons_zero, List.set_cons_succ, i64_w, i32_w]
          rfl
        refine pure_ (i := 6) (N := some 45) (v := ?_) (a' := ?_) #[true, true, true, true, true, true, true, false, false, false, false, false, false, false, false, false] rfl rfl (by kernel_rfl) (fun _ _ _ h => h) (Or.inl ⟨by rfl, ?_⟩) ?_ ?_
        rotate_left
        · intro w'
          go_simp
          with_reducible rfl
        rotate_left
        · simp only [Act.put, List.setIfInBounds_toArray, List.set_cons_zero, List.set_cons_succ, i64_w, i32_w]
          rfl
        refine pure_ (i := 7) (N := some 46) (v := ?_) (a' := ?_) #[true, true, true, true, true, true, true, true, false, false, false, false, false, false, false, false] rfl rfl (by kernel_rfl) (fun _ _ _ h => h) (Or.inl ⟨by rfl, ?_⟩) ?_ ?_
        rotate_left
        · intro w'
          go_simp
          with_reducible rfl
        rotate_left
        · simp only [Act.put, List.setIfInBounds_toArray, List.set_cons_zero, List.set_cons_succ, i64_w, i32_w]
          rfl
        refine take_ (i := 8) (N := some 47) (v := ?_) (a' := ?_) #[true, true, true, true, true, true, true, true, true, false, false, false, false, false, false, false] rfl rfl (by kernel_rfl) (fun _ _ _ h => h) (Or.inl ⟨by rfl, ?_⟩) hHeld ?_ ?_
        rotate_left
        · intro w' s0
          obtain ⟨y0, y1⟩ := s0
          go_simp
          with_reducible rfl
        rotate_left
        · simp only [Act.put, List.setIfInBounds_toArray, List.set_cons_zero, List.set_cons_succ, i64_w, i32_w]
          rfl
        refine pure_ (i := 9) (N := some 48) (v := ?_) (a' := ?_) #[true, true, true, true, true, true, true, true, true, true, false, false, false, false, false, false] rfl rfl (by kernel_rfl) (fun _ _ _ h => h) (Or.inl ⟨by rfl, ?_⟩) ?_ ?_
        rotate_left
        · intro w'
          go_simp
          with_reducible rfl
        rotate_left
        · simp only [Act.put, List.setIfInBounds_toArray, List.set_cons_zero, List.set_cons_succ, i64_w, i32_w]
          rfl
        refine pure_ (i := 10) (N := some 49) (v := ?_) (a' := ?_) #[true, true, true, true, true, true, true, true, true, true, true, false, false, false, false, false] rfl rfl (by kernel_rfl) (fun _ _ _ h => h) (Or.inl ⟨by rfl, ?_⟩) ?_ ?_
        rotate_left
        · intro w'
          go_simp
          with_reducible rfl
        rotate_left
        · simp only [Act.put, List.setIfInBounds_toArray, List.set_cons_zero, List.set_cons_succ, i64_w, i32_w]
          rfl
        refine pure_ (i := 11) (N := some 50) (v := ?_) (a' := ?_) #[true, true, true, true, true, true, true, true, true, true, true, true, false, false, false, false] rfl rfl (by kernel_rfl) (fun _ _ _ h => h) (Or.inl ⟨by rfl, ?_⟩) ?_ ?_
        rotate_left
        · intro w'
          go_simp
          with_reducible rfl
        rotate_left
        · simp only [Act.put, List.setIfInBounds_toArray, List.set_cons_zero, List.set_cons_succ, i64_w, i32_w]
          rfl
        have HCt2 := Aside0.mk (show bK.C w1.drew.drew A (s + k) (f.b.take (f.safe + kept keep f)) from by rw [HS.out, HK.out]; exact HCt.out)
        have HA2 := Aside0.mk (show A = none → s + k = 0 ∧ cc = 0 from fun h => by have h1 := HA0.out h; have h2 := HKle.out; have h3 := HS.out; have h4 := HK.out; exact ⟨by omega, h1.2⟩)
        have HL2 := Aside0.mk (show s + k ≤ 4294967296 from by have h1 := HLen.out; have h2 := HKle.out; have h3 := HS.out; have h4 := HK.out; omega)
        refine one_ (i := 12) (N := some 51) #[true, true, true, true, true, true, true, true, true, true, true, true, true, false, false, false] rfl rfl (by kernel_rfl) (by decide) (fun K hK => ?_)
        refine goes_ Try.func46 (by kernel_rfl) rfl #[.slice A (s + k) cc] (by rfl) rfl rfl (by (try simp only [List.map_toArray, List.map_cons, List.map_nil]); first | done | rfl) ?_
        refine (Clone_Q _ A (s + k) cc _ HCt2.out HA2.out HL2.out).mono ?_
        rintro e w2 ⟨v1, rfl, hr, hb⟩
        obtain ⟨A2, c2, ev2⟩ : ∃ A2 c2, v1 = .slice A2 (s + k) c2 := by
          obtain ⟨A2, c2, e⟩ := Kd.R_slice hr
          exact ⟨A2, c2, by rw [e, List.length_take, Nat.min_eq_left HKle.out, HS.out, HK.out]⟩
        subst ev2
        refine ⟨_, rfl, ?_⟩
        have hb2 : Below w1.heap.size w1 w2 := ⟨hb.os, hb.tape, hb.output, hb.size, hb.block⟩
        have hr2 : bK.R 5 w2 w1.heap.size (fun _ => True) (.slice A2 (s + k) c2) (f.b.take (f.safe + kept keep f)) := hr
        have hS2 := Aside0.mk (And.intro (pw_cell_below hb2 zf) (pw_cell_below hb2 zs))
        refine hK.out _ _ hS2.out (fun hHeld => ?_)
        clear hK K
        refine norm_ (a' := ?_) ?_ ?_
        rotate_left
        · show Act.put _ (some 51) _ = _
          simp only [Act.put, List.setIfInBounds_toArray, List.set_cons_zero, List.set_cons_succ, i64_w, i32_w]
          rfl
        refine pure_ (i := 13) (N := some 52) (v := ?_) (a' := ?_) #[true, true, true, true, true, true, true, true, true, true, true, true, true, true, false, false] rfl rfl (by kernel_rfl) (fun _ _ _ h => h) (Or.inl ⟨by rfl, ?_⟩) ?_ ?_
        rotate_left
        · intro w'
          go_simp
          with_reducible rfl
        rotate_left
        · simp only [Act.put, List.setIfInBounds_toArray, List.set_cons_zero, List.set_cons_succ, i64_w, i32_w]
          rfl
        refine pure_ (i := 14) (N := some 53) (v := ?_) (a' := ?_) #[true, true, true, true, true, true, true, true, true, true, true, true, true, true, true, false] rfl rfl (by kernel_rfl) (fun _ _ _ h => h) (Or.inl ⟨by rfl, ?_⟩) ?_ ?_
        rotate_left
        · intro w'
          go_simp
          with_reducible rfl
        rotate_left
        · simp only [Act.put, List.setIfInBounds_toArray, List.set_cons_zero, List.set_cons_succ, i64_w, i32_w]
          rfl
        refine last_ (i := 15) (N := none) #[true, true, true, true, true, true, true, true, true, true, true, true, true, true, true, true] rfl rfl (by kernel_rfl) (by decide) (fun K hK => ?_)
        have zf2 := hS2.out.1
        have zs2 := hS2.out.2
        have zff2 : w2.frozen? ⟨b, 0, none⟩ = false := by rw [HBl.out]; exact blk_frozen ((hb2.block _ (blk_lt HQ1.out)).trans HQ1.out) 0
        have zsf2 : w2.frozen? ⟨b, 1, none⟩ = false := by rw [HBl.out]; exact blk_frozen ((hb2.block _ (blk_lt HQ1.out)).trans HQ1.out) 1
        rw [if_pos (by rfl)]
        go_simp
        refine hK.out _ _ ?_
        clear hK K
        refine done_ (by kernel_rfl) ?_
        by_cases c0 : torn = true ∧ 0 < k
        · obtain ⟨ct, ck⟩ := c0
          subst ct
          obtain ⟨g2, hg2, hge2⟩ : ∃ g2, A2 = some ⟨g2, 0, none⟩ ∧ w1.heap.size ≤ g2 := by
            rcases R_shape hr2 with ⟨e1, e2⟩ | ⟨g2, cap, e1, hge, hle⟩
            · injection e1 with _ e1
              exact absurd ck (by omega)
            · injection e1 with e1
              exact ⟨g2, e1, hge⟩
          subst hg2
          obtain ⟨y, hy⟩ : ∃ y, y = rdOf (0 : Int) (f.b.take (f.safe + kept keep f)) ((s : Int) + (k : Int) - 1) := ⟨_, rfl⟩
          have hx0 : 0 ≤ (s : Int) + (k : Int) - 1 := by omega
          have zx := (Kd.R_celln (0 : Int) hr2 ((s : Int) + (k : Int) - 1) hx0 (by omega)).1
          have fx := (Kd.R_celln (0 : Int) hr2 ((s : Int) + (k : Int) - 1) hx0 (by omega)).2
          have hto : ((s : Int) + (k : Int) - 1).toNat = s + k - 1 := by omega
          rw [← hy, hto] at zx
          rw [hto] at fx
          have hwx : wrap64 ((s : Int) + (k : Int) - 1) = (s : Int) + (k : Int) - 1 := w64 (by omega) (by have h1 := HLen.out; have h2 := HKle.out; have h3 := HS.out; have h4 := HK.out; omega)
          have hgb : g2 ≠ b := by have h1 := blk_lt HQ1.out; rw [HBl.out]; omega
          have hyd : y = (f.b.take (f.safe + kept keep f)).getD (s + k - 1) 0 := by rw [hy]; unfold rdOf; rw [hto]
          have hln : s + k - 1 < (f.b.take (f.safe + kept keep f)).length := by rw [List.length_take, Nat.min_eq_left HKle.out, ← HS.out, ← HK.out]; omega
          have hby : 0 ≤ y ∧ y ≤ 255 := by
            rw [hyd, List.getD_eq_getElem?_getD, List.getElem?_eq_getElem hln, Option.getD_some]
            exact HOk.out.bytes f HFl.out _ (List.mem_of_mem_take (List.getElem_mem hln))
          have hl : loseB keep true f = turnLast (f.b.take (f.safe + kept keep f)) := if_pos ⟨rfl, by rw [← HK.out]; exact ck⟩
          have HEnd := Aside0.mk (OffAt.round1 (y := bits .xor .u8 y 255) HW.out HC1.out hrg1 HRs.out HO1.out HB1.out HF.out HFl.out hb2 hr2 hl (Nat.lt_of_lt_of_le ck (Nat.le_add_left k s)) HQ1.out (Int.natCast_add s k) (by rw [xor_255 hby.1 hby.2, hyd]) HBl.out)
          have HY := Aside0.mk hy
          clear hyd hln hby hl hy
          go_wp2
          go_region
          go_wp2
          all_goals (obtain ⟨vl2, hE2⟩ := HEnd.out; have hE2 := hE2.drew_; exact ⟨⟨_, cnt1, _, vl2, hE2⟩, by rw [hE2.rg.left_eq, hrg.left_eq]; exact hlt⟩)
        · have hE : loseB keep torn f = f.b.take (f.safe + kept keep f) := if_neg (by rw [← HK.out]; exact c0)
          rw [← hE] at hr2
          have hz : ((loseB keep torn f).length : Int) = (s : Int) + (k : Int) := by rw [hE, List.length_take, Nat.min_eq_left HKle.out, HS.out, HK.out, Int.natCast_add]
          have HEnd := Aside0.mk (OffAt.round0 HW.out HC1.out hrg1 HRs.out HO1.out HB1.out HF.out HFl.out hb2 hr2 HQ1.out hz HBl.out)
          clear hE hr2 hz
          cases torn with
          | false =>
            clear c0
            go_wp2
            all_goals (obtain ⟨vl2, hE2⟩ := HEnd.out; exact ⟨⟨_, cnt1, _, vl2, hE2⟩, by rw [hE2.rg.left_eq, hrg.left_eq]; exact hlt⟩)
          | true =>
            have ck : ¬ 0 < k := fun h => c0 ⟨rfl, h⟩
            clear c0
            have e0 : k = 0 := Nat.eq_zero_of_not_pos ck
            subst e0
            simp only [Nat.add_zero, Int.natCast_zero, Int.add_zero] at HEnd
            go_wp2
            all_goals (obtain ⟨vl2, hE2⟩ := HEnd.out; exact ⟨⟨_, cnt1, _, vl2, hE2⟩, by rw [hE2.rg.left_eq, hrg.left_eq]; exact hlt⟩)
end
end Go.Proofs.Ytclkcipakncjkaa.Dk
namespace Go.Proofs.Ytclkcipakncjkaa.Dk
open Go Go.RowKit Go.Proofs.YtclkcipakncjkaaW.PrintWords Go.Proofs.YtclkcipakncjkaaW.PrintLast Go.Proofs.YtclkcipakncjkaaW.PrintMore Go.Proofs.YtclkcipakncjkaaMy Go.Proofs.Ytclkcipakncjkaa Go.Proofs.YtclkcipakncjkaaPw Go.Proofs.Ytclkcipakncjkaa.PAll
set_option linter.unusedVariables false
set_option linter.unusedSimpArgs false
theorem putF_has {l : List Fl} {f f' : Fl} (hf : f ∈ l) (hn : f'.name = f.name) : (∀ s, s ∈ (putF l f').map Fl.name ↔ s ∈ l.map Fl.name) ∧ (putF l f').length = l.length := by
  have hm : f'.name ∈ l.map Fl.name := by rw [hn]; exact List.mem_map.2 ⟨f, hf, rfl⟩
  refine ⟨fun s => ?_, (putF_len f').1 hm⟩
  rw [putF_names]
  exact ⟨fun h => h.elim (fun e => by rw [e]; exact hm) id, .inr⟩
section
variable {S : Nat → Prop} {W W1 W4 : World} {g mb n : Nat} {d : DS} {D : DataW Unit} {bl : ByteArray → Nat} {vl : ByteArray → Value}
theorem DevW.notMap (h : DevW S W g d mb n D bl vl) {f : Fl} (hf : f ∈ d.files) {k : Nat} (hk : k = bl f.name ∨ (vl f.name).ownBlock = some k) : k ≠ mb := by
  obtain ⟨es, clock, a, _⟩ := h.own
  exact h.cells.notMap a hf hk
theorem DevW.notDev (h : DevW S W g d mb n D bl vl) {f : Fl} (hf : f ∈ d.files) {k : Nat} (hk : k = bl f.name ∨ (vl f.name).ownBlock = some k) : k ≠ g := h.cells.other h.blk (by decide) (by decide) hf hk
theorem DevW.rewrite (h : DevW S W g d mb n D bl vl) {f f' : Fl} (hf : f ∈ d.files) (hn : f'.name = f.name) (v1 : Value) (ho : Only (fun k => k = bl f.name ∨ (vl f.name).ownBlock = some k) W W4)
    (hblk : W4.heap[bl f.name]? = some (.cells #[v1, .int .i64 (f'.safe : Int)] 94 (0, 0))) (hrow : bK.R 5 W4 0 (fun _ => True) v1 f'.b) (hat : ∀ k, v1.ownBlock = some k → (vl f.name).ownBlock = some k ∨ W.heap.size ≤ k) (hsafe : f'.safe ≤ f'.b.length) :
    DevW (Grow S W) W4 g (d.put f') mb n D bl (upd vl f.name v1) ∧ Only S W W4 := by
  refine ⟨⟨?_, .inl h.sg, .inl h.sm, ?_, h.cnt, ?_, ?_⟩, ho.mono (fun k hk => h.cells.both_S hf hk)⟩
  · exact (ho.block g (blk_lt h.blk) (fun hk => h.notDev hf hk rfl)).trans h.blk
  · exact Owns.move h.own (ho.block mb h.own.lt (fun hk => h.notMap hf hk rfl))
  · obtain ⟨h1, h2⟩ := putF_has hf hn
    exact h.rep.names h1 h2
  · exact h.cells.rewrite (S1 := Grow S W) hf hn v1 (fun _ hk => .inl hk) (fun k hk h1 h2 => ho.block k hk (fun h3 => h3.elim h1 h2)) hblk hrow (fun k hk => (hat k hk).imp id (fun h1 => ⟨h1, .inr h1⟩)) hsafe
theorem file_ne : ∀ q, q ∈ 5 :: bK.E → q ≠ 94 := by intro q hq; simp [bK, Kd.int, Kd.scalar] at hq; omega
theorem DevW.file (h : DevW S W g d mb n D bl vl) {f : Fl} (hf : f ∈ d.files) : ∃ A cc, vl f.name = .slice A f.b.length cc ∧ W.cell? ⟨bl f.name, 0, none⟩ = some (.slice A f.b.length cc) ∧ W.cell? ⟨bl f.name, 1, none⟩ = some (.int .i64 (f.safe : Int)) ∧ W.frozen? ⟨bl f.name, 0, none⟩ = false ∧ W.frozen? ⟨bl f.name, 1, none⟩ = false ∧ bK.R 5 W 0 (fun _ => True) (.slice A f.b.length cc) f.b ∧ f.b.length ≤ cc ∧ (A = none → f.b.length = 0 ∧ cc = 0) ∧ f.safe ≤ f.b.length := by
  obtain ⟨q1, q2, q3, q4, q5⟩ := h.cells.2.1 f hf
  obtain ⟨A, cc, ev⟩ := Kd.R_slice q3
  rw [ev] at q1 q3
  refine ⟨A, cc, ev, (blk_cell q1 0).trans rfl, (blk_cell q1 1).trans rfl, blk_frozen q1 0, blk_frozen q1 1, q3, ?_, ?_, q5⟩
  · rcases R_shape q3 with ⟨e1, e2⟩ | ⟨g0, cap, e1, _, e2⟩
    · rw [e2]; exact Nat.zero_le _
    · injection e1 with _ _ e1
      rw [e1]; exact e2
  · rintro rfl
    rcases R_shape q3 with ⟨e1, e2⟩ | ⟨g0, cap, e1, _, e2⟩
    · injection e1 with _ e3 e4
      exact ⟨e3, e4⟩
    · injection e1 with e1
      cases e1
theorem DevW.appended (h : DevW S W g d mb n D bl vl) {f : Fl} (hf : f ∈ d.files) {v1 : Value} {ys : List Int} (hr : bK.R 5 W1 0 (fun _ => True) v1 (f.b ++ ys)) (hg : W.grownBy W1 (vl f.name).ownBlock) (hat : v1.ownBlock = (vl f.name).ownBlock ∨ ∃ b, v1.ownBlock = some b ∧ W.heap.size ≤ b) :
    DevW (Grow S W) (W1.setCell ⟨bl f.name, 0, none⟩ v1) g (d.put { f with b := f.b ++ ys }) mb n D bl (upd vl f.name v1) ∧ Only S W (W1.setCell ⟨bl f.name, 0, none⟩ v1) := by
  obtain ⟨q1, q2, q3, q4, q5⟩ := h.cells.2.1 f hf
  have e1 : W1.heap[bl f.name]? = some (.cells #[vl f.name, .int .i64 (f.safe : Int)] 94 (0, 0)) := blk_grown q1 hg (fun e => h.cells.blk_row hf hf e.symm)
  refine h.rewrite (f' := { f with b := f.b ++ ys }) hf rfl v1 (((Only.refl _ W).grown hg (fun k hk => .inl (.inr hk))).setCell (.inl (.inl rfl)) _) (blk_set e1 0 v1) (Kd.R_set hr e1 file_ne 0 v1) (fun k hk => ?_) (by simp only [List.length_append]; omega)
  rcases hat with h1 | ⟨b, h1, h2⟩
  · exact .inl (h1 ▸ hk)
  · rw [h1] at hk
    cases hk
    exact .inr h2
theorem DevW.synced (h : DevW S W g d mb n D bl vl) {f : Fl} (hf : f ∈ d.files) :
    DevW (Grow S W) (W.setCell ⟨bl f.name, 1, none⟩ (.int .i64 (f.b.length : Int))) g (d.put { f with safe := f.b.length }) mb n D bl (upd vl f.name (vl f.name)) ∧ Only S W (W.setCell ⟨bl f.name, 1, none⟩ (.int .i64 (f.b.length : Int))) := by
  obtain ⟨q1, q2, q3, q4, q5⟩ := h.cells.2.1 f hf
  exact h.rewrite (f' := { f with safe := f.b.length }) hf rfl (vl f.name) ((Only.refl _ W).setCell (.inl (.inl rfl)) _) (blk_set q1 1 _) (Kd.R_set q3 q1 file_ne 1 _) (fun k hk => .inl hk) (Nat.le_refl _)
theorem DevW.cutted (h : DevW S W g d mb n D bl vl) {f : Fl} (hf : f ∈ d.files) {v1 : Value} {xs : List Int} (hr : bK.R 5 W1 W.heap.size (fun _ => True) v1 xs) (hb : Below W.heap.size W W1) (s : Nat) (hs : s ≤ xs.length) :
    DevW (Grow S W) ((W1.setCell ⟨bl f.name, 0, none⟩ v1).setCell ⟨bl f.name, 1, none⟩ (.int .i64 (s : Int))) g (d.put ⟨f.name, xs, s⟩) mb n D bl (upd vl f.name v1) ∧ Only S W ((W1.setCell ⟨bl f.name, 0, none⟩ v1).setCell ⟨bl f.name, 1, none⟩ (.int .i64 (s : Int))) := by
  obtain ⟨q1, q2, q3, q4, q5⟩ := h.cells.2.1 f hf
  have e1 := (hb.block _ (blk_lt q1)).trans q1
  have e2 := blk_set e1 0 v1
  have hge : ∀ k, v1.ownBlock = some k → W.heap.size ≤ k := fun k hk => by
    rcases Kd.R_base2 hr with h0 | ⟨k2, h2, h3⟩
    · rw [hk] at h0; cases h0
    · rw [hk] at h2; cases h2; exact h3
  exact h.rewrite (f' := ⟨f.name, xs, s⟩) hf rfl v1 ((((Only.refl _ W).below hb).setCell (.inl (.inl rfl)) _).setCell (.inl (.inl rfl)) _) (blk_set e2 1 _) (R_base0 (Kd.R_set (Kd.R_set hr e1 file_ne 0 v1) e2 file_ne 1 _)) (fun k hk => .inr (hge k hk)) hs
abbrev fileCells : Obj := .cells #[.slice none 0 0, .int .i64 0] 94 (0, 0)
theorem DevW.newFile (h : DevW S W g d mb n D bl vl) (s : ByteArray) (hn : findF d.files s = none) (hc : (n : Int) + 1 ≤ d.acts)
    (h2 : Owns W1 mb (n + 1) (D.put (ky s) (.lit (.int .i64 (W.heap.size : Int))))) (hg : (W.alloc fileCells).grownBy W1 (some mb)) :
    DevW (Grow S W) W1 g (d.put ⟨s, [], 0⟩) mb (n + 1) (D.put (ky s) (.lit (.int .i64 (W.heap.size : Int)))) (upd bl s W.heap.size) (upd vl s (.slice none 0 0)) ∧ Only S W W1 := by
  have hsz : (W.alloc fileCells).heap.size = W.heap.size + 1 := by simp
  have hml := h.own.lt
  have hk : ∀ k, k < W.heap.size → k ≠ mb → W1.heap[k]? = W.heap[k]? := fun k hk hne =>
    (hg.block k (by omega) (fun e => hne (Option.some.inj e))).trans ((below_alloc (Below.refl W.heap.size W) _).block k hk)
  refine ⟨⟨?_, .inl h.sg, .inl h.sm, h2, by rw [Int.natCast_add]; exact hc, h.rep.put (h.own.tidy keyed) ⟨s, [], 0⟩ W.heap.size, ?_⟩, ((Only.refl S W).below (below_alloc (Below.refl _ _) _)).grown hg (fun k e => .inl (by cases e; exact h.sm))⟩
  · exact (hk g (blk_lt h.blk) (fun e => h.own.ne h.blk e.symm)).trans h.blk
  · refine h.cells.put (S1 := Grow S W) ⟨s, [], 0⟩ W.heap.size (.slice none 0 0) (fun _ h => .inl h) (fun f hf hne => ⟨fun k hkk => hk k (h.cells.both_lt hf hkk) (h.notMap hf hkk), ?_, fun k e => (by cases e)⟩) ?_ (.inr (Nat.le_refl _)) (Kd.R_nil _ _ _ _ _) (fun k e => (by cases e)) (Nat.le_refl _)
    · have := h.cells.lt hf
      omega
    · exact (hg.block W.heap.size (by omega) (fun e => by have := Option.some.inj e; omega)).trans (blk_new W fileCells)
theorem putF_putF {l : List Fl} {f f' : Fl} (hn : f'.name = f.name) : putF (putF l f) f' = putF l f' := by
  induction l with
  | nil => simp [putF, hn]
  | cons x r ih =>
    by_cases e : x.name = f.name
    · rw [show putF (x :: r) f = f :: r from if_pos e, show putF (x :: r) f' = f' :: r from if_pos (e.trans hn.symm), show putF (f :: r) f' = f' :: r from if_pos hn.symm]
    · have e2 : ¬ x.name = f'.name := fun h => e (h.trans hn)
      rw [show putF (x :: r) f = x :: putF r f from if_neg e, show putF (x :: r) f' = x :: putF r f' from if_neg e2, show putF (x :: putF r f) f' = x :: putF (putF r f) f' from if_neg e2, ih]
theorem DS.put_put (d : DS) {f f' : Fl} (hn : f'.name = f.name) : (d.put f).put f' = d.put f' := by unfold DS.put; simp only [putF_putF hn]
end
end Go.Proofs.Ytclkcipakncjkaa.Dk
namespace Go.Proofs.Ytclkcipakncjkaa.Dk
open Go Go.RowKit Go.Proofs.YtclkcipakncjkaaW.PrintWords
set_option linter.unusedVariables false
theorem sizes_putF {l : List Fl} (h : Once l) (f' : Fl) : sizes (putF l f') = sizes l - (match findF l f'.name with | some f => (f.b.length : Int) | none => 0) + f'.b.length := by
  induction l with
  | nil => simp [putF, sizes, findF]
  | cons x r ih =>
    unfold Once at h
    rw [List.map_cons, List.nodup_cons] at h
    have ih := ih h.2
    unfold findF at ih ⊢
    rw [List.find?_cons]
    by_cases e : x.name = f'.name
    · rw [decide_eq_true e, show putF (x :: r) f' = f' :: r from if_pos e, sizes_cons, sizes_cons]
      simp only
      omega
    · rw [decide_eq_false e, show putF (x :: r) f' = x :: putF r f' from if_neg e, sizes_cons, sizes_cons, ih]
      simp only
      omega
theorem sizes_putF_le {l : List Fl} (h : Once l) (f' : Fl) : sizes (putF l f') ≤ sizes l + f'.b.length := by
  rw [sizes_putF h]
  split
  · next f _ =>
    have := Int.natCast_nonneg f.b.length
    omega
  · omega
theorem fileOr_some {d : DS} {s : ByteArray} {f : Fl} (h : findF d.files s = some f) : d.fileOr s = f := by unfold DS.fileOr; rw [h]; rfl
theorem fileOr_none {d : DS} {s : ByteArray} (h : findF d.files s = none) : d.fileOr s = ⟨s, [], 0⟩ := by unfold DS.fileOr; rw [h]; rfl
theorem fileOr_name (d : DS) (s : ByteArray) : (d.fileOr s).name = s := by
  cases h : findF d.files s with
  | none => rw [fileOr_none h]
  | some f => rw [fileOr_some h]; exact (findF_some h).2
theorem sizes_map_le {l : List Fl} (F : Fl → Fl) (h : ∀ f ∈ l, (F f).b.length ≤ f.b.length) : sizes (l.map F) ≤ sizes l := by
  induction l with
  | nil => exact Int.le_refl _
  | cons x r ih =>
    rw [List.map_cons, sizes_cons, sizes_cons]
    have h1 := ih (fun f hf => h f (List.mem_cons_of_mem _ hf))
    have h2 := h x List.mem_cons_self
    omega
theorem sizes_delF_le (l : List Fl) (s : ByteArray) : sizes (delF l s) ≤ sizes l := by
  induction l with
  | nil => exact Int.le_refl _
  | cons x r ih =>
    unfold delF at ih ⊢
    rw [List.filter_cons]
    split
    · rw [sizes_cons, sizes_cons]; omega
    · rw [sizes_cons]; omega
namespace DS
variable {d : DS}
theorem Fit.act (h : d.Fit) : d.act.Fit := ⟨h.room, h.fits, h.bytes⟩
theorem Fit.byteOr (h : d.Fit) (s : ByteArray) : ∀ x ∈ (d.fileOr s).b, 0 ≤ x ∧ x ≤ 255 := by
  cases e : findF d.files s with
  | none => rw [fileOr_none e]; intro x hx; cases hx
  | some f => rw [fileOr_some e]; exact h.bytes f (findF_some e).1
theorem Fit.put (h : d.Fit) (ho : Once d.files) (f : Fl) (hb : ∀ x ∈ f.b, 0 ≤ x ∧ x ≤ 255) (hs : sizes (putF d.files f) ≤ d.room) : (d.put f).Fit :=
  ⟨h.room, hs, fun g hg => ((putF_mem ho f g).1 hg).elim (fun e => by rw [e]; exact hb) (fun e => h.bytes g e.1)⟩
theorem Fit.append (h : d.Fit) (ho : Once d.files) (s : ByteArray) {xs : List Int} (hx : ∀ x ∈ xs, 0 ≤ x ∧ x ≤ 255) (hl : (xs.length : Int) ≤ d.free) : (d.put { d.fileOr s with b := (d.fileOr s).b ++ xs }).Fit := by
  refine h.put ho _ (fun x hm => (List.mem_append.1 hm).elim (h.byteOr s x) (hx x)) ?_
  rw [sizes_putF ho]
  have hn : ({ d.fileOr s with b := (d.fileOr s).b ++ xs } : Fl).name = s := fileOr_name d s
  rw [hn]
  unfold DS.free at hl
  simp only [List.length_append]
  cases e : findF d.files s with
  | none =>
    rw [fileOr_none e]
    simp only [List.length_nil]
    omega
  | some f =>
    rw [fileOr_some e]
    simp only
    omega
theorem Fit.less (h : d.Fit) (ho : Once d.files) {f f' : Fl} (hf : f ∈ d.files) (hn : f'.name = f.name) (hb : ∀ x ∈ f'.b, x ∈ f.b) (hl : f'.b.length ≤ f.b.length) : (d.put f').Fit := by
  refine h.put ho f' (fun x hx => h.bytes f hf x (hb x hx)) ?_
  rw [sizes_putF ho, hn, findF_of ho hf]
  have := h.fits
  simp only
  omega
theorem Fit.drop (h : d.Fit) (s : ByteArray) : (d.drop s).Fit := ⟨h.room, Int.le_trans (sizes_delF_le _ _) h.fits, fun f hf => h.bytes f ((delF_mem _ _ _).1 hf).1⟩
theorem Fit.move (h : d.Fit) (ho : Once d.files) {f : Fl} (hf : f ∈ d.files) (b : ByteArray) : ((d.drop f.name).put ⟨b, f.b, f.safe⟩).Fit := by
  refine (h.drop f.name).put (delF_once ho _) _ (h.bytes f hf) ?_
  have h1 := sizes_putF_le (delF_once ho f.name) (⟨b, f.b, f.safe⟩ : Fl)
  have h2 := sizes_del ho hf
  have h3 := h.fits
  simp only at h1
  show sizes (putF (delF d.files f.name) ⟨b, f.b, f.safe⟩) ≤ d.room
  omega
theorem turnLast_len (l : List Int) : (turnLast l).length = l.length := by unfold turnLast; rw [List.length_set]
theorem loseB_len (keep : Int) (torn : Bool) (f : Fl) : (loseB keep torn f).length ≤ f.b.length := by
  unfold loseB
  split
  · rw [turnLast_len, List.length_take]; omega
  · rw [List.length_take]; omega
theorem loseB_bytes (keep : Int) (torn : Bool) (f : Fl) (h : ∀ x ∈ f.b, 0 ≤ x ∧ x ≤ 255) : ∀ x ∈ loseB keep torn f, 0 ≤ x ∧ x ≤ 255 := by
  have h1 : ∀ x ∈ f.b.take (f.safe + kept keep f), 0 ≤ x ∧ x ≤ 255 := fun x hx => h x (List.mem_of_mem_take hx)
  unfold loseB
  split
  · intro x hx
    unfold turnLast at hx
    rcases List.mem_or_eq_of_mem_set hx with h2 | h2
    · exact h1 x h2
    · have : ∀ i, 0 ≤ (f.b.take (f.safe + kept keep f)).getD i 0 ∧ (f.b.take (f.safe + kept keep f)).getD i 0 ≤ 255 := by
        intro i
        rw [List.getD_eq_getElem?_getD]
        cases e : (f.b.take (f.safe + kept keep f))[i]? with
        | none => simp
        | some y => exact h1 y (List.mem_of_getElem? e)
      have := this ((f.b.take (f.safe + kept keep f)).length - 1)
      omega
  · exact h1
theorem Fit.off (h : d.Fit) (keep : Int) (torn : Bool) : (d.off keep torn).Fit := by
  unfold DS.off
  split
  · exact h
  · refine ⟨h.room, Int.le_trans (sizes_map_le _ (fun f _ => loseB_len keep torn f)) h.fits, fun g hg => ?_⟩
    obtain ⟨f, hf, rfl⟩ := List.mem_map.1 hg
    exact loseB_bytes keep torn f (h.bytes f hf)
theorem Fit.on (h : d.Fit) : d.on.Fit := ⟨h.room, h.fits, h.bytes⟩
theorem Fit.arm (h : d.Fit) (n keep : Int) (torn : Bool) : (d.arm n keep torn).Fit := ⟨h.room, h.fits, h.bytes⟩
theorem Fit.new (room : Int) : (Dk.new room).Fit := ⟨by unfold Dk.new; simp only; omega, by unfold Dk.new; simp only [sizes, List.map_nil, List.sum_nil]; omega, fun f hf => (by cases hf)⟩
end DS
end Go.Proofs.Ytclkcipakncjkaa.Dk
namespace Go.Proofs.Ytclkcipakncjkaa.Dk
open Go Go.RowKit Go.Proofs.YtclkcipakncjkaaW.PrintWords Go.Proofs.YtclkcipakncjkaaW.PrintLast Go.Proofs.YtclkcipakncjkaaW.PrintMore Go.Proofs.YtclkcipakncjkaaMy Go.Proofs.Ytclkcipakncjkaa Go.Proofs.YtclkcipakncjkaaPw Go.Proofs.Ytclkcipakncjkaa.PAll
attribute [local go_sem] max2_m min2_m max_two min_two
set_option linter.unusedVariables false
set_option linter.unusedSimpArgs false
theorem ready_size {d : DS} {s : ByteArray} (h : d.ready s = 0) : s.size ≤ 32 := by
  unfold DS.ready nameOk at h
  split at h
  · cases h
  · split at h
    · next h2 => exact (of_decide_eq_true h2).2
    · cases h
theorem R_slice3 {e base : Nat} {W : World} {v : Value} {xs : List Int} {ok : Nat → Prop} (h : bK.R e W base ok v xs) : ∃ A l c, v = .slice A l c := by
  obtain ⟨A, c, e⟩ := Kd.R_slice h
  exact ⟨A, _, c, e⟩
theorem append_len {m l : Nat} (hm : m ≤ 4294967296) (hl : l ≤ 1048576) : (l + m) * 1 ≤ 140737488355328 := by omega
section
variable {S : Nat → Prop} {w : World} {g : Nat} {d : DS} {mb n : Nat} {D : DataW Unit} {bl : ByteArray → Nat} {vl : ByteArray → Value}
theorem end1 {w4 w6 : World} {dd : DS} {D' : DataW Unit} {bl' : ByteArray → Nat} {vl' : ByteArray → Value} {n' : Nat} (h4 : Only S w w4) (h : DevW (Grow S w4) w6 g dd mb n' D' bl' vl' ∧ Only S w4 w6) : DevW (Grow S w) w6 g dd mb n' D' bl' vl' ∧ Only S w w6 :=
  ⟨h.1.mono (fun k hk => hk.imp id (fun h => Nat.le_trans h4.size h)), h4.trans h.2⟩
theorem end2 {w4 w5 w6 : World} {dd : DS} {D' : DataW Unit} {bl' : ByteArray → Nat} {vl' : ByteArray → Value} {n' : Nat} (h4 : Only S w w4) (h5 : Only S w4 w5) (h : DevW (Grow (Grow S w4) w5) w6 g dd mb n' D' bl' vl' ∧ Only (Grow S w4) w5 w6) : DevW (Grow S w) w6 g dd mb n' D' bl' vl' ∧ Only S w w6 := by
  have h1 := h4.size
  have h2 := h5.size
  refine ⟨h.1.mono (fun k hk => ?_), (h4.trans h5).thenN h.2 (fun k hk => hk.imp id (fun h => Nat.le_trans h1 h))⟩
  rcases hk with (hk | hk) | hk
  · exact .inl hk
  · exact .inr (by omega)
  · exact .inr (by omega)
theorem off_end {w4 w6 wo : World} {dd : DS} (h4 : Only S w w4) (h6 : Only S w4 w6) (hD : DevAt (Grow (Grow S w4) w6.drew) wo g dd) (hO : Only (Grow S w4) w6.drew wo) : DevAt (Grow S w) wo g dd ∧ Only S w wo := by
  have h1 := h4.size
  have h2 := h6.size
  have h3 : w6.drew.heap.size = w6.heap.size := rfl
  have h46 := h4.trans h6
  refine ⟨hD.mono (fun k hk => ?_), (h46.below (below_drew1 (Below.refl _ _))).thenN hO (fun k hk => ?_)⟩
  · rcases hk with (hk | hk) | hk
    · exact .inl hk
    · exact .inr (by omega)
    · exact .inr (by omega)
  · rcases hk with hk | hk
    · exact .inl hk
    · exact .inr (by omega)
set_option maxHeartbeats 4000000 in
set_option maxRecDepth 100000 in
theorem Append_1 (h : DevW S w g d mb n D bl vl) (s : ByteArray) (A : Option Addr) (m c : Nat) (hr : d.ready s ≠ 0) : Calls Try.prog 49 #[.pointer (some ⟨g, 0, none⟩), .string s, .slice A m c] w fun e w' => e = .returned (.int .i64 (d.ready s)) ∧ DevAt (Grow S w) w' g d ∧ Only S w w' := by
  have HR := Aside0.mk (ready_Q h.at s)
  have HW := Aside0.mk h
  clear h
  obtain ⟨r, hq⟩ : ∃ r, r = d.ready s := ⟨_, rfl⟩
  rw [← hq] at HR hr ⊢
  clear hq
  have cb : (r == 0) = false := beq_eq_false_iff_ne.mpr hr
  have cn : (r != 0) = true := bne_iff_ne.mpr hr
  clear hr
  go_enter Try.func49, Try.ntmps49
  go_wp2_with (first | (go_at_call 68; refine HR.out.mono ?_; rintro e w2 ⟨rfl, ⟨nd, rfl⟩⟩))
  go_ret
  exact ⟨rfl, ((HW.out.drewN nd).mono (fun _ h => .inl h)).at, (Only.refl _ _).drewN nd⟩
set_option maxHeartbeats 4000000 in
set_option maxRecDepth 100000 in
theorem Append_2 (h : DevW S w g d mb n D bl vl) (hok : d.Fit) (s : ByteArray) (A : Option Addr) (m c : Nat) (hr : d.ready s = 0) (hl : ¬ (m : Int) ≤ d.free) : Calls Try.prog 49 #[.pointer (some ⟨g, 0, none⟩), .string s, .slice A m c] w fun e w' => e = .returned (.int .i64 6) ∧ DevAt (Grow S w) w' g d ∧ Only S w w' := by
  have HR := Aside0.mk (ready_Q h.at s)
  rw [hr] at HR
  have HW := Aside0.mk h
  have HOk := Aside0.mk hok
  clear h hr hok
  have HF := Aside0.mk (fun nd => Free_Q (HW.out.drewN nd) HOk.out)
  obtain ⟨r, hq⟩ : ∃ r, r = d.free := ⟨_, rfl⟩
  rw [← hq] at HF hl
  clear hq
  have cb : decide ((m : Int) ≤ r) = false := decide_eq_false hl
  go_enter Try.func49, Try.ntmps49
  go_wp2_with (first | (go_at_call 68; refine HR.out.mono ?_; rintro e w2 ⟨rfl, ⟨nd, rfl⟩⟩) | (go_at_call 19; refine (HF.out _).mono ?_; rintro e w3 ⟨rfl, hb3⟩))
  go_ret
  refine ⟨rfl, (((HW.out.drewN nd).below hb3).mono (fun _ h => .inl h)).at, ?_⟩
  exact ((Only.refl _ _).drewN nd).below hb3
theorem append_frozen {w4 : World} (h : DevW S w4 g d mb n D bl vl) {f : Fl} (hf : f ∈ d.files) (w5 : World) (hg : w4.grownBy w5 (vl f.name).ownBlock) : w5.frozen? ⟨bl f.name, 0, none⟩ = false ∧ w5.cell? ⟨bl f.name, 0, none⟩ = some (vl f.name) :=
  ⟨blk_frozen (blk_grown (h.cells.2.1 f hf).1 hg (fun e => h.cells.blk_row hf hf e.symm)) 0, (blk_cell (blk_grown (h.cells.2.1 f hf).1 hg (fun e => h.cells.blk_row hf hf e.symm)) 0).trans rfl⟩
set_option maxHeartbeats 4000000 in
set_option maxRecDepth 100000 in
theorem Append_3 (h : DevW S w g d mb n D bl vl) (hok : d.Ok) (s : ByteArray) {A : Option Addr} {m c : Nat} {xs : List Int} (hx : Kd.F bK w (fun k => ¬ S k) A m xs) (hm : m ≤ 4294967296) (hxb : ∀ x ∈ xs, 0 ≤ x ∧ x ≤ 255) (hr : d.ready s = 0) (hl : (m : Int) ≤ d.free) (hf : (findF d.files s).isSome = true) (hgo : d.goes = false) :
    Calls Try.prog 49 #[.pointer (some ⟨g, 0, none⟩), .string s, .slice A m c] w fun e w' => e = .returned (.int .i64 0) ∧ DevAt (Grow S w) w' g (d.act.put { d.fileOr s with b := (d.fileOr s).b ++ xs }) ∧ Only S w w' := by
  have HR := Aside0.mk (ready_Q h.at s)
  rw [hr] at HR
  have HSz := Aside0.mk (ready_size hr)
  have HFit := Aside0.mk (hok.toFit.act.append h.cells.1 s hxb (by rw [Kd.F_len hx]; exact hl))
  have HW := Aside0.mk h
  have HOk := Aside0.mk hok
  have HX := Aside0.mk hx
  have HM := Aside0.mk hm
  clear h hr hok hx hm
  have HF := Aside0.mk (fun nd => Free_Q (HW.out.drewN nd) HOk.out.toFit)
  obtain ⟨r, hq⟩ : ∃ r, r = d.free := ⟨_, rfl⟩
  rw [← hq] at HF hl
  clear hq
  obtain ⟨f0, hf0⟩ := Option.isSome_iff_exists.1 hf
  have hfm : d.fileOr s ∈ d.files := by rw [fileOr_some hf0]; exact (findF_some hf0).1
  have hnm := fileOr_name d s
  have hfo : d.act.fileOr s = d.fileOr s := rfl
  rw [hfo] at HFit
  obtain ⟨f, hfe⟩ : ∃ f, f = d.fileOr s := ⟨_, rfl⟩
  rw [← hfe] at hnm HFit ⊢ hfm
  clear hfe hfo
  subst hnm
  have HFm := Aside0.mk hfm
  clear hfm hf0
  have HFl := Aside0.mk hf
  have HGo := Aside0.mk hgo
  clear hf hgo
  go_enter Try.func49, Try.ntmps49
  go_wp2_with (first
    | (go_at_call 68; refine HR.out.mono ?_; rintro e w2 ⟨rfl, ⟨nd, rfl⟩⟩)
    | (go_at_call 19; refine (HF.out _).mono ?_; rintro e w3 ⟨rfl, hb3⟩; have H3 := Aside0.mk ((HW.out.drewN nd).below hb3); have HO3 := Aside0.mk (((Only.refl S w).drewN nd).below hb3); clear hb3)
    | (go_at_call 69; refine (act_Q H3.out HOk.out).mono ?_; rintro e w4 ⟨rfl, h4, ho4⟩; rw [HGo.out]; have z0 : w4.cell? ⟨g, 0, none⟩ = some (.map (some mb)) := h4.cell 0; have hlk := h4.look f.name HSz.out; have HO4 := Aside0.mk (HO3.out.trans ho4); have HFlen := Aside0.mk (size_le h4.cells.1 (show f ∈ d.act.files from HFm.out) HOk.out.fits HOk.out.room); rw [show fileP d.act bl f.name = .pointer (some ⟨bl f.name, 0, none⟩) from if_pos HFl.out] at hlk; have HX4 := Aside0.mk (Kd.F_now (F_only HX.out HO4.out (fun k hk => hk))); obtain ⟨A1, cc, ev, zf, zs, zff, zsf, hrow, hcc, hA, hsafe⟩ := h4.file (show f ∈ d.act.files from HFm.out); have HEnd := Aside0.mk (fun v1 w5 hr5 hg5 hat5 => h4.appended (f := f) HFm.out (W1 := w5) (v1 := v1) (ys := xs) hr5 (by rw [ev]; exact hg5) (by rw [ev]; exact hat5)); have HFz := Aside0.mk (fun w5 (hg5 : w4.grownBy w5 (Value.slice A1 f.b.length cc).ownBlock) => ev ▸ append_frozen h4 HFm.out w5 (by rw [ev]; exact hg5)); have HLen := Aside0.mk (append_len HM.out HFlen.out); have HRow := Aside0.mk hrow; have H4 := Aside0.mk h4; obtain ⟨b, hb⟩ : ∃ b, b = bl f.name := ⟨_, rfl⟩; have HB := Aside0.mk hb; rw [← hb] at hlk zf zs zff zsf HFz; obtain ⟨m1, hm1⟩ : ∃ m1, m1 = f.b.length := ⟨_, rfl⟩; rw [← hm1] at zf HEnd HFz HRow; clear h4 ho4 ev hrow hcc hA hsafe hb hm1)
    | ((with_reducible refine gate_builtin (b := .append) (xs := #[.tmp 43, .tmp 44]) rfl ?_); (try (refine gate_guard (by rfl) ?_; dsimp only)); at_builtin; refine Kd.R_append_row (Value.int .u8) 0 (w0 := w4) 0 rfl (.tmp 43) (.tmp 44) 46 5 (.int .u8 0) 1 rfl Try.underlying46 info5_ rfl (by decide) (.slice A1 m1 cc) f.b xs A m c (fun _ => True) rfl rfl (fun _ _ => trivial) HRow.out HX4.out (Below.refl _ _) (Nat.zero_le _) HLen.out ?_; intro v1 w5 hr5 hb5 hg5 hat5; obtain ⟨A5, l5, c5, ev5⟩ := R_slice3 hr5; subst ev5; obtain ⟨zff5, zf5⟩ := HFz.out w5 hg5; have HN := Aside0.mk (end1 HO4.out (HEnd.out _ w5 hr5 hg5 hat5)); rw [← HB.out] at HN; clear hr5 hb5 hg5 hat5))
  all_goals (go_ret; exact ⟨rfl, HN.out.1.at, HN.out.2⟩)
set_option maxHeartbeats 4000000 in
set_option maxRecDepth 100000 in
theorem Append_4 (h : DevW S w g d mb n D bl vl) (hok : d.Ok) (s : ByteArray) {A : Option Addr} {m c : Nat} {xs : List Int} (hx : Kd.F bK w (fun k => ¬ S k) A m xs) (hm : m ≤ 4294967296) (hxb : ∀ x ∈ xs, 0 ≤ x ∧ x ≤ 255) (hr : d.ready s = 0) (hl : (m : Int) ≤ d.free) (hf : (findF d.files s).isSome = true) (hgo : d.goes = true) :
    Calls Try.prog 49 #[.pointer (some ⟨g, 0, none⟩), .string s, .slice A m c] w fun e w' => e = .returned (.int .i64 7) ∧ DevAt (Grow S w) w' g ((d.act.put { d.fileOr s with b := (d.fileOr s).b ++ xs }).ends) ∧ Only S w w' := by
  have HR := Aside0.mk (ready_Q h.at s)
  rw [hr] at HR
  have HSz := Aside0.mk (ready_size hr)
  have HFit := Aside0.mk (hok.toFit.act.append h.cells.1 s hxb (by rw [Kd.F_len hx]; exact hl))
  have HW := Aside0.mk h
  have HOk := Aside0.mk hok
  have HX := Aside0.mk hx
  have HM := Aside0.mk hm
  clear h hr hok hx hm
  have HF := Aside0.mk (fun nd => Free_Q (HW.out.drewN nd) HOk.out.toFit)
  obtain ⟨r, hq⟩ : ∃ r, r = d.free := ⟨_, rfl⟩
  rw [← hq] at HF hl
  clear hq
  obtain ⟨f0, hf0⟩ := Option.isSome_iff_exists.1 hf
  have hfm : d.fileOr s ∈ d.files := by rw [fileOr_some hf0]; exact (findF_some hf0).1
  have hnm := fileOr_name d s
  have hfo : d.act.fileOr s = d.fileOr s := rfl
  rw [hfo] at HFit
  obtain ⟨f, hfe⟩ : ∃ f, f = d.fileOr s := ⟨_, rfl⟩
  rw [← hfe] at hnm HFit ⊢ hfm
  clear hfe hfo
  subst hnm
  have HFm := Aside0.mk hfm
  clear hfm hf0
  have HFl := Aside0.mk hf
  have HGo := Aside0.mk hgo
  clear hf hgo
  go_enter Try.func49, Try.ntmps49
  go_wp2_with (first
    | (go_at_call 68; refine HR.out.mono ?_; rintro e w2 ⟨rfl, ⟨nd, rfl⟩⟩)
    | (go_at_call 19; refine (HF.out _).mono ?_; rintro e w3 ⟨rfl, hb3⟩; have H3 := Aside0.mk ((HW.out.drewN nd).below hb3); have HO3 := Aside0.mk (((Only.refl S w).drewN nd).below hb3); clear hb3)
    | (go_at_call 69; refine (act_Q H3.out HOk.out).mono ?_; rintro e w4 ⟨rfl, h4, ho4⟩; rw [HGo.out]; have z0 : w4.cell? ⟨g, 0, none⟩ = some (.map (some mb)) := h4.cell 0; have hlk := h4.look f.name HSz.out; have HO4 := Aside0.mk (HO3.out.trans ho4); have HFlen := Aside0.mk (size_le h4.cells.1 (show f ∈ d.act.files from HFm.out) HOk.out.fits HOk.out.room); rw [show fileP d.act bl f.name = .pointer (some ⟨bl f.name, 0, none⟩) from if_pos HFl.out] at hlk; have HX4 := Aside0.mk (Kd.F_now (F_only HX.out HO4.out (fun k hk => hk))); obtain ⟨A1, cc, ev, zf, zs, zff, zsf, hrow, hcc, hA, hsafe⟩ := h4.file (show f ∈ d.act.files from HFm.out); have HEnd := Aside0.mk (fun v1 w5 hr5 hg5 hat5 => h4.appended (f := f) HFm.out (W1 := w5) (v1 := v1) (ys := xs) hr5 (by rw [ev]; exact hg5) (by rw [ev]; exact hat5)); have HFz := Aside0.mk (fun w5 (hg5 : w4.grownBy w5 (Value.slice A1 f.b.length cc).ownBlock) => ev ▸ append_frozen h4 HFm.out w5 (by rw [ev]; exact hg5)); have HLen := Aside0.mk (append_len HM.out HFlen.out); have HRow := Aside0.mk hrow; have H4 := Aside0.mk h4; obtain ⟨b, hb⟩ : ∃ b, b = bl f.name := ⟨_, rfl⟩; have HB := Aside0.mk hb; rw [← hb] at hlk zf zs zff zsf HFz; obtain ⟨m1, hm1⟩ : ∃ m1, m1 = f.b.length := ⟨_, rfl⟩; rw [← hm1] at zf HEnd HFz HRow; clear h4 ho4 ev hrow hcc hA hsafe hb hm1)
    | ((with_reducible refine gate_builtin (b := .append) (xs := #[.tmp 43, .tmp 44]) rfl ?_); (try (refine gate_guard (by rfl) ?_; dsimp only)); at_builtin; refine Kd.R_append_row (Value.int .u8) 0 (w0 := w4) 0 rfl (.tmp 43) (.tmp 44) 46 5 (.int .u8 0) 1 rfl Try.underlying46 info5_ rfl (by decide) (.slice A1 m1 cc) f.b xs A m c (fun _ => True) rfl rfl (fun _ _ => trivial) HRow.out HX4.out (Below.refl _ _) (Nat.zero_le _) HLen.out ?_; intro v1 w5 hr5 hb5 hg5 hat5; obtain ⟨A5, l5, c5, ev5⟩ := R_slice3 hr5; subst ev5; obtain ⟨zff5, zf5⟩ := HFz.out w5 hg5; have HN := Aside0.mk (end1 HO4.out (HEnd.out _ w5 hr5 hg5 hat5)); rw [← HB.out] at HN; clear hr5 hb5 hg5 hat5))
  have HN1 := Aside0.mk HN.out.1
  have HN2 := Aside0.mk HN.out.2
  clear HN
  have z5 := HN1.out.cell 5
  have z6 := HN1.out.cell 6
  refine start_ (n := 10) (S := fun w' => w'.cell? ⟨g, 5, none⟩ = some (.int .i64 d.keep) ∧ w'.cell? ⟨g, 6, none⟩ = some (.bool d.torn)) (ds := [9]) #[false, false, false, false, false, false, false, false, false, false] (by kernel_rfl) rfl rfl ⟨z5, z6⟩ (fun hHeld => ?_)
  refine pure_ (i := 0) (N := some 49) (v := ?_) (a' := ?_) #[true, false, false, false, false, false, false, false, false, false] rfl rfl (by kernel_rfl) (fun _ _ _ h => h) (Or.inl ⟨by rfl, ?_⟩) ?_ ?_
  rotate_left
  · intro w'
    go_simp
    with_reducible rfl
  rotate_left
  · simp only [Act.put, List.setIfInBounds_toArray, List.set_cons_zero, List.set_cons_succ, i64_w, i32_w]
    rfl
  refine pure_ (i := 1) (N := some 50) (v := ?_) (a' := ?_) #[true, true, false, false, false, false, false, false, false, false] rfl rfl (by kernel_rfl) (fun _ _ _ h => h) (Or.inl ⟨by rfl, ?_⟩) ?_ ?_
  rotate_left
  · intro w'
    go_simp
    with_reducible rfl
  rotate_left
  · simp only [Act.put, List.setIfInBounds_toArray, List.set_cons_zero, List.set_cons_succ, i64_w, i32_w]
    rfl
  refine pure_ (i := 2) (N := some 51) (v := ?_) (a' := ?_) #[true, true, true, false, false, false, false, false, false, false] rfl rfl (by kernel_rfl) (fun _ _ _ h => h) (Or.inl ⟨by rfl, ?_⟩) ?_ ?_
  rotate_left
  · intro w'
    go_simp
    with_reducible rfl
  rotate_left
  · simp only [Act.put, List.setIfInBounds_toArray, List.set_cons_zero, List.set_cons_succ, i64_w, i32_w]
    rfl
  refine pure_ (i := 3) (N := some 52) (v := ?_) (a' := ?_) #[true, true, true, true, false, false, false, false, false, false] rfl rfl (by kernel_rfl) (fun _ _ _ h => h) (Or.inl ⟨by rfl, ?_⟩) ?_ ?_
  rotate_left
  · intro w'
    go_simp
    with_reducible rfl
  rotate_left
  · simp only [Act.put, List.setIfInBounds_toArray, List.set_cons_zero, List.set_cons_succ, i64_w, i32_w]
    rfl
  refine take_ (i := 4) (N := some 53) (v := ?_) (a' := ?_) #[true, true, true, true, true, false, false, false, false, false] rfl rfl (by kernel_rfl) (fun _ _ _ h => h) (Or.inl ⟨by rfl, ?_⟩) hHeld ?_ ?_
  rotate_left
  · intro w' s0
    obtain ⟨y0, y1⟩ := s0
    go_simp
    with_reducible rfl
  rotate_left
  · simp only [Act.put, List.setIfInBounds_toArray, List.set_cons_zero, List.set_cons_succ, i64_w, i32_w]
    rfl
  refine pure_ (i := 5) (N := some 54) (v := ?_) (a' := ?_) #[true, true, true, true, true, true, false, false, false, false] rfl rfl (by kernel_rfl) (fun _ _ _ h => h) (Or.inl ⟨by rfl, ?_⟩) ?_ ?_
  rotate_left
  · intro w'
    go_simp
    with_reducible rfl
  rotate_left
  · simp only [Act.put, List.setIfInBounds_toArray, List.set_cons_zero, List.set_cons_succ, i64_w, i32_w]
    rfl
  refine pure_ (i := 6) (N := some 55) (v := ?_) (a' := ?_) #[true, true, true, true, true, true, true, false, false, false] rfl rfl (by kernel_rfl) (fun _ _ _ h => h) (Or.inl ⟨by rfl, ?_⟩) ?_ ?_
  rotate_left
  · intro w'
    go_simp
    with_reducible rfl
  rotate_left
  · simp only [Act.put, List.setIfInBounds_toArray, List.set_cons_zero, List.set_cons_succ, i64_w, i32_w]
    rfl
  refine pure_ (i := 7) (N := some 56) (v := ?_) (a' := ?_) #[true, true, true, true, true, true, true, true, false, false] rfl rfl (by kernel_rfl) (fun _ _ _ h => h) (Or.inl ⟨by rfl, ?_⟩) ?_ ?_
  rotate_left
  · intro w'
    go_simp
    with_reducible rfl
  rotate_left
  · simp only [Act.put, List.setIfInBounds_toArray, List.set_cons_zero, List.set_cons_succ, i64_w, i32_w]
    rfl
  refine take_ (i := 8) (N := some 57) (v := ?_) (a' := ?_) #[true, true, true, true, true, true, true, true, true, false] rfl rfl (by kernel_rfl) (fun _ _ _ h => h) (Or.inl ⟨by rfl, ?_⟩) hHeld ?_ ?_
  rotate_left
  · intro w' s0
    obtain ⟨y0, y1⟩ := s0
    go_simp
    with_reducible rfl
  rotate_left
  · simp only [Act.put, List.setIfInBounds_toArray, List.set_cons_zero, List.set_cons_succ, i64_w, i32_w]
    rfl
  refine last_ (i := 9) (N := some 58) #[true, true, true, true, true, true, true, true, true, true] rfl rfl (by kernel_rfl) (by decide) (fun K hK => ?_)
  refine goes_ Try.func29 (by kernel_rfl) rfl #[.pointer (some ⟨g, 0, none⟩), .int .i64 d.keep, .bool d.torn] (by rfl) rfl rfl (by (try simp only [List.map_toArray, List.map_cons, List.map_nil]); first | done | rfl) ?_
  refine (Off_Q (HN1.out.below (below_drew1 (Below.refl _ _))) HFit.out d.keep d.torn).mono ?_
  rintro e wo ⟨rfl, hDo, hOo⟩
  refine ⟨_, rfl, ?_⟩
  have HDo := Aside0.mk hDo
  have HOo := Aside0.mk hOo
  clear hDo hOo
  refine hK.out _ _ ?_
  clear hK K
  refine done_ (by kernel_rfl) ?_
  go_wp2
  go_ret
  obtain ⟨e1, e2⟩ := off_end (Only.refl S w) HN2.out HDo.out HOo.out
  exact ⟨rfl, e1, e2⟩
set_option maxHeartbeats 4000000 in
set_option maxRecDepth 100000 in
theorem Append_5 (h : DevW S w g d mb n D bl vl) (hok : d.Ok) (s : ByteArray) {A : Option Addr} {m c : Nat} {xs : List Int} (hx : Kd.F bK w (fun k => ¬ S k) A m xs) (hm : m ≤ 4294967296) (hxb : ∀ x ∈ xs, 0 ≤ x ∧ x ≤ 255) (hr : d.ready s = 0) (hl : (m : Int) ≤ d.free) (hf : (findF d.files s).isSome = false) (hgo : d.goes = false) :
    Calls Try.prog 49 #[.pointer (some ⟨g, 0, none⟩), .string s, .slice A m c] w fun e w' => e = .returned (.int .i64 0) ∧ DevAt (Grow S w) w' g (d.act.put { d.fileOr s with b := (d.fileOr s).b ++ xs }) ∧ Only S w w' := by
  have HR := Aside0.mk (ready_Q h.at s)
  rw [hr] at HR
  have HSz := Aside0.mk (ready_size hr)
  have HFit := Aside0.mk (hok.toFit.act.append h.cells.1 s hxb (by rw [Kd.F_len hx]; exact hl))
  have HW := Aside0.mk h
  have HOk := Aside0.mk hok
  have HX := Aside0.mk hx
  have HM := Aside0.mk hm
  clear h hr hok hx hm
  have HF := Aside0.mk (fun nd => Free_Q (HW.out.drewN nd) HOk.out.toFit)
  obtain ⟨r, hq⟩ : ∃ r, r = d.free := ⟨_, rfl⟩
  rw [← hq] at HF hl
  clear hq
  have hf0 : findF d.files s = none := Option.isNone_iff_eq_none.1 (Option.not_isSome_iff_eq_none.1 (by rw [hf]; simp) ▸ rfl)
  have hf1 : d.fileOr s = ⟨s, [], 0⟩ := fileOr_none hf0
  have hnm := fileOr_name d s
  have hfo : d.act.fileOr s = d.fileOr s := rfl
  rw [hfo] at HFit
  obtain ⟨f, hfe⟩ : ∃ f, f = d.fileOr s := ⟨_, rfl⟩
  rw [← hfe] at hnm HFit ⊢ hf1
  clear hfe hfo
  subst hnm
  have HF0 := Aside0.mk hf0
  have HF1 := Aside0.mk hf1
  clear hf0 hf1
  have HFl := Aside0.mk hf
  have HGo := Aside0.mk hgo
  clear hf hgo
  go_enter Try.func49, Try.ntmps49
  go_wp2_with (first
    | (go_at_call 68; refine HR.out.mono ?_; rintro e w2 ⟨rfl, ⟨nd, rfl⟩⟩)
    | (go_at_call 19; refine (HF.out _).mono ?_; rintro e w3 ⟨rfl, hb3⟩; have H3 := Aside0.mk ((HW.out.drewN nd).below hb3); have HO3 := Aside0.mk (((Only.refl S w).drewN nd).below hb3); clear hb3)
    | (go_at_call 69; refine (act_Q H3.out HOk.out).mono ?_; rintro e w4 ⟨rfl, h4, ho4⟩; rw [HGo.out]; have z0 : w4.cell? ⟨g, 0, none⟩ = some (.map (some mb)) := h4.cell 0; have hlk := h4.look f.name HSz.out; have HO4 := Aside0.mk (HO3.out.trans ho4); rw [show fileP d.act bl f.name = .pointer none from if_neg (fun h => Bool.noConfusion (HFl.out.symm.trans h))] at hlk; have hown4 := h4.own.alloc fileCells; have HNew := Aside0.mk (fun W1 h2 hg => h4.newFile (W1 := W1) f.name HF0.out (by have := HW.out.cnt; show (n : Int) + 1 ≤ d.acts + 1; omega) h2 hg); have HH4 := Aside0.mk h4; have z0a : (w4.alloc fileCells).cell? ⟨g, 0, none⟩ = some (.map (some mb)) := pw_cell_below (below_alloc (Below.refl w4.heap.size w4) fileCells) z0; have hnn : n < maxLen := (by have h1 := HW.out.cnt; have h2 := HOk.out.acts; unfold maxLen; omega); have hkk := ky_of (s := f.name) (by have := HSz.out; omega); have HO4a := HO4; clear h4 ho4 HO4)
    | (at_mapUpdate; refine wpList_mapUpdate_own _ rfl _ _ _ 77 rfl 9 89 keyed Try.underlying77 ptrR mb n D rfl hown4 hnn _ _ _ rfl rfl hkk (.lit (.int .i64 (w4.heap.size : Int))) [] rfl ?_; intro w4' hown5 hg5; obtain ⟨h4, ho4⟩ := HNew.out w4' hown5 hg5; rw [← HF1.out] at h4; have HO4 := Aside0.mk (HO4a.out.trans ho4); have HO45 := Aside0.mk ho4; have HFm := Aside0.mk (show f ∈ (d.act.put f).files from (putF_mem HW.out.cells.1 f f).2 (.inl rfl)); have HFlen := Aside0.mk (show f.b.length ≤ 1048576 from by rw [HF1.out]; exact Nat.zero_le _); have HX4 := Aside0.mk (Kd.F_now (F_only HX.out HO4.out (fun k hk => hk))); obtain ⟨A1, cc, ev, zf, zs, zff, zsf, hrow, hcc, hA, hsafe⟩ := h4.file (show f ∈ (d.act.put f).files from HFm.out); have HEnd := Aside0.mk (fun v1 w5 hr5 hg5 hat5 => DS.put_put d.act (f := f) (f' := { f with b := f.b ++ xs }) rfl ▸ h4.appended (f := f) HFm.out (W1 := w5) (v1 := v1) (ys := xs) hr5 (by rw [ev]; exact hg5) (by rw [ev]; exact hat5)); have HFz := Aside0.mk (fun w5 (hg5 : w4'.grownBy w5 (Value.slice A1 f.b.length cc).ownBlock) => ev ▸ append_frozen h4 HFm.out w5 (by rw [ev]; exact hg5)); have HLen := Aside0.mk (append_len HM.out HFlen.out); have HRow := Aside0.mk hrow; have H4 := Aside0.mk h4; have hub : upd bl f.name w4.heap.size f.name = w4.heap.size := upd_same _ _ _; rw [hub] at zf zs zff zsf HFz; obtain ⟨b, hb⟩ : ∃ b, b = w4.heap.size := ⟨_, rfl⟩; have HB := Aside0.mk (hb.trans hub.symm); rw [← hb] at zf zs zff zsf HFz; try rw [← hb]; obtain ⟨m1, hm1⟩ : ∃ m1, m1 = f.b.length := ⟨_, rfl⟩; rw [← hm1] at zf HEnd HFz HRow; clear h4 ho4 ev hrow hcc hA hsafe hb hm1 hub hown5 hg5)
    | ((with_reducible refine gate_builtin (b := .append) (xs := #[.tmp 43, .tmp 44]) rfl ?_); (try (refine gate_guard (by rfl) ?_; dsimp only)); at_builtin; refine Kd.R_append_row (Value.int .u8) 0 (w0 := w4') 0 rfl (.tmp 43) (.tmp 44) 46 5 (.int .u8 0) 1 rfl Try.underlying46 info5_ rfl (by decide) (.slice A1 m1 cc) f.b xs A m c (fun _ => True) rfl rfl (fun _ _ => trivial) HRow.out HX4.out (Below.refl _ _) (Nat.zero_le _) HLen.out ?_; intro v1 w5 hr5 hb5 hg5 hat5; obtain ⟨A5, l5, c5, ev5⟩ := R_slice3 hr5; subst ev5; obtain ⟨zff5, zf5⟩ := HFz.out w5 hg5; have HN := Aside0.mk (end2 HO4a.out HO45.out (HEnd.out _ w5 hr5 hg5 hat5)); rw [← HB.out] at HN; clear hr5 hb5 hg5 hat5))
  all_goals (go_ret; exact ⟨rfl, HN.out.1.at, HN.out.2⟩)
set_option maxHeartbeats 4000000 in
set_option maxRecDepth 100000 in
theorem Append_6 (h : DevW S w g d mb n D bl vl) (hok : d.Ok) (s : ByteArray) {A : Option Addr} {m c : Nat} {xs : List Int} (hx : Kd.F bK w (fun k => ¬ S k) A m xs) (hm : m ≤ 4294967296) (hxb : ∀ x ∈ xs, 0 ≤ x ∧ x ≤ 255) (hr : d.ready s = 0) (hl : (m : Int) ≤ d.free) (hf : (findF d.files s).isSome = false) (hgo : d.goes = true) :
    Calls Try.prog 49 #[.pointer (some ⟨g, 0, none⟩), .string s, .slice A m c] w fun e w' => e = .returned (.int .i64 7) ∧ DevAt (Grow S w) w' g ((d.act.put { d.fileOr s with b := (d.fileOr s).b ++ xs }).ends) ∧ Only S w w' := by
  have HR := Aside0.mk (ready_Q h.at s)
  rw [hr] at HR
  have HSz := Aside0.mk (ready_size hr)
  have HFit := Aside0.mk (hok.toFit.act.append h.cells.1 s hxb (by rw [Kd.F_len hx]; exact hl))
  have HW := Aside0.mk h
  have HOk := Aside0.mk hok
  have HX := Aside0.mk hx
  have HM := Aside0.mk hm
  clear h hr hok hx hm
  have HF := Aside0.mk (fun nd => Free_Q (HW.out.drewN nd) HOk.out.toFit)
  obtain ⟨r, hq⟩ : ∃ r, r = d.free := ⟨_, rfl⟩
  rw [← hq] at HF hl
  clear hq
  have hf0 : findF d.files s = none := Option.isNone_iff_eq_none.1 (Option.not_isSome_iff_eq_none.1 (by rw [hf]; simp) ▸ rfl)
  have hf1 : d.fileOr s = ⟨s, [], 0⟩ := fileOr_none hf0
  have hnm := fileOr_name d s
  have hfo : d.act.fileOr s = d.fileOr s := rfl
  rw [hfo] at HFit
  obtain ⟨f, hfe⟩ : ∃ f, f = d.fileOr s := ⟨_, rfl⟩
  rw [← hfe] at hnm HFit ⊢ hf1
  clear hfe hfo
  subst hnm
  have HF0 := Aside0.mk hf0
  have HF1 := Aside0.mk hf1
  clear hf0 hf1
  have HFl := Aside0.mk hf
  have HGo := Aside0.mk hgo
  clear hf hgo
  go_enter Try.func49, Try.ntmps49
  go_wp2_with (first
    | (go_at_call 68; refine HR.out.mono ?_; rintro e w2 ⟨rfl, ⟨nd, rfl⟩⟩)
    | (go_at_call 19; refine (HF.out _).mono ?_; rintro e w3 ⟨rfl, hb3⟩; have H3 := Aside0.mk ((HW.out.drewN nd).below hb3); have HO3 := Aside0.mk (((Only.refl S w).drewN nd).below hb3); clear hb3)
    | (go_at_call 69; refine (act_Q H3.out HOk.out).mono ?_; rintro e w4 ⟨rfl, h4, ho4⟩; rw [HGo.out]; have z0 : w4.cell? ⟨g, 0, none⟩ = some (.map (some mb)) := h4.cell 0; have hlk := h4.look f.name HSz.out; have HO4 := Aside0.mk (HO3.out.trans ho4); rw [show fileP d.act bl f.name = .pointer none from if_neg (fun h => Bool.noConfusion (HFl.out.symm.trans h))] at hlk; have hown4 := h4.own.alloc fileCells; have HNew := Aside0.mk (fun W1 h2 hg => h4.newFile (W1 := W1) f.name HF0.out (by have := HW.out.cnt; show (n : Int) + 1 ≤ d.acts + 1; omega) h2 hg); have HH4 := Aside0.mk h4; have z0a : (w4.alloc fileCells).cell? ⟨g, 0, none⟩ = some (.map (some mb)) := pw_cell_below (below_alloc (Below.refl w4.heap.size w4) fileCells) z0; have hnn : n < maxLen := (by have h1 := HW.out.cnt; have h2 := HOk.out.acts; unfold maxLen; omega); have hkk := ky_of (s := f.name) (by have := HSz.out; omega); have HO4a := HO4; clear h4 ho4 HO4)
    | (at_mapUpdate; refine wpList_mapUpdate_own _ rfl _ _ _ 77 rfl 9 89 keyed Try.underlying77 ptrR mb n D rfl hown4 hnn _ _ _ rfl rfl hkk (.lit (.int .i64 (w4.heap.size : Int))) [] rfl ?_; intro w4' hown5 hg5; obtain ⟨h4, ho4⟩ := HNew.out w4' hown5 hg5; rw [← HF1.out] at h4; have HO4 := Aside0.mk (HO4a.out.trans ho4); have HO45 := Aside0.mk ho4; have HFm := Aside0.mk (show f ∈ (d.act.put f).files from (putF_mem HW.out.cells.1 f f).2 (.inl rfl)); have HFlen := Aside0.mk (show f.b.length ≤ 1048576 from by rw [HF1.out]; exact Nat.zero_le _); have HX4 := Aside0.mk (Kd.F_now (F_only HX.out HO4.out (fun k hk => hk))); obtain ⟨A1, cc, ev, zf, zs, zff, zsf, hrow, hcc, hA, hsafe⟩ := h4.file (show f ∈ (d.act.put f).files from HFm.out); have HEnd := Aside0.mk (fun v1 w5 hr5 hg5 hat5 => DS.put_put d.act (f := f) (f' := { f with b := f.b ++ xs }) rfl ▸ h4.appended (f := f) HFm.out (W1 := w5) (v1 := v1) (ys := xs) hr5 (by rw [ev]; exact hg5) (by rw [ev]; exact hat5)); have HFz := Aside0.mk (fun w5 (hg5 : w4'.grownBy w5 (Value.slice A1 f.b.length cc).ownBlock) => ev ▸ append_frozen h4 HFm.out w5 (by rw [ev]; exact hg5)); have HLen := Aside0.mk (append_len HM.out HFlen.out); have HRow := Aside0.mk hrow; have H4 := Aside0.mk h4; have hub : upd bl f.name w4.heap.size f.name = w4.heap.size := upd_same _ _ _; rw [hub] at zf zs zff zsf HFz; obtain ⟨b, hb⟩ : ∃ b, b = w4.heap.size := ⟨_, rfl⟩; have HB := Aside0.mk (hb.trans hub.symm); rw [← hb] at zf zs zff zsf HFz; try rw [← hb]; obtain ⟨m1, hm1⟩ : ∃ m1, m1 = f.b.length := ⟨_, rfl⟩; rw [← hm1] at zf HEnd HFz HRow; clear h4 ho4 ev hrow hcc hA hsafe hb hm1 hub hown5 hg5)
    | ((with_reducible refine gate_builtin (b := .append) (xs := #[.tmp 43, .tmp 44]) rfl ?_); (try (refine gate_guard (by rfl) ?_; dsimp only)); at_builtin; refine Kd.R_append_row (Value.int .u8) 0 (w0 := w4') 0 rfl (.tmp 43) (.tmp 44) 46 5 (.int .u8 0) 1 rfl Try.underlying46 info5_ rfl (by decide) (.slice A1 m1 cc) f.b xs A m c (fun _ => True) rfl rfl (fun _ _ => trivial) HRow.out HX4.out (Below.refl _ _) (Nat.zero_le _) HLen.out ?_; intro v1 w5 hr5 hb5 hg5 hat5; obtain ⟨A5, l5, c5, ev5⟩ := R_slice3 hr5; subst ev5; obtain ⟨zff5, zf5⟩ := HFz.out w5 hg5; have HN := Aside0.mk (end2 HO4a.out HO45.out (HEnd.out _ w5 hr5 hg5 hat5)); rw [← HB.out] at HN; clear hr5 hb5 hg5 hat5))
  have HN1 := Aside0.mk HN.out.1
  have HN2 := Aside0.mk HN.out.2
  clear HN
  have z5 := HN1.out.cell 5
  have z6 := HN1.out.cell 6
  refine start_ (n := 10) (S := fun w' => w'.cell? ⟨g, 5, none⟩ = some (.int .i64 d.keep) ∧ w'.cell? ⟨g, 6, none⟩ = some (.bool d.torn)) (ds := [9]) #[false, false, false, false, false, false, false, false, false, false] (by kernel_rfl) rfl rfl ⟨z5, z6⟩ (fun hHeld => ?_)
  refine pure_ (i := 0) (N := some 49) (v := ?_) (a' := ?_) #[true, false, false, false, false, false, false, false, false, false] rfl rfl (by kernel_rfl) (fun _ _ _ h => h) (Or.inl ⟨by rfl, ?_⟩) ?_ ?_
  rotate_left
  · intro w'
    go_simp
    with_reducible rfl
  rotate_left
  · simp only [Act.put, List.setIfInBounds_toArray, List.set_cons_zero, List.set_cons_succ, i64_w, i32_w]
    rfl
  refine pure_ (i := 1) (N := some 50) (v := ?_) (a' := ?_) #[true, true, false, false, false, false, false, false, false, false] rfl rfl (by kernel_rfl) (fun _ _ _ h => h) (Or.inl ⟨by rfl, ?_⟩) ?_ ?_
  rotate_left
  · intro w'
    go_simp
    with_reducible rfl
  rotate_left
  · simp only [Act.put, List.setIfInBounds_toArray, List.set_cons_zero, List.set_cons_succ, i64_w, i32_w]
    rfl
  refine pure_ (i := 2) (N := some 51) (v := ?_) (a' := ?_) #[true, true, true, false, false, false, false, false, false, false] rfl rfl (by kernel_rfl) (fun _ _ _ h => h) (Or.inl ⟨by rfl, ?_⟩) ?_ ?_
  rotate_left
  · intro w'
    go_simp
    with_reducible rfl
  rotate_left
  · simp only [Act.put, List.setIfInBounds_toArray, List.set_cons_zero, List.set_cons_succ, i64_w, i32_w]
    rfl
  refine pure_ (i := 3) (N := some 52) (v := ?_) (a' := ?_) #[true, true, true, true, false, false, false, false, false, false] rfl rfl (by kernel_rfl) (fun _ _ _ h => h) (Or.inl ⟨by rfl, ?_⟩) ?_ ?_
  rotate_left
  · intro w'
    go_simp
    with_reducible rfl
  rotate_left
  · simp only [Act.put, List.setIfInBounds_toArray, List.set_cons_zero, List.set_cons_succ, i64_w, i32_w]
    rfl
  refine take_ (i := 4) (N := some 53) (v := ?_) (a' := ?_) #[true, true, true, true, true, false, false, false, false, false] rfl rfl (by kernel_rfl) (fun _ _ _ h => h) (Or.inl ⟨by rfl, ?_⟩) hHeld ?_ ?_
  rotate_left
  · intro w' s0
    obtain ⟨y0, y1⟩ := s0
    go_simp
    with_reducible rfl
  rotate_left
  · simp only [Act.put, List.setIfInBounds_toArray, List.set_cons_zero, List.set_cons_succ, i64_w, i32_w]
    rfl
  refine pure_ (i := 5) (N := some 54) (v := ?_) (a' := ?_) #[true, true, true, true, true, true, false, false, false, false] rfl rfl (by kernel_rfl) (fun _ _ _ h => h) (Or.inl ⟨by rfl, ?_⟩) ?_ ?_
  rotate_left
  · intro w'
    go_simp
    with_reducible rfl
  rotate_left
  · simp only [Act.put, List.setIfInBounds_toArray, List.set_cons_zero, List.set_cons_succ, i64_w, i32_w]
    rfl
  refine pure_ (i := 6) (N := some 55) (v := ?_) (a' := ?_) #[true, true, true, true, true, true, true, false, false, false] rfl rfl (by kernel_rfl) (fun _ _ _ h => h) (Or.inl ⟨by rfl, ?_⟩) ?_ ?_
  rotate_left
  · intro w'
    go_simp
    with_reducible rfl
  rotate_left
  · simp only [Act.put, List.setIfInBounds_toArray, List.set_cons_zero, List.set_cons_succ, i64_w, i32_w]
    rfl
  refine pure_ (i := 7) (N := some 56) (v := ?_) (a' := ?_) #[true, true, true, true, true, true, true, true, false, false] rfl rfl (by kernel_rfl) (fun _ _ _ h => h) (Or.inl ⟨by rfl, ?_⟩) ?_ ?_
  rotate_left
  · intro w'
    go_simp
    with_reducible rfl
  rotate_left
  · simp only [Act.put, List.setIfInBounds_toArray, List.set_cons_zero, List.set_cons_succ, i64_w, i32_w]
    rfl
  refine take_ (i := 8) (N := some 57) (v := ?_) (a' := ?_) #[true, true, true, true, true, true, true, true, true, false] rfl rfl (by kernel_rfl) (fun _ _ _ h => h) (Or.inl ⟨by rfl, ?_⟩) hHeld ?_ ?_
  rotate_left
  · intro w' s0
    obtain ⟨y0, y1⟩ := s0
    go_simp
    with_reducible rfl
  rotate_left
  · simp only [Act.put, List.setIfInBounds_toArray, List.set_cons_zero, List.set_cons_succ, i64_w, i32_w]
    rfl
  refine last_ (i := 9) (N := some 58) #[true, true, true, true, true, true, true, true, true, true] rfl rfl (by kernel_rfl) (by decide) (fun K hK => ?_)
  refine goes_ Try.func29 (by kernel_rfl) rfl #[.pointer (some ⟨g, 0, none⟩), .int .i64 d.keep, .bool d.torn] (by rfl) rfl rfl (by (try simp only [List.map_toArray, List.map_cons, List.map_nil]); first | done | rfl) ?_
  refine (Off_Q (HN1.out.below (below_drew1 (Below.refl _ _))) HFit.out d.keep d.torn).mono ?_
  rintro e wo ⟨rfl, hDo, hOo⟩
  refine ⟨_, rfl, ?_⟩
  have HDo := Aside0.mk hDo
  have HOo := Aside0.mk hOo
  clear hDo hOo
  refine hK.out _ _ ?_
  clear hK K
  refine done_ (by kernel_rfl) ?_
  go_wp2
  go_ret
  obtain ⟨e1, e2⟩ := off_end (Only.refl S w) HN2.out HDo.out HOo.out
  exact ⟨rfl, e1, e2⟩
end
attribute [local go_sem] max2_m min2_m max_two min_two
set_option linter.unusedVariables false
set_option linter.unusedSimpArgs false
section
variable {S : Nat → Prop} {w : World} {g : Nat} {d : DS} {mb n : Nat} {D : DataW Unit} {bl : ByteArray → Nat} {vl : ByteArray → Value}
theorem Append_Q (h : DevAt S w g d) (hok : d.Ok) (s : ByteArray) {A : Option Addr} {m c : Nat} {xs : List Int} (hx : Kd.F bK w (fun k => ¬ S k) A m xs) (hm : m ≤ 4294967296) (hxb : ∀ x ∈ xs, 0 ≤ x ∧ x ≤ 255) :
    Calls Try.prog 49 #[.pointer (some ⟨g, 0, none⟩), .string s, .slice A m c] w fun e w' => e = .returned (.int .i64 (d.append s xs).1) ∧ DevAt (Grow S w) w' g (d.append s xs).2 ∧ Only S w w' := by
  obtain ⟨mb, n, D, bl, vl, h⟩ := h
  have hln := Kd.F_len hx
  unfold DS.append
  by_cases hr : d.ready s = 0
  · rw [if_neg (fun h => h hr), hln]
    by_cases hl : (m : Int) ≤ d.free
    · rw [if_neg (by omega)]
      cases hgo : d.goes with
      | false =>
        rw [if_neg (by simp)]
        cases hf : (findF d.files s).isSome with
        | true => exact Append_3 h hok s hx hm hxb hr hl hf hgo
        | false => exact Append_5 h hok s hx hm hxb hr hl hf hgo
      | true =>
        rw [if_pos rfl]
        cases hf : (findF d.files s).isSome with
        | true => exact Append_4 h hok s hx hm hxb hr hl hf hgo
        | false => exact Append_6 h hok s hx hm hxb hr hl hf hgo
    · rw [if_pos (by omega)]
      exact Append_2 h hok.toFit s A m c hr hl
  · rw [if_pos hr]
    exact Append_1 h s A m c hr
theorem there_ready {d : DS} {s : ByteArray} (h : d.there s = 0) : d.ready s = 0 ∧ ∃ f, findF d.files s = some f := by
  unfold DS.there at h
  by_cases c : d.ready s = 0
  · rw [if_neg (fun h => h c)] at h
    refine ⟨c, ?_⟩
    cases e : findF d.files s with
    | some f => exact ⟨f, rfl⟩
    | none => rw [e] at h; simp at h
  · rw [if_pos c] at h
    exact absurd h c
set_option maxHeartbeats 4000000 in
set_option maxRecDepth 100000 in
theorem Read_1 (h : DevW S w g d mb n D bl vl) (s : ByteArray) (hr : d.there s ≠ 0) : Calls Try.prog 18 #[.pointer (some ⟨g, 0, none⟩), .string s] w fun e w' => e = .returned (.tuple #[.slice none 0 0, .int .i64 (d.there s)]) ∧ Below w.heap.size w w' := by
  have HR := Aside0.mk (there_Q h s)
  rw [if_neg hr] at HR
  obtain ⟨r, hq⟩ : ∃ r, r = d.there s := ⟨_, rfl⟩
  rw [← hq] at HR hr ⊢
  clear hq h
  have cb : (r == 0) = false := beq_eq_false_iff_ne.mpr hr
  have cn : (r != 0) = true := bne_iff_ne.mpr hr
  clear hr
  go_enter Try.func18, Try.ntmps18
  go_wp2_with (first | (go_at_call 45; refine HR.out.mono ?_; rintro e w2 ⟨rfl, ⟨nd, rfl⟩⟩))
  go_ret2
  exact ⟨rfl, pw_below_drewN (Below.refl _ _) nd⟩
set_option maxHeartbeats 4000000 in
set_option maxRecDepth 100000 in
theorem Read_2 (h : DevW S w g d mb n D bl vl) (hok : d.Fit) (s : ByteArray) (hr : d.there s = 0) : Calls Try.prog 18 #[.pointer (some ⟨g, 0, none⟩), .string s] w fun e w' => (∃ v, e = .returned (.tuple #[v, .int .i64 0]) ∧ bK.R 5 w' w.heap.size (fun _ => True) v (d.fileOr s).b) ∧ Below w.heap.size w w' := by
  have HR := Aside0.mk (there_Q h s)
  rw [if_pos hr] at HR
  obtain ⟨f, hf⟩ := (there_ready hr).2
  rw [hr] at HR
  rw [fileOr_some hf]
  obtain ⟨hfm, rfl⟩ := findF_some hf
  have HW := Aside0.mk h
  have HFm := Aside0.mk hfm
  have HLen := Aside0.mk (size_le h.cells.1 hfm hok.fits hok.room)
  clear h hr hf hfm hok
  obtain ⟨b, hb⟩ : ∃ b, b = bl f.name := ⟨_, rfl⟩
  rw [← hb] at HR
  have HB := Aside0.mk hb
  clear hb
  go_enter Try.func18, Try.ntmps18
  go_wp2_with (first
    | (go_at_call 45; refine HR.out.mono ?_; rintro e w2 ⟨rfl, ⟨nd, rfl⟩⟩; obtain ⟨A1, cc, ev, zf, zs, zff, zsf, hrow, hcc, hA, hsafe⟩ := (HW.out.drewN nd).file HFm.out; rw [← HB.out] at zf; have HRow := Aside0.mk hrow; have HA := Aside0.mk hA; clear ev zs zff zsf hrow hcc hA hsafe)
    | (go_at_call 46; refine (Clone_Q _ A1 f.b.length cc _ (Kd.R_reads' HRow.out).2.2 HA.out (Nat.le_trans HLen.out (by decide))).mono ?_; rintro e w3 ⟨v1, rfl, hr3, hb3⟩))
  go_ret2
  exact ⟨⟨v1, rfl, hr3⟩, ⟨hb3.os, hb3.tape, hb3.output, hb3.size, hb3.block⟩⟩
set_option maxHeartbeats 4000000 in
set_option maxRecDepth 100000 in
theorem Sync_1 (h : DevW S w g d mb n D bl vl) (s : ByteArray) (hr : d.there s ≠ 0) : Calls Try.prog 47 #[.pointer (some ⟨g, 0, none⟩), .string s] w fun e w' => e = .returned (.int .i64 (d.there s)) ∧ DevAt (Grow S w) w' g d ∧ Only S w w' := by
  have HR := Aside0.mk (there_Q h s)
  have HW := Aside0.mk h
  rw [if_neg hr] at HR
  obtain ⟨r, hq⟩ : ∃ r, r = d.there s := ⟨_, rfl⟩
  rw [← hq] at HR hr ⊢
  clear hq h
  have cb : (r == 0) = false := beq_eq_false_iff_ne.mpr hr
  have cn : (r != 0) = true := bne_iff_ne.mpr hr
  clear hr
  go_enter Try.func47, Try.ntmps47
  go_wp2_with (first | (go_at_call 45; refine HR.out.mono ?_; rintro e w2 ⟨rfl, ⟨nd, rfl⟩⟩))
  go_ret
  exact ⟨rfl, ((HW.out.drewN nd).mono (fun _ h => .inl h)).at, (Only.refl _ _).drewN nd⟩
set_option maxHeartbeats 4000000 in
set_option maxRecDepth 100000 in
theorem Sync_2 (h : DevW S w g d mb n D bl vl) (hok : d.Ok) (s : ByteArray) (hr : d.there s = 0) (hgo : d.goes = false) : Calls Try.prog 47 #[.pointer (some ⟨g, 0, none⟩), .string s] w fun e w' => e = .returned (.int .i64 0) ∧ DevAt (Grow S w) w' g (d.act.put { d.fileOr s with safe := (d.fileOr s).b.length }) ∧ Only S w w' := by
  have HR := Aside0.mk (there_Q h s)
  rw [if_pos hr] at HR
  obtain ⟨f, hf⟩ := (there_ready hr).2
  rw [hr] at HR
  rw [fileOr_some hf]
  obtain ⟨hfm, rfl⟩ := findF_some hf
  have HW := Aside0.mk h
  have HFm := Aside0.mk hfm
  have HOk := Aside0.mk hok
  have HGo := Aside0.mk hgo
  clear h hr hf hfm hok hgo
  obtain ⟨b, hb⟩ : ∃ b, b = bl f.name := ⟨_, rfl⟩
  rw [← hb] at HR
  have HB := Aside0.mk hb
  clear hb
  obtain ⟨m, hm⟩ : ∃ m, m = f.b.length := ⟨_, rfl⟩
  have HM := Aside0.mk hm
  clear hm
  go_enter Try.func47, Try.ntmps47
  go_wp2_with (first
    | (go_at_call 45; refine HR.out.mono ?_; rintro e w2 ⟨rfl, ⟨nd, rfl⟩⟩)
    | (go_at_call 69; refine (act_Q (HW.out.drewN nd) HOk.out).mono ?_; rintro e w4 ⟨rfl, h4, ho4⟩; rw [HGo.out]; obtain ⟨A1, cc, ev, zf, zs, zff, zsf, hrow, hcc, hA, hsafe⟩ := h4.file (f := f) HFm.out; rw [← HB.out] at zf zs zff zsf; rw [← HM.out] at zf; have HN := Aside0.mk (end1 (((Only.refl S w).drewN nd).trans ho4) (h4.synced (f := f) HFm.out)); rw [← HB.out, ← HM.out] at HN; clear h4 ho4 ev hrow hcc hA hsafe))
  go_ret
  rw [← HM.out]
  exact ⟨rfl, HN.out.1.at, HN.out.2⟩
set_option maxHeartbeats 4000000 in
set_option maxRecDepth 100000 in
theorem Sync_3 (h : DevW S w g d mb n D bl vl) (hok : d.Ok) (s : ByteArray) (hr : d.there s = 0) (hgo : d.goes = true) : Calls Try.prog 47 #[.pointer (some ⟨g, 0, none⟩), .string s] w fun e w' => e = .returned (.int .i64 7) ∧ DevAt (Grow S w) w' g d.act.ends ∧ Only S w w' := by
  have HR := Aside0.mk (there_Q h s)
  rw [if_pos hr] at HR
  rw [hr] at HR
  have HW := Aside0.mk h
  have HOk := Aside0.mk hok
  have HGo := Aside0.mk hgo
  clear h hr hok hgo
  obtain ⟨b, hb⟩ : ∃ b, b = bl s := ⟨_, rfl⟩
  rw [← hb] at HR
  clear hb
  go_enter Try.func47, Try.ntmps47
  go_wp2_with (first
    | (go_at_call 45; refine HR.out.mono ?_; rintro e w2 ⟨rfl, ⟨nd, rfl⟩⟩)
    | (go_at_call 69; refine (act_Q (HW.out.drewN nd) HOk.out).mono ?_; rintro e w4 ⟨rfl, h4, ho4⟩; rw [HGo.out]; have z5 := h4.cell 5; have z6 := h4.cell 6; have HN1 := Aside0.mk h4; have HN2 := Aside0.mk (((Only.refl S w).drewN nd).trans ho4); clear h4 ho4))
  refine start_ (n := 10) (S := fun w' => w'.cell? ⟨g, 5, none⟩ = some (.int .i64 d.keep) ∧ w'.cell? ⟨g, 6, none⟩ = some (.bool d.torn)) (ds := [9]) #[false, false, false, false, false, false, false, false, false, false] (by kernel_rfl) rfl rfl ⟨z5, z6⟩ (fun hHeld => ?_)
  refine pure_ (i := 0) (N := some 18) (v := ?_) (a' := ?_) #[true, false, false, false, false, false, false, false, false, false] rfl rfl (by kernel_rfl) (fun _ _ _ h => h) (Or.inl ⟨by rfl, ?_⟩) ?_ ?_
  rotate_left
  · intro w'
    go_simp
    with_reducible rfl
  rotate_left
  · simp only [Act.put, List.setIfInBounds_toArray, List.set_cons_zero, List.set_cons_succ, i64_w, i32_w]
    rfl
  refine pure_ (i := 1) (N := some 19) (v := ?_) (a' := ?_) #[true, true, false, false, false, false, false, false, false, false] rfl rfl (by kernel_rfl) (fun _ _ _ h => h) (Or.inl ⟨by rfl, ?_⟩) ?_ ?_
  rotate_left
  · intro w'
    go_simp
    with_reducible rfl
  rotate_left
  · simp only [Act.put, List.setIfInBounds_toArray, List.set_cons_zero, List.set_cons_succ, i64_w, i32_w]
    rfl
  refine pure_ (i := 2) (N := some 20) (v := ?_) (a' := ?_) #[true, true, true, false, false, false, false, false, false, false] rfl rfl (by kernel_rfl) (fun _ _ _ h => h) (Or.inl ⟨by rfl, ?_⟩) ?_ ?_
  rotate_left
  · intro w'
    go_simp
    with_reducible rfl
  rotate_left
  · simp only [Act.put, List.setIfInBounds_toArray, List.set_cons_zero, List.set_cons_succ, i64_w, i32_w]
    rfl
  refine pure_ (i := 3) (N := some 21) (v := ?_) (a' := ?_) #[true, true, true, true, false, false, false, false, false, false] rfl rfl (by kernel_rfl) (fun _ _ _ h => h) (Or.inl ⟨by rfl, ?_⟩) ?_ ?_
  rotate_left
  · intro w'
    go_simp
    with_reducible rfl
  rotate_left
  · simp only [Act.put, List.setIfInBounds_toArray, List.set_cons_zero, List.set_cons_succ, i64_w, i32_w]
    rfl
  refine take_ (i := 4) (N := some 22) (v := ?_) (a' := ?_) #[true, true, true, true, true, false, false, false, false, false] rfl rfl (by kernel_rfl) (fun _ _ _ h => h) (Or.inl ⟨by rfl, ?_⟩) hHeld ?_ ?_
  rotate_left
  · intro w' s0
    obtain ⟨y0, y1⟩ := s0
    go_simp
    with_reducible rfl
  rotate_left
  · simp only [Act.put, List.setIfInBounds_toArray, List.set_cons_zero, List.set_cons_succ, i64_w, i32_w]
    rfl
  refine pure_ (i := 5) (N := some 23) (v := ?_) (a' := ?_) #[true, true, true, true, true, true, false, false, false, false] rfl rfl (by kernel_rfl) (fun _ _ _ h => h) (Or.inl ⟨by rfl, ?_⟩) ?_ ?_
  rotate_left
  · intro w'
    go_simp
    with_reducible rfl
  rotate_left
  · simp only [Act.put, List.setIfInBounds_toArray, List.set_cons_zero, List.set_cons_succ, i64_w, i32_w]
    rfl
  refine pure_ (i := 6) (N := some 24) (v := ?_) (a' := ?_) #[true, true, true, true, true, true, true, false, false, false] rfl rfl (by kernel_rfl) (fun _ _ _ h => h) (Or.inl ⟨by rfl, ?_⟩) ?_ ?_
  rotate_left
  · intro w'
    go_simp
    with_reducible rfl
  rotate_left
  · simp only [Act.put, List.setIfInBounds_toArray, List.set_cons_zero, List.set_cons_succ, i64_w, i32_w]
    rfl
  refine pure_ (i := 7) (N := some 25) (v := ?_) (a' := ?_) #[true, true, true, true, true, true, true, true, false, false] rfl rfl (by kernel_rfl) (fun _ _ _ h => h) (Or.inl ⟨by rfl, ?_⟩) ?_ ?_
  rotate_left
  · intro w'
    go_simp
    with_reducible rfl
  rotate_left
  · simp only [Act.put, List.setIfInBounds_toArray, List.set_cons_zero, List.set_cons_succ, i64_w, i32_w]
    rfl
  refine take_ (i := 8) (N := some 26) (v := ?_) (a' := ?_) #[true, true, true, true, true, true, true, true, true, false] rfl rfl (by kernel_rfl) (fun _ _ _ h => h) (Or.inl ⟨by rfl, ?_⟩) hHeld ?_ ?_
  rotate_left
  · intro w' s0
    obtain ⟨y0, y1⟩ := s0
    go_simp
    with_reducible rfl
  rotate_left
  · simp only [Act.put, List.setIfInBounds_toArray, List.set_cons_zero, List.set_cons_succ, i64_w, i32_w]
    rfl
  refine last_ (i := 9) (N := some 27) #[true, true, true, true, true, true, true, true, true, true] rfl rfl (by kernel_rfl) (by decide) (fun K hK => ?_)
  refine goes_ Try.func29 (by kernel_rfl) rfl #[.pointer (some ⟨g, 0, none⟩), .int .i64 d.keep, .bool d.torn] (by rfl) rfl rfl (by (try simp only [List.map_toArray, List.map_cons, List.map_nil]); first | done | rfl) ?_
  refine (Off_Q (HN1.out.below (below_drew1 (Below.refl _ _))) HOk.out.toFit.act d.keep d.torn).mono ?_
  rintro e wo ⟨rfl, hDo, hOo⟩
  refine ⟨_, rfl, ?_⟩
  have HDo := Aside0.mk hDo
  have HOo := Aside0.mk hOo
  clear hDo hOo
  refine hK.out _ _ ?_
  clear hK K
  refine done_ (by kernel_rfl) ?_
  go_wp2
  go_ret
  obtain ⟨e1, e2⟩ := off_end (Only.refl S w) HN2.out (HDo.out.mono (fun k hk => hk.imp .inl id)) (HOo.out.mono (fun k hk => .inl hk))
  exact ⟨rfl, e1, e2⟩
theorem Sync_Q (h : DevAt S w g d) (hok : d.Ok) (s : ByteArray) : Calls Try.prog 47 #[.pointer (some ⟨g, 0, none⟩), .string s] w fun e w' => e = .returned (.int .i64 (d.sync s).1) ∧ DevAt (Grow S w) w' g (d.sync s).2 ∧ Only S w w' := by
  obtain ⟨mb, n, D, bl, vl, h⟩ := h
  unfold DS.sync
  by_cases hr : d.there s = 0
  · rw [if_neg (fun h => h hr)]
    cases hgo : d.goes with
    | false => rw [if_neg (by simp)]; exact Sync_2 h hok s hr hgo
    | true => rw [if_pos rfl]; exact Sync_3 h hok s hr hgo
  · rw [if_pos hr]
    exact Sync_1 h s hr
set_option maxHeartbeats 4000000 in
set_option maxRecDepth 100000 in
theorem On_Q (h : DevAt S w g d) : Calls Try.prog 30 #[.pointer (some ⟨g, 0, none⟩)] w fun e w' => e = .returned (.tuple #[]) ∧ DevAt (Grow S w) w' g d.on ∧ Only S w w' := by
  obtain ⟨mb, n, D, bl, vl, h⟩ := h
  have z2 : w.cell? ⟨g, 2, none⟩ = some (.bool d.down) := h.cell 2
  have f2 := h.frozen 2
  have H2 := Aside0.mk (h.set_ d.on 2 (.bool false) rfl (Int.le_refl _) rfl)
  have O2 := Aside0.mk ((Only.refl S w).setCell (g := g) (j := 2) (.inl h.sg) (.bool false))
  clear h
  go_enter Try.func30, Try.ntmps30
  go_wp2
  go_end0
  exact ⟨rfl, (H2.out.mono (fun _ h => .inl h)).at, O2.out⟩
set_option maxHeartbeats 4000000 in
set_option maxRecDepth 100000 in
theorem Arm_Q (h : DevAt S w g d) (k keep : Int) (torn : Bool) : Calls Try.prog 27 #[.pointer (some ⟨g, 0, none⟩), .int .i64 k, .int .i64 keep, .bool torn] w fun e w' => e = .returned (.tuple #[]) ∧ DevAt (Grow S w) w' g (d.arm k keep torn) ∧ Only S w w' := by
  obtain ⟨mb, n, D, bl, vl, h⟩ := h
  have z4 : w.cell? ⟨g, 4, none⟩ = some (.int .i64 d.fuse) := h.cell 4
  have z5 : w.cell? ⟨g, 5, none⟩ = some (.int .i64 d.keep) := h.cell 5
  have z6 : w.cell? ⟨g, 6, none⟩ = some (.bool d.torn) := h.cell 6
  have f4 := h.frozen 4
  have f5 := h.frozen 5
  have f6 := h.frozen 6
  have h4 := h.set_ { d with fuse := max k 0 } 4 (.int .i64 (max k 0)) rfl (Int.le_refl _) rfl
  have h5 := h4.set_ { d with fuse := max k 0, keep := keep } 5 (.int .i64 keep) rfl (Int.le_refl _) rfl
  have h6 := h5.set_ (d.arm k keep torn) 6 (.bool torn) rfl (Int.le_refl _) rfl
  have H6 := Aside0.mk h6
  have O6 := Aside0.mk ((((Only.refl S w).setCell (g := g) (j := 4) (.inl h.sg) (.int .i64 (max k 0))).setCell (g := g) (j := 5) (.inl h.sg) (.int .i64 keep)).setCell (g := g) (j := 6) (.inl h.sg) (.bool torn))
  clear h h4 h5 h6
  go_enter Try.func27, Try.ntmps27
  go_wp2
  go_end0
  exact ⟨rfl, (H6.out.mono (fun _ h => .inl h)).at, O6.out⟩
end
attribute [local go_sem] max2_m min2_m max_two min_two
set_option linter.unusedVariables false
set_option linter.unusedSimpArgs false
section
variable {S : Nat → Prop} {w : World} {g : Nat} {d : DS} {mb n : Nat} {D : DataW Unit} {bl : ByteArray → Nat} {vl : ByteArray → Value}
theorem DevW.shrink (h : DevW S w g d mb n D bl vl) : DevW (fun k => S k ∧ k < w.heap.size) w g d mb n D bl vl :=
  ⟨h.blk, ⟨h.sg, blk_lt h.blk⟩, ⟨h.sm, h.own.lt⟩, h.own, h.cnt, h.rep, h.cells.1, fun f hf => by obtain ⟨a, b, c, e, q⟩ := h.cells.2.1 f hf; exact ⟨a, ⟨b, h.cells.lt hf⟩, c, fun k hk => ⟨e k hk, h.cells.row_lt hf k hk⟩, q⟩, h.cells.2.2⟩
set_option maxHeartbeats 4000000 in
set_option maxRecDepth 100000 in
theorem fallR_a (h : DevW S w g d mb n D bl vl) (hok : d.Ok) (caps : Array Value) (done : DS → DS) (hcall : ∀ W, DevW S W g d.act mb n D bl vl → Only S w W → Calls Try.prog 72 caps W fun e w' => e = .returned (.tuple #[]) ∧ DevAt (Grow S W) w' g (done d.act) ∧ Only S W w') (hfit : (done d.act).Fit) (hkeep : (done d.act).keep = d.keep) (htorn : (done d.act).torn = d.torn) (hgo : d.goes = false) :
    Calls Try.prog 56 #[.pointer (some ⟨g, 0, none⟩), .func (.func 72) #[] caps] w fun e w' => e = .returned (.int .i64 0) ∧ DevAt (Grow S w) w' g ((done d.act)) ∧ Only S w w' := by
  have HW := Aside0.mk h
  have HOk := Aside0.mk hok
  have HGo := Aside0.mk hgo
  have HC := Aside0.mk hcall
  have HFit := Aside0.mk hfit
  have HKeep := Aside0.mk hkeep
  have HTorn := Aside0.mk htorn
  clear h hok hgo hcall hfit hkeep htorn
  go_enter Try.func56, Try.ntmps56
  go_wp2_with (first
    | (go_at_call 69; refine (act_Q HW.out HOk.out).mono ?_; rintro e w4 ⟨rfl, h4, ho4⟩; rw [HGo.out]; have H4 := Aside0.mk h4; have HO4 := Aside0.mk ho4; clear h4 ho4)
    | (go_at_call 72; refine (HC.out _ H4.out HO4.out).mono ?_; rintro e w5 ⟨rfl, h5, ho5⟩; have H5 := Aside0.mk h5; have HO5 := Aside0.mk ho5; clear h5 ho5))
  go_ret
  exact ⟨rfl, H5.out.mono (fun k hk => hk.imp id (fun h => Nat.le_trans HO4.out.size h)), HO4.out.trans HO5.out⟩
set_option maxHeartbeats 4000000 in
set_option maxRecDepth 100000 in
theorem fallR_b (h : DevW S w g d mb n D bl vl) (hok : d.Ok) (caps : Array Value) (done : DS → DS) (hcall : ∀ W, DevW S W g d.act mb n D bl vl → Only S w W → Calls Try.prog 72 caps W fun e w' => e = .returned (.tuple #[]) ∧ DevAt (Grow S W) w' g (done d.act) ∧ Only S W w') (hfit : (done d.act).Fit) (hkeep : (done d.act).keep = d.keep) (htorn : (done d.act).torn = d.torn) (hgo : d.goes = true) (hk : 0 < d.keep) :
    Calls Try.prog 56 #[.pointer (some ⟨g, 0, none⟩), .func (.func 72) #[] caps] w fun e w' => e = .returned (.int .i64 7) ∧ DevAt (Grow S w) w' g ((done d.act).ends) ∧ Only S w w' := by
  have HW := Aside0.mk h
  have HOk := Aside0.mk hok
  have HGo := Aside0.mk hgo
  have HC := Aside0.mk hcall
  have HFit := Aside0.mk hfit
  have HKeep := Aside0.mk hkeep
  have HTorn := Aside0.mk htorn
  clear h hok hgo hcall hfit hkeep htorn
  obtain ⟨kp, hkp⟩ : ∃ kp, kp = d.keep := ⟨_, rfl⟩
  rw [← hkp] at hk
  have HKp := Aside0.mk hkp
  clear hkp
  go_enter Try.func56, Try.ntmps56
  go_wp2_with (first
    | (go_at_call 69; refine (act_Q HW.out HOk.out).mono ?_; rintro e w4 ⟨rfl, h4, ho4⟩; rw [HGo.out]; have z5 := h4.cell 5; change w4.cell? ⟨g, 5, none⟩ = some (.int .i64 d.keep) at z5; rw [← HKp.out] at z5; have H4 := Aside0.mk h4; have HO4 := Aside0.mk ho4; clear h4 ho4)
    | (go_at_call 72; refine (HC.out _ H4.out HO4.out).mono ?_; rintro e w5 ⟨rfl, h5, ho5⟩; have H5 := Aside0.mk h5; have HO5 := Aside0.mk ho5; clear h5 ho5))
  obtain ⟨mb5, n5, D5, bl5, vl5, hd5⟩ := H5.out
  clear z5
  have z5 := hd5.cell 5
  have z6 := hd5.cell 6
  change w5.cell? ⟨g, 5, none⟩ = some (.int .i64 (done d.act).keep) at z5
  change w5.cell? ⟨g, 6, none⟩ = some (.bool (done d.act).torn) at z6
  have HD5 := Aside0.mk hd5
  clear hd5
  refine start_ (n := 10) (S := fun w' => w'.cell? ⟨g, 5, none⟩ = some (.int .i64 (done d.act).keep) ∧ w'.cell? ⟨g, 6, none⟩ = some (.bool (done d.act).torn)) (ds := [9]) #[false, false, false, false, false, false, false, false, false, false] (by kernel_rfl) rfl rfl ⟨z5, z6⟩ (fun hHeld => ?_)
  refine pure_ (i := 0) (N := some 17) (v := ?_) (a' := ?_) #[true, false, false, false, false, false, false, false, false, false] rfl rfl (by kernel_rfl) (fun _ _ _ h => h) (Or.inl ⟨by rfl, ?_⟩) ?_ ?_
  rotate_left
  · intro w'
    go_simp
    with_reducible rfl
  rotate_left
  · simp only [Act.put, List.setIfInBounds_toArray, List.set_cons_zero, List.set_cons_succ, i64_w, i32_w]
    rfl
  refine pure_ (i := 1) (N := some 18) (v := ?_) (a' := ?_) #[true, true, false, false, false, false, false, false, false, false] rfl rfl (by kernel_rfl) (fun _ _ _ h => h) (Or.inl ⟨by rfl, ?_⟩) ?_ ?_
  rotate_left
  · intro w'
    go_simp
    with_reducible rfl
  rotate_left
  · simp only [Act.put, List.setIfInBounds_toArray, List.set_cons_zero, List.set_cons_succ, i64_w, i32_w]
    rfl
  refine pure_ (i := 2) (N := some 19) (v := ?_) (a' := ?_) #[true, true, true, false, false, false, false, false, false, false] rfl rfl (by kernel_rfl) (fun _ _ _ h => h) (Or.inl ⟨by rfl, ?_⟩) ?_ ?_
  rotate_left
  · intro w'
    go_simp
    with_reducible rfl
  rotate_left
  · simp only [Act.put, List.setIfInBounds_toArray, List.set_cons_zero, List.set_cons_succ, i64_w, i32_w]
    rfl
  refine pure_ (i := 3) (N := some 20) (v := ?_) (a' := ?_) #[true, true, true, true, false, false, false, false, false, false] rfl rfl (by kernel_rfl) (fun _ _ _ h => h) (Or.inl ⟨by rfl, ?_⟩) ?_ ?_
  rotate_left
  · intro w'
    go_simp
    with_reducible rfl
  rotate_left
  · simp only [Act.put, List.setIfInBounds_toArray, List.set_cons_zero, List.set_cons_succ, i64_w, i32_w]
    rfl
  refine take_ (i := 4) (N := some 21) (v := ?_) (a' := ?_) #[true, true, true, true, true, false, false, false, false, false] rfl rfl (by kernel_rfl) (fun _ _ _ h => h) (Or.inl ⟨by rfl, ?_⟩) hHeld ?_ ?_
  rotate_left
  · intro w' s0
    obtain ⟨y0, y1⟩ := s0
    go_simp
    with_reducible rfl
  rotate_left
  · simp only [Act.put, List.setIfInBounds_toArray, List.set_cons_zero, List.set_cons_succ, i64_w, i32_w]
    rfl
  refine pure_ (i := 5) (N := some 22) (v := ?_) (a' := ?_) #[true, true, true, true, true, true, false, false, false, false] rfl rfl (by kernel_rfl) (fun _ _ _ h => h) (Or.inl ⟨by rfl, ?_⟩) ?_ ?_
  rotate_left
  · intro w'
    go_simp
    with_reducible rfl
  rotate_left
  · simp only [Act.put, List.setIfInBounds_toArray, List.set_cons_zero, List.set_cons_succ, i64_w, i32_w]
    rfl
  refine pure_ (i := 6) (N := some 23) (v := ?_) (a' := ?_) #[true, true, true, true, true, true, true, false, false, false] rfl rfl (by kernel_rfl) (fun _ _ _ h => h) (Or.inl ⟨by rfl, ?_⟩) ?_ ?_
  rotate_left
  · intro w'
    go_simp
    with_reducible rfl
  rotate_left
  · simp only [Act.put, List.setIfInBounds_toArray, List.set_cons_zero, List.set_cons_succ, i64_w, i32_w]
    rfl
  refine pure_ (i := 7) (N := some 24) (v := ?_) (a' := ?_) #[true, true, true, true, true, true, true, true, false, false] rfl rfl (by kernel_rfl) (fun _ _ _ h => h) (Or.inl ⟨by rfl, ?_⟩) ?_ ?_
  rotate_left
  · intro w'
    go_simp
    with_reducible rfl
  rotate_left
  · simp only [Act.put, List.setIfInBounds_toArray, List.set_cons_zero, List.set_cons_succ, i64_w, i32_w]
    rfl
  refine take_ (i := 8) (N := some 25) (v := ?_) (a' := ?_) #[true, true, true, true, true, true, true, true, true, false] rfl rfl (by kernel_rfl) (fun _ _ _ h => h) (Or.inl ⟨by rfl, ?_⟩) hHeld ?_ ?_
  rotate_left
  · intro w' s0
    obtain ⟨y0, y1⟩ := s0
    go_simp
    with_reducible rfl
  rotate_left
  · simp only [Act.put, List.setIfInBounds_toArray, List.set_cons_zero, List.set_cons_succ, i64_w, i32_w]
    rfl
  refine last_ (i := 9) (N := some 26) #[true, true, true, true, true, true, true, true, true, true] rfl rfl (by kernel_rfl) (by decide) (fun K hK => ?_)
  refine goes_ Try.func29 (by kernel_rfl) rfl #[.pointer (some ⟨g, 0, none⟩), .int .i64 (done d.act).keep, .bool (done d.act).torn] (by rfl) rfl rfl (by (try simp only [List.map_toArray, List.map_cons, List.map_nil]); first | done | rfl) ?_
  refine (Off_Q (HD5.out.below (below_drew1 (Below.refl _ _))) HFit.out (done d.act).keep (done d.act).torn).mono ?_
  rintro e wo ⟨rfl, hDo, hOo⟩
  refine ⟨_, rfl, ?_⟩
  have HDo := Aside0.mk hDo
  have HOo := Aside0.mk hOo
  clear hDo hOo
  refine hK.out _ _ ?_
  clear hK K
  refine done_ (by kernel_rfl) ?_
  go_wp2
  go_ret
  obtain ⟨e1, e2⟩ := off_end HO4.out HO5.out HDo.out HOo.out
  exact ⟨rfl, e1, e2⟩
set_option maxHeartbeats 4000000 in
set_option maxRecDepth 100000 in
theorem fallR_c (h : DevW S w g d mb n D bl vl) (hok : d.Ok) (caps : Array Value) (done : DS → DS) (hcall : ∀ W, DevW S W g d.act mb n D bl vl → Only S w W → Calls Try.prog 72 caps W fun e w' => e = .returned (.tuple #[]) ∧ DevAt (Grow S W) w' g (done d.act) ∧ Only S W w') (hfit : (done d.act).Fit) (hkeep : (done d.act).keep = d.keep) (htorn : (done d.act).torn = d.torn) (hgo : d.goes = true) (hk : ¬ 0 < d.keep) :
    Calls Try.prog 56 #[.pointer (some ⟨g, 0, none⟩), .func (.func 72) #[] caps] w fun e w' => e = .returned (.int .i64 7) ∧ DevAt (Grow S w) w' g (d.act.ends) ∧ Only S w w' := by
  have HW := Aside0.mk h
  have HOk := Aside0.mk hok
  have HGo := Aside0.mk hgo
  have HC := Aside0.mk hcall
  have HFit := Aside0.mk hfit
  have HKeep := Aside0.mk hkeep
  have HTorn := Aside0.mk htorn
  clear h hok hgo hcall hfit hkeep htorn
  obtain ⟨kp, hkp⟩ : ∃ kp, kp = d.keep := ⟨_, rfl⟩
  rw [← hkp] at hk
  have HKp := Aside0.mk hkp
  clear hkp
  go_enter Try.func56, Try.ntmps56
  go_wp2_with (first
    | (go_at_call 69; refine (act_Q HW.out HOk.out).mono ?_; rintro e w4 ⟨rfl, h4, ho4⟩; rw [HGo.out]; have z5 := h4.cell 5; change w4.cell? ⟨g, 5, none⟩ = some (.int .i64 d.keep) at z5; rw [← HKp.out] at z5; have H4 := Aside0.mk h4; have HO4 := Aside0.mk ho4; clear h4 ho4)
    | (go_at_call 72; refine (HC.out _ H4.out HO4.out).mono ?_; rintro e w5 ⟨rfl, h5, ho5⟩; have H5 := Aside0.mk h5; have HO5 := Aside0.mk ho5; clear h5 ho5))
  have z6 := H4.out.cell 6
  change w4.cell? ⟨g, 6, none⟩ = some (.bool d.torn) at z6
  refine start_ (n := 10) (S := fun w' => w'.cell? ⟨g, 5, none⟩ = some (.int .i64 kp) ∧ w'.cell? ⟨g, 6, none⟩ = some (.bool d.torn)) (ds := [9]) #[false, false, false, false, false, false, false, false, false, false] (by kernel_rfl) rfl rfl ⟨z5, z6⟩ (fun hHeld => ?_)
  refine pure_ (i := 0) (N := some 17) (v := ?_) (a' := ?_) #[true, false, false, false, false, false, false, false, false, false] rfl rfl (by kernel_rfl) (fun _ _ _ h => h) (Or.inl ⟨by rfl, ?_⟩) ?_ ?_
  rotate_left
  · intro w'
    go_simp
    with_reducible rfl
  rotate_left
  · simp only [Act.put, List.setIfInBounds_toArray, List.set_cons_zero, List.set_cons_succ, i64_w, i32_w]
    rfl
  refine pure_ (i := 1) (N := some 18) (v := ?_) (a' := ?_) #[true, true, false, false, false, false, false, false, false, false] rfl rfl (by kernel_rfl) (fun _ _ _ h => h) (Or.inl ⟨by rfl, ?_⟩) ?_ ?_
  rotate_left
  · intro w'
    go_simp
    with_reducible rfl
  rotate_left
  · simp only [Act.put, List.setIfInBounds_toArray, List.set_cons_zero, List.set_cons_succ, i64_w, i32_w]
    rfl
  refine pure_ (i := 2) (N := some 19) (v := ?_) (a' := ?_) #[true, true, true, false, false, false, false, false, false, false] rfl rfl (by kernel_rfl) (fun _ _ _ h => h) (Or.inl ⟨by rfl, ?_⟩) ?_ ?_
  rotate_left
  · intro w'
    go_simp
    with_reducible rfl
  rotate_left
  · simp only [Act.put, List.setIfInBounds_toArray, List.set_cons_zero, List.set_cons_succ, i64_w, i32_w]
    rfl
  refine pure_ (i := 3) (N := some 20) (v := ?_) (a' := ?_) #[true, true, true, true, false, false, false, false, false, false] rfl rfl (by kernel_rfl) (fun _ _ _ h => h) (Or.inl ⟨by rfl, ?_⟩) ?_ ?_
  rotate_left
  · intro w'
    go_simp
    with_reducible rfl
  rotate_left
  · simp only [Act.put, List.setIfInBounds_toArray, List.set_cons_zero, List.set_cons_succ, i64_w, i32_w]
    rfl
  refine take_ (i := 4) (N := some 21) (v := ?_) (a' := ?_) #[true, true, true, true, true, false, false, false, false, false] rfl rfl (by kernel_rfl) (fun _ _ _ h => h) (Or.inl ⟨by rfl, ?_⟩) hHeld ?_ ?_
  rotate_left
  · intro w' s0
    obtain ⟨y0, y1⟩ := s0
    go_simp
    with_reducible rfl
  rotate_left
  · simp only [Act.put, List.setIfInBounds_toArray, List.set_cons_zero, List.set_cons_succ, i64_w, i32_w]
    rfl
  refine pure_ (i := 5) (N := some 22) (v := ?_) (a' := ?_) #[true, true, true, true, true, true, false, false, false, false] rfl rfl (by kernel_rfl) (fun _ _ _ h => h) (Or.inl ⟨by rfl, ?_⟩) ?_ ?_
  rotate_left
  · intro w'
    go_simp
    with_reducible rfl
  rotate_left
  · simp only [Act.put, List.setIfInBounds_toArray, List.set_cons_zero, List.set_cons_succ, i64_w, i32_w]
    rfl
  refine pure_ (i := 6) (N := some 23) (v := ?_) (a' := ?_) #[true, true, true, true, true, true, true, false, false, false] rfl rfl (by kernel_rfl) (fun _ _ _ h => h) (Or.inl ⟨by rfl, ?_⟩) ?_ ?_
  rotate_left
  · intro w'
    go_simp
    with_reducible rfl
  rotate_left
  · simp only [Act.put, List.setIfInBounds_toArray, List.set_cons_zero, List.set_cons_succ, i64_w, i32_w]
    rfl
  refine pure_ (i := 7) (N := some 24) (v := ?_) (a' := ?_) #[true, true, true, true, true, true, true, true, false, false] rfl rfl (by kernel_rfl) (fun _ _ _ h => h) (Or.inl ⟨by rfl, ?_⟩) ?_ ?_
  rotate_left
  · intro w'
    go_simp
    with_reducible rfl
  rotate_left
  · simp only [Act.put, List.setIfInBounds_toArray, List.set_cons_zero, List.set_cons_succ, i64_w, i32_w]
    rfl
  refine take_ (i := 8) (N := some 25) (v := ?_) (a' := ?_) #[true, true, true, true, true, true, true, true, true, false] rfl rfl (by kernel_rfl) (fun _ _ _ h => h) (Or.inl ⟨by rfl, ?_⟩) hHeld ?_ ?_
  rotate_left
  · intro w' s0
    obtain ⟨y0, y1⟩ := s0
    go_simp
    with_reducible rfl
  rotate_left
  · simp only [Act.put, List.setIfInBounds_toArray, List.set_cons_zero, List.set_cons_succ, i64_w, i32_w]
    rfl
  refine last_ (i := 9) (N := some 26) #[true, true, true, true, true, true, true, true, true, true] rfl rfl (by kernel_rfl) (by decide) (fun K hK => ?_)
  refine goes_ Try.func29 (by kernel_rfl) rfl #[.pointer (some ⟨g, 0, none⟩), .int .i64 kp, .bool d.torn] (by rfl) rfl rfl (by (try simp only [List.map_toArray, List.map_cons, List.map_nil]); first | done | rfl) ?_
  refine (Off_Q (H4.out.below (below_drew1 (Below.refl _ _))) HOk.out.toFit.act kp d.torn).mono ?_
  rintro e wo ⟨rfl, hDo, hOo⟩
  refine ⟨_, rfl, ?_⟩
  have HDo := Aside0.mk hDo
  have HOo := Aside0.mk hOo
  clear hDo hOo
  refine hK.out _ _ ?_
  clear hK K
  refine done_ (by kernel_rfl) ?_
  go_wp2
  go_ret
  obtain ⟨e1, e2⟩ := off_end (Only.refl S w) HO4.out (HDo.out.mono (fun k hk => hk.imp .inl id)) (HOo.out.mono (fun k hk => .inl hk))
  refine ⟨rfl, ?_, e2⟩
  rw [show d.act.ends = d.act.off kp d.torn from by rw [HKp.out]; rfl]
  exact e1
theorem fallR_Q (h : DevW S w g d mb n D bl vl) (hok : d.Ok) (caps : Array Value) (done : DS → DS) (hcall : ∀ W, DevW S W g d.act mb n D bl vl → Only S w W → Calls Try.prog 72 caps W fun e w' => e = .returned (.tuple #[]) ∧ DevAt (Grow S W) w' g (done d.act) ∧ Only S W w') (hfit : (done d.act).Fit) (hkeep : (done d.act).keep = d.keep) (htorn : (done d.act).torn = d.torn) :
    Calls Try.prog 56 #[.pointer (some ⟨g, 0, none⟩), .func (.func 72) #[] caps] w fun e w' => e = .returned (.int .i64 (d.fall done).1) ∧ DevAt (Grow S w) w' g (d.fall done).2 ∧ Only S w w' := by
  unfold DS.fall
  cases hgo : d.goes with
  | false => rw [if_neg (by simp)]; exact fallR_a h hok caps done hcall hfit hkeep htorn hgo
  | true =>
    rw [if_pos rfl]
    by_cases hk : 0 < d.keep
    · rw [if_pos hk]
      exact fallR_b h hok caps done hcall hfit hkeep htorn hgo hk
    · rw [if_neg hk]
      exact fallR_c h hok caps done hcall hfit hkeep htorn hgo hk
set_option maxHeartbeats 4000000 in
set_option maxRecDepth 100000 in
theorem fallC_a (h : DevW S w g d mb n D bl vl) (hok : d.Ok) (caps : Array Value) (done : DS → DS) (hcall : ∀ W, DevW S W g d.act mb n D bl vl → Only S w W → Calls Try.prog 60 caps W fun e w' => e = .returned (.tuple #[]) ∧ DevAt (Grow S W) w' g (done d.act) ∧ Only S W w') (hfit : (done d.act).Fit) (hkeep : (done d.act).keep = d.keep) (htorn : (done d.act).torn = d.torn) (hgo : d.goes = false) :
    Calls Try.prog 56 #[.pointer (some ⟨g, 0, none⟩), .func (.func 60) #[] caps] w fun e w' => e = .returned (.int .i64 0) ∧ DevAt (Grow S w) w' g ((done d.act)) ∧ Only S w w' := by
  have HW := Aside0.mk h
  have HOk := Aside0.mk hok
  have HGo := Aside0.mk hgo
  have HC := Aside0.mk hcall
  have HFit := Aside0.mk hfit
  have HKeep := Aside0.mk hkeep
  have HTorn := Aside0.mk htorn
  clear h hok hgo hcall hfit hkeep htorn
  go_enter Try.func56, Try.ntmps56
  go_wp2_with (first
    | (go_at_call 69; refine (act_Q HW.out HOk.out).mono ?_; rintro e w4 ⟨rfl, h4, ho4⟩; rw [HGo.out]; have H4 := Aside0.mk h4; have HO4 := Aside0.mk ho4; clear h4 ho4)
    | (go_at_call 60; refine (HC.out _ H4.out HO4.out).mono ?_; rintro e w5 ⟨rfl, h5, ho5⟩; have H5 := Aside0.mk h5; have HO5 := Aside0.mk ho5; clear h5 ho5))
  go_ret
  exact ⟨rfl, H5.out.mono (fun k hk => hk.imp id (fun h => Nat.le_trans HO4.out.size h)), HO4.out.trans HO5.out⟩
set_option maxHeartbeats 4000000 in
set_option maxRecDepth 100000 in
theorem fallC_b (h : DevW S w g d mb n D bl vl) (hok : d.Ok) (caps : Array Value) (done : DS → DS) (hcall : ∀ W, DevW S W g d.act mb n D bl vl → Only S w W → Calls Try.prog 60 caps W fun e w' => e = .returned (.tuple #[]) ∧ DevAt (Grow S W) w' g (done d.act) ∧ Only S W w') (hfit : (done d.act).Fit) (hkeep : (done d.act).keep = d.keep) (htorn : (done d.act).torn = d.torn) (hgo : d.goes = true) (hk : 0 < d.keep) :
    Calls Try.prog 56 #[.pointer (some ⟨g, 0, none⟩), .func (.func 60) #[] caps] w fun e w' => e = .returned (.int .i64 7) ∧ DevAt (Grow S w) w' g ((done d.act).ends) ∧ Only S w w' := by
  have HW := Aside0.mk h
  have HOk := Aside0.mk hok
  have HGo := Aside0.mk hgo
  have HC := Aside0.mk hcall
  have HFit := Aside0.mk hfit
  have HKeep := Aside0.mk hkeep
  have HTorn := Aside0.mk htorn
  clear h hok hgo hcall hfit hkeep htorn
  obtain ⟨kp, hkp⟩ : ∃ kp, kp = d.keep := ⟨_, rfl⟩
  rw [← hkp] at hk
  have HKp := Aside0.mk hkp
  clear hkp
  go_enter Try.func56, Try.ntmps56
  go_wp2_with (first
    | (go_at_call 69; refine (act_Q HW.out HOk.out).mono ?_; rintro e w4 ⟨rfl, h4, ho4⟩; rw [HGo.out]; have z5 := h4.cell 5; change w4.cell? ⟨g, 5, none⟩ = some (.int .i64 d.keep) at z5; rw [← HKp.out] at z5; have H4 := Aside0.mk h4; have HO4 := Aside0.mk ho4; clear h4 ho4)
    | (go_at_call 60; refine (HC.out _ H4.out HO4.out).mono ?_; rintro e w5 ⟨rfl, h5, ho5⟩; have H5 := Aside0.mk h5; have HO5 := Aside0.mk ho5; clear h5 ho5))
  obtain ⟨mb5, n5, D5, bl5, vl5, hd5⟩ := H5.out
  clear z5
  have z5 := hd5.cell 5
  have z6 := hd5.cell 6
  change w5.cell? ⟨g, 5, none⟩ = some (.int .i64 (done d.act).keep) at z5
  change w5.cell? ⟨g, 6, none⟩ = some (.bool (done d.act).torn) at z6
  have HD5 := Aside0.mk hd5
  clear hd5
  refine start_ (n := 10) (S := fun w' => w'.cell? ⟨g, 5, none⟩ = some (.int .i64 (done d.act).keep) ∧ w'.cell? ⟨g, 6, none⟩ = some (.bool (done d.act).torn)) (ds := [9]) #[false, false, false, false, false, false, false, false, false, false] (by kernel_rfl) rfl rfl ⟨z5, z6⟩ (fun hHeld => ?_)
  refine pure_ (i := 0) (N := some 17) (v := ?_) (a' := ?_) #[true, false, false, false, false, false, false, false, false, false] rfl rfl (by kernel_rfl) (fun _ _ _ h => h) (Or.inl ⟨by rfl, ?_⟩) ?_ ?_
  rotate_left
  · intro w'
    go_simp
    with_reducible rfl
  rotate_left
  · simp only [Act.put, List.setIfInBounds_toArray, List.set_cons_zero, List.set_cons_succ, i64_w, i32_w]
    rfl
  refine pure_ (i := 1) (N := some 18) (v := ?_) (a' := ?_) #[true, true, false, false, false, false, false, false, false, false] rfl rfl (by kernel_rfl) (fun _ _ _ h => h) (Or.inl ⟨by rfl, ?_⟩) ?_ ?_
  rotate_left
  · intro w'
    go_simp
    with_reducible rfl
  rotate_left
  · simp only [Act.put, List.setIfInBounds_toArray, List.set_cons_zero, List.set_cons_succ, i64_w, i32_w]
    rfl
  refine pure_ (i := 2) (N := some 19) (v := ?_) (a' := ?_) #[true, true, true, false, false, false, false, false, false, false] rfl rfl (by kernel_rfl) (fun _ _ _ h => h) (Or.inl ⟨by rfl, ?_⟩) ?_ ?_
  rotate_left
  · intro w'
    go_simp
    with_reducible rfl
  rotate_left
  · simp only [Act.put, List.setIfInBounds_toArray, List.set_cons_zero, List.set_cons_succ, i64_w, i32_w]
    rfl
  refine pure_ (i := 3) (N := some 20) (v := ?_) (a' := ?_) #[true, true, true, true, false, false, false, false, false, false] rfl rfl (by kernel_rfl) (fun _ _ _ h => h) (Or.inl ⟨by rfl, ?_⟩) ?_ ?_
  rotate_left
  · intro w'
    go_simp
    with_reducible rfl
  rotate_left
  · simp only [Act.put, List.setIfInBounds_toArray, List.set_cons_zero, List.set_cons_succ, i64_w, i32_w]
    rfl
  refine take_ (i := 4) (N := some 21) (v := ?_) (a' := ?_) #[true, true, true, true, true, false, false, false, false, false] rfl rfl (by kernel_rfl) (fun _ _ _ h => h) (Or.inl ⟨by rfl, ?_⟩) hHeld ?_ ?_
  rotate_left
  · intro w' s0
    obtain ⟨y0, y1⟩ := s0
    go_simp
    with_reducible rfl
  rotate_left
  · simp only [Act.put, List.setIfInBounds_toArray, List.set_cons_zero, List.set_cons_succ, i64_w, i32_w]
    rfl
  refine pure_ (i := 5) (N := some 22) (v := ?_) (a' := ?_) #[true, true, true, true, true, true, false, false, false, false] rfl rfl (by kernel_rfl) (fun _ _ _ h => h) (Or.inl ⟨by rfl, ?_⟩) ?_ ?_
  rotate_left
  · intro w'
    go_simp
    with_reducible rfl
  rotate_left
  · simp only [Act.put, List.setIfInBounds_toArray, List.set_cons_zero, List.set_cons_succ, i64_w, i32_w]
    rfl
  refine pure_ (i := 6) (N := some 23) (v := ?_) (a' := ?_) #[true, true, true, true, true, true, true, false, false, false] rfl rfl (by kernel_rfl) (fun _ _ _ h => h) (Or.inl ⟨by rfl, ?_⟩) ?_ ?_
  rotate_left
  · intro w'
    go_simp
    with_reducible rfl
  rotate_left
  · simp only [Act.put, List.setIfInBounds_toArray, List.set_cons_zero, List.set_cons_succ, i64_w, i32_w]
    rfl
  refine pure_ (i := 7) (N := some 24) (v := ?_) (a' := ?_) #[true, true, true, true, true, true, true, true, false, false] rfl rfl (by kernel_rfl) (fun _ _ _ h => h) (Or.inl ⟨by rfl, ?_⟩) ?_ ?_
  rotate_left
  · intro w'
    go_simp
    with_reducible rfl
  rotate_left
  · simp only [Act.put, List.setIfInBounds_toArray, List.set_cons_zero, List.set_cons_succ, i64_w, i32_w]
    rfl
  refine take_ (i := 8) (N := some 25) (v := ?_) (a' := ?_) #[true, true, true, true, true, true, true, true, true, false] rfl rfl (by kernel_rfl) (fun _ _ _ h => h) (Or.inl ⟨by rfl, ?_⟩) hHeld ?_ ?_
  rotate_left
  · intro w' s0
    obtain ⟨y0, y1⟩ := s0
    go_simp
    with_reducible rfl
  rotate_left
  · simp only [Act.put, List.setIfInBounds_toArray, List.set_cons_zero, List.set_cons_succ, i64_w, i32_w]
    rfl
  refine last_ (i := 9) (N := some 26) #[true, true, true, true, true, true, true, true, true, true] rfl rfl (by kernel_rfl) (by decide) (fun K hK => ?_)
  refine goes_ Try.func29 (by kernel_rfl) rfl #[.pointer (some ⟨g, 0, none⟩), .int .i64 (done d.act).keep, .bool (done d.act).torn] (by rfl) rfl rfl (by (try simp only [List.map_toArray, List.map_cons, List.map_nil]); first | done | rfl) ?_
  refine (Off_Q (HD5.out.below (below_drew1 (Below.refl _ _))) HFit.out (done d.act).keep (done d.act).torn).mono ?_
  rintro e wo ⟨rfl, hDo, hOo⟩
  refine ⟨_, rfl, ?_⟩
  have HDo := Aside0.mk hDo
  have HOo := Aside0.mk hOo
  clear hDo hOo
  refine hK.out _ _ ?_
  clear hK K
  refine done_ (by kernel_rfl) ?_
  go_wp2
  go_ret
  obtain ⟨e1, e2⟩ := off_end HO4.out HO5.out HDo.out HOo.out
  exact ⟨rfl, e1, e2⟩
set_option maxHeartbeats 4000000 in
set_option maxRecDepth 100000 in
theorem fallC_c (h : DevW S w g d mb n D bl vl) (hok : d.Ok) (caps : Array Value) (done : DS → DS) (hcall : ∀ W, DevW S W g d.act mb n D bl vl → Only S w W → Calls Try.prog 60 caps W fun e w' => e = .returned (.tuple #[]) ∧ DevAt (Grow S W) w' g (done d.act) ∧ Only S W w') (hfit : (done d.act).Fit) (hkeep : (done d.act).keep = d.keep) (htorn : (done d.act).torn = d.torn) (hgo : d.goes = true) (hk : ¬ 0 < d.keep) :
    Calls Try.prog 56 #[.pointer (some ⟨g, 0, none⟩), .func (.func 60) #[] caps] w fun e w' => e = .returned (.int .i64 7) ∧ DevAt (Grow S w) w' g (d.act.ends) ∧ Only S w w' := by
  have HW := Aside0.mk h
  have HOk := Aside0.mk hok
  have HGo := Aside0.mk hgo
  have HC := Aside0.mk hcall
  have HFit := Aside0.mk hfit
  have HKeep := Aside0.mk hkeep
  have HTorn := Aside0.mk htorn
  clear h hok hgo hcall hfit hkeep htorn
  obtain ⟨kp, hkp⟩ : ∃ kp, kp = d.keep := ⟨_, rfl⟩
  rw [← hkp] at hk
  have HKp := Aside0.mk hkp
  clear hkp
  go_enter Try.func56, Try.ntmps56
  go_wp2_with (first
    | (go_at_call 69; refine (act_Q HW.out HOk.out).mono ?_; rintro e w4 ⟨rfl, h4, ho4⟩; rw [HGo.out]; have z5 := h4.cell 5; change w4.cell? ⟨g, 5, none⟩ = some (.int .i64 d.keep) at z5; rw [← HKp.out] at z5; have H4 := Aside0.mk h4; have HO4 := Aside0.mk ho4; clear h4 ho4)
    | (go_at_call 60; refine (HC.out _ H4.out HO4.out).mono ?_; rintro e w5 ⟨rfl, h5, ho5⟩; have H5 := Aside0.mk h5; have HO5 := Aside0.mk ho5; clear h5 ho5))
  have z6 := H4.out.cell 6
  change w4.cell? ⟨g, 6, none⟩ = some (.bool d.torn) at z6
  refine start_ (n := 10) (S := fun w' => w'.cell? ⟨g, 5, none⟩ = some (.int .i64 kp) ∧ w'.cell? ⟨g, 6, none⟩ = some (.bool d.torn)) (ds := [9]) #[false, false, false, false, false, false, false, false, false, false] (by kernel_rfl) rfl rfl ⟨z5, z6⟩ (fun hHeld => ?_)
  refine pure_ (i := 0) (N := some 17) (v := ?_) (a' := ?_) #[true, false, false, false, false, false, false, false, false, false] rfl rfl (by kernel_rfl) (fun _ _ _ h => h) (Or.inl ⟨by rfl, ?_⟩) ?_ ?_
  rotate_left
  · intro w'
    go_simp
    with_reducible rfl
  rotate_left
  · simp only [Act.put, List.setIfInBounds_toArray, List.set_cons_zero, List.set_cons_succ, i64_w, i32_w]
    rfl
  refine pure_ (i := 1) (N := some 18) (v := ?_) (a' := ?_) #[true, true, false, false, false, false, false, false, false, false] rfl rfl (by kernel_rfl) (fun _ _ _ h => h) (Or.inl ⟨by rfl, ?_⟩) ?_ ?_
  rotate_left
  · intro w'
    go_simp
    with_reducible rfl
  rotate_left
  · simp only [Act.put, List.setIfInBounds_toArray, List.set_cons_zero, List.set_cons_succ, i64_w, i32_w]
    rfl
  refine pure_ (i := 2) (N := some 19) (v := ?_) (a' := ?_) #[true, true, true, false, false, false, false, false, false, false] rfl rfl (by kernel_rfl) (fun _ _ _ h => h) (Or.inl ⟨by rfl, ?_⟩) ?_ ?_
  rotate_left
  · intro w'
    go_simp
    with_reducible rfl
  rotate_left
  · simp only [Act.put, List.setIfInBounds_toArray, List.set_cons_zero, List.set_cons_succ, i64_w, i32_w]
    rfl
  refine pure_ (i := 3) (N := some 20) (v := ?_) (a' := ?_) #[true, true, true, true, false, false, false, false, false, false] rfl rfl (by kernel_rfl) (fun _ _ _ h => h) (Or.inl ⟨by rfl, ?_⟩) ?_ ?_
  rotate_left
  · intro w'
    go_simp
    with_reducible rfl
  rotate_left
  · simp only [Act.put, List.setIfInBounds_toArray, List.set_cons_zero, List.set_cons_succ, i64_w, i32_w]
    rfl
  refine take_ (i := 4) (N := some 21) (v := ?_) (a' := ?_) #[true, true, true, true, true, false, false, false, false, false] rfl rfl (by kernel_rfl) (fun _ _ _ h => h) (Or.inl ⟨by rfl, ?_⟩) hHeld ?_ ?_
  rotate_left
  · intro w' s0
    obtain ⟨y0, y1⟩ := s0
    go_simp
    with_reducible rfl
  rotate_left
  · simp only [Act.put, List.setIfInBounds_toArray, List.set_cons_zero, List.set_cons_succ, i64_w, i32_w]
    rfl
  refine pure_ (i := 5) (N := some 22) (v := ?_) (a' := ?_) #[true, true, true, true, true, true, false, false, false, false] rfl rfl (by kernel_rfl) (fun _ _ _ h => h) (Or.inl ⟨by rfl, ?_⟩) ?_ ?_
  rotate_left
  · intro w'
    go_simp
    with_reducible rfl
  rotate_left
  · simp only [Act.put, List.setIfInBounds_toArray, List.set_cons_zero, List.set_cons_succ, i64_w, i32_w]
    rfl
  refine pure_ (i := 6) (N := some 23) (v := ?_) (a' := ?_) #[true, true, true, true, true, true, true, false, false, false] rfl rfl (by kernel_rfl) (fun _ _ _ h => h) (Or.inl ⟨by rfl, ?_⟩) ?_ ?_
  rotate_left
  · intro w'
    go_simp
    with_reducible rfl
  rotate_left
  · simp only [Act.put, List.setIfInBounds_toArray, List.set_cons_zero, List.set_cons_succ, i64_w, i32_w]
    rfl
  refine pure_ (i := 7) (N := some 24) (v := ?_) (a' := ?_) #[true, true, true, true, true, true, true, true, false, false] rfl rfl (by kernel_rfl) (fun _ _ _ h => h) (Or.inl ⟨by rfl, ?_⟩) ?_ ?_
  rotate_left
  · intro w'
    go_simp
    with_reducible rfl
  rotate_left
  · simp only [Act.put, List.setIfInBounds_toArray, List.set_cons_zero, List.set_cons_succ, i64_w, i32_w]
    rfl
  refine take_ (i := 8) (N := some 25) (v := ?_) (a' := ?_) #[true, true, true, true, true, true, true, true, true, false] rfl rfl (by kernel_rfl) (fun _ _ _ h => h) (Or.inl ⟨by rfl, ?_⟩) hHeld ?_ ?_
  rotate_left
  · intro w' s0
    obtain ⟨y0, y1⟩ := s0
    go_simp
    with_reducible rfl
  rotate_left
  · simp only [Act.put, List.setIfInBounds_toArray, List.set_cons_zero, List.set_cons_succ, i64_w, i32_w]
    rfl
  refine last_ (i := 9) (N := some 26) #[true, true, true, true, true, true, true, true, true, true] rfl rfl (by kernel_rfl) (by decide) (fun K hK => ?_)
  refine goes_ Try.func29 (by kernel_rfl) rfl #[.pointer (some ⟨g, 0, none⟩), .int .i64 kp, .bool d.torn] (by rfl) rfl rfl (by (try simp only [List.map_toArray, List.map_cons, List.map_nil]); first | done | rfl) ?_
  refine (Off_Q (H4.out.below (below_drew1 (Below.refl _ _))) HOk.out.toFit.act kp d.torn).mono ?_
  rintro e wo ⟨rfl, hDo, hOo⟩
  refine ⟨_, rfl, ?_⟩
  have HDo := Aside0.mk hDo
  have HOo := Aside0.mk hOo
  clear hDo hOo
  refine hK.out _ _ ?_
  clear hK K
  refine done_ (by kernel_rfl) ?_
  go_wp2
  go_ret
  obtain ⟨e1, e2⟩ := off_end (Only.refl S w) HO4.out (HDo.out.mono (fun k hk => hk.imp .inl id)) (HOo.out.mono (fun k hk => .inl hk))
  refine ⟨rfl, ?_, e2⟩
  rw [show d.act.ends = d.act.off kp d.torn from by rw [HKp.out]; rfl]
  exact e1
theorem fallC_Q (h : DevW S w g d mb n D bl vl) (hok : d.Ok) (caps : Array Value) (done : DS → DS) (hcall : ∀ W, DevW S W g d.act mb n D bl vl → Only S w W → Calls Try.prog 60 caps W fun e w' => e = .returned (.tuple #[]) ∧ DevAt (Grow S W) w' g (done d.act) ∧ Only S W w') (hfit : (done d.act).Fit) (hkeep : (done d.act).keep = d.keep) (htorn : (done d.act).torn = d.torn) :
    Calls Try.prog 56 #[.pointer (some ⟨g, 0, none⟩), .func (.func 60) #[] caps] w fun e w' => e = .returned (.int .i64 (d.fall done).1) ∧ DevAt (Grow S w) w' g (d.fall done).2 ∧ Only S w w' := by
  unfold DS.fall
  cases hgo : d.goes with
  | false => rw [if_neg (by simp)]; exact fallC_a h hok caps done hcall hfit hkeep htorn hgo
  | true =>
    rw [if_pos rfl]
    by_cases hk : 0 < d.keep
    · rw [if_pos hk]
      exact fallC_b h hok caps done hcall hfit hkeep htorn hgo hk
    · rw [if_neg hk]
      exact fallC_c h hok caps done hcall hfit hkeep htorn hgo hk
set_option maxHeartbeats 4000000 in
set_option maxRecDepth 100000 in
theorem fallD_a (h : DevW S w g d mb n D bl vl) (hok : d.Ok) (caps : Array Value) (done : DS → DS) (hcall : ∀ W, DevW S W g d.act mb n D bl vl → Only S w W → Calls Try.prog 57 caps W fun e w' => e = .returned (.tuple #[]) ∧ DevAt (Grow S W) w' g (done d.act) ∧ Only S W w') (hfit : (done d.act).Fit) (hkeep : (done d.act).keep = d.keep) (htorn : (done d.act).torn = d.torn) (hgo : d.goes = false) :
    Calls Try.prog 56 #[.pointer (some ⟨g, 0, none⟩), .func (.func 57) #[] caps] w fun e w' => e = .returned (.int .i64 0) ∧ DevAt (Grow S w) w' g ((done d.act)) ∧ Only S w w' := by
  have HW := Aside0.mk h
  have HOk := Aside0.mk hok
  have HGo := Aside0.mk hgo
  have HC := Aside0.mk hcall
  have HFit := Aside0.mk hfit
  have HKeep := Aside0.mk hkeep
  have HTorn := Aside0.mk htorn
  clear h hok hgo hcall hfit hkeep htorn
  go_enter Try.func56, Try.ntmps56
  go_wp2_with (first
    | (go_at_call 69; refine (act_Q HW.out HOk.out).mono ?_; rintro e w4 ⟨rfl, h4, ho4⟩; rw [HGo.out]; have H4 := Aside0.mk h4; have HO4 := Aside0.mk ho4; clear h4 ho4)
    | (go_at_call 57; refine (HC.out _ H4.out HO4.out).mono ?_; rintro e w5 ⟨rfl, h5, ho5⟩; have H5 := Aside0.mk h5; have HO5 := Aside0.mk ho5; clear h5 ho5))
  go_ret
  exact ⟨rfl, H5.out.mono (fun k hk => hk.imp id (fun h => Nat.le_trans HO4.out.size h)), HO4.out.trans HO5.out⟩
set_option maxHeartbeats 4000000 in
set_option maxRecDepth 100000 in
theorem fallD_b (h : DevW S w g d mb n D bl vl) (hok : d.Ok) (caps : Array Value) (done : DS → DS) (hcall : ∀ W, DevW S W g d.act mb n D bl vl → Only S w W → Calls Try.prog 57 caps W fun e w' => e = .returned (.tuple #[]) ∧ DevAt (Grow S W) w' g (done d.act) ∧ Only S W w') (hfit : (done d.act).Fit) (hkeep : (done d.act).keep = d.keep) (htorn : (done d.act).torn = d.torn) (hgo : d.goes = true) (hk : 0 < d.keep) :
    Calls Try.prog 56 #[.pointer (some ⟨g, 0, none⟩), .func (.func 57) #[] caps] w fun e w' => e = .returned (.int .i64 7) ∧ DevAt (Grow S w) w' g ((done d.act).ends) ∧ Only S w w' := by
  have HW := Aside0.mk h
  have HOk := Aside0.mk hok
  have HGo := Aside0.mk hgo
  have HC := Aside0.mk hcall
  have HFit := Aside0.mk hfit
  have HKeep := Aside0.mk hkeep
  have HTorn := Aside0.mk htorn
  clear h hok hgo hcall hfit hkeep htorn
  obtain ⟨kp, hkp⟩ : ∃ kp, kp = d.keep := ⟨_, rfl⟩
  rw [← hkp] at hk
  have HKp := Aside0.mk hkp
  clear hkp
  go_enter Try.func56, Try.ntmps56
  go_wp2_with (first
    | (go_at_call 69; refine (act_Q HW.out HOk.out).mono ?_; rintro e w4 ⟨rfl, h4, ho4⟩; rw [HGo.out]; have z5 := h4.cell 5; change w4.cell? ⟨g, 5, none⟩ = some (.int .i64 d.keep) at z5; rw [← HKp.out] at z5; have H4 := Aside0.mk h4; have HO4 := Aside0.mk ho4; clear h4 ho4)
    | (go_at_call 57; refine (HC.out _ H4.out HO4.out).mono ?_; rintro e w5 ⟨rfl, h5, ho5⟩; have H5 := Aside0.mk h5; have HO5 := Aside0.mk ho5; clear h5 ho5))
  obtain ⟨mb5, n5, D5, bl5, vl5, hd5⟩ := H5.out
  clear z5
  have z5 := hd5.cell 5
  have z6 := hd5.cell 6
  change w5.cell? ⟨g, 5, none⟩ = some (.int .i64 (done d.act).keep) at z5
  change w5.cell? ⟨g, 6, none⟩ = some (.bool (done d.act).torn) at z6
  have HD5 := Aside0.mk hd5
  clear hd5
  refine start_ (n := 10) (S := fun w' => w'.cell? ⟨g, 5, none⟩ = some (.int .i64 (done d.act).keep) ∧ w'.cell? ⟨g, 6, none⟩ = some (.bool (done d.act).torn)) (ds := [9]) #[false, false, false, false, false, false, false, false, false, false] (by kernel_rfl) rfl rfl ⟨z5, z6⟩ (fun hHeld => ?_)
  refine pure_ (i := 0) (N := some 17) (v := ?_) (a' := ?_) #[true, false, false, false, false, false, false, false, false, false] rfl rfl (by kernel_rfl) (fun _ _ _ h => h) (Or.inl ⟨by rfl, ?_⟩) ?_ ?_
  rotate_left
  · intro w'
    go_simp
    with_reducible rfl
  rotate_left
  · simp only [Act.put, List.setIfInBounds_toArray, List.set_cons_zero, List.set_cons_succ, i64_w, i32_w]
    rfl
  refine pure_ (i := 1) (N := some 18) (v := ?_) (a' := ?_) #[true, true, false, false, false, false, false, false, false, false] rfl rfl (by kernel_rfl) (fun _ _ _ h => h) (Or.inl ⟨by rfl, ?_⟩) ?_ ?_
  rotate_left
  · intro w'
    go_simp
    with_reducible rfl
  rotate_left
  · simp only [Act.put, List.setIfInBounds_toArray, List.set_cons_zero, List.set_cons_succ, i64_w, i32_w]
    rfl
  refine pure_ (i := 2) (N := some 19) (v := ?_) (a' := ?_) #[true, true, true, false, false, false, false, false, false, false] rfl rfl (by kernel_rfl) (fun _ _ _ h => h) (Or.inl ⟨by rfl, ?_⟩) ?_ ?_
  rotate_left
  · intro w'
    go_simp
    with_reducible rfl
  rotate_left
  · simp only [Act.put, List.setIfInBounds_toArray, List.set_cons_zero, List.set_cons_succ, i64_w, i32_w]
    rfl
  refine pure_ (i := 3) (N := some 20) (v := ?_) (a' := ?_) #[true, true, true, true, false, false, false, false, false, false] rfl rfl (by kernel_rfl) (fun _ _ _ h => h) (Or.inl ⟨by rfl, ?_⟩) ?_ ?_
  rotate_left
  · intro w'
    go_simp
    with_reducible rfl
  rotate_left
  · simp only [Act.put, List.setIfInBounds_toArray, List.set_cons_zero, List.set_cons_succ, i64_w, i32_w]
    rfl
  refine take_ (i := 4) (N := some 21) (v := ?_) (a' := ?_) #[true, true, true, true, true, false, false, false, false, false] rfl rfl (by kernel_rfl) (fun _ _ _ h => h) (Or.inl ⟨by rfl, ?_⟩) hHeld ?_ ?_
  rotate_left
  · intro w' s0
    obtain ⟨y0, y1⟩ := s0
    go_simp
    with_reducible rfl
  rotate_left
  · simp only [Act.put, List.setIfInBounds_toArray, List.set_cons_zero, List.set_cons_succ, i64_w, i32_w]
    rfl
  refine pure_ (i := 5) (N := some 22) (v := ?_) (a' := ?_) #[true, true, true, true, true, true, false, false, false, false] rfl rfl (by kernel_rfl) (fun _ _ _ h => h) (Or.inl ⟨by rfl, ?_⟩) ?_ ?_
  rotate_left
  · intro w'
    go_simp
    with_reducible rfl
  rotate_left
  · simp only [Act.put, List.setIfInBounds_toArray, List.set_cons_zero, List.set_cons_succ, i64_w, i32_w]
    rfl
  refine pure_ (i := 6) (N := some 23) (v := ?_) (a' := ?_) #[true, true, true, true, true, true, true, false, false, false] rfl rfl (by kernel_rfl) (fun _ _ _ h => h) (Or.inl ⟨by rfl, ?_⟩) ?_ ?_
  rotate_left
  · intro w'
    go_simp
    with_reducible rfl
  rotate_left
  · simp only [Act.put, List.setIfInBounds_toArray, List.set_cons_zero, List.set_cons_succ, i64_w, i32_w]
    rfl
  refine pure_ (i := 7) (N := some 24) (v := ?_) (a' := ?_) #[true, true, true, true, true, true, true, true, false, false] rfl rfl (by kernel_rfl) (fun _ _ _ h => h) (Or.inl ⟨by rfl, ?_⟩) ?_ ?_
  rotate_left
  · intro w'
    go_simp
    with_reducible rfl
  rotate_left
  · simp only [Act.put, List.setIfInBounds_toArray, List.set_cons_zero, List.set_cons_succ, i64_w, i32_w]
    rfl
  refine take_ (i := 8) (N := some 25) (v := ?_) (a' := ?_) #[true, true, true, true, true, true, true, true, true, false] rfl rfl (by kernel_rfl) (fun _ _ _ h => h) (Or.inl ⟨by rfl, ?_⟩) hHeld ?_ ?_
  rotate_left
  · intro w' s0
    obtain ⟨y0, y1⟩ := s0
    go_simp
    with_reducible rfl
  rotate_left
  · simp only [Act.put, List.setIfInBounds_toArray, List.set_cons_zero, List.set_cons_succ, i64_w, i32_w]
    rfl
  refine last_ (i := 9) (N := some 26) #[true, true, true, true, true, true, true, true, true, true] rfl rfl (by kernel_rfl) (by decide) (fun K hK => ?_)
  refine goes_ Try.func29 (by kernel_rfl) rfl #[.pointer (some ⟨g, 0, none⟩), .int .i64 (done d.act).keep, .bool (done d.act).torn] (by rfl) rfl rfl (by (try simp only [List.map_toArray, List.map_cons, List.map_nil]); first | done | rfl) ?_
  refine (Off_Q (HD5.out.below (below_drew1 (Below.refl _ _))) HFit.out (done d.act).keep (done d.act).torn).mono ?_
  rintro e wo ⟨rfl, hDo, hOo⟩
  refine ⟨_, rfl, ?_⟩
  have HDo := Aside0.mk hDo
  have HOo := Aside0.mk hOo
  clear hDo hOo
  refine hK.out _ _ ?_
  clear hK K
  refine done_ (by kernel_rfl) ?_
  go_wp2
  go_ret
  obtain ⟨e1, e2⟩ := off_end HO4.out HO5.out HDo.out HOo.out
  exact ⟨rfl, e1, e2⟩
set_option maxHeartbeats 4000000 in
set_option maxRecDepth 100000 in
theorem fallD_c (h : DevW S w g d mb n D bl vl) (hok : d.Ok) (caps : Array Value) (done : DS → DS) (hcall : ∀ W, DevW S W g d.act mb n D bl vl → Only S w W → Calls Try.prog 57 caps W fun e w' => e = .returned (.tuple #[]) ∧ DevAt (Grow S W) w' g (done d.act) ∧ Only S W w') (hfit : (done d.act).Fit) (hkeep : (done d.act).keep = d.keep) (htorn : (done d.act).torn = d.torn) (hgo : d.goes = true) (hk : ¬ 0 < d.keep) :
    Calls Try.prog 56 #[.pointer (some ⟨g, 0, none⟩), .func (.func 57) #[] caps] w fun e w' => e = .returned (.int .i64 7) ∧ DevAt (Grow S w) w' g (d.act.ends) ∧ Only S w w' := by
  have HW := Aside0.mk h
  have HOk := Aside0.mk hok
  have HGo := Aside0.mk hgo
  have HC := Aside0.mk hcall
  have HFit := Aside0.mk hfit
  have HKeep := Aside0.mk hkeep
  have HTorn := Aside0.mk htorn
  clear h hok hgo hcall hfit hkeep htorn
  obtain ⟨kp, hkp⟩ : ∃ kp, kp = d.keep := ⟨_, rfl⟩
  rw [← hkp] at hk
  have HKp := Aside0.mk hkp
  clear hkp
  go_enter Try.func56, Try.ntmps56
  go_wp2_with (first
    | (go_at_call 69; refine (act_Q HW.out HOk.out).mono ?_; rintro e w4 ⟨rfl, h4, ho4⟩; rw [HGo.out]; have z5 := h4.cell 5; change w4.cell? ⟨g, 5, none⟩ = some (.int .i64 d.keep) at z5; rw [← HKp.out] at z5; have H4 := Aside0.mk h4; have HO4 := Aside0.mk ho4; clear h4 ho4)
    | (go_at_call 57; refine (HC.out _ H4.out HO4.out).mono ?_; rintro e w5 ⟨rfl, h5, ho5⟩; have H5 := Aside0.mk h5; have HO5 := Aside0.mk ho5; clear h5 ho5))
  have z6 := H4.out.cell 6
  change w4.cell? ⟨g, 6, none⟩ = some (.bool d.torn) at z6
  refine start_ (n := 10) (S := fun w' => w'.cell? ⟨g, 5, none⟩ = some (.int .i64 kp) ∧ w'.cell? ⟨g, 6, none⟩ = some (.bool d.torn)) (ds := [9]) #[false, false, false, false, false, false, false, false, false, false] (by kernel_rfl) rfl rfl ⟨z5, z6⟩ (fun hHeld => ?_)
  refine pure_ (i := 0) (N := some 17) (v := ?_) (a' := ?_) #[true, false, false, false, false, false, false, false, false, false] rfl rfl (by kernel_rfl) (fun _ _ _ h => h) (Or.inl ⟨by rfl, ?_⟩) ?_ ?_
  rotate_left
  · intro w'
    go_simp
    with_reducible rfl
  rotate_left
  · simp only [Act.put, List.setIfInBounds_toArray, List.set_cons_zero, List.set_cons_succ, i64_w, i32_w]
    rfl
  refine pure_ (i := 1) (N := some 18) (v := ?_) (a' := ?_) #[true, true, false, false, false, false, false, false, false, false] rfl rfl (by kernel_rfl) (fun _ _ _ h => h) (Or.inl ⟨by rfl, ?_⟩) ?_ ?_
  rotate_left
  · intro w'
    go_simp
    with_reducible rfl
  rotate_left
  · simp only [Act.put, List.setIfInBounds_toArray, List.set_cons_zero, List.set_cons_succ, i64_w, i32_w]
    rfl
  refine pure_ (i := 2) (N := some 19) (v := ?_) (a' := ?_) #[true, true, true, false, false, false, false, false, false, false] rfl rfl (by kernel_rfl) (fun _ _ _ h => h) (Or.inl ⟨by rfl, ?_⟩) ?_ ?_
  rotate_left
  · intro w'
    go_simp
    with_reducible rfl
  rotate_left
  · simp only [Act.put, List.setIfInBounds_toArray, List.set_cons_zero, List.set_cons_succ, i64_w, i32_w]
    rfl
  refine pure_ (i := 3) (N := some 20) (v := ?_) (a' := ?_) #[true, true, true, true, false, false, false, false, false, false] rfl rfl (by kernel_rfl) (fun _ _ _ h => h) (Or.inl ⟨by rfl, ?_⟩) ?_ ?_
  rotate_left
  · intro w'
    go_simp
    with_reducible rfl
  rotate_left
  · simp only [Act.put, List.setIfInBounds_toArray, List.set_cons_zero, List.set_cons_succ, i64_w, i32_w]
    rfl
  refine take_ (i := 4) (N := some 21) (v := ?_) (a' := ?_) #[true, true, true, true, true, false, false, false, false, false] rfl rfl (by kernel_rfl) (fun _ _ _ h => h) (Or.inl ⟨by rfl, ?_⟩) hHeld ?_ ?_
  rotate_left
  · intro w' s0
    obtain ⟨y0, y1⟩ := s0
    go_simp
    with_reducible rfl
  rotate_left
  · simp only [Act.put, List.setIfInBounds_toArray, List.set_cons_zero, List.set_cons_succ, i64_w, i32_w]
    rfl
  refine pure_ (i := 5) (N := some 22) (v := ?_) (a' := ?_) #[true, true, true, true, true, true, false, false, false, false] rfl rfl (by kernel_rfl) (fun _ _ _ h => h) (Or.inl ⟨by rfl, ?_⟩) ?_ ?_
  rotate_left
  · intro w'
    go_simp
    with_reducible rfl
  rotate_left
  · simp only [Act.put, List.setIfInBounds_toArray, List.set_cons_zero, List.set_cons_succ, i64_w, i32_w]
    rfl
  refine pure_ (i := 6) (N := some 23) (v := ?_) (a' := ?_) #[true, true, true, true, true, true, true, false, false, false] rfl rfl (by kernel_rfl) (fun _ _ _ h => h) (Or.inl ⟨by rfl, ?_⟩) ?_ ?_
  rotate_left
  · intro w'
    go_simp
    with_reducible rfl
  rotate_left
  · simp only [Act.put, List.setIfInBounds_toArray, List.set_cons_zero, List.set_cons_succ, i64_w, i32_w]
    rfl
  refine pure_ (i := 7) (N := some 24) (v := ?_) (a' := ?_) #[true, true, true, true, true, true, true, true, false, false] rfl rfl (by kernel_rfl) (fun _ _ _ h => h) (Or.inl ⟨by rfl, ?_⟩) ?_ ?_
  rotate_left
  · intro w'
    go_simp
    with_reducible rfl
  rotate_left
  · simp only [Act.put, List.setIfInBounds_toArray, List.set_cons_zero, List.set_cons_succ, i64_w, i32_w]
    rfl
  refine take_ (i := 8) (N := some 25) (v := ?_) (a' := ?_) #[true, true, true, true, true, true, true, true, true, false] rfl rfl (by kernel_rfl) (fun _ _ _ h => h) (Or.inl ⟨by rfl, ?_⟩) hHeld ?_ ?_
  rotate_left
  · intro w' s0
    obtain ⟨y0, y1⟩ := s0
    go_simp
    with_reducible rfl
  rotate_left
  · simp only [Act.put, List.setIfInBounds_toArray, List.set_cons_zero, List.set_cons_succ, i64_w, i32_w]
    rfl
  refine last_ (i := 9) (N := some 26) #[true, true, true, true, true, true, true, true, true, true] rfl rfl (by kernel_rfl) (by decide) (fun K hK => ?_)
  refine goes_ Try.func29 (by kernel_rfl) rfl #[.pointer (some ⟨g, 0, none⟩), .int .i64 kp, .bool d.torn] (by rfl) rfl rfl (by (try simp only [List.map_toArray, List.map_cons, List.map_nil]); first | done | rfl) ?_
  refine (Off_Q (H4.out.below (below_drew1 (Below.refl _ _))) HOk.out.toFit.act kp d.torn).mono ?_
  rintro e wo ⟨rfl, hDo, hOo⟩
  refine ⟨_, rfl, ?_⟩
  have HDo := Aside0.mk hDo
  have HOo := Aside0.mk hOo
  clear hDo hOo
  refine hK.out _ _ ?_
  clear hK K
  refine done_ (by kernel_rfl) ?_
  go_wp2
  go_ret
  obtain ⟨e1, e2⟩ := off_end (Only.refl S w) HO4.out (HDo.out.mono (fun k hk => hk.imp .inl id)) (HOo.out.mono (fun k hk => .inl hk))
  refine ⟨rfl, ?_, e2⟩
  rw [show d.act.ends = d.act.off kp d.torn from by rw [HKp.out]; rfl]
  exact e1
theorem fallD_Q (h : DevW S w g d mb n D bl vl) (hok : d.Ok) (caps : Array Value) (done : DS → DS) (hcall : ∀ W, DevW S W g d.act mb n D bl vl → Only S w W → Calls Try.prog 57 caps W fun e w' => e = .returned (.tuple #[]) ∧ DevAt (Grow S W) w' g (done d.act) ∧ Only S W w') (hfit : (done d.act).Fit) (hkeep : (done d.act).keep = d.keep) (htorn : (done d.act).torn = d.torn) :
    Calls Try.prog 56 #[.pointer (some ⟨g, 0, none⟩), .func (.func 57) #[] caps] w fun e w' => e = .returned (.int .i64 (d.fall done).1) ∧ DevAt (Grow S w) w' g (d.fall done).2 ∧ Only S w w' := by
  unfold DS.fall
  cases hgo : d.goes with
  | false => rw [if_neg (by simp)]; exact fallD_a h hok caps done hcall hfit hkeep htorn hgo
  | true =>
    rw [if_pos rfl]
    by_cases hk : 0 < d.keep
    · rw [if_pos hk]
      exact fallD_b h hok caps done hcall hfit hkeep htorn hgo hk
    · rw [if_neg hk]
      exact fallD_c h hok caps done hcall hfit hkeep htorn hgo hk
end
attribute [local go_sem] max2_m min2_m max_two min_two
set_option linter.unusedVariables false
set_option linter.unusedSimpArgs false
section
variable {S : Nat → Prop} {w W W1 W2 : World} {g : Nat} {d : DS} {mb n : Nat} {D : DataW Unit} {bl : ByteArray → Nat} {vl : ByteArray → Value}
theorem Only.cell (h : Only S w W) {c j : Nat} {v : Value} (hk : w.cell? ⟨c, j, none⟩ = some v) (hc : ¬ S c) : W.cell? ⟨c, j, none⟩ = some v :=
  (World.cell?_of_block (a := ⟨c, j, none⟩) (h.block c (World.block_lt_of_cell? w ⟨c, j, none⟩ hk) hc)).trans hk
theorem DevW.dropped (h : DevW S W g d mb n D bl vl) (s : ByteArray) (h2 : Owns W1 mb n (D.del (ky s))) (hg : W.grownBy W1 (some mb)) : DevW S W1 g (d.drop s) mb n (D.del (ky s)) bl vl ∧ Only S W W1 :=
  ⟨⟨(hg.block g (blk_lt h.blk) (fun e => h.own.ne h.blk (Option.some.inj e).symm)).trans h.blk, h.sg, h.sm, h2, h.cnt, h.rep.del (h.own.tidy keyed) h.cells.1 s, (h.cells.move (fun f hf k hk => hg.block k (h.cells.both_lt hf hk) (fun e => h.notMap hf hk (Option.some.inj e)))).del s⟩, (Only.refl S W).grown hg (fun k e => .inl (by cases e; exact h.sm))⟩
theorem DevW.moved (h : DevW S W g d mb n D bl vl) {f : Fl} (hf : f ∈ d.files) (b : ByteArray) (hc : (n : Int) + 1 ≤ d.acts) (hO : Owns W1 mb n (D.del (ky f.name))) (hg : W.grownBy W1 (some mb))
    (h2 : Owns W2 mb (n + 1) ((D.del (ky f.name)).put (ky b) (.lit (.int .i64 (bl f.name : Int))))) (hg2 : W1.grownBy W2 (some mb)) :
    DevW S W2 g ((d.drop f.name).put ⟨b, f.b, f.safe⟩) mb (n + 1) ((D.del (ky f.name)).put (ky b) (.lit (.int .i64 (bl f.name : Int)))) (upd bl b (bl f.name)) (upd vl b (vl f.name)) ∧ Only S W W2 := by
  obtain ⟨h1, ho1⟩ := h.dropped f.name hO hg
  have hk2 : ∀ k, k < W1.heap.size → k ≠ mb → W2.heap[k]? = W1.heap[k]? := fun k hk hne => hg2.block k hk (fun e => hne (Option.some.inj e))
  have hk1 : ∀ k, k < W.heap.size → k ≠ mb → W1.heap[k]? = W.heap[k]? := fun k hk hne => hg.block k hk (fun e => hne (Option.some.inj e))
  have hmv : ∀ k, k = bl f.name ∨ (vl f.name).ownBlock = some k → W2.heap[k]? = W.heap[k]? := fun k hk =>
    (hk2 k (Nat.lt_of_lt_of_le (h.cells.both_lt hf hk) ho1.size) (h.notMap hf hk)).trans (hk1 k (h.cells.both_lt hf hk) (h.notMap hf hk))
  obtain ⟨q1, q2, q3, q4, q5⟩ := h.cells.2.1 f hf
  refine ⟨⟨(hk2 g (blk_lt h1.blk) (fun e => h.own.ne h.blk e.symm)).trans h1.blk, h.sg, h.sm, h2, by rw [Int.natCast_add]; exact hc, h1.rep.put (h1.own.tidy keyed) ⟨b, f.b, f.safe⟩ (bl f.name), ?_⟩, ho1.grown hg2 (fun k e => .inl (by cases e; exact h.sm))⟩
  refine h1.cells.put (S1 := S) ⟨b, f.b, f.safe⟩ (bl f.name) (vl f.name) (fun _ h => h) (fun x hx hne => ?_) ((hmv _ (.inl rfl)).trans q1) q2 (R_moved q3 (fun k hk => hmv k (.inr hk))) q4 q5
  obtain ⟨hx1, hx2⟩ := (delF_mem _ _ _).1 hx
  obtain ⟨o1, o2⟩ := h.cells.2.2 x hx1 f hf hx2
  exact ⟨fun k hk => hk2 k (h1.cells.both_lt hx hk) (h1.notMap hx hk), o1, fun k hk hk2 => o2 k hk2 hk⟩
theorem DevW.drew (h : DevW S W g d mb n D bl vl) : DevW S W.drew g d mb n D bl vl := h.below (below_drew1 (Below.refl _ _))
set_option maxHeartbeats 4000000 in
set_option maxRecDepth 100000 in
theorem RemoveIn_Q (h : DevW S W g d mb n D bl vl) (s : ByteArray) (hs : s.size ≤ 32) {c1 c2 : Nat} (k1 : W.cell? ⟨c1, 0, none⟩ = some (.pointer (some ⟨g, 0, none⟩))) (k2 : W.cell? ⟨c2, 0, none⟩ = some (.string s)) :
    Calls Try.prog 57 #[.pointer (some ⟨c1, 0, none⟩), .pointer (some ⟨c2, 0, none⟩)] W fun e w' => e = .returned (.tuple #[]) ∧ DevAt (Grow S W) w' g (d.drop s) ∧ Only S W w' := by
  have z0 : W.cell? ⟨g, 0, none⟩ = some (.map (some mb)) := h.cell 0
  obtain ⟨W1, hrun, hO, ht⟩ := World.ownsMap.drop h.drew.own keyed Try.underlying77 (ky_of (s := s) (by omega)) 0
  obtain ⟨h1, ho1⟩ := h.drew.dropped s hO ht.grown
  have H1 := Aside0.mk h1
  have O1 := Aside0.mk (((Only.refl S W).below (below_drew1 (Below.refl _ _))).trans ho1)
  clear h h1 ho1 hO ht
  go_enter Try.func57, Try.ntmps57
  go_region
  go_end0
  exact ⟨rfl, (H1.out.mono (fun _ h => .inl h)).at, O1.out⟩
set_option maxHeartbeats 4000000 in
set_option maxRecDepth 100000 in
theorem RenameIn_Q (h : DevW S W g d mb n D bl vl) {f : Fl} (hf : f ∈ d.files) (hs : f.name.size ≤ 32) (b : ByteArray) (hb : b.size ≤ 32) (hn : n < maxLen) (hc : (n : Int) + 1 ≤ d.acts) {c1 c2 c3 c4 : Nat} (k1 : W.cell? ⟨c1, 0, none⟩ = some (.pointer (some ⟨g, 0, none⟩))) (k2 : W.cell? ⟨c2, 0, none⟩ = some (.string f.name)) (k3 : W.cell? ⟨c3, 0, none⟩ = some (.pointer (some ⟨bl f.name, 0, none⟩))) (k4 : W.cell? ⟨c4, 0, none⟩ = some (.string b)) (n1 : ¬ S c1) (n2 : ¬ S c2) (n3 : ¬ S c3) (n4 : ¬ S c4) :
    Calls Try.prog 72 #[.pointer (some ⟨c1, 0, none⟩), .pointer (some ⟨c2, 0, none⟩), .pointer (some ⟨c3, 0, none⟩), .pointer (some ⟨c4, 0, none⟩)] W fun e w' => e = .returned (.tuple #[]) ∧ DevAt (Grow S W) w' g ((d.drop f.name).put ⟨b, f.b, f.safe⟩) ∧ Only S W w' := by
  have z0 : W.cell? ⟨g, 0, none⟩ = some (.map (some mb)) := h.cell 0
  obtain ⟨W1, hrun, hO, ht⟩ := World.ownsMap.drop h.drew.own keyed Try.underlying77 (ky_of (s := f.name) (by omega)) 0
  obtain ⟨h1, ho1⟩ := h.drew.dropped f.name hO ht.grown
  have e1 := ((Only.refl S W).below (below_drew1 (Below.refl _ _))).trans ho1
  have y0 : W1.cell? ⟨g, 0, none⟩ = some (.map (some mb)) := h1.cell 0
  have y1 := e1.cell k1 n1
  have y3 := e1.cell k3 n3
  have y4 := e1.cell k4 n4
  obtain ⟨W2, hrun2, hO2, ht2⟩ := World.ownsMap.store (w := W1.drew) (Owns.move (W1 := W1.drew) hO rfl) keyed Try.underlying77 hn (ky_of (s := b) (by omega)) (val := .pointer (some ⟨bl f.name, 0, none⟩)) (d := .lit (.int .i64 (bl f.name : Int))) (ps := []) rfl
  have hg1 : W.drew.grownBy W1.drew (some mb) := by
    have hh := ht.grown
    exact ⟨hh.os, hh.tape, hh.output, hh.size, hh.block⟩
  obtain ⟨h2, ho2⟩ := h.drew.moved hf b hc (Owns.move (W1 := W1.drew) hO rfl) hg1 hO2 ht2.grown
  have H2 := Aside0.mk h2
  have O2 := Aside0.mk (((Only.refl S W).below (below_drew1 (Below.refl _ _))).trans ho2)
  clear h h1 ho1 hO ht hO2 ht2 h2 ho2 e1 hg1
  go_enter Try.func72, Try.ntmps72
  go_wp2
  go_region
  go_wp2
  go_region
  go_end0
  exact ⟨rfl, (H2.out.mono (fun _ h => .inl h)).at, O2.out⟩
end
attribute [local go_sem] max2_m min2_m max_two min_two
set_option linter.unusedVariables false
set_option linter.unusedSimpArgs false
theorem take_min (l : List Int) (k : Int) : l.take (min k (l.length : Int)).toNat = l.take k.toNat := by
  rcases Int.le_total k (l.length : Int) with h | h
  · rw [Int.min_eq_left h]
  · rw [Int.min_eq_right h, Int.toNat_natCast, List.take_length, List.take_of_length_le (by omega)]
theorem min_bounds {k : Int} {m : Nat} (h : 0 ≤ k) : 0 ≤ min k (m : Int) ∧ min k (m : Int) ≤ (m : Int) := by omega
theorem min_cast (a b : Nat) : min (a : Int) (b : Int) = ((min a b : Nat) : Int) := by omega
section
variable {S : Nat → Prop} {w W W1 W2 : World} {g : Nat} {d : DS} {mb n : Nat} {D : DataW Unit} {bl : ByteArray → Nat} {vl : ByteArray → Value}
set_option maxHeartbeats 4000000 in
set_option maxRecDepth 100000 in
theorem CutIn_Q (h : DevW S W g d mb n D bl vl) (hok : d.Fit) {f : Fl} (hf : f ∈ d.files) (k : Int) (hk : 0 ≤ k) {c1 c2 : Nat} (k1 : W.cell? ⟨c1, 0, none⟩ = some (.pointer (some ⟨bl f.name, 0, none⟩))) (k2 : W.cell? ⟨c2, 0, none⟩ = some (.int .i64 k)) (n1 : ¬ S c1) (n2 : ¬ S c2) :
    Calls Try.prog 60 #[.pointer (some ⟨c1, 0, none⟩), .pointer (some ⟨c2, 0, none⟩)] W fun e w' => e = .returned (.tuple #[]) ∧ DevAt (Grow S W) w' g (d.put (cutTo f k)) ∧ Only S W w' := by
  obtain ⟨A, cc, ev, zf, zs, zff, zsf, hrow, hcc, hA, hsafe⟩ := h.file hf
  have hu := Try.underlying46
  obtain ⟨i0, hi0, _, hsz, _⟩ := info_parts infoB
  have hcut := cut_to (P := Try.prog) 46 5 .i64 hu hi0 A f.b.length cc (min k (f.b.length : Int)) (min_bounds hk).1 (min_bounds hk).2 hcc
  have hjm : (min k (f.b.length : Int)).toNat ≤ f.b.length := by omega
  have hCt : bK.C W A (min k (f.b.length : Int)).toNat (f.b.take (min k (f.b.length : Int)).toNat) := by
    have h1 := Kd.C_take (m := (min k (f.b.length : Int)).toNat) (Kd.R_reads' hrow).2.2 hjm
    rw [List.length_take, Nat.min_eq_left hjm] at h1
    exact h1
  rw [take_min] at hCt
  have hlen := size_le h.cells.1 hf hok.fits hok.room
  have HW := Aside0.mk h
  have HF := Aside0.mk hf
  obtain ⟨j, hj⟩ : ∃ j, j = (min k (f.b.length : Int)).toNat := ⟨_, rfl⟩
  rw [← hj] at hcut hjm hCt
  have HJ := Aside0.mk hj
  have HCt := Aside0.mk hCt
  have HA2 := Aside0.mk (show A = none → j = 0 ∧ cc = 0 from fun h => ⟨by have := (hA h).1; omega, (hA h).2⟩)
  have HL2 := Aside0.mk (show j ≤ 4294967296 from by omega)
  have HTl := Aside0.mk (show (f.b.take k.toNat).length = j from by rw [← take_min, ← hj, List.length_take, Nat.min_eq_left hjm])
  obtain ⟨b, hb⟩ : ∃ b, b = bl f.name := ⟨_, rfl⟩
  have HB := Aside0.mk hb
  rw [← hb] at k1 zf zs zff zsf
  obtain ⟨m, hm⟩ : ∃ m, m = f.b.length := ⟨_, rfl⟩
  have HM := Aside0.mk hm
  rw [← hm] at zf hcut
  have hb1 := Aside0.mk (show c1 ≠ b from fun e => n1 (by rw [e, hb]; exact (h.cells.2.1 f hf).2.1))
  have hb2 := Aside0.mk (show c2 ≠ b from fun e => n2 (by rw [e, hb]; exact (h.cells.2.1 f hf).2.1))
  clear h hok hf ev hrow hcc hA hsafe hi0 hsz hjm hCt hlen hj hb hm
  go_enter Try.func60, Try.ntmps60
  go_wp2
  refine start_ (n := 17) (S := fun w' => w'.cell? ⟨c1, 0, none⟩ = some (.pointer (some ⟨b, 0, none⟩)) ∧ w'.cell? ⟨c2, 0, none⟩ = some (.int .i64 k) ∧ w'.cell? ⟨b, 0, none⟩ = some (.slice A m cc)) (ds := [16]) #[false, false, false, false, false, false, false, false, false, false, false, false, false, false, false, false, false] (by kernel_rfl) rfl rfl ⟨k1, k2, zf⟩ (fun hHeld => ?_)
  refine take_ (i := 0) (N := some 2) (v := ?_) (a' := ?_) #[true, false, false, false, false, false, false, false, false, false, false, false, false, false, false, false, false] rfl rfl (by kernel_rfl) (fun _ _ _ h => h) (Or.inl ⟨by rfl, ?_⟩) hHeld ?_ ?_
  rotate_left
  · intro w' s0
    obtain ⟨y0, y1, y2⟩ := s0
    go_simp
    with_reducible rfl
  rotate_left
  · simp only [Act.put, List.setIfInBounds_toArray, List.set_cons_zero, List.set_cons_succ, i64_w, i32_w]
    rfl
  refine take_ (i := 1) (N := some 3) (v := ?_) (a' := ?_) #[true, true, false, false, false, false, false, false, false, false, false, false, false, false, false, false, false] rfl rfl (by kernel_rfl) (fun _ _ _ h => h) (Or.inl ⟨by rfl, ?_⟩) hHeld ?_ ?_
  rotate_left
  · intro w' s0
    obtain ⟨y0, y1, y2⟩ := s0
    go_simp
    with_reducible rfl
  rotate_left
  · simp only [Act.put, List.setIfInBounds_toArray, List.set_cons_zero, List.set_cons_succ, i64_w, i32_w]
    rfl
  refine pure_ (i := 2) (N := some 4) (v := ?_) (a' := ?_) #[true, true, true, false, false, false, false, false, false, false, false, false, false, false, false, false, false] rfl rfl (by kernel_rfl) (fun _ _ _ h => h) (Or.inl ⟨by rfl, ?_⟩) ?_ ?_
  rotate_left
  · intro w'
    go_simp
    with_reducible rfl
  rotate_left
  · simp only [Act.put, List.setIfInBounds_toArray, List.set_cons_zero, List.set_cons_succ, i64_w, i32_w]
    rfl
  refine pure_ (i := 3) (N := some 5) (v := ?_) (a' := ?_) #[true, true, true, true, false, false, false, false, false, false, false, false, false, false, false, false, false] rfl rfl (by kernel_rfl) (fun _ _ _ h => h) (Or.inl ⟨by rfl, ?_⟩) ?_ ?_
  rotate_left
  · intro w'
    go_simp
    with_reducible rfl
  rotate_left
  · simp only [Act.put, List.setIfInBounds_toArray, List.set_cons_zero, List.set_cons_succ, i64_w, i32_w]
    rfl
  refine take_ (i := 4) (N := some 6) (v := ?_) (a' := ?_) #[true, true, true, true, true, false, false, false, false, false, false, false, false, false, false, false, false] rfl rfl (by kernel_rfl) (fun _ _ _ h => h) (Or.inl ⟨by rfl, ?_⟩) hHeld ?_ ?_
  rotate_left
  · intro w' s0
    obtain ⟨y0, y1, y2⟩ := s0
    go_simp
    with_reducible rfl
  rotate_left
  · simp only [Act.put, List.setIfInBounds_toArray, List.set_cons_zero, List.set_cons_succ, i64_w, i32_w]
    rfl
  refine take_ (i := 5) (N := some 7) (v := ?_) (a' := ?_) #[true, true, true, true, true, true, false, false, false, false, false, false, false, false, false, false, false] rfl rfl (by kernel_rfl) (fun _ _ _ h => h) (Or.inl ⟨by rfl, ?_⟩) hHeld ?_ ?_
  rotate_left
  · intro w' s0
    obtain ⟨y0, y1, y2⟩ := s0
    go_simp
    with_reducible rfl
  rotate_left
  · simp only [Act.put, List.setIfInBounds_toArray, List.set_cons_zero, List.set_cons_succ, i64_w, i32_w]
    rfl
  refine take_ (i := 6) (N := some 8) (v := ?_) (a' := ?_) #[true, true, true, true, true, true, true, false, false, false, false, false, false, false, false, false, false] rfl rfl (by kernel_rfl) (fun _ _ _ h => h) (Or.inl ⟨by rfl, ?_⟩) hHeld ?_ ?_
  rotate_left
  · intro w' s0
    obtain ⟨y0, y1, y2⟩ := s0
    go_simp
    with_reducible rfl
  rotate_left
  · simp only [Act.put, List.setIfInBounds_toArray, List.set_cons_zero, List.set_cons_succ, i64_w, i32_w]
    rfl
  refine pure_ (i := 7) (N := some 9) (v := ?_) (a' := ?_) #[true, true, true, true, true, true, true, true, false, false, false, false, false, false, false, false, false] rfl rfl (by kernel_rfl) (fun _ _ _ h => h) (Or.inl ⟨by rfl, ?_⟩) ?_ ?_
  rotate_left
  · intro w'
    go_simp
    with_reducible rfl
  rotate_left
  · simp only [Act.put, List.setIfInBounds_toArray, List.set_cons_zero, List.set_cons_succ, i64_w, i32_w]
    rfl
  refine pure_ (i := 8) (N := some 10) (v := ?_) (a' := ?_) #[true, true, true, true, true, true, true, true, true, false, false, false, false, false, false, false, false] rfl rfl (by kernel_rfl) (fun _ _ _ h => h) (Or.inl ⟨by rfl, ?_⟩) ?_ ?_
  rotate_left
  · intro w'
    go_simp
    with_reducible rfl
  rotate_left
  · simp only [Act.put, List.setIfInBounds_toArray, List.set_cons_zero, List.set_cons_succ, i64_w, i32_w]
    rfl
  refine take_ (i := 9) (N := some 11) (v := ?_) (a' := ?_) #[true, true, true, true, true, true, true, true, true, true, false, false, false, false, false, false, false] rfl rfl (by kernel_rfl) (fun _ _ _ h => h) (Or.inl ⟨by rfl, ?_⟩) hHeld ?_ ?_
  rotate_left
  · intro w' s0
    obtain ⟨y0, y1, y2⟩ := s0
    go_simp
    with_reducible rfl
  rotate_left
  · simp only [Act.put, List.setIfInBounds_toArray, List.set_cons_zero, List.set_cons_succ, i64_w, i32_w]
    rfl
  refine pure_ (i := 10) (N := some 12) (v := ?_) (a' := ?_) #[true, true, true, true, true, true, true, true, true, true, true, false, false, false, false, false, false] rfl rfl (by kernel_rfl) (fun _ _ _ h => h) (Or.inl ⟨by rfl, ?_⟩) ?_ ?_
  rotate_left
  · intro w'
    go_simp
    with_reducible rfl
  rotate_left
  · simp only [Act.put, List.setIfInBounds_toArray, List.set_cons_zero, List.set_cons_succ, i64_w, i32_w]
    rfl
  refine pure_ (i := 11) (N := some 13) (v := ?_) (a' := ?_) #[true, true, true, true, true, true, true, true, true, true, true, true, false, false, false, false, false] rfl rfl (by kernel_rfl) (fun _ _ _ h => h) (Or.inl ⟨by rfl, ?_⟩) ?_ ?_
  rotate_left
  · intro w'
    go_simp
    with_reducible rfl
  rotate_left
  · simp only [Act.put, List.setIfInBounds_toArray, List.set_cons_zero, List.set_cons_succ, i64_w, i32_w]
    rfl
  refine pure_ (i := 12) (N := some 14) (v := ?_) (a' := ?_) #[true, true, true, true, true, true, true, true, true, true, true, true, true, false, false, false, false] rfl rfl (by kernel_rfl) (fun _ _ _ h => h) (Or.inl ⟨by rfl, ?_⟩) ?_ ?_
  rotate_left
  · intro w'
    go_simp
    with_reducible rfl
  rotate_left
  · simp only [Act.put, List.setIfInBounds_toArray, List.set_cons_zero, List.set_cons_succ, i64_w, i32_w]
    rfl
  refine one_ (i := 13) (N := some 15) #[true, true, true, true, true, true, true, true, true, true, true, true, true, true, false, false, false] rfl rfl (by kernel_rfl) (by decide) (fun K hK => ?_)
  refine goes_ Try.func46 (by kernel_rfl) rfl #[.slice A j cc] (by rfl) rfl rfl (by (try simp only [List.map_toArray, List.map_cons, List.map_nil]); first | done | rfl) ?_
  refine (Clone_Q _ A j cc _ (show bK.C W.drew A j _ from HCt.out) HA2.out HL2.out).mono ?_
  rintro e w2 ⟨v1, rfl, hr, hb0⟩
  obtain ⟨A2, c2', ev2⟩ : ∃ A2 c2, v1 = .slice A2 j c2 := by
    obtain ⟨A2, c2, e⟩ := Kd.R_slice hr
    exact ⟨A2, c2, by rw [e, HTl.out]⟩
  subst ev2
  refine ⟨_, rfl, ?_⟩
  have hbw : Below W.heap.size W w2 := ⟨hb0.os, hb0.tape, hb0.output, hb0.size, hb0.block⟩
  have hr2 : bK.R 5 w2 W.heap.size (fun _ => True) (.slice A2 j c2') (f.b.take k.toNat) := hr
  have hS2 := Aside0.mk (And.intro (pw_cell_below hbw k1) (And.intro (pw_cell_below hbw k2) (pw_cell_below hbw zf)))
  have HBw := Aside0.mk hbw
  have HR2 := Aside0.mk hr2
  clear hr hb0 hr2
  refine hK.out _ _ hS2.out (fun hHeld => ?_)
  clear hK K
  refine norm_ (a' := ?_) ?_ ?_
  rotate_left
  · show Act.put _ (some 15) _ = _
    simp only [Act.put, List.setIfInBounds_toArray, List.set_cons_zero, List.set_cons_succ, i64_w, i32_w]
    rfl
  refine pure_ (i := 14) (N := some 16) (v := ?_) (a' := ?_) #[true, true, true, true, true, true, true, true, true, true, true, true, true, true, true, false, false] rfl rfl (by kernel_rfl) (fun _ _ _ h => h) (Or.inl ⟨by rfl, ?_⟩) ?_ ?_
  rotate_left
  · intro w'
    go_simp
    with_reducible rfl
  rotate_left
  · simp only [Act.put, List.setIfInBounds_toArray, List.set_cons_zero, List.set_cons_succ, i64_w, i32_w]
    rfl
  refine pure_ (i := 15) (N := some 17) (v := ?_) (a' := ?_) #[true, true, true, true, true, true, true, true, true, true, true, true, true, true, true, true, false] rfl rfl (by kernel_rfl) (fun _ _ _ h => h) (Or.inl ⟨by rfl, ?_⟩) ?_ ?_
  rotate_left
  · intro w'
    go_simp
    with_reducible rfl
  rotate_left
  · simp only [Act.put, List.setIfInBounds_toArray, List.set_cons_zero, List.set_cons_succ, i64_w, i32_w]
    rfl
  refine last_ (i := 16) (N := none) #[true, true, true, true, true, true, true, true, true, true, true, true, true, true, true, true, true] rfl rfl (by kernel_rfl) (by decide) (fun K hK => ?_)
  have zf2 := hS2.out.2.2
  have q1 := (hbw.block _ (blk_lt (HW.out.cells.2.1 f HF.out).1)).trans (HW.out.cells.2.1 f HF.out).1
  have zff2 : w2.frozen? ⟨b, 0, none⟩ = false := by rw [HB.out]; exact blk_frozen q1 0
  rw [if_pos (by rfl)]
  go_simp
  refine hK.out _ _ ?_
  clear hK K
  refine done_ (by kernel_rfl) ?_
  have e3 := blk_set q1 0 (.slice A2 j c2')
  have y0 : (w2.setCell ⟨b, 0, none⟩ (.slice A2 j c2')).cell? ⟨b, 0, none⟩ = some (.slice A2 j c2') := by rw [HB.out]; exact (blk_cell e3 0).trans rfl
  have y1 : (w2.setCell ⟨b, 0, none⟩ (.slice A2 j c2')).cell? ⟨b, 1, none⟩ = some (.int .i64 (f.safe : Int)) := by rw [HB.out]; exact (blk_cell e3 1).trans rfl
  have y2 : (w2.setCell ⟨b, 0, none⟩ (.slice A2 j c2')).cell? ⟨c1, 0, none⟩ = some (.pointer (some ⟨b, 0, none⟩)) := (World.cell?_of_block (a := ⟨c1, 0, none⟩) (Below.heap_setCell w2 ⟨b, 0, none⟩ _ c1 hb1.out)).trans hS2.out.1
  have y1f : (w2.setCell ⟨b, 0, none⟩ (.slice A2 j c2')).frozen? ⟨b, 1, none⟩ = false := by rw [HB.out]; exact blk_frozen e3 1
  have HEnd := Aside0.mk (HW.out.cutted (f := f) HF.out HR2.out HBw.out (min f.safe j) (by rw [HTl.out]; exact Nat.min_le_right _ _))
  have hms := min_cast f.safe j
  clear e3 q1 zf2 zff2 zf zs zff zsf k1 k2
  go_wp2
  go_region
  go_end0
  rw [← HB.out] at HEnd
  unfold cutTo
  rw [HTl.out]
  exact ⟨rfl, (HEnd.out.1.below (below_drew1 (Below.refl _ _))).at, HEnd.out.2.below (below_drew1 (Below.refl _ _))⟩
end
attribute [local go_sem] max2_m min2_m max_two min_two
set_option linter.unusedVariables false
set_option linter.unusedSimpArgs false
abbrev box1 (v : Value) (t : TypeId) : Obj := .cells #[v] t (0, 0)
theorem box_at (w : World) (v : Value) (t : TypeId) : (w.alloc (box1 v t)).cell? ⟨w.heap.size, 0, none⟩ = some v := (blk_cell (blk_new w (box1 v t)) 0).trans rfl
theorem box_past {w : World} (o : Obj) {a : Addr} {v : Value} (h : w.cell? a = some v) : (w.alloc o).cell? a = some v := pw_cell_below (below_alloc (Below.refl w.heap.size w) o) h
theorem box_drew {w : World} (nd : Nat) {a : Addr} {v : Value} (h : w.cell? a = some v) : (w.drewN nd).cell? a = some v := h
section
variable {S : Nat → Prop} {w : World} {g : Nat} {d : DS} {mb n : Nat} {D : DataW Unit} {bl : ByteArray → Nat} {vl : ByteArray → Value}
theorem fall_end {w5 w' : World} {dd : DS} (hb : Below w.heap.size w w5) (hD : DevAt (Grow (fun k => S k ∧ k < w.heap.size) w5) w' g dd) (hO : Only (fun k => S k ∧ k < w.heap.size) w5 w') : DevAt (Grow S w) w' g dd ∧ Only S w w' :=
  ⟨hD.mono (fun k hk => hk.imp (fun h => h.1) (fun h => Nat.le_trans hb.size h)), ((Only.refl S w).below hb).trans (hO.mono (fun k hk => hk.1))⟩
theorem there_name {d : DS} {s : ByteArray} (h : d.there s = 0) : s.size ≤ 32 := ready_size (there_ready h).1
theorem file_fileOr {d : DS} {s : ByteArray} {f : Fl} (h : findF d.files s = some f) : d.act.fileOr s = f := fileOr_some (d := d.act) h
set_option maxHeartbeats 4000000 in
set_option maxRecDepth 100000 in
theorem Cut_1 (h : DevW S w g d mb n D bl vl) (s : ByteArray) (k : Int) (hr : d.there s ≠ 0) : Calls Try.prog 34 #[.pointer (some ⟨g, 0, none⟩), .string s, .int .i64 k] w fun e w' => e = .returned (.int .i64 (d.there s)) ∧ Below w.heap.size w w' := by
  have hb1 : Below w.heap.size w (w.alloc (box1 (.int .i64 k) 3)) := (below_alloc (Below.refl _ _) _)
  have HR := Aside0.mk (there_Q (h.below hb1) s)
  rw [if_neg hr] at HR
  have HB := Aside0.mk hb1
  obtain ⟨r, hq⟩ : ∃ r, r = d.there s := ⟨_, rfl⟩
  rw [← hq] at HR hr ⊢
  clear hq h hb1
  have cb : (r == 0) = false := beq_eq_false_iff_ne.mpr hr
  have cn : (r != 0) = true := bne_iff_ne.mpr hr
  clear hr
  go_enter Try.func34, Try.ntmps34
  go_wp2_with (first | (go_at_call 45; refine HR.out.mono ?_; rintro e w2 ⟨rfl, ⟨nd, rfl⟩⟩))
  go_ret
  exact ⟨rfl, by first | exact pw_below_drewN HB.out nd | exact below_alloc (pw_below_drewN HB.out nd) _⟩
set_option maxHeartbeats 4000000 in
set_option maxRecDepth 100000 in
theorem Cut_2 (h : DevW S w g d mb n D bl vl) (s : ByteArray) (k : Int) (hr : d.there s = 0) (hk : k < 0) : Calls Try.prog 34 #[.pointer (some ⟨g, 0, none⟩), .string s, .int .i64 k] w fun e w' => e = .returned (.int .i64 1) ∧ Below w.heap.size w w' := by
  have hb1 : Below w.heap.size w (w.alloc (box1 (.int .i64 k) 3)) := (below_alloc (Below.refl _ _) _)
  have HR := Aside0.mk (there_Q (h.below hb1) s)
  rw [if_pos hr, hr] at HR
  have HB := Aside0.mk hb1
  have kb : decide (k < 0) = true := decide_eq_true hk
  obtain ⟨b0, hb0⟩ : ∃ x, x = bl s := ⟨_, rfl⟩
  rw [← hb0] at HR
  clear h hb1 hr hb0
  go_enter Try.func34, Try.ntmps34
  go_wp2_with (first
    | (go_at_call 45; refine HR.out.mono ?_; rintro e w2 ⟨rfl, ⟨nd, rfl⟩⟩))
  go_ret
  exact ⟨rfl, by first | exact below_alloc (pw_below_drewN HB.out nd) _ | exact pw_below_drewN (below_alloc (pw_below_drewN HB.out nd) _) _⟩
set_option maxHeartbeats 4000000 in
set_option maxRecDepth 100000 in
theorem Cut_3 (h : DevW S w g d mb n D bl vl) (hok : d.Ok) (s : ByteArray) (k : Int) (hr : d.there s = 0) (hk : 0 ≤ k) : Calls Try.prog 34 #[.pointer (some ⟨g, 0, none⟩), .string s, .int .i64 k] w fun e w' => e = .returned (.int .i64 (d.fall fun e => e.put (cutTo (e.fileOr s) k)).1) ∧ DevAt (Grow S w) w' g (d.fall fun e => e.put (cutTo (e.fileOr s) k)).2 ∧ Only S w w' := by
  have hb1 : Below w.heap.size w (w.alloc (box1 (.int .i64 k) 3)) := (below_alloc (Below.refl _ _) _)
  have HR := Aside0.mk (there_Q (h.below hb1) s)
  rw [if_pos hr, hr] at HR
  have HSz := Aside0.mk (there_name hr)
  obtain ⟨f, hf⟩ := (there_ready hr).2
  have HFl := Aside0.mk hf
  obtain ⟨hfm, rfl⟩ := findF_some hf
  have HB := Aside0.mk hb1
  have HW := Aside0.mk h
  have HOk := Aside0.mk hok
  have HFm := Aside0.mk hfm
  have kb : decide (k < 0) = false := decide_eq_false (by omega)
  have HK := Aside0.mk hk
  obtain ⟨b0, hb0⟩ : ∃ x, x = bl f.name := ⟨_, rfl⟩
  rw [← hb0] at HR
  have HB0 := Aside0.mk hb0
  clear h hb1 hr hb0 hf hfm hok hk
  go_enter Try.func34, Try.ntmps34
  go_wp2_with (first
    | (go_at_call 45; refine HR.out.mono ?_; rintro e w2 ⟨rfl, ⟨nd, rfl⟩⟩)
    | (go_at_call 56; have hbw := Aside0.mk (show Below w.heap.size w (((w.alloc (box1 (.int .i64 k) 3)).drewN nd).alloc (box1 (.pointer (some ⟨b0, 0, none⟩)) 89)) from below_alloc (pw_below_drewN HB.out nd) _); have k2 : (((w.alloc (box1 (.int .i64 k) 3)).drewN nd).alloc (box1 (.pointer (some ⟨b0, 0, none⟩)) 89)).cell? ⟨w.heap.size, 0, none⟩ = some (.int .i64 k) := box_past _ (box_drew nd (box_at w _ _)); have k1 : (((w.alloc (box1 (.int .i64 k) 3)).drewN nd).alloc (box1 (.pointer (some ⟨b0, 0, none⟩)) 89)).cell? ⟨w.heap.size + 1, 0, none⟩ = some (.pointer (some ⟨b0, 0, none⟩)) := (show (w.alloc (box1 (.int .i64 k) 3)).heap.size = w.heap.size + 1 from by simp) ▸ box_at _ _ _; refine (fallC_Q (w := (((w.alloc (box1 (.int .i64 k) 3)).drewN nd).alloc (box1 (.pointer (some ⟨b0, 0, none⟩)) 89))) (HW.out.shrink.below hbw.out) HOk.out #[.pointer (some ⟨w.heap.size + 1, 0, none⟩), .pointer (some ⟨w.heap.size, 0, none⟩)] (fun e => e.put (cutTo (e.fileOr f.name) k)) (fun W hW ho => by rw [show (d.act.fileOr f.name) = f from file_fileOr HFl.out]; have kc := ho.cell k1 (by intro h; have := h.2; omega); rw [HB0.out] at kc; exact CutIn_Q hW HOk.out.toFit.act HFm.out k HK.out kc (ho.cell k2 (by intro h; have := h.2; omega)) (by intro h; have := h.2; omega) (by intro h; have := h.2; omega)) (by rw [show (d.act.fileOr f.name) = f from file_fileOr HFl.out]; exact HOk.out.toFit.act.less HW.out.cells.1 (f := f) HFm.out rfl (fun x hx => List.mem_of_mem_take hx) (by unfold cutTo; rw [List.length_take]; omega)) rfl rfl).mono ?_; rintro e w6 ⟨rfl, hD6, hO6⟩; obtain ⟨e1, e2⟩ := fall_end hbw.out hD6 hO6; have HE1 := Aside0.mk e1; have HE2 := Aside0.mk e2; clear hD6 hO6 e1 e2))
  go_ret
  exact ⟨rfl, HE1.out, HE2.out⟩
theorem Cut_Q (h : DevAt S w g d) (hok : d.Ok) (s : ByteArray) (k : Int) : Calls Try.prog 34 #[.pointer (some ⟨g, 0, none⟩), .string s, .int .i64 k] w fun e w' => e = .returned (.int .i64 (d.cut s k).1) ∧ DevAt (Grow S w) w' g (d.cut s k).2 ∧ Only S w w' := by
  obtain ⟨mb, n, D, bl, vl, h⟩ := h
  have same : ∀ {w' : World}, Below w.heap.size w w' → DevAt (Grow S w) w' g d ∧ Only S w w' := fun hb => ⟨((h.below hb).mono (fun _ h => .inl h)).at, (Only.refl S w).below hb⟩
  unfold DS.cut
  by_cases hr : d.there s = 0
  · rw [if_neg (fun h => h hr)]
    by_cases hk : k < 0
    · rw [if_pos hk]
      refine (Cut_2 h s k hr hk).mono ?_
      rintro e w' ⟨rfl, hb⟩
      exact ⟨rfl, same hb⟩
    · rw [if_neg hk]
      exact Cut_3 h hok s k hr (by omega)
  · rw [if_pos hr]
    refine (Cut_1 h s k hr).mono ?_
    rintro e w' ⟨rfl, hb⟩
    exact ⟨rfl, same hb⟩
set_option maxHeartbeats 4000000 in
set_option maxRecDepth 100000 in
theorem Rename_1 (h : DevW S w g d mb n D bl vl) (s b : ByteArray) (hr : d.there s ≠ 0) : Calls Try.prog 50 #[.pointer (some ⟨g, 0, none⟩), .string s, .string b] w fun e w' => e = .returned (.int .i64 (d.there s)) ∧ Below w.heap.size w w' := by
  have hb1 : Below w.heap.size w (((w.alloc (box1 (.pointer (some ⟨g, 0, none⟩)) 28)).alloc (box1 (.string s) 9)).alloc (box1 (.string b) 9)) := (below_alloc (below_alloc (below_alloc (Below.refl _ _) _) _) _)
  have HR := Aside0.mk (there_Q (h.below hb1) s)
  rw [if_neg hr] at HR
  have HB := Aside0.mk hb1
  obtain ⟨r, hq⟩ : ∃ r, r = d.there s := ⟨_, rfl⟩
  rw [← hq] at HR hr ⊢
  clear hq h hb1
  have cb : (r == 0) = false := beq_eq_false_iff_ne.mpr hr
  have cn : (r != 0) = true := bne_iff_ne.mpr hr
  clear hr
  go_enter Try.func50, Try.ntmps50
  go_wp2_with (first | (go_at_call 45; refine HR.out.mono ?_; rintro e w2 ⟨rfl, ⟨nd, rfl⟩⟩))
  go_ret
  exact ⟨rfl, by first | exact pw_below_drewN HB.out nd | exact below_alloc (pw_below_drewN HB.out nd) _⟩
set_option maxHeartbeats 4000000 in
set_option maxRecDepth 100000 in
theorem Rename_2 (h : DevW S w g d mb n D bl vl) (s b : ByteArray) (hr : d.there s = 0) (hk : nameOk b = false) : Calls Try.prog 50 #[.pointer (some ⟨g, 0, none⟩), .string s, .string b] w fun e w' => e = .returned (.int .i64 1) ∧ Below w.heap.size w w' := by
  have hb1 : Below w.heap.size w (((w.alloc (box1 (.pointer (some ⟨g, 0, none⟩)) 28)).alloc (box1 (.string s) 9)).alloc (box1 (.string b) 9)) := (below_alloc (below_alloc (below_alloc (Below.refl _ _) _) _) _)
  have HR := Aside0.mk (there_Q (h.below hb1) s)
  rw [if_pos hr, hr] at HR
  have HB := Aside0.mk hb1
  have HN := Aside0.mk (name_f b)
  rw [hk] at HN
  obtain ⟨b0, hb0⟩ : ∃ x, x = bl s := ⟨_, rfl⟩
  rw [← hb0] at HR
  clear h hb1 hr hb0
  go_enter Try.func50, Try.ntmps50
  go_wp2_with (first
    | (go_at_call 45; refine HR.out.mono ?_; rintro e w2 ⟨rfl, ⟨nd, rfl⟩⟩)
    | (go_at_call 71; refine (disk_name.calls b _ _ HN.out).mono ?_; rintro e w3 ⟨rfl, ⟨nd3, rfl⟩⟩))
  go_ret
  exact ⟨rfl, by first | exact below_alloc (pw_below_drewN HB.out nd) _ | exact pw_below_drewN (below_alloc (pw_below_drewN HB.out nd) _) _⟩
set_option maxHeartbeats 4000000 in
set_option maxRecDepth 100000 in
theorem Rename_3 (h : DevW S w g d mb n D bl vl) (hok : d.Ok) (s b : ByteArray) (hr : d.there s = 0) (hk : nameOk b = true) : Calls Try.prog 50 #[.pointer (some ⟨g, 0, none⟩), .string s, .string b] w fun e w' => e = .returned (.int .i64 (d.fall fun e => (e.drop s).put ⟨b, (e.fileOr s).b, (e.fileOr s).safe⟩).1) ∧ DevAt (Grow S w) w' g (d.fall fun e => (e.drop s).put ⟨b, (e.fileOr s).b, (e.fileOr s).safe⟩).2 ∧ Only S w w' := by
  have hb1 : Below w.heap.size w (((w.alloc (box1 (.pointer (some ⟨g, 0, none⟩)) 28)).alloc (box1 (.string s) 9)).alloc (box1 (.string b) 9)) := (below_alloc (below_alloc (below_alloc (Below.refl _ _) _) _) _)
  have HR := Aside0.mk (there_Q (h.below hb1) s)
  rw [if_pos hr, hr] at HR
  have HSz := Aside0.mk (there_name hr)
  obtain ⟨f, hf⟩ := (there_ready hr).2
  have HFl := Aside0.mk hf
  obtain ⟨hfm, rfl⟩ := findF_some hf
  have HB := Aside0.mk hb1
  have HW := Aside0.mk h
  have HOk := Aside0.mk hok
  have HFm := Aside0.mk hfm
  have HN := Aside0.mk (name_f b)
  rw [hk] at HN
  have HK := Aside0.mk (show b.size ≤ 32 from (of_decide_eq_true hk).2)
  have HNn := Aside0.mk (show n < maxLen from by have h1 := h.cnt; have h2 := hok.acts; unfold maxLen; omega)
  have HCn := Aside0.mk (show (n : Int) + 1 ≤ d.act.acts from by have h1 := h.cnt; show (n : Int) + 1 ≤ d.acts + 1; omega)
  have HS1 := Aside0.mk (show (w.alloc (box1 (.pointer (some ⟨g, 0, none⟩)) 28)).heap.size = w.heap.size + 1 from by simp)
  have HS2 := Aside0.mk (show ((w.alloc (box1 (.pointer (some ⟨g, 0, none⟩)) 28)).alloc (box1 (.string f.name) 9)).heap.size = w.heap.size + 2 from by simp)
  have HS3 := Aside0.mk (fun nd => show ((((w.alloc (box1 (.pointer (some ⟨g, 0, none⟩)) 28)).alloc (box1 (.string f.name) 9)).alloc (box1 (.string b) 9)).drewN nd).heap.size = w.heap.size + 3 from by simp [World.drewN])
  obtain ⟨b0, hb0⟩ : ∃ x, x = bl f.name := ⟨_, rfl⟩
  rw [← hb0] at HR
  have HB0 := Aside0.mk hb0
  clear h hb1 hr hb0 hf hfm hok hk
  go_enter Try.func50, Try.ntmps50
  go_wp2_with (first
    | (go_at_call 45; refine HR.out.mono ?_; rintro e w2 ⟨rfl, ⟨nd, rfl⟩⟩)
    | (go_at_call 71; refine (disk_name.calls b _ _ HN.out).mono ?_; rintro e w3 ⟨rfl, ⟨nd3, rfl⟩⟩)
    | (go_at_call 56; have hbw := Aside0.mk (show Below w.heap.size w ((((((w.alloc (box1 (.pointer (some ⟨g, 0, none⟩)) 28)).alloc (box1 (.string f.name) 9)).alloc (box1 (.string b) 9)).drewN nd).alloc (box1 (.pointer (some ⟨b0, 0, none⟩)) 89)).drewN nd3) from pw_below_drewN (below_alloc (pw_below_drewN HB.out nd) _) nd3); have k1 : ((((((w.alloc (box1 (.pointer (some ⟨g, 0, none⟩)) 28)).alloc (box1 (.string f.name) 9)).alloc (box1 (.string b) 9)).drewN nd).alloc (box1 (.pointer (some ⟨b0, 0, none⟩)) 89)).drewN nd3).cell? ⟨w.heap.size, 0, none⟩ = some (.pointer (some ⟨g, 0, none⟩)) := box_drew nd3 (box_past _ (box_drew nd (box_past _ (box_past _ (box_at w _ _))))); have k2 : ((((((w.alloc (box1 (.pointer (some ⟨g, 0, none⟩)) 28)).alloc (box1 (.string f.name) 9)).alloc (box1 (.string b) 9)).drewN nd).alloc (box1 (.pointer (some ⟨b0, 0, none⟩)) 89)).drewN nd3).cell? ⟨w.heap.size + 1, 0, none⟩ = some (.string f.name) := box_drew nd3 (box_past _ (box_drew nd (box_past _ (HS1.out ▸ box_at _ _ _)))); have k4 : ((((((w.alloc (box1 (.pointer (some ⟨g, 0, none⟩)) 28)).alloc (box1 (.string f.name) 9)).alloc (box1 (.string b) 9)).drewN nd).alloc (box1 (.pointer (some ⟨b0, 0, none⟩)) 89)).drewN nd3).cell? ⟨w.heap.size + 2, 0, none⟩ = some (.string b) := box_drew nd3 (box_past _ (box_drew nd (HS2.out ▸ box_at _ _ _))); have k3 : ((((((w.alloc (box1 (.pointer (some ⟨g, 0, none⟩)) 28)).alloc (box1 (.string f.name) 9)).alloc (box1 (.string b) 9)).drewN nd).alloc (box1 (.pointer (some ⟨b0, 0, none⟩)) 89)).drewN nd3).cell? ⟨w.heap.size + 3, 0, none⟩ = some (.pointer (some ⟨b0, 0, none⟩)) := box_drew nd3 (HS3.out nd ▸ box_at _ _ _); refine (fallR_Q (w := ((((((w.alloc (box1 (.pointer (some ⟨g, 0, none⟩)) 28)).alloc (box1 (.string f.name) 9)).alloc (box1 (.string b) 9)).drewN nd).alloc (box1 (.pointer (some ⟨b0, 0, none⟩)) 89)).drewN nd3)) (HW.out.shrink.below hbw.out) HOk.out #[.pointer (some ⟨w.heap.size, 0, none⟩), .pointer (some ⟨w.heap.size + 1, 0, none⟩), .pointer (some ⟨w.heap.size + 3, 0, none⟩), .pointer (some ⟨w.heap.size + 2, 0, none⟩)] (fun e => (e.drop f.name).put ⟨b, (e.fileOr f.name).b, (e.fileOr f.name).safe⟩) (fun W hW ho => by rw [show (d.act.fileOr f.name) = f from file_fileOr HFl.out]; have kc := ho.cell k3 (by intro h; have := h.2; omega); rw [HB0.out] at kc; exact RenameIn_Q hW HFm.out HSz.out b HK.out HNn.out HCn.out (ho.cell k1 (by intro h; have := h.2; omega)) (ho.cell k2 (by intro h; have := h.2; omega)) kc (ho.cell k4 (by intro h; have := h.2; omega)) (by intro h; have := h.2; omega) (by intro h; have := h.2; omega) (by intro h; have := h.2; omega) (by intro h; have := h.2; omega)) (by rw [show (d.act.fileOr f.name) = f from file_fileOr HFl.out]; exact HOk.out.toFit.act.move HW.out.cells.1 (f := f) HFm.out b) rfl rfl).mono ?_; rintro e w6 ⟨rfl, hD6, hO6⟩; obtain ⟨e1, e2⟩ := fall_end hbw.out hD6 hO6; have HE1 := Aside0.mk e1; have HE2 := Aside0.mk e2; clear hD6 hO6 e1 e2))
  go_ret
  exact ⟨rfl, HE1.out, HE2.out⟩
theorem Rename_Q (h : DevAt S w g d) (hok : d.Ok) (s b : ByteArray) : Calls Try.prog 50 #[.pointer (some ⟨g, 0, none⟩), .string s, .string b] w fun e w' => e = .returned (.int .i64 (d.rename s b).1) ∧ DevAt (Grow S w) w' g (d.rename s b).2 ∧ Only S w w' := by
  obtain ⟨mb, n, D, bl, vl, h⟩ := h
  have same : ∀ {w' : World}, Below w.heap.size w w' → DevAt (Grow S w) w' g d ∧ Only S w w' := fun hb => ⟨((h.below hb).mono (fun _ h => .inl h)).at, (Only.refl S w).below hb⟩
  unfold DS.rename
  by_cases hr : d.there s = 0
  · rw [if_neg (fun h => h hr)]
    cases hk : nameOk b with
    | false =>
      rw [if_pos rfl]
      refine (Rename_2 h s b hr hk).mono ?_
      rintro e w' ⟨rfl, hb⟩
      exact ⟨rfl, same hb⟩
    | true =>
      rw [if_neg (by simp)]
      exact Rename_3 h hok s b hr hk
  · rw [if_pos hr]
    refine (Rename_1 h s b hr).mono ?_
    rintro e w' ⟨rfl, hb⟩
    exact ⟨rfl, same hb⟩
set_option maxHeartbeats 4000000 in
set_option maxRecDepth 100000 in
theorem Remove_1 (h : DevW S w g d mb n D bl vl) (s : ByteArray) (hr : d.there s ≠ 0) : Calls Try.prog 31 #[.pointer (some ⟨g, 0, none⟩), .string s] w fun e w' => e = .returned (.int .i64 (d.there s)) ∧ Below w.heap.size w w' := by
  have hb1 : Below w.heap.size w ((w.alloc (box1 (.pointer (some ⟨g, 0, none⟩)) 28)).alloc (box1 (.string s) 9)) := (below_alloc (below_alloc (Below.refl _ _) _) _)
  have HR := Aside0.mk (there_Q (h.below hb1) s)
  rw [if_neg hr] at HR
  have HB := Aside0.mk hb1
  obtain ⟨r, hq⟩ : ∃ r, r = d.there s := ⟨_, rfl⟩
  rw [← hq] at HR hr ⊢
  clear hq h hb1
  have cb : (r == 0) = false := beq_eq_false_iff_ne.mpr hr
  have cn : (r != 0) = true := bne_iff_ne.mpr hr
  clear hr
  go_enter Try.func31, Try.ntmps31
  go_wp2_with (first | (go_at_call 45; refine HR.out.mono ?_; rintro e w2 ⟨rfl, ⟨nd, rfl⟩⟩))
  go_ret
  exact ⟨rfl, by first | exact pw_below_drewN HB.out nd | exact below_alloc (pw_below_drewN HB.out nd) _⟩
set_option maxHeartbeats 4000000 in
set_option maxRecDepth 100000 in
theorem Remove_3 (h : DevW S w g d mb n D bl vl) (hok : d.Ok) (s : ByteArray) (hr : d.there s = 0) : Calls Try.prog 31 #[.pointer (some ⟨g, 0, none⟩), .string s] w fun e w' => e = .returned (.int .i64 (d.fall fun e => e.drop s).1) ∧ DevAt (Grow S w) w' g (d.fall fun e => e.drop s).2 ∧ Only S w w' := by
  have hb1 : Below w.heap.size w ((w.alloc (box1 (.pointer (some ⟨g, 0, none⟩)) 28)).alloc (box1 (.string s) 9)) := (below_alloc (below_alloc (Below.refl _ _) _) _)
  have HR := Aside0.mk (there_Q (h.below hb1) s)
  rw [if_pos hr, hr] at HR
  have HSz := Aside0.mk (there_name hr)
  obtain ⟨f, hf⟩ := (there_ready hr).2
  have HFl := Aside0.mk hf
  obtain ⟨hfm, rfl⟩ := findF_some hf
  have HB := Aside0.mk hb1
  have HW := Aside0.mk h
  have HOk := Aside0.mk hok
  have HFm := Aside0.mk hfm
  have HS1 := Aside0.mk (show (w.alloc (box1 (.pointer (some ⟨g, 0, none⟩)) 28)).heap.size = w.heap.size + 1 from by simp)
  obtain ⟨b0, hb0⟩ : ∃ x, x = bl f.name := ⟨_, rfl⟩
  rw [← hb0] at HR
  have HB0 := Aside0.mk hb0
  clear h hb1 hr hb0 hf hfm hok
  go_enter Try.func31, Try.ntmps31
  go_wp2_with (first
    | (go_at_call 45; refine HR.out.mono ?_; rintro e w2 ⟨rfl, ⟨nd, rfl⟩⟩)
    | (go_at_call 56; have hbw := Aside0.mk (show Below w.heap.size w (((w.alloc (box1 (.pointer (some ⟨g, 0, none⟩)) 28)).alloc (box1 (.string f.name) 9)).drewN nd) from pw_below_drewN HB.out nd); have k1 : (((w.alloc (box1 (.pointer (some ⟨g, 0, none⟩)) 28)).alloc (box1 (.string f.name) 9)).drewN nd).cell? ⟨w.heap.size, 0, none⟩ = some (.pointer (some ⟨g, 0, none⟩)) := box_drew nd (box_past _ (box_at w _ _)); have k2 : (((w.alloc (box1 (.pointer (some ⟨g, 0, none⟩)) 28)).alloc (box1 (.string f.name) 9)).drewN nd).cell? ⟨w.heap.size + 1, 0, none⟩ = some (.string f.name) := box_drew nd (HS1.out ▸ box_at _ _ _); refine (fallD_Q (w := (((w.alloc (box1 (.pointer (some ⟨g, 0, none⟩)) 28)).alloc (box1 (.string f.name) 9)).drewN nd)) (HW.out.shrink.below hbw.out) HOk.out #[.pointer (some ⟨w.heap.size, 0, none⟩), .pointer (some ⟨w.heap.size + 1, 0, none⟩)] (fun e => e.drop f.name) (fun W hW ho => RemoveIn_Q hW f.name HSz.out (ho.cell k1 (by intro h; have := h.2; omega)) (ho.cell k2 (by intro h; have := h.2; omega))) (HOk.out.toFit.act.drop _) rfl rfl).mono ?_; rintro e w6 ⟨rfl, hD6, hO6⟩; obtain ⟨e1, e2⟩ := fall_end hbw.out hD6 hO6; have HE1 := Aside0.mk e1; have HE2 := Aside0.mk e2; clear hD6 hO6 e1 e2))
  go_ret
  exact ⟨rfl, HE1.out, HE2.out⟩
theorem Remove_Q (h : DevAt S w g d) (hok : d.Ok) (s : ByteArray) : Calls Try.prog 31 #[.pointer (some ⟨g, 0, none⟩), .string s] w fun e w' => e = .returned (.int .i64 (d.remove s).1) ∧ DevAt (Grow S w) w' g (d.remove s).2 ∧ Only S w w' := by
  obtain ⟨mb, n, D, bl, vl, h⟩ := h
  have same : ∀ {w' : World}, Below w.heap.size w w' → DevAt (Grow S w) w' g d ∧ Only S w w' := fun hb => ⟨((h.below hb).mono (fun _ h => .inl h)).at, (Only.refl S w).below hb⟩
  unfold DS.remove
  by_cases hr : d.there s = 0
  · rw [if_neg (fun h => h hr)]
    exact Remove_3 h hok s hr
  · rw [if_pos hr]
    refine (Remove_1 h s hr).mono ?_
    rintro e w' ⟨rfl, hb⟩
    exact ⟨rfl, same hb⟩
end
end Go.Proofs.Ytclkcipakncjkaa.Dk
