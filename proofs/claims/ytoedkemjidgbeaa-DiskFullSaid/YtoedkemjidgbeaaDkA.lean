/- A device of files, told in plain Lean: what each of its methods does to it. -/
import Derived.Test.YtoedkemjidgbeaaPw
namespace Go.Proofs.Ytoedkemjidgbeaa.Dk
open Go Go.RowKit Go.Proofs.YtoedkemjidgbeaaW.PrintWords
set_option linter.unusedVariables false
/-- A file: its name, its bytes, how many are safe. -/
structure Fl where
  name : ByteArray
  b : List Int
  safe : Nat
/-- A device. -/
structure DS where
  files : List Fl
  room : Int
  down : Bool
  acts : Int
  fuse : Int
  keep : Int
  torn : Bool
def nameOk (s : ByteArray) : Bool := decide (0 < s.size ∧ s.size ≤ 32)
def findF (l : List Fl) (s : ByteArray) : Option Fl := l.find? fun f => decide (f.name = s)
/-- A file in the place of one of its name, or behind the others. -/
def putF : List Fl → Fl → List Fl
  | [], f => [f]
  | x :: r, f => if x.name = f.name then f :: r else x :: putF r f
def delF (l : List Fl) (s : ByteArray) : List Fl := l.filter fun f => decide (f.name ≠ s)
def sizes (l : List Fl) : Int := (l.map fun f => (f.b.length : Int)).sum
def DS.free (d : DS) : Int := d.room - sizes d.files
def DS.ready (d : DS) (s : ByteArray) : Int := if d.down = true then 7 else if nameOk s = true then 0 else 1
/-- How many of a file's bytes that aren't safe are kept. -/
def kept (keep : Int) (f : Fl) : Nat := (min (max keep 0) ((f.b.length : Int) - (f.safe : Int))).toNat
/-- The last byte is turned. -/
def turnLast (l : List Int) : List Int := l.set (l.length - 1) (255 - l.getD (l.length - 1) 0)
def loseB (keep : Int) (torn : Bool) (f : Fl) : List Int := if torn = true ∧ 0 < kept keep f then turnLast (f.b.take (f.safe + kept keep f)) else f.b.take (f.safe + kept keep f)
def lose1 (keep : Int) (torn : Bool) (f : Fl) : Fl := ⟨f.name, loseB keep torn f, (loseB keep torn f).length⟩
def DS.off (d : DS) (keep : Int) (torn : Bool) : DS := if d.down = true then d else { d with files := d.files.map (lose1 keep torn), down := true, fuse := 0 }
def DS.on (d : DS) : DS := { d with down := false }
def DS.arm (d : DS) (n keep : Int) (torn : Bool) : DS := { d with fuse := max n 0, keep := keep, torn := torn }
/-- One more act; whether the power goes in it. -/
def DS.goes (d : DS) : Bool := decide (d.fuse = 1)
def DS.act (d : DS) : DS := { d with acts := d.acts + 1, fuse := if d.fuse = 0 then 0 else d.fuse - 1 }
def DS.ends (d : DS) : DS := d.off d.keep d.torn
def DS.put (d : DS) (f : Fl) : DS := { d with files := putF d.files f }
def DS.fileOr (d : DS) (s : ByteArray) : Fl := (findF d.files s).getD ⟨s, [], 0⟩
def DS.append (d : DS) (s : ByteArray) (x : List Int) : Int × DS :=
  if d.ready s ≠ 0 then (d.ready s, d) else if (x.length : Int) > d.free then (6, d) else
  let d1 := d.act.put { d.fileOr s with b := (d.fileOr s).b ++ x }
  if d.goes = true then (7, d1.ends) else (0, d1)
/-- Why nothing can be done to a file that must be there. -/
def DS.there (d : DS) (s : ByteArray) : Int := if d.ready s ≠ 0 then d.ready s else if (findF d.files s).isSome then 0 else 5
def DS.sync (d : DS) (s : ByteArray) : Int × DS :=
  if d.there s ≠ 0 then (d.there s, d) else if d.goes = true then (7, d.act.ends) else (0, d.act.put { d.fileOr s with safe := (d.fileOr s).b.length })
/-- What is done at once, or not at all. -/
def DS.fall (d : DS) (done : DS → DS) : Int × DS := if d.goes = true then (7, (if 0 < d.keep then done d.act else d.act).ends) else (0, done d.act)
def cutTo (f : Fl) (n : Int) : Fl := ⟨f.name, f.b.take n.toNat, min f.safe (f.b.take n.toNat).length⟩
def DS.cut (d : DS) (s : ByteArray) (n : Int) : Int × DS := if d.there s ≠ 0 then (d.there s, d) else if n < 0 then (1, d) else d.fall fun e => e.put (cutTo (e.fileOr s) n)
def DS.drop (d : DS) (s : ByteArray) : DS := { d with files := delF d.files s }
def DS.rename (d : DS) (a b : ByteArray) : Int × DS := if d.there a ≠ 0 then (d.there a, d) else if nameOk b = false then (1, d) else d.fall fun e => (e.drop a).put ⟨b, (e.fileOr a).b, (e.fileOr a).safe⟩
def DS.remove (d : DS) (s : ByteArray) : Int × DS := if d.there s ≠ 0 then (d.there s, d) else d.fall fun e => e.drop s
def DS.read (d : DS) (s : ByteArray) : List Int × Int := if d.there s ≠ 0 then ([], d.there s) else ((d.fileOr s).b, 0)
def new (room : Int) : DS := ⟨[], min (max room 0) 1048576, false, 0, 0, 0, false⟩
/-! Each name once. -/
def Once (l : List Fl) : Prop := (l.map Fl.name).Nodup
theorem findF_some {l : List Fl} {s : ByteArray} {f : Fl} (h : findF l s = some f) : f ∈ l ∧ f.name = s := by
  unfold findF at h
  exact ⟨List.mem_of_find?_eq_some h, of_decide_eq_true (List.find?_some (p := fun f : Fl => decide (f.name = s)) h)⟩
theorem findF_none {l : List Fl} {s : ByteArray} (h : findF l s = none) : ∀ f ∈ l, f.name ≠ s := by
  intro f hf e
  have := List.find?_eq_none.1 h f hf
  exact this (decide_eq_true e)
theorem findF_of {l : List Fl} (h : Once l) {f : Fl} (hf : f ∈ l) : findF l f.name = some f := by
  induction l with
  | nil => cases hf
  | cons x r ih =>
    unfold findF
    rw [List.find?_cons]
    by_cases e : x.name = f.name
    · rw [decide_eq_true e]
      rcases List.mem_cons.1 hf with rfl | hm
      · rfl
      · exact absurd (List.mem_map.2 ⟨f, hm, e.symm⟩) (List.nodup_cons.1 h).1
    · rw [decide_eq_false e]
      rcases List.mem_cons.1 hf with rfl | hm
      · exact absurd rfl e
      · exact ih (List.nodup_cons.1 h).2 hm
theorem putF_names (l : List Fl) (f : Fl) : ∀ s, s ∈ (putF l f).map Fl.name ↔ s = f.name ∨ s ∈ l.map Fl.name := by
  induction l with
  | nil => intro s; simp [putF]
  | cons x r ih =>
    intro s
    unfold putF
    by_cases e : x.name = f.name
    · rw [if_pos e]
      simp [e]
    · rw [if_neg e]
      simp only [List.map_cons, List.mem_cons, ih]
      constructor
      · rintro (h | h | h)
        · exact .inr (.inl h)
        · exact .inl h
        · exact .inr (.inr h)
      · rintro (h | h | h)
        · exact .inr (.inl h)
        · exact .inl h
        · exact .inr (.inr h)
theorem putF_once {l : List Fl} (h : Once l) (f : Fl) : Once (putF l f) := by
  induction l with
  | nil => simp [Once, putF]
  | cons x r ih =>
    unfold Once at h
    rw [List.map_cons, List.nodup_cons] at h
    unfold putF
    by_cases e : x.name = f.name
    · rw [if_pos e]
      unfold Once
      rw [List.map_cons, List.nodup_cons, ← e]
      exact h
    · rw [if_neg e]
      unfold Once
      rw [List.map_cons, List.nodup_cons]
      refine ⟨fun hm => ?_, ih h.2⟩
      rcases (putF_names r f x.name).1 hm with h2 | h2
      · exact e h2
      · exact h.1 h2
theorem putF_mem {l : List Fl} (h : Once l) (f : Fl) : ∀ g, g ∈ putF l f ↔ g = f ∨ (g ∈ l ∧ g.name ≠ f.name) := by
  induction l with
  | nil => intro g; simp [putF]
  | cons x r ih =>
    intro g
    unfold Once at h
    rw [List.map_cons, List.nodup_cons] at h
    unfold putF
    by_cases e : x.name = f.name
    · rw [if_pos e]
      simp only [List.mem_cons]
      constructor
      · rintro (h2 | h2)
        · exact .inl h2
        · exact .inr ⟨.inr h2, fun e2 => h.1 (by rw [e, ← e2]; exact List.mem_map.2 ⟨g, h2, rfl⟩)⟩
      · rintro (h2 | ⟨h2 | h2, h3⟩)
        · exact .inl h2
        · rw [h2] at h3; exact absurd e h3
        · exact .inr h2
    · rw [if_neg e]
      simp only [List.mem_cons, ih h.2]
      constructor
      · rintro (h2 | h2 | h2)
        · rw [h2]; exact .inr ⟨.inl rfl, e⟩
        · exact .inl h2
        · exact .inr ⟨.inr h2.1, h2.2⟩
      · rintro (h2 | ⟨h2 | h2, h3⟩)
        · exact .inr (.inl h2)
        · exact .inl h2
        · exact .inr (.inr ⟨h2, h3⟩)
theorem delF_once {l : List Fl} (h : Once l) (s : ByteArray) : Once (delF l s) := by
  unfold Once delF
  exact h.sublist (List.filter_sublist.map _)
theorem delF_mem (l : List Fl) (s : ByteArray) (g : Fl) : g ∈ delF l s ↔ g ∈ l ∧ g.name ≠ s := by
  unfold delF
  rw [List.mem_filter, decide_eq_true_iff]
theorem lose_once {l : List Fl} (h : Once l) (keep : Int) (torn : Bool) : Once (l.map (lose1 keep torn)) := by
  unfold Once
  rw [List.map_map]
  exact h
end Go.Proofs.Ytoedkemjidgbeaa.Dk
