/- What a device keeps to, it keeps to behind each call: plain Lean. -/
import Derived.Test.YtoedkemjidgbeaaDkI
namespace Go.Proofs.Ytoedkemjidgbeaa.Dk
open Go Go.RowKit Go.Proofs.YtoedkemjidgbeaaW.PrintWords
set_option linter.unusedVariables false
theorem sizes_putF {l : List Fl} (h : Once l) (f' : Fl) : sizes (putF l f') = sizes l - (match findF l f'.name with | some f => (f.b.length : Int) | none => 0) + f'.b.length := by
  induction l with
  | nil => simp [putF, sizes, findF]
  | cons x r ih =>
    unfold Once at h
    rw [List.map_cons, List.nodup_cons] at h
    have ih := ih h.2
    unfold findF at ih ⊢
    rw [List.find?_cons]
    by_cases e : x.name = f'.name
    · rw [decide_eq_true e, show putF (x :: r) f' = f' :: r from if_pos e, sizes_cons, sizes_cons]
      simp only
      omega
    · rw [decide_eq_false e, show putF (x :: r) f' = x :: putF r f' from if_neg e, sizes_cons, sizes_cons, ih]
      simp only
      omega
theorem sizes_putF_le {l : List Fl} (h : Once l) (f' : Fl) : sizes (putF l f') ≤ sizes l + f'.b.length := by
  rw [sizes_putF h]
  split
  · next f _ =>
    have := Int.natCast_nonneg f.b.length
    omega
  · omega
theorem fileOr_some {d : DS} {s : ByteArray} {f : Fl} (h : findF d.files s = some f) : d.fileOr s = f := by unfold DS.fileOr; rw [h]; rfl
theorem fileOr_none {d : DS} {s : ByteArray} (h : findF d.files s = none) : d.fileOr s = ⟨s, [], 0⟩ := by unfold DS.fileOr; rw [h]; rfl
theorem fileOr_name (d : DS) (s : ByteArray) : (d.fileOr s).name = s := by
  cases h : findF d.files s with
  | none => rw [fileOr_none h]
  | some f => rw [fileOr_some h]; exact (findF_some h).2
theorem sizes_map_le {l : List Fl} (F : Fl → Fl) (h : ∀ f ∈ l, (F f).b.length ≤ f.b.length) : sizes (l.map F) ≤ sizes l := by
  induction l with
  | nil => exact Int.le_refl _
  | cons x r ih =>
    rw [List.map_cons, sizes_cons, sizes_cons]
    have h1 := ih (fun f hf => h f (List.mem_cons_of_mem _ hf))
    have h2 := h x List.mem_cons_self
    omega
theorem sizes_delF_le (l : List Fl) (s : ByteArray) : sizes (delF l s) ≤ sizes l := by
  induction l with
  | nil => exact Int.le_refl _
  | cons x r ih =>
    unfold delF at ih ⊢
    rw [List.filter_cons]
    split
    · rw [sizes_cons, sizes_cons]; omega
    · rw [sizes_cons]; omega
namespace DS
variable {d : DS}
theorem Fit.act (h : d.Fit) : d.act.Fit := ⟨h.room, h.fits, h.bytes⟩
theorem Fit.byteOr (h : d.Fit) (s : ByteArray) : ∀ x ∈ (d.fileOr s).b, 0 ≤ x ∧ x ≤ 255 := by
  cases e : findF d.files s with
  | none => rw [fileOr_none e]; intro x hx; cases hx
  | some f => rw [fileOr_some e]; exact h.bytes f (findF_some e).1
/-- A file is put: its bytes are bytes, and there is room. -/
theorem Fit.put (h : d.Fit) (ho : Once d.files) (f : Fl) (hb : ∀ x ∈ f.b, 0 ≤ x ∧ x ≤ 255) (hs : sizes (putF d.files f) ≤ d.room) : (d.put f).Fit :=
  ⟨h.room, hs, fun g hg => ((putF_mem ho f g).1 hg).elim (fun e => by rw [e]; exact hb) (fun e => h.bytes g e.1)⟩
theorem Fit.append (h : d.Fit) (ho : Once d.files) (s : ByteArray) {xs : List Int} (hx : ∀ x ∈ xs, 0 ≤ x ∧ x ≤ 255) (hl : (xs.length : Int) ≤ d.free) : (d.put { d.fileOr s with b := (d.fileOr s).b ++ xs }).Fit := by
  refine h.put ho _ (fun x hm => (List.mem_append.1 hm).elim (h.byteOr s x) (hx x)) ?_
  rw [sizes_putF ho]
  have hn : ({ d.fileOr s with b := (d.fileOr s).b ++ xs } : Fl).name = s := fileOr_name d s
  rw [hn]
  unfold DS.free at hl
  simp only [List.length_append]
  cases e : findF d.files s with
  | none =>
    rw [fileOr_none e]
    simp only [List.length_nil]
    omega
  | some f =>
    rw [fileOr_some e]
    simp only
    omega
theorem Fit.less (h : d.Fit) (ho : Once d.files) {f f' : Fl} (hf : f ∈ d.files) (hn : f'.name = f.name) (hb : ∀ x ∈ f'.b, x ∈ f.b) (hl : f'.b.length ≤ f.b.length) : (d.put f').Fit := by
  refine h.put ho f' (fun x hx => h.bytes f hf x (hb x hx)) ?_
  rw [sizes_putF ho, hn, findF_of ho hf]
  have := h.fits
  simp only
  omega
theorem Fit.drop (h : d.Fit) (s : ByteArray) : (d.drop s).Fit := ⟨h.room, Int.le_trans (sizes_delF_le _ _) h.fits, fun f hf => h.bytes f ((delF_mem _ _ _).1 hf).1⟩
theorem Fit.move (h : d.Fit) (ho : Once d.files) {f : Fl} (hf : f ∈ d.files) (b : ByteArray) : ((d.drop f.name).put ⟨b, f.b, f.safe⟩).Fit := by
  refine (h.drop f.name).put (delF_once ho _) _ (h.bytes f hf) ?_
  have h1 := sizes_putF_le (delF_once ho f.name) (⟨b, f.b, f.safe⟩ : Fl)
  have h2 := sizes_del ho hf
  have h3 := h.fits
  simp only at h1
  show sizes (putF (delF d.files f.name) ⟨b, f.b, f.safe⟩) ≤ d.room
  omega
theorem turnLast_len (l : List Int) : (turnLast l).length = l.length := by unfold turnLast; rw [List.length_set]
theorem loseB_len (keep : Int) (torn : Bool) (f : Fl) : (loseB keep torn f).length ≤ f.b.length := by
  unfold loseB
  split
  · rw [turnLast_len, List.length_take]; omega
  · rw [List.length_take]; omega
theorem loseB_bytes (keep : Int) (torn : Bool) (f : Fl) (h : ∀ x ∈ f.b, 0 ≤ x ∧ x ≤ 255) : ∀ x ∈ loseB keep torn f, 0 ≤ x ∧ x ≤ 255 := by
  have h1 : ∀ x ∈ f.b.take (f.safe + kept keep f), 0 ≤ x ∧ x ≤ 255 := fun x hx => h x (List.mem_of_mem_take hx)
  unfold loseB
  split
  · intro x hx
    unfold turnLast at hx
    rcases List.mem_or_eq_of_mem_set hx with h2 | h2
    · exact h1 x h2
    · have : ∀ i, 0 ≤ (f.b.take (f.safe + kept keep f)).getD i 0 ∧ (f.b.take (f.safe + kept keep f)).getD i 0 ≤ 255 := by
        intro i
        rw [List.getD_eq_getElem?_getD]
        cases e : (f.b.take (f.safe + kept keep f))[i]? with
        | none => simp
        | some y => exact h1 y (List.mem_of_getElem? e)
      have := this ((f.b.take (f.safe + kept keep f)).length - 1)
      omega
  · exact h1
theorem Fit.off (h : d.Fit) (keep : Int) (torn : Bool) : (d.off keep torn).Fit := by
  unfold DS.off
  split
  · exact h
  · refine ⟨h.room, Int.le_trans (sizes_map_le _ (fun f _ => loseB_len keep torn f)) h.fits, fun g hg => ?_⟩
    obtain ⟨f, hf, rfl⟩ := List.mem_map.1 hg
    exact loseB_bytes keep torn f (h.bytes f hf)
theorem Fit.on (h : d.Fit) : d.on.Fit := ⟨h.room, h.fits, h.bytes⟩
theorem Fit.arm (h : d.Fit) (n keep : Int) (torn : Bool) : (d.arm n keep torn).Fit := ⟨h.room, h.fits, h.bytes⟩
theorem Fit.new (room : Int) : (Dk.new room).Fit := ⟨by unfold Dk.new; simp only; omega, by unfold Dk.new; simp only [sizes, List.map_nil, List.sum_nil]; omega, fun f hf => (by cases hf)⟩
end DS
end Go.Proofs.Ytoedkemjidgbeaa.Dk
