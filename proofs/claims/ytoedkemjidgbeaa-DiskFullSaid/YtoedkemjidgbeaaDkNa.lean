/- Names: all files' names, in order. -/
import Derived.Test.YtoedkemjidgbeaaDkS
import Derived.Test.YtoedkemjidgbeaaIt
import Derived.Sort.KeysCollected
namespace Go.Proofs.Ytoedkemjidgbeaa.Dk
open Go Go.RowKit Go.Proofs.YtoedkemjidgbeaaW.PrintWords Go.Proofs.YtoedkemjidgbeaaW.PrintLast Go.Proofs.YtoedkemjidgbeaaW.PrintMore Go.Proofs.YtoedkemjidgbeaaMy Go.Proofs.Ytoedkemjidgbeaa Go.Proofs.YtoedkemjidgbeaaPw Go.Proofs.Ytoedkemjidgbeaa.PAll
set_option linter.unusedVariables false
set_option linter.unusedSimpArgs false
/-- The names, as lists of bytes. -/
def nmL (l : List Fl) : List (List UInt8) := l.map fun f => f.name.data.toList
/-- The names in order. -/
def DS.names (d : DS) : List ByteArray := ((nmL d.files).mergeSort leB).map fun b => ⟨b.toArray⟩
theorem nmL_nodup {l : List Fl} (h : Once l) : (nmL l).Nodup := by
  unfold nmL
  unfold Once at h
  rw [show (fun f : Fl => f.name.data.toList) = (fun s : ByteArray => s.data.toList) ∘ Fl.name from rfl, ← List.map_map]
  exact List.Pairwise.map _ (fun a b hne e => hne (ba_inj (by rw [ba_toList, ba_toList]; exact e))) h
theorem mem_nmL {l : List Fl} {x : List UInt8} : x ∈ nmL l ↔ ∃ f ∈ l, f.name.data.toList = x := by unfold nmL; rw [List.mem_map]
section
variable {S : Nat → Prop} {w : World} {g : Nat} {d : DS} {mb n : Nat} {D : DataW Unit} {bl : ByteArray → Nat} {vl : ByteArray → Value}
theorem names_perm (h : DevW S w g d mb n D bl vl) : (nmL d.files).Perm (strKeys D) := by
  obtain ⟨es, hes, hp, _⟩ := h.own.entries keyed
  obtain ⟨es2, e2, hk2⟩ := h.own.keysOf
  have hee : es2 = es := by rw [hes] at e2; cases e2; rfl
  subst hee
  subst hes
  refine perm_strKeys hp (fun p hpm => ?_) (nmL_nodup h.cells.1) (fun x => ?_)
  · obtain ⟨key, hkey⟩ := hk2 p hpm
    obtain ⟨x, _, e, _⟩ := Maps.keyOf_str Try.underlying9 hkey
    exact ⟨x, e⟩
  · rw [mem_nmL]
    constructor
    · rintro ⟨f, hf, rfl⟩
      exact h.rep.2.2.1 f hf
    · intro hx
      obtain ⟨f, hf, e⟩ := h.rep.2.1 (.string x) hx
      refine ⟨f, hf, ?_⟩
      unfold ky at e
      injection e with e
      exact e.symm
theorem mem_has (h : DevW S w g d mb n D bl vl) : (n : Int) ≤ d.acts := h.cnt
theorem str_row {W : World} {base n : Nat} {v : Value} {l : List (List UInt8)} (h : W.ownsRow base 9 1 v n (l.map encStr)) : Kd.R Kd.string 9 W base (fun _ => True) v (l.map fun b => ⟨b.toArray⟩) := by
  have e : l.map encStr = (l.map fun b => (⟨b.toArray⟩ : ByteArray)).map Value.string := by rw [List.map_map]; rfl
  rw [e] at h
  refine Kd.R_of_own (enc := Value.string) (h1 := fun _ => rfl) ?_ (fun _ _ => trivial)
  have hn : n = (l.map fun b => (⟨b.toArray⟩ : ByteArray)).length := by have := h.1; simp at this; simp; omega
  rw [← hn]
  exact h
set_option maxHeartbeats 4000000 in
set_option maxRecDepth 100000 in
theorem Names_Q (h : DevW S w g d mb n D bl vl) (hb : d.acts ≤ 1000000000000) : Calls Try.prog 21 #[.pointer (some ⟨g, 0, none⟩)] w fun e w' => ∃ v, e = .returned v ∧ Kd.R Kd.string 9 w' w.heap.size (fun _ => True) v d.names ∧ Below w.heap.size w w' := by
  have z0 : w.cell? ⟨g, 0, none⟩ = some (.map (some mb)) := h.cell 0
  have hown := h.own
  have hsz := h.own.size_le
  have hcnt := h.cnt
  have hp := names_perm h
  have HP := Aside0.mk hp
  have hmax : Maps.size D ≤ maxLen := by unfold maxLen; omega
  have hbytes : Maps.size D * 16 ≤ 140737488355328 := by omega
  have HOwn := Aside0.mk hown
  have HMax := Aside0.mk hmax
  have HBytes := Aside0.mk hbytes
  clear h hown hsz hcnt hp hmax hbytes
  refine (callsIn_wide (n := 6)).1 ?_
  have hfK : Fence.wide.fn 42 := trivial
  have hfS : Fence.wide.fn 41 := trivial
  refine callsIn_of_wp Try.func21 rfl trivial ?_ rfl
  simp only [Try.ntmps21, List.size_toArray, List.length_cons, List.length_nil, Nat.reduceAdd, Nat.reduceSub, Array.replicate_succ, Array.replicate_zero, List.push_toArray, List.append_toArray, List.nil_append, List.cons_append]
  gi_wp2_with (first
    | (gi_at_call 42; refine (Try.maps_Keys_42 _ _).mono ?_; rintro e w' ⟨rfl, rfl⟩)
    | (gi_at_call 41; refine (Try.slices_Sorted_keys_41_42 mb n D ptrR w HOwn.out HMax.out HBytes.out).mono ?_; rintro e w' ⟨v, ss, rfl, hS, hrow, hnil, hb⟩))
  go_ret
  refine ⟨v, rfl, ?_, ((Below.refl _ w).alloc (Nat.le_refl _) _).trans (hb.mono (by simp))⟩
  have e1 : (ss.mergeSort fun x y => decide (x ≤ y)) = (nmL d.files).mergeSort leB := mergeSort_of_perm (hS.trans HP.out.symm)
  rw [e1] at hrow
  exact str_row (ownsRow_base_a (base' := w.heap.size) hrow (by simp))
end
end Go.Proofs.Ytoedkemjidgbeaa.Dk
