/- How many bytes are left on a device: a loop over its files in any order. -/
import Derived.Test.YtoedkemjidgbeaaDkD
import Derived.Maps.RangeWalk
import Derived.WalkKit
namespace Go.Proofs.Ytoedkemjidgbeaa.Dk
open Go Go.RowKit Go.Proofs.YtoedkemjidgbeaaW.PrintWords Go.Proofs.YtoedkemjidgbeaaW.PrintLast Go.Proofs.YtoedkemjidgbeaaW.PrintMore Go.Proofs.YtoedkemjidgbeaaMy Go.Proofs.Ytoedkemjidgbeaa Go.Proofs.YtoedkemjidgbeaaPw Go.Proofs.Ytoedkemjidgbeaa.PAll
attribute [local go_sem] max2_int min2_int max_two min_two max_three min_three
set_option linter.unusedVariables false
set_option linter.unusedSimpArgs false
/-- The files that are still to come in a loop over the map. -/
structure Rest (l : List Fl) (D : DataW Unit) (left : Lit → Bool) (todo : List Fl) : Prop where
  once : Once todo
  mem : ∀ f ∈ todo, f ∈ l ∧ left (ky f.name) = true
  all : ∀ f ∈ l, left (ky f.name) = true → f ∈ todo
  has : ∀ kl, left kl = true → Maps.has D kl = true
section
variable {l todo : List Fl} {D : DataW Unit} {left : Lit → Bool} {bl : ByteArray → Nat}
theorem Rest.start (h : MapRep D l bl) (ho : Once l) : Rest l D (Maps.has D) l := ⟨ho, fun f hf => ⟨hf, h.2.2.1 f hf⟩, fun f hf _ => hf, fun _ h => h⟩
theorem Rest.done (h : Rest l D left todo) (hl : ∀ kl, left kl = false) : todo = [] := by
  cases todo with
  | nil => rfl
  | cons f r =>
    have := (h.mem f List.mem_cons_self).2
    rw [hl] at this
    cases this
theorem Rest.took (h : Rest l D left todo) (hm : MapRep D l bl) {kl : Lit} (hl : left kl = true) : ∃ f, f ∈ todo ∧ kl = ky f.name := by
  obtain ⟨f, hf, rfl⟩ := hm.2.1 kl (h.has kl hl)
  exact ⟨f, h.all f hf hl, rfl⟩
theorem ky_same (a b : ByteArray) : (ky a).sameKey (ky b) = decide (a = b) := by
  by_cases e : a = b
  · subst e
    simp [ky, Lit.sameKey]
  · rw [decide_eq_false e, Maps.sameKey_ne (ky_ne e)]
theorem Rest.strike (h : Rest l D left todo) (f : Fl) : Rest l D (fun z => left z && !z.sameKey (ky f.name)) (delF todo f.name) := by
  refine ⟨delF_once h.once _, fun g hg => ?_, fun g hg hl => ?_, fun kl hl => ?_⟩
  · obtain ⟨a, b⟩ := (delF_mem todo f.name g).1 hg
    refine ⟨(h.mem g a).1, ?_⟩
    simp only [ky_same, (h.mem g a).2, decide_eq_false b]
    rfl
  · simp only [ky_same, Bool.and_eq_true, Bool.not_eq_true', decide_eq_false_iff_not] at hl
    exact (delF_mem todo f.name g).2 ⟨h.all g hg hl.1, hl.2⟩
  · simp only [Bool.and_eq_true] at hl
    exact h.has kl hl.1
theorem sizes_cons (f : Fl) (l : List Fl) : sizes (f :: l) = f.b.length + sizes l := rfl
theorem sizes_nonneg (l : List Fl) : 0 ≤ sizes l := by
  induction l with
  | nil => exact Int.le_refl _
  | cons f r ih => rw [sizes_cons]; omega
theorem delF_notin {l : List Fl} {s : ByteArray} (h : s ∉ l.map Fl.name) : delF l s = l := by
  unfold delF
  rw [List.filter_eq_self]
  intro f hf
  exact decide_eq_true (fun e => h (List.mem_map.2 ⟨f, hf, e⟩))
theorem sizes_del (h : Once l) {f : Fl} (hf : f ∈ l) : sizes l = sizes (delF l f.name) + f.b.length := by
  induction l with
  | nil => cases hf
  | cons x r ih =>
    unfold Once at h
    rw [List.map_cons, List.nodup_cons] at h
    rcases List.mem_cons.1 hf with rfl | hm
    · have : delF (f :: r) f.name = r := by
        rw [← delF_notin h.1]
        unfold delF
        simp
      rw [this, sizes_cons]
      omega
    · have hne : x.name ≠ f.name := fun e => h.1 (by rw [e]; exact List.mem_map.2 ⟨f, hm, rfl⟩)
      have : delF (x :: r) f.name = x :: delF r f.name := by
        unfold delF
        simp [hne]
      rw [this, sizes_cons, sizes_cons, ih h.2 hm]
      omega
end
section
variable {S : Nat → Prop} {w : World} {g : Nat} {d : DS} {mb n : Nat} {D : DataW Unit} {bl : ByteArray → Nat} {vl : ByteArray → Value}
theorem elem_ptr {l : List Fl} (h : MapRep D l bl) {f : Fl} (hf : f ∈ l) {c : Value} {yd : DataW Unit} {yp : List MemPlace} (hv : ptrR c = some (yd, yp)) (hat : ∀ zd, D.atKey (ky f.name) zd = yd) : c = .pointer (some ⟨bl f.name, 0, none⟩) := by
  have e := h.1 f.name
  rw [hat .nil, if_pos (findF_isSome.2 (List.mem_map.2 ⟨f, hf, rfl⟩))] at e
  subst e
  obtain ⟨q, rfl, hq⟩ := ptrR_lit hv
  rw [show bl f.name = q by omega]
set_option maxHeartbeats 4000000 in
set_option maxRecDepth 100000 in
theorem Free_Q (h : DevW S w g d mb n D bl vl) (hok : d.Fit) : Calls Try.prog 22 #[.pointer (some ⟨g, 0, none⟩)] w fun e w' => e = .returned (.int .i64 d.free) ∧ Below w.heap.size w w' := by
  have z0 : w.cell? ⟨g, 0, none⟩ = some (.map (some mb)) := h.cell 0
  have z1 : w.cell? ⟨g, 1, none⟩ = some (.int .i64 d.room) := h.cell 1
  have hown := h.own
  have hmlt := h.own.lt
  have HW := Aside0.mk h
  have HOk := Aside0.mk hok
  clear h hok
  go_enter Try.func22, Try.ntmps22
  go_wp2_with (first | (at_range; refine wpList_range_own _ rfl _ 59 rfl 9 62 keyed Try.underlying59 ptrR mb n D rfl hown ?_; intro w1 hrg hg hs) | go_in)
  go_frame
  go_loopw [3, 5] (fun u3 _ wr => ∃ left cnt todo, u3 = .int .i64 (d.room - sizes d.files + sizes todo) ∧ wr.ranges Try.prog 9 ptrR mb w.heap.size n D left cnt ∧ Rest d.files D left todo ∧ sizes todo ≤ sizes d.files ∧ Below w.heap.size w wr)
    (fun _ _ wr => wr.rangeLeft mb w.heap.size)
  case atStart => exact ⟨_, _, d.files, by simp, hrg, Rest.start HW.out.rep HW.out.cells.1, Int.le_refl _, (Below.refl _ _).grown hg (Nat.le_refl _) (fun k hk => by cases hk)⟩
  case round =>
    clear hown z0 z1
    obtain ⟨left, cnt, todo, rfl, hrg, hR, hle, hb⟩ := hrel
    have HRest := Aside0.mk hR
    have HB := Aside0.mk hb
    have HLe := Aside0.mk hle
    clear hR hb hle
    go_wp2_with (first
      | (at_next; refine wpList_next_ranges _ rfl _ rfl 9 keyed ptrR id id (fun key _ _ => ⟨key, rfl⟩) (fun v _ _ => ⟨v, rfl⟩) mb w.heap.size n _ _ _ rfl hrg ?_ ?_)
      | go_in)
    · intro hc0 hl0
      have e := HRest.out.done hl0
      subst e
      go_wp2
      go_ret
      exact ⟨by simp [DS.free, sizes], HB.out⟩
    · intro x c kl yd yp w1 cnt1 hkey hlx hv hat hrg1 hlt hg1 hs1 hen
      obtain ⟨f, hf, rfl⟩ := HRest.out.took HW.out.rep hlx
      have hfl := (HRest.out.mem f hf).1
      have e := elem_ptr (c := c) HW.out.rep hfl hv hat
      subst e
      change (Instr.entry (.pointer (some ⟨w.heap.size, 0, none⟩))).run Try.prog w1 = .ok (.tuple #[x, .pointer (some ⟨bl f.name, 0, none⟩)]) w1 at hen
      have hb1 : Below w.heap.size w w1 := HB.out.grown hg1 HB.out.size (fun k hk => by cases hk; exact Nat.le_refl _)
      obtain ⟨q1, q2, q3, q4, q5⟩ := (HW.out.below hb1).cells.2.1 f hfl
      obtain ⟨A, cc, ev⟩ := Kd.R_slice q3
      have zf : w1.cell? ⟨bl f.name, 0, none⟩ = some (.slice A f.b.length cc) := by
        rw [← ev]
        exact (blk_cell q1 0).trans rfl
      have HQ := Aside0.mk (sizes_del HRest.out.once hf)
      have hR1 := Aside0.mk (HRest.out.strike f)
      obtain ⟨m, hm⟩ : ∃ m : Nat, m = f.b.length := ⟨_, rfl⟩
      rw [← hm] at zf
      have HM := Aside0.mk hm
      have HB1 := Aside0.mk hb1
      have hbl : ∃ b, b = bl f.name := ⟨_, rfl⟩
      obtain ⟨b, hbl⟩ := hbl
      rw [← hbl] at hen zf
      clear q1 q2 q3 q4 q5 hm hb1 hf hfl hat hv hkey hlx ev hbl
      go_wp2
      go_roundw
      case rel =>
        refine ⟨_, cnt1, delF todo f.name, ?_, hrg1, hR1.out, ?_, HB1.out⟩
        · have h1 := HQ.out
          have h2 := HM.out
          have h3 := HLe.out
          have h4 := sizes_nonneg (delF todo f.name)
          have h5 := HOk.out.fits
          have h6 := HOk.out.room
          have h7 := sizes_nonneg d.files
          rw [← h2] at h1
          congr 1
          rw [w64 (by omega) (by omega)]
          omega
        · have h1 := HQ.out
          have h3 := HLe.out
          omega
      case measure => rw [hrg1.left_eq, hrg.left_eq]; exact hlt
end
end Go.Proofs.Ytoedkemjidgbeaa.Dk
