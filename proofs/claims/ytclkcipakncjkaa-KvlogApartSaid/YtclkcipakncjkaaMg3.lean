/- Joined texts of this claim, in build order. -/
import Derived.Test.YtclkcipakncjkaaMg2
import Derived.Test.YtclkcipakncjkaaMg1
import Derived.Test.YtclkcipakncjkaaOp
/- A device that is on, without a fuse: what its files are, behind the store's calls. -/
namespace Go.Proofs.Ytclkcipakncjkaa.Kv
open Go Go.RowKit Go.Proofs.YtclkcipakncjkaaW.PrintWords Go.Proofs.YtclkcipakncjkaaW.PrintLast Go.Proofs.YtclkcipakncjkaaW.PrintMore Go.Proofs.YtclkcipakncjkaaMy Go.Proofs.Ytclkcipakncjkaa Go.Proofs.YtclkcipakncjkaaPw Go.Proofs.Ytclkcipakncjkaa.PAll Go.Proofs.Ytclkcipakncjkaa.Dk
set_option linter.unusedVariables false
set_option linter.unusedSimpArgs false
theorem findF_putF (l : List Fl) (f : Fl) (s : ByteArray) : findF (putF l f) s = if f.name = s then some f else findF l s := by
  induction l with
  | nil =>
    unfold putF findF
    by_cases c : f.name = s
    · rw [if_pos c, List.find?_cons_of_pos (by simp [c])]
    · rw [if_neg c, List.find?_cons_of_neg (by simp [c])]
  | cons x r ih =>
    unfold putF
    by_cases e : x.name = f.name
    · rw [if_pos e]
      unfold findF
      by_cases c : f.name = s
      · rw [if_pos c, List.find?_cons_of_pos (by simp [c])]
      · rw [if_neg c, List.find?_cons_of_neg (by simp [c]), List.find?_cons_of_neg (by simp [e, c])]
    · rw [if_neg e]
      unfold findF at ih ⊢
      by_cases c : x.name = s
      · rw [List.find?_cons_of_pos (by simp [c]), List.find?_cons_of_pos (by simp [c]), if_neg (fun h => e (by rw [c, h]))]
      · rw [List.find?_cons_of_neg (by simp [c]), List.find?_cons_of_neg (by simp [c])]
        exact ih
theorem findF_delF (l : List Fl) (s t : ByteArray) : findF (delF l s) t = if t = s then none else findF l t := by
  unfold findF delF
  by_cases c : t = s
  · rw [if_pos c, List.find?_eq_none]
    intro f hf
    have := of_decide_eq_true (List.mem_filter.1 hf).2
    simp [c, this]
  · rw [if_neg c, List.find?_filter]
    congr 1
    funext f
    by_cases e : f.name = t
    · simp [e, c]
    · simp [e]
/-- How many bytes a name's file has. -/
def lenF (l : List Fl) (s : ByteArray) : Nat := ((findF l s).map fun f => f.b.length).getD 0
theorem lenF_none {l : List Fl} {s : ByteArray} (h : findF l s = none) : lenF l s = 0 := by unfold lenF; rw [h]; rfl
theorem lenF_some {l : List Fl} {s : ByteArray} {f : Fl} (h : findF l s = some f) : lenF l s = f.b.length := by unfold lenF; rw [h]; rfl
theorem lenF_cons (x : Fl) (r : List Fl) (s : ByteArray) : lenF (x :: r) s = if x.name = s then x.b.length else lenF r s := by
  unfold lenF findF
  by_cases c : x.name = s
  · rw [if_pos c, List.find?_cons_of_pos (by simp [c])]; rfl
  · rw [if_neg c, List.find?_cons_of_neg (by simp [c])]
theorem sizes_cons (x : Fl) (r : List Fl) : Dk.sizes (x :: r) = (x.b.length : Int) + Dk.sizes r := by
  unfold Dk.sizes
  rw [List.map_cons, List.sum_cons]
theorem sizes_putF (l : List Fl) (f : Fl) : Dk.sizes (putF l f) = Dk.sizes l - (lenF l f.name : Int) + (f.b.length : Int) := by
  induction l with
  | nil =>
    show Dk.sizes [f] = Dk.sizes [] - _ + _
    rw [sizes_cons]
    unfold lenF findF Dk.sizes
    simp
  | cons x r ih =>
    unfold putF
    rw [lenF_cons]
    by_cases e : x.name = f.name
    · rw [if_pos e, if_pos e, sizes_cons, sizes_cons]
      omega
    · rw [if_neg e, if_neg e, sizes_cons, sizes_cons, ih]
      omega
theorem sizes_delF {l : List Fl} (h : Once l) (s : ByteArray) : Dk.sizes (delF l s) = Dk.sizes l - (lenF l s : Int) := by
  induction l with
  | nil => rfl
  | cons x r ih =>
    unfold Once at h
    rw [List.map_cons, List.nodup_cons] at h
    have ih := ih h.2
    rw [lenF_cons, sizes_cons]
    by_cases e : x.name = s
    · rw [if_pos e]
      have h0 : lenF r s = 0 := lenF_none (by
        unfold findF
        rw [List.find?_eq_none]
        intro f hf
        simp only [decide_eq_true_eq]
        intro e2
        exact h.1 (List.mem_map.2 ⟨f, hf, by rw [e, e2]⟩))
      have hd : delF (x :: r) s = delF r s := by
        unfold delF
        rw [List.filter_cons, if_neg (by simp [e])]
      rw [hd, ih, h0]
      omega
    · rw [if_neg e]
      have hd : delF (x :: r) s = x :: delF r s := by
        unfold delF
        rw [List.filter_cons, if_pos (by simp [e])]
      rw [hd, sizes_cons, ih]
      omega
theorem sizes_nonneg (l : List Fl) : 0 ≤ Dk.sizes l := by
  induction l with
  | nil => exact Int.le_refl _
  | cons x r ih => rw [sizes_cons]; omega
theorem lenF_le (l : List Fl) (s : ByteArray) : (lenF l s : Int) ≤ Dk.sizes l := by
  induction l with
  | nil => exact Int.le_refl _
  | cons x r ih =>
    have := sizes_nonneg r
    rw [lenF_cons, sizes_cons]
    split <;> omega
theorem fileOr_name (d : DS) (s : ByteArray) : (d.fileOr s).name = s := by
  unfold DS.fileOr
  cases h : findF d.files s with
  | none => rfl
  | some f => exact (findF_some h).2
theorem fileOr_len (d : DS) (s : ByteArray) : (d.fileOr s).b.length = lenF d.files s := by
  unfold DS.fileOr lenF
  cases h : findF d.files s with
  | none => rfl
  | some f => rfl
structure Quiet (d : DS) (R : Int) : Prop where
  down : d.down = false
  fuse : d.fuse = 0
  room : d.room = R
  once : Once d.files
  le : Dk.sizes d.files ≤ R
section
variable {d : DS} {R : Int} {s t : ByteArray} {f : Fl}
theorem Quiet.new (h : 0 ≤ R ∧ R ≤ 1048576) : Quiet (new R) R := ⟨rfl, rfl, by show min (max R 0) 1048576 = R; omega, List.nodup_nil, by show (0 : Int) ≤ R; exact h.1⟩
theorem Quiet.ready (h : Quiet d R) (hs : nameOk s = true) : d.ready s = 0 := by
  unfold DS.ready
  rw [h.down, if_neg (by decide), if_pos hs]
theorem Quiet.goes (h : Quiet d R) : d.goes = false := by
  unfold DS.goes
  rw [h.fuse]
  rfl
theorem Quiet.there_none (h : Quiet d R) (hs : nameOk s = true) (hf : findF d.files s = none) : d.there s = 5 := by
  unfold DS.there
  rw [if_neg (by rw [h.ready hs]; decide), hf, if_neg (by decide)]
theorem Quiet.there_some (h : Quiet d R) (hs : nameOk s = true) (hf : findF d.files s = some f) : d.there s = 0 := by
  unfold DS.there
  rw [if_neg (by rw [h.ready hs]; decide), hf, if_pos (by rfl)]
theorem Quiet.free (h : Quiet d R) : d.free = R - Dk.sizes d.files := by
  unfold DS.free
  rw [h.room]
theorem Quiet.full (h : Quiet d R) (hs : nameOk s = true) {X : List Int} (hX : R - Dk.sizes d.files < (X.length : Int)) : d.append s X = (6, d) := by
  unfold DS.append
  rw [if_neg (fun e => e (h.ready hs)), if_pos (by rw [h.free]; exact hX)]
theorem act_quiet (h : Quiet d R) : d.act.files = d.files ∧ d.act.down = false ∧ d.act.fuse = 0 ∧ d.act.room = R := by
  refine ⟨rfl, h.down, ?_, h.room⟩
  show (if d.fuse = 0 then (0 : Int) else d.fuse - 1) = 0
  rw [if_pos h.fuse]
theorem Quiet.put (h : Quiet d R) (f : Fl) (hle : Dk.sizes d.files - (lenF d.files f.name : Int) + (f.b.length : Int) ≤ R) : Quiet (d.act.put f) R ∧ (∀ t, findF (d.act.put f).files t = if f.name = t then some f else findF d.files t) ∧ Dk.sizes (d.act.put f).files = Dk.sizes d.files - (lenF d.files f.name : Int) + (f.b.length : Int) :=
  ⟨⟨h.down, (act_quiet h).2.2.1, h.room, putF_once h.once f, by show Dk.sizes (putF d.files f) ≤ R; rw [sizes_putF]; exact hle⟩, fun t => findF_putF d.files f t, sizes_putF d.files f⟩
theorem Quiet.append (h : Quiet d R) (hs : nameOk s = true) {X : List Int} (hX : ¬ R - Dk.sizes d.files < (X.length : Int)) : ∃ d', d.append s X = (0, d') ∧ Quiet d' R ∧ (∀ t, findF d'.files t = if s = t then some ⟨s, (d.fileOr s).b ++ X, (d.fileOr s).safe⟩ else findF d.files t) ∧ Dk.sizes d'.files = Dk.sizes d.files + (X.length : Int) := by
  have hn := fileOr_name d s
  have hl := fileOr_len d s
  obtain ⟨h1, h2, h3⟩ := h.put ⟨s, (d.fileOr s).b ++ X, (d.fileOr s).safe⟩ (by
    show Dk.sizes d.files - (lenF d.files s : Int) + (((d.fileOr s).b ++ X).length : Int) ≤ R
    rw [List.length_append, hl]
    omega)
  refine ⟨_, ?_, h1, h2, ?_⟩
  · unfold DS.append
    rw [if_neg (fun e => e (h.ready hs)), if_neg (by rw [h.free]; exact hX)]
    simp only [h.goes, Bool.false_eq_true, if_false]
    show (0, d.act.put { d.fileOr s with b := (d.fileOr s).b ++ X }) = _
    rw [show ({ d.fileOr s with b := (d.fileOr s).b ++ X } : Fl) = ⟨(d.fileOr s).name, (d.fileOr s).b ++ X, (d.fileOr s).safe⟩ from rfl, hn]
  · rw [h3]
    show Dk.sizes d.files - (lenF d.files s : Int) + (((d.fileOr s).b ++ X).length : Int) = _
    rw [List.length_append, hl]
    omega
theorem Quiet.sync_none (h : Quiet d R) (hs : nameOk s = true) (hf : findF d.files s = none) : d.sync s = (5, d) := by
  unfold DS.sync
  rw [if_pos (by rw [h.there_none hs hf]; decide), h.there_none hs hf]
theorem fileOr_findF (hf : findF d.files s = some f) : d.fileOr s = f := by
  unfold DS.fileOr
  rw [hf]
  rfl
theorem Quiet.sync (h : Quiet d R) (hs : nameOk s = true) (hf : findF d.files s = some f) : ∃ d', d.sync s = (0, d') ∧ Quiet d' R ∧ (∀ t, findF d'.files t = if s = t then some ⟨s, f.b, f.b.length⟩ else findF d.files t) ∧ Dk.sizes d'.files = Dk.sizes d.files := by
  have hl := lenF_some hf
  have hn := (findF_some hf).2
  obtain ⟨h1, h2, h3⟩ := h.put ⟨s, f.b, f.b.length⟩ (by
    show Dk.sizes d.files - (lenF d.files s : Int) + (f.b.length : Int) ≤ R
    have := h.le
    omega)
  refine ⟨_, ?_, h1, h2, ?_⟩
  · unfold DS.sync
    rw [if_neg (fun e => e (h.there_some hs hf)), fileOr_findF hf]
    simp only [h.goes, Bool.false_eq_true, if_false]
    rw [hn]
  · rw [h3]
    show Dk.sizes d.files - (lenF d.files s : Int) + (f.b.length : Int) = _
    omega
theorem Quiet.rename (h : Quiet d R) (hs : nameOk s = true) (ht : nameOk t = true) (hne : s ≠ t) (hf : findF d.files s = some f) : ∃ d', d.rename s t = (0, d') ∧ Quiet d' R ∧ (∀ u, findF d'.files u = if t = u then some ⟨t, f.b, f.safe⟩ else if u = s then none else findF d.files u) ∧ Dk.sizes d'.files = Dk.sizes d.files - (lenF d.files t : Int) := by
  have hl := lenF_some hf
  have hfo : d.act.fileOr s = f := fileOr_findF hf
  have hsz : Dk.sizes (putF (delF d.files s) ⟨t, f.b, f.safe⟩) = Dk.sizes d.files - (lenF d.files t : Int) := by
    rw [sizes_putF, sizes_delF h.once]
    have h0 : lenF (delF d.files s) t = lenF d.files t := by
      unfold lenF
      rw [findF_delF, if_neg (fun e => hne e.symm)]
    show _ - (lenF (delF d.files s) t : Int) + _ = _
    rw [h0]
    show Dk.sizes d.files - (lenF d.files s : Int) - _ + (f.b.length : Int) = _
    omega
  refine ⟨(d.act.drop s).put ⟨t, f.b, f.safe⟩, ?_, ⟨h.down, (act_quiet h).2.2.1, h.room, putF_once (delF_once h.once s) _, ?_⟩, fun u => ?_, hsz⟩
  · unfold DS.rename DS.fall
    rw [if_neg (fun e => e (h.there_some hs hf)), if_neg (by rw [ht]; decide), h.goes, if_neg (by decide)]
    show (0, (d.act.drop s).put ⟨t, (d.act.fileOr s).b, (d.act.fileOr s).safe⟩) = _
    rw [hfo]
  · show Dk.sizes (putF (delF d.files s) ⟨t, f.b, f.safe⟩) ≤ R
    rw [hsz]
    have := h.le
    omega
  · show findF (putF (delF d.files s) ⟨t, f.b, f.safe⟩) u = _
    rw [findF_putF, findF_delF]
theorem Quiet.remove_none (h : Quiet d R) (hs : nameOk s = true) (hf : findF d.files s = none) : d.remove s = (5, d) := by
  unfold DS.remove
  rw [if_pos (by rw [h.there_none hs hf]; decide), h.there_none hs hf]
theorem Quiet.read_none (h : Quiet d R) (hs : nameOk s = true) (hf : findF d.files s = none) : d.read s = ([], 5) := by
  unfold DS.read
  rw [if_pos (by rw [h.there_none hs hf]; decide), h.there_none hs hf]
theorem Quiet.read_some (h : Quiet d R) (hs : nameOk s = true) (hf : findF d.files s = some f) : d.read s = (f.b, 0) := by
  unfold DS.read
  rw [if_neg (fun e => e (h.there_some hs hf)), fileOr_findF hf]
end
end Go.Proofs.Ytclkcipakncjkaa.Kv
/- The store's calls on a device that is on, without a fuse: what they answer, and what the file is. -/
namespace Go.Proofs.Ytclkcipakncjkaa.Kv
open Go Go.RowKit Go.Proofs.YtclkcipakncjkaaW.PrintWords Go.Proofs.YtclkcipakncjkaaW.PrintLast Go.Proofs.YtclkcipakncjkaaW.PrintMore Go.Proofs.YtclkcipakncjkaaMy Go.Proofs.Ytclkcipakncjkaa Go.Proofs.YtclkcipakncjkaaPw Go.Proofs.Ytclkcipakncjkaa.PAll Go.Proofs.Ytclkcipakncjkaa.Dk
set_option linter.unusedVariables false
set_option linter.unusedSimpArgs false
/-- A store's name. -/
structure Nm (n : ByteArray) : Prop where
  ok : nameOk n = true
  dok : nameOk (draftN n) = true
  ne : n ≠ draftN n
  nn : n ≠ ⟨#[]⟩
  sz : n.size ≤ 28
/-- What a call comes to. -/
inductive Plan where
  | ret (e : Int)
  | wr (rs : List ByteArray)
  | sync
  | comp
def planOf (l : List E) (m kind : Int) (key val : ByteArray) (N : Int) : Plan :=
  if kind = 0 then (if 65536 < (recP key val).size then .ret 3 else if getE l key = some val then .ret 0 else .wr (putRecs l m key val))
  else if kind = 1 then (if N < 0 then .ret 1 else if min N.toNat l.length = 0 then .ret 0 else .wr (gones l (min N.toNat l.length)))
  else if kind = 2 then .sync else if kind = 3 then .comp else .ret 0
def runS (d : DS) (n : ByteArray) (l : List E) : Plan → Int × DS × List E
  | .ret e => (e, d, l)
  | .wr rs => writeE d n l rs
  | .sync => ((syncE d n).1, (syncE d n).2, l)
  | .comp => ((compactE d n l).1, (compactE d n l).2, l)
def runR (l : List E) (z free : Int) : Plan → Int × List E × Int
  | .ret e => (e, l, z)
  | .wr rs => writeR l z rs free
  | .sync => (0, l, z)
  | .comp => ((compactR l z free).1, l, (compactR l z free).2)
theorem doesS_run (d : DS) (n : ByteArray) (m : Int) (l : List E) (kind : Int) (key val : ByteArray) (N : Int) : doesS d n m l kind key val N = runS d n l (planOf l m kind key val N) := by
  unfold doesS planOf putE evictE
  repeat' (first | rfl | split)
theorem doesR_run (l : List E) (m z kind : Int) (key val : ByteArray) (N free : Int) : doesR l m z kind key val N free = runR l z free (planOf l m kind key val N) := by
  unfold doesR planOf putR evictR
  repeat' (first | rfl | split)
/-- The bytes that a call writes. -/
def needP (l : List E) : Plan → Int
  | .wr rs => (Fr.putB rs).length
  | .comp => (Fr.putB (allRecs l)).length
  | _ => 0
theorem putB_append (a b : List ByteArray) : Fr.putB (a ++ b) = Fr.putB a ++ Fr.putB b := by
  unfold Fr.putB
  rw [List.filter_append, List.flatMap_append]
/-- A store's file; its records lead to these entries. -/
structure StF (d : DS) (n : ByteArray) (rs : List ByteArray) (l : List E) : Prop where
  file : (findF d.files n = none ∧ rs = []) ∨ ∃ sf, findF d.files n = some ⟨n, Fr.putB rs, sf⟩
  draft : findF d.files (draftN n) = none
  good : ∀ r ∈ rs, Good r
  list : stepAll [] rs = l
theorem stepAll_append (l : List E) (a b : List ByteArray) : stepAll l (a ++ b) = stepAll (stepAll l a) b := by
  unfold stepAll
  rw [List.foldl_append]
theorem stepAll_all : ∀ (l acc : List E), Fit l → KN (acc ++ l) → stepAll acc (allRecs l) = acc ++ l
  | [], acc, _, _ => by simp [allRecs, stepAll]
  | e :: l, acc, hf, hk => by
    have h1 : stepE acc (recP e.f0 e.f1) = acc ++ [e] := by
      unfold stepE
      rw [doneE_recP acc (by have := hf e (List.mem_cons_self ..); omega), Option.getD_some, dropE_no]
      rw [getE_none_iff]
      intro x hx e2
      unfold KN at hk
      rw [List.map_append, List.nodup_append] at hk
      exact hk.2.2 x.f0 (List.mem_map.2 ⟨x, hx, rfl⟩) e.f0 (List.mem_map.2 ⟨e, List.mem_cons_self .., rfl⟩) e2
    have h2 := stepAll_all l (acc ++ [e]) (fun x hx => hf x (List.mem_cons_of_mem _ hx)) (by rw [List.append_assoc]; exact hk)
    show stepAll (stepE acc (recP e.f0 e.f1)) (allRecs l) = _
    rw [h1, h2, List.append_assoc]
    rfl
section
variable {d : DS} {R m z : Int} {n : ByteArray} {rs rs0 : List ByteArray} {l : List E}
theorem StF.new (n : ByteArray) : StF (new R) n [] [] := ⟨.inl ⟨rfl, rfl⟩, rfl, (fun r h => nomatch h), rfl⟩
theorem StF.fileB (f : StF d n rs l) : (d.fileOr n).b = Fr.putB rs := by
  rcases f.file with ⟨h, rfl⟩ | ⟨sf, h⟩
  · unfold DS.fileOr
    rw [h]
    rfl
  · rw [fileOr_findF h]
theorem StF.len (f : StF d n rs l) : lenF d.files n = (Fr.putB rs).length := by rw [← fileOr_len, f.fileB]
theorem StF.kn (f : StF d n rs l) : KN l := by rw [← f.list]; exact KN.nil.steps f.good
theorem StF.other {d' : DS} (f : StF d n rs l) (h : ∀ t, t = n ∨ t = draftN n → findF d'.files t = findF d.files t) : StF d' n rs l := ⟨by rw [h n (.inl rfl)]; exact f.file, by rw [h _ (.inr rfl)]; exact f.draft, f.good, f.list⟩
theorem wr_q (h : Quiet d R) (f : StF d n rs0 l) (nm : Nm n) (hg : ∀ r ∈ rs, Good r) (hX : ¬ R - Dk.sizes d.files < ((Fr.putB rs).length : Int)) : ∃ d', writeE d n l rs = (0, d', stepAll l rs) ∧ Quiet d' R ∧ StF d' n (rs0 ++ rs) (stepAll l rs) ∧ Dk.sizes d'.files = Dk.sizes d.files + ((Fr.putB rs).length : Int) ∧ ∀ t, t ≠ n → findF d'.files t = findF d.files t := by
  obtain ⟨d', h1, h2, h3, h4⟩ := h.append nm.ok hX
  refine ⟨d', ?_, h2, ⟨.inr ⟨(d.fileOr n).safe, ?_⟩, ?_, ?_, ?_⟩, h4, fun t ht => ?_⟩
  · unfold writeE
    rw [h1, if_pos rfl]
  · rw [h3, if_pos rfl, f.fileB, putB_append]
  · rw [h3, if_neg nm.ne]
    exact f.draft
  · intro r hr
    rcases List.mem_append.1 hr with hr | hr
    · exact f.good r hr
    · exact hg r hr
  · rw [stepAll_append, f.list]
  · rw [h3, if_neg (fun e => ht e.symm)]
theorem wr_full (h : Quiet d R) (nm : Nm n) (hX : R - Dk.sizes d.files < ((Fr.putB rs).length : Int)) : writeE d n l rs = (6, d, l) := by
  have h1 := h.full nm.ok hX
  unfold writeE
  rw [h1, if_neg (by show ¬ (6 : Int) = 0; decide)]
theorem sync_q (h : Quiet d R) (f : StF d n rs0 l) (nm : Nm n) : ∃ d', syncE d n = (0, d') ∧ Quiet d' R ∧ StF d' n rs0 l ∧ Dk.sizes d'.files = Dk.sizes d.files ∧ (∀ t, t ≠ n → findF d'.files t = findF d.files t) ∧ (∀ x, findF d'.files n = some x → x.safe = x.b.length) := by
  rcases f.file with ⟨h0, h1⟩ | ⟨sf, h0⟩
  · refine ⟨d, ?_, h, f, rfl, fun t _ => rfl, fun x hx => ?_⟩
    · unfold syncE
      rw [h.sync_none nm.ok h0, if_pos rfl]
    · rw [h0] at hx; cases hx
  · obtain ⟨d', h1, h2, h3, h4⟩ := h.sync nm.ok h0
    refine ⟨d', ?_, h2, ⟨.inr ⟨_, by rw [h3, if_pos rfl]⟩, by rw [h3, if_neg nm.ne]; exact f.draft, f.good, f.list⟩, h4, fun t ht => by rw [h3, if_neg (fun e => ht e.symm)], fun x hx => ?_⟩
    · unfold syncE
      rw [h1, if_neg (by show ¬ (0 : Int) = 5; decide)]
    · rw [h3, if_pos rfl] at hx
      injection hx with hx
      subst hx
      rfl
theorem comp_full (h : Quiet d R) (nm : Nm n) (hX : R - Dk.sizes d.files < ((Fr.putB (allRecs l)).length : Int)) : compactE d n l = (6, d) := by
  have h1 := h.full nm.dok hX
  unfold compactE
  rw [h1, if_pos (by show (6 : Int) ≠ 0; decide)]
theorem comp_q (h : Quiet d R) (f : StF d n rs0 l) (nm : Nm n) (hft : Fit l) (hX : ¬ R - Dk.sizes d.files < ((Fr.putB (allRecs l)).length : Int)) : ∃ d', compactE d n l = (0, d') ∧ Quiet d' R ∧ StF d' n (allRecs l) l ∧ Dk.sizes d'.files = Dk.sizes d.files - ((Fr.putB rs0).length : Int) + ((Fr.putB (allRecs l)).length : Int) ∧ (∀ t, t ≠ n → t ≠ draftN n → findF d'.files t = findF d.files t) ∧ (∀ x, findF d'.files n = some x → x.safe = x.b.length) := by
  obtain ⟨d1, a1, a2, a3, a4⟩ := h.append nm.dok hX
  have hb : (d.fileOr (draftN n)).b = [] := by unfold DS.fileOr; rw [f.draft]; rfl
  have f1 : findF d1.files (draftN n) = some ⟨draftN n, Fr.putB (allRecs l), (d.fileOr (draftN n)).safe⟩ := by rw [a3, if_pos rfl, hb, List.nil_append]
  obtain ⟨d2, b1, b2, b3, b4⟩ := a2.sync nm.dok f1
  have f2 : findF d2.files (draftN n) = some ⟨draftN n, Fr.putB (allRecs l), (Fr.putB (allRecs l)).length⟩ := by rw [b3, if_pos rfl]
  obtain ⟨d3, c1, c2, c3, c4⟩ := b2.rename nm.dok nm.ok (fun e => nm.ne e.symm) f2
  have hl2 : lenF d2.files n = (Fr.putB rs0).length := by
    unfold lenF
    rw [b3, if_neg (fun e => nm.ne e.symm), a3, if_neg (fun e => nm.ne e.symm)]
    exact f.len
  refine ⟨d3, ?_, c2, ⟨.inr ⟨_, by rw [c3, if_pos rfl]⟩, by rw [c3, if_neg nm.ne, if_pos rfl], Good.all hft, ?_⟩, ?_, fun t ht hd => ?_, fun x hx => ?_⟩
  · unfold compactE
    rw [a1, if_neg (by simp), b1, if_neg (by simp), c1]
  · have := stepAll_all l [] hft (by rw [List.nil_append]; exact f.kn)
    rw [List.nil_append] at this
    exact this
  · rw [c4, b4, a4, hl2]
    omega
  · rw [c3, if_neg (fun e => ht e.symm), if_neg hd, b3, if_neg (fun e => hd e.symm), a3, if_neg (fun e => hd e.symm)]
  · rw [c3, if_pos rfl] at hx
    injection hx with hx
    subst hx
    rfl
/-- A call, on the store and on the reference's with the device's own room. -/
theorem run_quiet (h : Quiet d R) (f : StF d n rs0 l) (nm : Nm n) (hft : Fit l) {p : Plan} (hg : ∀ rs, p = .wr rs → ∀ r ∈ rs, Good r) (hz : z = ((Fr.putB rs0).length : Int)) :
    ∃ d' rs', runS d n l p = ((runR l z (R - Dk.sizes d.files) p).1, d', (runR l z (R - Dk.sizes d.files) p).2.1) ∧ Quiet d' R ∧ StF d' n rs' (runR l z (R - Dk.sizes d.files) p).2.1 ∧ (runR l z (R - Dk.sizes d.files) p).2.2 = ((Fr.putB rs').length : Int) ∧ Dk.sizes d'.files - ((Fr.putB rs').length : Int) = Dk.sizes d.files - ((Fr.putB rs0).length : Int) ∧ (∀ t, t ≠ n → t ≠ draftN n → findF d'.files t = findF d.files t) := by
  cases p with
  | ret e => exact ⟨d, rs0, rfl, h, f, hz, rfl, fun _ _ _ => rfl⟩
  | wr rs =>
    by_cases c : R - Dk.sizes d.files < ((Fr.putB rs).length : Int)
    · have e1 : runR l z (R - Dk.sizes d.files) (.wr rs) = (6, l, z) := by
        show writeR l z rs _ = _
        unfold writeR
        rw [if_pos c]
      rw [e1]
      exact ⟨d, rs0, wr_full h nm c, h, f, hz, rfl, fun _ _ _ => rfl⟩
    · have e1 : runR l z (R - Dk.sizes d.files) (.wr rs) = (0, stepAll l rs, z + ((Fr.putB rs).length : Int)) := by
        show writeR l z rs _ = _
        unfold writeR
        rw [if_neg c]
      rw [e1]
      obtain ⟨d', h1, h2, h3, h4, h5⟩ := wr_q h f nm (hg rs rfl) c
      refine ⟨d', rs0 ++ rs, h1, h2, h3, ?_, ?_, fun t ht _ => h5 t ht⟩
      · show z + ((Fr.putB rs).length : Int) = _
        rw [putB_append, List.length_append, hz]
        omega
      · rw [h4, putB_append, List.length_append]
        omega
  | sync =>
    obtain ⟨d', h1, h2, h3, h4, h5, _⟩ := sync_q h f nm
    refine ⟨d', rs0, ?_, h2, h3, hz, by rw [h4], fun t ht _ => h5 t ht⟩
    show ((syncE d n).1, (syncE d n).2, l) = _
    rw [h1]
    rfl
  | comp =>
    by_cases c : R - Dk.sizes d.files < ((Fr.putB (allRecs l)).length : Int)
    · have e1 : runR l z (R - Dk.sizes d.files) .comp = (6, l, z) := by
        show ((compactR l z _).1, l, (compactR l z _).2) = _
        unfold compactR
        rw [if_pos c]
      rw [e1]
      refine ⟨d, rs0, ?_, h, f, hz, rfl, fun _ _ _ => rfl⟩
      show ((compactE d n l).1, (compactE d n l).2, l) = _
      rw [comp_full h nm c]
    · have e1 : runR l z (R - Dk.sizes d.files) .comp = (0, l, ((Fr.putB (allRecs l)).length : Int)) := by
        show ((compactR l z _).1, l, (compactR l z _).2) = _
        unfold compactR
        rw [if_neg c]
      rw [e1]
      obtain ⟨d', h1, h2, h3, h4, h5, _⟩ := comp_q h f nm hft c
      refine ⟨d', allRecs l, ?_, h2, h3, rfl, ?_, h5⟩
      · show ((compactE d n l).1, (compactE d n l).2, l) = _
        rw [h1]
      · rw [h4]
        omega
theorem plan_good {kind N : Int} {key val : ByteArray} (hft : Fit l) : ∀ rs, planOf l m kind key val N = .wr rs → ∀ r ∈ rs, Good r := by
  intro rs e
  unfold planOf at e
  split at e
  · split at e
    · cases e
    · rename_i c
      split at e
      · cases e
      · injection e with e
        subst e
        exact Good.puts hft.short (Nat.not_lt.1 c)
  · split at e
    · split at e
      · cases e
      · split at e
        · cases e
        · injection e with e
          subst e
          exact Good.gones hft.short _
    · split at e
      · cases e
      · split at e
        · cases e
        · cases e
/-- What the entries keep to. -/
structure LF (l : List E) (m : Int) : Prop where
  kn : KN l
  fit : Fit l
  len : (l.length : Int) ≤ m
theorem LF.nil (hm : 1 ≤ m) : LF [] m := ⟨KN.nil, (fun e he => nomatch he), by simp only [List.length_nil]; omega⟩
theorem stepAll_gones2 {l : List E} (hs : Short l) (j : Nat) (hj : j ≤ l.length) : stepAll l (gones l j) = l.drop j := stepAll_gones l hs j hj
/-- The entries behind a plan that goes through. -/
def listP (l : List E) : Plan → List E
  | .wr rs => stepAll l rs
  | _ => l
theorem LF.plan (h : LF l m) (hm : 1 ≤ m) (kind : Int) (key val : ByteArray) (N : Int) : LF (listP l (planOf l m kind key val N)) m := by
  have hg := plan_good (m := m) (kind := kind) (key := key) (val := val) (N := N) h.fit
  have hid : ∀ e, LF (listP l (.ret e)) m := fun _ => h
  unfold planOf at hg ⊢
  by_cases c0 : kind = 0
  · rw [if_pos c0] at hg ⊢
    by_cases c1 : 65536 < (recP key val).size
    · rw [if_pos c1]; exact h
    rw [if_neg c1] at hg ⊢
    by_cases c2 : getE l key = some val
    · rw [if_pos c2]; exact h
    rw [if_neg c2] at hg ⊢
    show LF (stepAll l (putRecs l m key val)) m
    have e := stepAll_put h.fit.short hm (Nat.not_lt.1 c1 : (recP key val).size ≤ 65536)
    refine ⟨h.kn.steps (hg _ rfl), ?_, ?_⟩
    · rw [e]
      intro x hx
      rcases putL_mem hx with hx | rfl
      · exact h.fit x hx
      · exact Nat.not_lt.1 c1
    · rw [e]
      exact putL_len hm h.len
  rw [if_neg c0] at hg ⊢
  by_cases c1 : kind = 1
  · rw [if_pos c1] at hg ⊢
    by_cases c2 : N < 0
    · rw [if_pos c2]; exact h
    rw [if_neg c2] at hg ⊢
    by_cases c3 : min N.toNat l.length = 0
    · rw [if_pos c3]; exact h
    rw [if_neg c3] at hg ⊢
    show LF (stepAll l (gones l _)) m
    rw [stepAll_gones2 h.fit.short _ (Nat.min_le_right _ _)]
    refine ⟨h.kn.suffix _, fun x hx => h.fit x (List.mem_of_mem_drop hx), ?_⟩
    rw [List.length_drop]
    have := h.len
    omega
  rw [if_neg c1]
  split
  · exact h
  · split
    · exact h
    · exact h
theorem runR_list (l : List E) (z free : Int) (p : Plan) : (runR l z free p).2.1 = l ∨ (runR l z free p).2.1 = listP l p := by
  cases p with
  | wr rs =>
    show (writeR l z rs free).2.1 = l ∨ (writeR l z rs free).2.1 = stepAll l rs
    unfold writeR
    split
    · exact .inl rfl
    · exact .inr rfl
  | _ => exact .inl rfl
theorem LF.run (h : LF l m) (hm : 1 ≤ m) (kind : Int) (key val : ByteArray) (N free : Int) : LF (doesR l m z kind key val N free).2.1 m := by
  rw [doesR_run]
  rcases runR_list l z free (planOf l m kind key val N) with e | e
  · rw [e]; exact h
  · rw [e]; exact h.plan hm kind key val N
end
end Go.Proofs.Ytclkcipakncjkaa.Kv
/- One file on a device; alive; KvlogOrders. -/
namespace Go.Proofs.Ytclkcipakncjkaa.Kv
open Go Go.RowKit Go.Proofs.YtclkcipakncjkaaW.PrintWords Go.Proofs.YtclkcipakncjkaaW.PrintLast Go.Proofs.YtclkcipakncjkaaW.PrintMore Go.Proofs.YtclkcipakncjkaaMy Go.Proofs.Ytclkcipakncjkaa Go.Proofs.YtclkcipakncjkaaPw Go.Proofs.Ytclkcipakncjkaa.PAll Go.Proofs.Ytclkcipakncjkaa.Dk
set_option linter.unusedVariables false
set_option linter.unusedSimpArgs false
def kN : ByteArray := ⟨#[107]⟩
/-- A device that is on, without a fuse, with one file at most, of at most c bytes. -/
structure One (d : DS) (n : ByteArray) (R : Int) (c : Nat) : Prop where
  down : d.down = false
  fuse : d.fuse = 0
  room : d.room = R
  file : d.files = [] ∨ ∃ b s, d.files = [⟨n, b, s⟩] ∧ b.length ≤ c
theorem One.new_ (n : ByteArray) {R : Int} (h : 0 ≤ R ∧ R ≤ 1048576) : One (new R) n R 0 := ⟨rfl, rfl, by show min (max R 0) 1048576 = R; omega, .inl rfl⟩
theorem One.append {d : DS} {n : ByteArray} {R : Int} {c : Nat} (h : One d n R c) (hn : nameOk n = true) {X : List Int} (hX : (c + X.length : Nat) ≤ R) : (d.append n X).1 = 0 ∧ One (d.append n X).2 n R (c + X.length) := by
  have hr : d.ready n = 0 := by
    unfold DS.ready
    rw [h.down, if_neg (by decide), if_pos hn]
  have hg : d.goes = false := by
    unfold DS.goes
    rw [h.fuse]
    rfl
  have hfree : ¬ (X.length : Int) > d.free := by
    unfold DS.free
    rw [h.room]
    rcases h.file with e | ⟨b, s, e, hb⟩
    · rw [e]
      show ¬ (X.length : Int) > R - 0
      omega
    · rw [e]
      show ¬ (X.length : Int) > R - ((b.length : Int) + 0)
      omega
  unfold DS.append
  rw [if_neg (fun h => h hr), if_neg hfree]
  simp only [hg]
  refine ⟨rfl, h.down, ?_, h.room, .inr ?_⟩
  · show (if d.fuse = 0 then (0 : Int) else d.fuse - 1) = 0
    rw [if_pos h.fuse]
  · rcases h.file with e | ⟨b, s, e, hb⟩
    · refine ⟨X, 0, ?_, by omega⟩
      show putF d.files _ = _
      unfold DS.fileOr findF
      rw [e]
      rfl
    · refine ⟨b ++ X, s, ?_, by rw [List.length_append]; omega⟩
      show putF d.files _ = _
      have hf : d.fileOr n = ⟨n, b, s⟩ := by
        unfold DS.fileOr findF
        rw [e, List.find?_cons_of_pos (by simp)]
        rfl
      rw [hf, e]
      unfold putF
      rw [if_pos rfl]
theorem gones_bytes {l : List E} {c : Nat} (h : ∀ e ∈ l, e.f0.size ≤ c) : ∀ r ∈ gones l 1, r.size ≤ 28 + c := by
  intro r hr
  obtain ⟨x, hx, rfl⟩ := List.mem_map.1 hr
  obtain ⟨y, hy, rfl⟩ := List.mem_map.1 hx
  rw [recG_size]
  have := h y (List.mem_of_mem_take hy)
  omega
theorem sizes_append (a b : List ByteArray) : Fr.sizes (a ++ b) = Fr.sizes a + Fr.sizes b := by
  induction a with
  | nil => simp [Fr.sizes]
  | cons x a ih => simp only [List.cons_append, Fr.sizes, ih]; omega
theorem putRecs_bytes {l : List E} {m : Int} {k u : ByteArray} {c : Nat} (hl : (l.length : Int) ≤ m) (hm : 1 ≤ m) (h : ∀ e ∈ l, e.f0.size ≤ c) (hc : c ≤ 65501) (hok : (recP k u).size ≤ 65536) : (Fr.putB (putRecs l m k u)).length ≤ 79 + c + k.size + u.size := by
  have hg := Good.of_put (m := m) hok (fun e he => Nat.le_trans (h e he) hc)
  rw [Fr.putB_length (fun s hs => (hg s hs).size)]
  unfold putRecs
  split
  · simp only [List.nil_append, List.length_singleton, Fr.sizes, recP_size]
    omega
  · have hov : over l m = 0 ∨ over l m = 1 := by unfold over; omega
    rcases hov with e | e
    · rw [e]
      show 8 * ([] ++ [recP k u] : List ByteArray).length + Fr.sizes ([] ++ [recP k u]) ≤ _
      simp only [List.nil_append, List.length_singleton, Fr.sizes, recP_size]
      omega
    · rw [e, List.length_append, sizes_append, List.length_singleton, gones_length]
      have h1 := sizes_le (gones_bytes h)
      rw [gones_length] at h1
      simp only [Fr.sizes, recP_size]
      have h2 : min 1 l.length ≤ 1 := Nat.min_le_left _ _
      have h3 : min 1 l.length * (28 + c) ≤ 1 * (28 + c) := Nat.mul_le_mul_right _ h2
      omega
theorem putE_ok {d : DS} {n : ByteArray} {R : Int} {c q : Nat} {m : Int} {l : List E} {k u : ByteArray} (h : One d n R c) (hn : nameOk n = true) (hl : (l.length : Int) ≤ m) (hm : 1 ≤ m) (hk : ∀ e ∈ l, e.f0.size ≤ q) (hq : q ≤ 65501) (hok : (recP k u).size ≤ 65536) (hX : (c + (79 + q + k.size + u.size) : Nat) ≤ R) {j : Int} (hu : d.Up j) :
    ∃ d', putE d n m l k u = (0, d', if getE l k = some u then l else putL l m k u) ∧ One d' n R (c + (79 + q + k.size + u.size)) ∧ d'.Up (j + 1) := by
  have hb := putRecs_bytes hl hm hk hq hok
  have hsh : Short l := fun e he => Nat.le_trans (hk e he) hq
  unfold putE
  rw [if_neg (by omega)]
  by_cases e : getE l k = some u
  · rw [if_pos e, if_pos e]
    refine ⟨d, rfl, ⟨h.down, h.fuse, h.room, ?_⟩, hu.more⟩
    rcases h.file with e | ⟨b, s, e, hb⟩
    · exact .inl e
    · exact .inr ⟨b, s, e, by omega⟩
  · rw [if_neg e, if_neg e]
    obtain ⟨h1, h2⟩ := h.append hn (X := Fr.putB (putRecs l m k u)) (by omega)
    unfold writeE
    rw [if_pos h1, stepAll_put hsh hm hok, h1]
    refine ⟨_, rfl, ⟨h2.down, h2.fuse, h2.room, ?_⟩, hu.append n (fun x hx => by have := Fr.byt_putB _ x hx; omega)⟩
    rcases h2.file with e | ⟨b, s, e, hb⟩
    · exact .inl e
    · exact .inr ⟨b, s, e, by omega⟩
theorem kN_ok : nameOk kN = true := by kernel_rfl
theorem new_rem {R : Int} : (new R).remove (draftN kN) = (5, new R) := by
  have ht : (new R).there (draftN kN) = 5 := by
    unfold DS.there
    rw [if_neg (by show ¬ (new R).ready (draftN kN) ≠ 0; unfold DS.ready; rw [if_neg (by show ¬ (false = true); decide), if_pos (by kernel_rfl)]; decide)]
    rfl
  unfold DS.remove
  rw [if_pos (by rw [ht]; decide), ht]
theorem new_read {R : Int} : (new R).read kN = ([], 5) := by
  have ht : (new R).there kN = 5 := by
    unfold DS.there
    rw [if_neg (by show ¬ (new R).ready kN ≠ 0; unfold DS.ready; rw [if_neg (by show ¬ (false = true); decide), if_pos kN_ok]; decide)]
    rfl
  unfold DS.read
  rw [if_pos (by rw [ht]; decide), ht]
/-- A new device and a store on it. -/
theorem Open_new {w W : World} {S : Nat → Prop} {gd : Nat} {R m : Int} (h : Dev S w.heap.size W gd (new R)) (hB : w.heap.size ≤ W.heap.size) (hm : 1 ≤ m ∧ m ≤ 4096) : Calls Try.prog 10 #[.pointer (some ⟨gd, 0, none⟩), .string kN, .int .i64 m] W fun e W' => e = .returned (.tuple #[.pointer (some ⟨W.heap.size, 0, none⟩), .int .i64 0]) ∧ ∃ S1' S2', KD S1' S2' w.heap.size W' gd W.heap.size (new R) kN m [] ∧ Step S W (U S1' S2') W' :=
  Open_none h hB (DS.Up.new R) (by decide) ⟨by intro e; exact absurd (congrArg ByteArray.size e) (by decide), by decide⟩ hm (.inr rfl) new_rem new_read
def aT : ByteArray := ⟨#[97]⟩
def bT : ByteArray := ⟨#[98]⟩
def oneT : ByteArray := ⟨#[49]⟩
def twoT : ByteArray := ⟨#[50]⟩
theorem al1 : ∃ d', putE (new 1000) kN 1 [] aT oneT = (0, d', [⟨aT, oneT⟩]) ∧ One d' kN 1000 82 ∧ d'.Up 1 := by
  obtain ⟨d', h1, h2, h3⟩ := putE_ok (d := new 1000) (n := kN) (R := 1000) (c := 0) (q := 1) (m := 1) (l := []) (k := aT) (u := oneT) (One.new_ kN (by decide)) kN_ok (by decide) (by decide) (fun e he => by cases he) (by decide) (by rw [recP_size]; decide) (by decide) (DS.Up.new 1000)
  rw [if_neg (by intro e; cases e)] at h1
  exact ⟨d', h1, h2, h3⟩
theorem al2 {d : DS} (h : One d kN 1000 82) (hu : d.Up 1) : ∃ d', putE d kN 1 [⟨aT, oneT⟩] bT twoT = (0, d', [⟨bT, twoT⟩]) ∧ d'.Up 2 := by
  obtain ⟨d', h1, h2, h3⟩ := putE_ok (q := 1) (m := 1) (l := [⟨aT, oneT⟩]) (k := bT) (u := twoT) h kN_ok (by decide) (by decide) (fun e he => by rcases List.mem_singleton.1 he with rfl; decide) (by decide) (by rw [recP_size]; decide) (by decide) hu
  have hg : getE [⟨aT, oneT⟩] bT = none := by kernel_rfl
  rw [hg, if_neg (by intro e; cases e)] at h1
  exact ⟨d', h1, h3⟩
theorem al3 : getE [(⟨bT, twoT⟩ : E)] aT = none := by kernel_rfl
theorem al4 : getE [(⟨bT, twoT⟩ : E)] bT = some twoT := by kernel_rfl
theorem getK {S1 S2 : Nat → Prop} {B : Nat} {W : World} {gd g : Nat} {d : DS} {n : ByteArray} {m : Int} {l : List E} (h : KD S1 S2 B W gd g d n m l) (s : ByteArray) (hl : l.length ≤ 1048576) : Calls Try.prog 12 #[.pointer (some ⟨g, 0, none⟩), .string s] W fun e w' => e = .returned (.tuple #[.string ((getE l s).getD ⟨#[]⟩), .bool (getE l s).isSome]) ∧ Below W.heap.size W w' := by
  obtain ⟨v, hv⟩ := h.st.at_
  exact Get_Q hv s hl
set_option maxHeartbeats 4000000 in
set_option maxRecDepth 100000 in
theorem alive_Q (w : World) : Calls Try.prog 9 #[] w fun e w' => e = .returned (.bool true) ∧ Below w.heap.size w w' := by
  obtain ⟨d1, e1, ho1, u1⟩ := al1
  obtain ⟨d2, e2, u2⟩ := al2 ho1 u1
  have E1 := Aside0.mk e1
  have E2 := Aside0.mk e2
  have U1 := Aside0.mk u1
  clear e1 e2 u1 u2 ho1
  go_enter Try.func9, Try.ntmps9
  go_wp2_with (first
    | (go_at_call 11; refine (New_D w 1000).mono ?_; rintro e w1 ⟨gd, S0, rfl, hd, hb⟩; have HD := Aside0.mk hd; have HB := Aside0.mk hb; clear hd hb)
    | (go_at_call 10; refine (Open_new HD.out HB.out.size (by decide)).mono ?_; rintro e w2 ⟨rfl, S1, S2, hk, hs⟩; have HK := Aside0.mk hk; have HB2 := Aside0.mk (HB.out.trans (hs.only.toBelow HD.out.lo HB.out.size)); clear hk hs HD HB)
    | (go_at_call 13; refine (Put_K HK.out (DS.Up.new 1000) (by decide) (by decide) (by decide) (fun e he => by cases he) (key := aT) (val := oneT) (by decide)).mono ?_; rintro e w3 ⟨rfl, S1a, S2a, hk, hs⟩; rw [E1.out] at hk ⊢; have HK2 := Aside0.mk hk; have HB3 := Aside0.mk (HB2.out.trans (hs.only.toBelow (fun j hj => hj.elim (HK.out.dev.lo j) (HK.out.st.lo j)) HB2.out.size)); clear hk hs HK HB2)
    | (go_at_call 13; refine (Put_K HK2.out U1.out (by decide) (by decide) (by decide) (fun e he => by rcases List.mem_singleton.1 he with rfl; decide) (key := bT) (val := twoT) (by decide)).mono ?_; rintro e w4 ⟨rfl, S1b, S2b, hk, hs⟩; rw [E2.out] at hk ⊢; have HK3 := Aside0.mk hk; have HB4 := Aside0.mk (HB3.out.trans (hs.only.toBelow (fun j hj => hj.elim (HK2.out.dev.lo j) (HK2.out.st.lo j)) HB3.out.size)); clear hk hs HK2 HB3)
    | (go_at_call 12; refine (getK HK3.out aT (by decide)).mono ?_; rintro e w5 ⟨rfl, hb⟩; rw [al3]; have HK4 := Aside0.mk (HK3.out.below hb); have HB5 := Aside0.mk (HB4.out.trans (hb.mono HB4.out.size)); clear hb HK3 HB4)
    | (go_at_call 12; refine (getK HK4.out bT (by decide)).mono ?_; rintro e w6 ⟨rfl, hb⟩; rw [al4]; have HB6 := Aside0.mk (HB5.out.trans (hb.mono HB5.out.size)); clear hb HK4 HB5))
  go_ret
  exact ⟨by first | rfl | (simp; done) | (simp; rw [ba_toList]; rfl), HB6.out⟩
end Go.Proofs.Ytclkcipakncjkaa.Kv
/- What the laws of chapter 5 share: a script among the arguments, great, Open on a device that is on. -/
namespace Go.Proofs.Ytclkcipakncjkaa.Kv
open Go Go.RowKit Go.Proofs.YtclkcipakncjkaaW.PrintWords Go.Proofs.YtclkcipakncjkaaW.PrintLast Go.Proofs.YtclkcipakncjkaaW.PrintMore Go.Proofs.YtclkcipakncjkaaMy Go.Proofs.Ytclkcipakncjkaa Go.Proofs.YtclkcipakncjkaaPw Go.Proofs.Ytclkcipakncjkaa.PAll Go.Proofs.Ytclkcipakncjkaa.Dk
set_option linter.unusedVariables false
set_option linter.unusedSimpArgs false
abbrev C5 : Type := S42
abbrev kC5 : Kd C5 := k42
instance : Inhabited C5 := ⟨z42⟩
theorem i64_wf {n : Int} (h : (Lit.int .i64 n).wf = true) : -9223372036854775808 ≤ n ∧ n ≤ 9223372036854775807 := by
  simp only [Lit.wf, IntKind.min, IntKind.max, IntKind.signed, IntKind.bits, Bool.and_eq_true] at h
  simp at h
  omega
/-- A script that a law is given. -/
structure Script (W : World) (A : Option Addr) (n c : Nat) (l : List C5) : Prop where
  len : n = l.length
  C : Kd.C kC5 W A l.length l
  cap : l.length ≤ c
  few : l.length ≤ 140737488351232
  hi : ∀ x ∈ l, x.f4 ≤ 9223372036854775807
  s1 : ∀ x ∈ l, x.f1.size ≤ 140737488351232
  s2 : ∀ x ∈ l, x.f2.size ≤ 140737488351232
theorem call_opens {H : Type} {enc : TypeId × Value → H} {W : World} {base : Nat} {held : Bool} : YtclkcipakncjkaaOp.Opens enc Try.prog W base held 42 kC5
    (fun x => (Lit.int .i64 x.f0).wf = true ∧ x.f1.size ≤ maxLen ∧ x.f2.size ≤ maxLen ∧ (Lit.int .i64 x.f3).wf = true ∧ (Lit.int .i64 x.f4).wf = true ∧ (Lit.int .i64 x.f5).wf = true ∧ True)
    (fun x => [] ++ ([x.f1.size] ++ ([x.f2.size] ++ ([] ++ ([] ++ ([] ++ [])))))) := by
  have h := YtclkcipakncjkaaOp.Opens.struct (enc := enc) (W := W) (base := base) (held := held) Try.underlying42 (by kernel_rfl) (.cons rfl (by kernel_rfl) (.int Try.underlying3) (.cons rfl (by kernel_rfl) (.string Try.underlying9) (.cons rfl (by kernel_rfl) (.string Try.underlying9) (.cons rfl (by kernel_rfl) (.int Try.underlying3)
    (.cons rfl (by kernel_rfl) (.int Try.underlying3) (.cons rfl (by kernel_rfl) (.int Try.underlying3) (.one rfl (by kernel_rfl) (.bool Try.underlying4))))))))
  exact YtclkcipakncjkaaOp.Opens.iso (fun x : C5 => (x.f0, x.f1, x.f2, x.f3, x.f4, x.f5, x.f6)) (fun p => ⟨p.1, p.2.1, p.2.2.1, p.2.2.2.1, p.2.2.2.2.1, p.2.2.2.2.2.1, p.2.2.2.2.2.2⟩) (fun _ => rfl) h
theorem script_arg {H : Type} {enc : TypeId × Value → H} {W : World} {base : Nat} {held : Bool} {a : Option Addr} {len cap : Nat} {x : DataW H} {ps : List MemPlace} {ts : List TypeId} {ds : List (DataW H)} {j : Nat}
    (hs : (DataW.weightsEach Try.prog ts ds).all (· ≤ reachBytes) = true) (hj : ts[j]? = some 35) (hd : ds[j]? = some x)
    (h : DataW.Trod enc Try.prog W base (fun _ => true) held 35 (.slice a len cap) x ps) : ∃ l, Script W a len cap l := by
  obtain ⟨l, e, hC, hc, hok, hf, hm⟩ := YtclkcipakncjkaaOp.slice_arg hs hj hd Try.underlying35 (by kernel_rfl) call_opens h
  have hb : Try.prog.bytesOf 42 = 72 := by kernel_rfl
  rw [hb] at hf
  refine ⟨l, e, hC, hc, by omega, fun y hy => ?_, fun y hy => hm y hy _ ?_, fun y hy => hm y hy _ ?_⟩
  · exact (i64_wf (hok y hy).2.2.2.2.1).2
  · simp
  · simp
def tot : List C5 → Nat
  | [] => 0
  | x :: l => x.f1.size + x.f2.size + tot l
theorem gq1 {a b : Nat} (h1 : a ≤ 140737488351232) (h2 : b ≤ 140737488351232) : wrap64 ((a : Int) + (b : Int)) = ((a + b : Nat) : Int) := by rw [w64 (by omega) (by omega)]; omega
theorem gq2 {n a : Nat} (h1 : n ≤ 4096) (h2 : a ≤ 281474976702464) : wrap64 ((n : Int) + (a : Int)) = ((n + a : Nat) : Int) := by rw [w64 (by omega) (by omega)]; omega
theorem great_l0 (l : List C5) (h1 : ∀ x ∈ l, x.f1.size ≤ 140737488351232) (h2 : ∀ x ∈ l, x.f2.size ≤ 140737488351232) (hl : l.length ≤ 140737488351232) :
    ∀ (k i n : Nat), i ≤ l.length → l.length - i < k → n ≤ 4096 →
      ∃ r, seichelaw05_great.l0 k l (n : Int) l (l.length : Int) (i : Int) = some r ∧ (r = false → n + tot (l.drop i) ≤ 4096 ∧ l.length ≤ 60)
  | 0, i, n, _, hk, _ => absurd hk (Nat.not_lt_zero _)
  | k + 1, i, n, hi, hk, hn => by
    unfold seichelaw05_great.l0
    by_cases c : i < l.length
    · have hr : rd_T42 l (i : Int) = l[i]'c := by unfold rd_T42; rw [Int.toNat_natCast, List.getD_eq_getElem?_getD, List.getElem?_eq_getElem c]; rfl
      have hm : l[i]'c ∈ l := List.getElem_mem c
      rw [if_pos (by omega), if_pos (by omega), if_pos (by omega), hr, List.drop_eq_getElem_cons c]
      have e1 := h1 _ hm
      have e2 := h2 _ hm
      simp only [tot]
      obtain ⟨x, hxe⟩ : ∃ x, x = l[i]'c := ⟨_, rfl⟩
      rw [← hxe] at e1 e2 ⊢
      rw [gq1 e1 e2, gq2 hn (by omega)]
      by_cases c2 : ((n + (x.f1.size + x.f2.size) : Nat) : Int) > 4096
      · rw [if_pos c2]
        exact ⟨true, rfl, fun h => nomatch h⟩
      · rw [if_neg c2, w64 (x := (i : Int) + 1) (by omega) (by omega)]
        obtain ⟨r, hr1, hr2⟩ := great_l0 l h1 h2 hl k (i + 1) (n + (x.f1.size + x.f2.size)) c (by omega) (by omega)
        refine ⟨r, hr1, fun h => ?_⟩
        have := hr2 h
        omega
    · rw [if_neg (by omega)]
      refine ⟨_, rfl, fun h => ?_⟩
      have h3 := of_decide_eq_false h
      rw [List.drop_of_length_le (by omega)]
      simp only [tot]
      omega
/-- The j-th call's cells. -/
theorem Script.at_ {W w : World} {A : Option Addr} {n c : Nat} {l : List C5} (h : Script W A n c l) (hb : Below W.heap.size W w) {j : Nat} (hj : j < l.length) : ∃ ad : Addr, A = some ad ∧ w.cell? (ad.add (j * 7)) = some (.int .i64 (l[j]).f0) ∧ w.cell? ⟨(ad.add (j * 7)).block, (ad.add (j * 7)).off + 1, none⟩ = some (.string (l[j]).f1) ∧ w.cell? ⟨(ad.add (j * 7)).block, (ad.add (j * 7)).off + 2, none⟩ = some (.string (l[j]).f2) ∧ w.cell? ⟨(ad.add (j * 7)).block, (ad.add (j * 7)).off + 3, none⟩ = some (.int .i64 (l[j]).f3) ∧ w.cell? ⟨(ad.add (j * 7)).block, (ad.add (j * 7)).off + 4, none⟩ = some (.int .i64 (l[j]).f4) ∧ w.cell? ⟨(ad.add (j * 7)).block, (ad.add (j * 7)).off + 5, none⟩ = some (.int .i64 (l[j]).f5) ∧ w.cell? ⟨(ad.add (j * 7)).block, (ad.add (j * 7)).off + 6, none⟩ = some (.bool (l[j]).f6) := by
  obtain ⟨ad, e, h0⟩ := at_T42 (Kd.C_below h.C hb) (j : Int) (by omega) (by omega)
  rw [show rd_T42 l (j : Int) = l[j] by unfold rd_T42; rw [Int.toNat_natCast, List.getD_eq_getElem?_getD, List.getElem?_eq_getElem hj]; rfl, Int.toNat_natCast] at h0
  exact ⟨ad, e, h0⟩
theorem Open_quiet {S1 : Nat → Prop} {B : Nat} {W : World} {gd : Nat} {d : DS} {R m k : Int} {n : ByteArray} {rs : List ByteArray} {l : List E} (h : Dev S1 B W gd d) (hB : B ≤ W.heap.size) (u : d.Up k) (hk : k < 4611686018427387900) (hq : Quiet d R) (hR : R ≤ 1048576) (f : StF d n rs l) (nm : Nm n) (hm : 1 ≤ m ∧ m ≤ 4096) : Calls Try.prog 10 #[.pointer (some ⟨gd, 0, none⟩), .string n, .int .i64 m] W fun e W' => e = .returned (.tuple #[.pointer (some ⟨W.heap.size, 0, none⟩), .int .i64 0]) ∧ ∃ S1' S2', KD S1' S2' B W' gd W.heap.size d n m l ∧ Step S1 W (U S1' S2') W' := by
  have hrem := hq.remove_none nm.dok f.draft
  rcases f.file with ⟨h0, h1⟩ | ⟨sf, h0⟩
  · have hl := f.list
    rw [h1] at hl
    have : l = [] := hl.symm
    subst this
    exact Open_none h hB u hk ⟨nm.nn, nm.sz⟩ hm (.inr rfl) hrem (hq.read_none nm.ok h0)
  · have hsz : (Fr.putB rs).length ≤ 1048576 := by
      have h1 := lenF_le d.files n
      rw [lenF_some h0] at h1
      have h2 := hq.le
      have h3 : ((Fr.putB rs).length : Int) ≤ Dk.sizes d.files := h1
      omega
    have hg : ∀ s ∈ rs, s.size ≤ 65536 := fun s hs => (f.good s hs).size
    have hlen : rs.length ≤ 1048576 := by
      have := Fr.putB_length hg
      omega
    have := Open_all (rs := rs.map bytesOf) h hB u hk ⟨nm.nn, nm.sz⟩ hm (.inr rfl) hrem (hq.read_some nm.ok h0) (Fr.byt_putB rs) (by show (Fr.putB rs).length ≤ _; omega) (Fr.splits_put hg) (by rw [Fr.map_str]; exact f.good) (by rw [List.length_map]; exact hlen) (Fr.total_put hg)
    rw [Fr.map_str, f.list] at this
    exact this
theorem kN_nm : Nm kN := ⟨by kernel_rfl, by kernel_rfl, fun e => absurd (congrArg ByteArray.size e) (by decide), fun e => absurd (congrArg ByteArray.size e) (by decide), by decide⟩
/-- A device's acts behind a call. -/
theorem doesS_up {d : DS} {k : Int} (u : d.Up k) (n : ByteArray) (m : Int) (l : List E) (kind : Int) (key val : ByteArray) (N : Int) : (doesS d n m l kind key val N).2.1.Up (k + 3) := by
  have hb : ∀ rs : List ByteArray, ∀ x ∈ Fr.putB rs, 0 ≤ x ∧ x ≤ 255 := fun rs x hx => by have := Fr.byt_putB rs x hx; omega
  have h0 : d.Up (k + 3) := u.mono (by omega)
  have hw : ∀ rs, (writeE d n l rs).2.1.Up (k + 3) := fun rs => (u.append n (hb rs)).mono (by omega)
  rw [doesS_run]
  cases planOf l m kind key val N with
  | ret e => exact h0
  | wr rs => exact hw rs
  | sync => exact (u.sync n).mono (by omega)
  | comp =>
    show (compactE d n l).2.Up (k + 3)
    unfold compactE
    split
    · exact (u.append _ (hb _)).mono (by omega)
    · split
      · exact ((u.append _ (hb _)).sync _).mono (by omega)
      · exact (((u.append _ (hb _)).sync _).rename _ _).mono (by omega)
end Go.Proofs.Ytclkcipakncjkaa.Kv
/- No store: what its calls answer; what Open refuses. -/
namespace Go.Proofs.Ytclkcipakncjkaa.Kv
open Go Go.RowKit Go.Proofs.YtclkcipakncjkaaW.PrintWords Go.Proofs.YtclkcipakncjkaaW.PrintLast Go.Proofs.YtclkcipakncjkaaW.PrintMore Go.Proofs.YtclkcipakncjkaaMy Go.Proofs.Ytclkcipakncjkaa Go.Proofs.YtclkcipakncjkaaPw Go.Proofs.Ytclkcipakncjkaa.PAll Go.Proofs.Ytclkcipakncjkaa.Dk
set_option linter.unusedVariables false
set_option linter.unusedSimpArgs false
section
variable {w : World} {m : Int} {gd : Nat} {s t : ByteArray}
set_option maxHeartbeats 4000000
set_option maxRecDepth 100000
end
end Go.Proofs.Ytclkcipakncjkaa.Kv
/- KvlogDoes: the walk. -/
namespace Go.Proofs.Ytclkcipakncjkaa.Kv
open Go Go.RowKit Go.Proofs.YtclkcipakncjkaaW.PrintWords Go.Proofs.YtclkcipakncjkaaW.PrintLast Go.Proofs.YtclkcipakncjkaaW.PrintMore Go.Proofs.YtclkcipakncjkaaMy Go.Proofs.Ytclkcipakncjkaa Go.Proofs.YtclkcipakncjkaaPw Go.Proofs.Ytclkcipakncjkaa.PAll Go.Proofs.Ytclkcipakncjkaa.Dk
set_option linter.unusedVariables false
set_option linter.unusedSimpArgs false
/-- What the loop keeps to. -/
structure DI (R m k : Int) (d : DS) (l : List E) (z : Int) : Prop where
  q : Quiet d R
  f : ∃ rs, StF d kN rs l ∧ z = ((Fr.putB rs).length : Int)
  sz : Dk.sizes d.files = z
  lf : LF l m
  up : d.Up k
theorem tot_le {l : List C5} {x : C5} (h : x ∈ l) : x.f1.size + x.f2.size ≤ tot l := by
  induction l with
  | nil => cases h
  | cons y r ih =>
    simp only [tot]
    rcases List.mem_cons.1 h with rfl | h
    · omega
    · have := ih h
      omega
section
variable {R m k z : Int} {d : DS} {l : List E}
theorem DI.new (hR : 0 ≤ R ∧ R ≤ 1048576) (hm : 1 ≤ m) : DI R m 0 (Dk.new R) [] 0 := ⟨Quiet.new hR, ⟨[], StF.new kN, rfl⟩, rfl, LF.nil hm, DS.Up.new R⟩
theorem DI.z0 (h : DI R m k d l z) : 0 ≤ z ∧ z ≤ R := by
  have h1 := h.q.le
  have h2 := sizes_nonneg d.files
  rw [h.sz] at h1 h2
  exact ⟨h2, h1⟩
theorem DI.fine (h : DI R m k d l z) (hR : R ≤ 1048576) (hm : 1 ≤ m ∧ m ≤ 4096) (hk : k < 4611686018427380000) : Fine d kN m l z k := ⟨h.up, hk, h.lf.kn, h.lf.fit, by have := h.lf.len; omega, hm, by decide, by have := h.z0; omega⟩
theorem DI.next (h : DI R m k d l z) (hm : 1 ≤ m) (kind : Int) (key val : ByteArray) (N : Int) : ∃ er d' l' z', doesS d kN m l kind key val N = (er, d', l') ∧ doesR l m z kind key val N (R - z) = (er, l', z') ∧ DI R m (k + 3) d' l' z' := by
  obtain ⟨rs, f, hz⟩ := h.f
  obtain ⟨d', rs', h1, h2, h3, h4, h5, h6⟩ := run_quiet (z := z) h.q f kN_nm h.lf.fit (plan_good (m := m) (kind := kind) (key := key) (val := val) (N := N) h.lf.fit) hz
  rw [h.sz] at h1 h3 h4 h5
  rw [← doesS_run, ← doesR_run] at h1
  rw [← doesR_run] at h3 h4
  have hu := doesS_up h.up kN m l kind key val N
  rw [h1] at hu
  have hlf : LF (doesR l m z kind key val N (R - z)).2.1 m := h.lf.run hm kind key val N _
  obtain ⟨er, l', z', hR⟩ : ∃ er l' z', doesR l m z kind key val N (R - z) = (er, l', z') := ⟨_, _, _, rfl⟩
  rw [hR] at h1 h3 h4 hlf
  refine ⟨er, d', l', z', h1, hR, h2, ⟨rs', h3, h4⟩, ?_, hlf, hu⟩
  have h4 : z' = ((Fr.putB rs').length : Int) := h4
  rw [h4]
  omega
theorem DI.draft (h : DI R m k d l z) : d.read (draftN kN) = ([], 5) := by
  obtain ⟨rs, f, _⟩ := h.f
  exact h.q.read_none kN_nm.dok f.draft
theorem DI.free (h : DI R m k d l z) : d.free = R - z := by rw [h.q.free, h.sz]
end
section
variable {S1 S2 S3 S1' S2' : Nat → Prop} {B : Nat} {W W' : World} {gd g g' gm : Nat} {d d' : DS} {n : ByteArray} {m mm z k x y free kind N fuse keep : Int} {torn : Bool} {l l' ml ml' : List E} {z' : Int} {key val : ByteArray}
theorem does_D (h : KDM S1 S2 S3 B W gd g gm d n m l m l z) (f : Fine d n m l z k) (hsz : key.size + val.size ≤ 274877906944) (hS : doesS d n m l kind key val N = (x, d', l')) (hR : doesR l m z kind key val N free = (y, ml', z')) : Calls Try.prog 16 #[.pointer (some ⟨g, 0, none⟩), .pointer (some ⟨gm, 0, none⟩), .agg #[.int .i64 kind, .string key, .string val, .int .i64 N, .int .i64 fuse, .int .i64 keep, .bool torn], .int .i64 free] W fun e W' => e = .returned (.tuple #[.int .i64 x, .int .i64 y]) ∧ ∃ S1' S2', KDM S1' S2' S3 B W' gd g gm d' n m l' m ml' z' ∧ Step (U (U S1 S2) (At1 gm)) W (U (U S1' S2') (At1 gm)) W' := by
  have := does_Q (kind := kind) (key := key) (val := val) (N := N) (fuse := fuse) (keep := keep) (torn := torn) (free := free) h f hsz
  rw [hS, hR] at this
  exact this
/-- The reference's store is made beside. -/
theorem KDM.make (h : KD S1 S2 B W gd g d n m l) (hb : Below W.heap.size W W') {gm : Nat} (hg : W'.heap[gm]? = some (.cells (mCells mm (.slice none 0 0) 0) 40 (0, 0))) (hl : W.heap.size ≤ gm) : KDM S1 S2 (At1 gm) B W' gd g gm d n m l mm [] 0 := by
  refine ⟨h.below hb, ⟨⟨none, 0, Nat.le_refl _, hg, Kd.F_nil _ _ _⟩, .inr rfl⟩, rfl, fun k hk e => ?_, fun k e => ?_, fun k e => ?_⟩
  · subst e
    exact hk.elim (fun hk => absurd (h.dev.hi _ hk) (Nat.not_lt.2 hl)) (fun hk => absurd (h.st.hi _ hk) (Nat.not_lt.2 hl))
  · subst e
    exact blk_lt hg
  · subst e
    exact Nat.le_trans h.size hl
theorem KDM.cell1 (h : KDM S1 S2 S3 B W gd g gm d n m l mm ml z) : ∃ A c q, q = ml.length ∧ ml.length ≤ c ∧ Kd.C kE W A ml.length ml ∧ W.cell? ⟨gm, 1, none⟩ = some (.slice A q c) := by
  obtain ⟨A, c, hc, hb, he⟩ := h.ms.at_
  exact ⟨A, c, _, rfl, hc, he.C, (blk_cell hb 1).trans rfl⟩
end
theorem great_R (w : World) {W : World} {A : Option Addr} {n c : Nat} {l : List C5} (h : Script W A n c l) : ∃ r, (r = false → tot l ≤ 4096 ∧ l.length ≤ 60) ∧ ∀ w, Below W.heap.size W w → Calls Try.prog 15 #[.slice A n c] w fun e w' => e = .returned (.bool r) ∧ Below w.heap.size w w' := by
  obtain ⟨r, hr1, hr2⟩ := great_l0 l h.s1 h.s2 h.few (l.length + 1) 0 0 (Nat.zero_le _) (by omega) (by omega)
  have hn := h.len
  subst hn
  refine ⟨r, fun h => ?_, fun w hb => ?_⟩
  · have := hr2 h
    rw [List.drop_zero] at this
    omega
  · exact seichelaw05_great.calls (l.length + 1) A c l r w (Kd.C_below h.C hb) h.cap hr1
section
variable {w : World} {A : Option Addr} {n c : Nat} {sc : List C5} {R m : Int}
end
end Go.Proofs.Ytclkcipakncjkaa.Kv
/- A budget: how many bytes a store's file can come to. -/
namespace Go.Proofs.Ytclkcipakncjkaa.Kv
open Go Go.RowKit Go.Proofs.YtclkcipakncjkaaW.PrintWords Go.Proofs.YtclkcipakncjkaaW.PrintLast Go.Proofs.YtclkcipakncjkaaW.PrintMore Go.Proofs.YtclkcipakncjkaaMy Go.Proofs.Ytclkcipakncjkaa Go.Proofs.YtclkcipakncjkaaPw Go.Proofs.Ytclkcipakncjkaa.PAll Go.Proofs.Ytclkcipakncjkaa.Dk
set_option linter.unusedVariables false
set_option linter.unusedSimpArgs false
/-- What it takes to tell an entry gone; to tell all; with what they took themselves. -/
def PL (l : List E) : Nat := (l.map fun e => 36 + e.f0.size).sum
def QL (l : List E) : Nat := (l.map fun e => 79 + 2 * e.f0.size + e.f1.size).sum
theorem PL_append (a b : List E) : PL (a ++ b) = PL a + PL b := by unfold PL; rw [List.map_append, List.sum_append]
theorem QL_append (a b : List E) : QL (a ++ b) = QL a + QL b := by unfold QL; rw [List.map_append, List.sum_append]
theorem PL_split (l : List E) (i : Nat) : PL (l.take i) + PL (l.drop i) = PL l := by rw [← PL_append, List.take_append_drop]
theorem QL_split (l : List E) (i : Nat) : QL (l.take i) + QL (l.drop i) = QL l := by rw [← QL_append, List.take_append_drop]
theorem erase_le (l : List E) (i : Nat) : PL (l.eraseIdx i) ≤ PL l ∧ QL (l.eraseIdx i) ≤ QL l := by
  rw [List.eraseIdx_eq_take_drop_succ, PL_append, QL_append]
  have h1 := PL_split l i
  have h2 := QL_split l i
  have h3 := PL_split (l.drop i) 1
  have h4 := QL_split (l.drop i) 1
  rw [List.drop_drop] at h3 h4
  omega
theorem drop_le (l : List E) (s : ByteArray) : PL (dropE l s) ≤ PL l ∧ QL (dropE l s) ≤ QL l := by
  unfold dropE
  split
  · exact erase_le l _
  · exact ⟨Nat.le_refl _, Nat.le_refl _⟩
theorem gones_size {l : List E} (h : Short l) (j : Nat) : (Fr.putB (gones l j)).length = PL (l.take j) := by
  have hg := Good.gones h j
  have h0 : ∀ l : List E, Fr.sizes ((keysE l).map recG) + 8 * ((keysE l).map recG).length = PL l := by
    intro l
    induction l with
    | nil => rfl
    | cons e r ih =>
      unfold keysE PL at ih ⊢
      simp only [List.map_cons, Fr.sizes, List.length_cons, List.sum_cons, recG_size] at ih ⊢
      omega
  rw [Fr.putB_length (fun r hr => (hg r hr).size)]
  have := h0 (l.take j)
  unfold gones
  omega
theorem all_size {l : List E} (h : Fit l) : (Fr.putB (allRecs l)).length + PL l = QL l := by
  have hg := Good.all h
  have h0 : ∀ l : List E, Fr.sizes (allRecs l) + 8 * (allRecs l).length + PL l = QL l := by
    intro l
    induction l with
    | nil => rfl
    | cons e r ih =>
      unfold allRecs PL QL at ih ⊢
      simp only [List.map_cons, Fr.sizes, List.length_cons, List.sum_cons, recP_size] at ih ⊢
      omega
  rw [Fr.putB_length (fun r hr => (hg r hr).size)]
  have := h0 l
  omega
theorem one_size {k u : ByteArray} (h : (recP k u).size ≤ 65536) : (Fr.putB [recP k u]).length = 43 + k.size + u.size := by
  rw [Fr.putB_length (fun r hr => by rcases List.mem_singleton.1 hr with rfl; exact h)]
  simp only [List.length_singleton, Fr.sizes, recP_size]
  omega
/-- Every beginning of the records keeps to the budget. -/
def Bud (rs : List ByteArray) (T : Nat) : Prop := ∀ i, i ≤ rs.length → (Fr.putB (rs.take i)).length + PL (stepAll [] (rs.take i)) ≤ T ∧ QL (stepAll [] (rs.take i)) ≤ T
section
variable {rs : List ByteArray} {l : List E} {T : Nat}
theorem Bud.nil (T : Nat) : Bud [] T := fun i hi => by
  have : i = 0 := Nat.le_zero.1 hi
  subst this
  exact ⟨Nat.zero_le _, Nat.zero_le _⟩
theorem Bud.mono {T' : Nat} (h : Bud rs T) (hT : T ≤ T') : Bud rs T' := fun i hi => ⟨Nat.le_trans (h i hi).1 hT, Nat.le_trans (h i hi).2 hT⟩
theorem Bud.all (h : Bud rs T) (hl : stepAll [] rs = l) : (Fr.putB rs).length + PL l ≤ T ∧ QL l ≤ T := by
  have := h rs.length (Nat.le_refl _)
  rw [List.take_length, hl] at this
  exact this
theorem Bud.take (h : Bud rs T) (j : Nat) : Bud (rs.take j) T := fun i hi => by
  rw [List.length_take] at hi
  rw [List.take_take]
  exact h _ (by omega)
theorem gones_take (l : List E) (j a : Nat) (h : a ≤ j) : (gones l j).take a = gones l a := by
  unfold gones keysE
  rw [← List.map_take, ← List.map_take, List.take_take, Nat.min_eq_left h]
theorem Bud.append {rs2 : List ByteArray} (h : Bud rs T) (h2 : ∀ a, a ≤ rs2.length → (Fr.putB rs).length + (Fr.putB (rs2.take a)).length + PL (stepAll (stepAll [] rs) (rs2.take a)) ≤ T ∧ QL (stepAll (stepAll [] rs) (rs2.take a)) ≤ T) : Bud (rs ++ rs2) T := fun i hi => by
  rcases Nat.le_total i rs.length with c | c
  · rw [List.take_append_of_le_length c]
    exact h i c
  · obtain ⟨a, rfl⟩ : ∃ a, i = rs.length + a := ⟨i - rs.length, by omega⟩
    rw [List.length_append] at hi
    rw [List.take_append, List.take_of_length_le (by omega), putB_append, List.length_append, stepAll_append]
    rw [show rs.length + a - rs.length = a by omega]
    exact h2 a (by omega)
theorem Bud.gones (h : Bud rs T) (hl : stepAll [] rs = l) (hs : Short l) (j : Nat) (hj : j ≤ l.length) : Bud (rs ++ gones l j) T := by
  have ht := h.all hl
  refine h.append (fun a ha => ?_)
  rw [gones_length] at ha
  rw [hl, gones_take l j a (by omega), stepAll_gones2 hs a (by omega), gones_size hs]
  have h1 := PL_split l a
  have h2 := QL_split l a
  omega
theorem Bud.put (h : Bud rs T) (hl : stepAll [] rs = l) {k u : ByteArray} (hok : (recP k u).size ≤ 65536) : Bud (rs ++ [recP k u]) (T + (79 + 2 * k.size + u.size)) := by
  have ht := h.all hl
  refine (h.mono (Nat.le_add_right _ _)).append (fun a ha => ?_)
  rw [hl]
  rw [List.length_singleton] at ha
  rcases Nat.le_one_iff_eq_zero_or_eq_one.1 ha with rfl | rfl
  · show (Fr.putB rs).length + 0 + PL l ≤ _ ∧ QL l ≤ _
    omega
  · show (Fr.putB rs).length + (Fr.putB [recP k u]).length + PL (stepE l (recP k u)) ≤ _ ∧ QL (stepE l (recP k u)) ≤ _
    rw [one_size hok]
    unfold stepE
    rw [doneE_recP l (by omega), Option.getD_some, PL_append, QL_append]
    have h1 := drop_le l k
    have h2 : PL [(⟨k, u⟩ : E)] = 36 + k.size := by unfold PL; simp
    have h3 : QL [(⟨k, u⟩ : E)] = 79 + 2 * k.size + u.size := by unfold QL; simp
    rw [h2, h3]
    omega
theorem Fit.take {l : List E} (h : Fit l) (i : Nat) : Fit (l.take i) := fun e he => h e (List.mem_of_mem_take he)
theorem KN.take {l : List E} (h : KN l) (j : Nat) : KN (l.take j) := by
  unfold KN at h ⊢
  exact List.Nodup.sublist (List.Sublist.map _ (List.take_sublist j l)) h
theorem stepAll_all' {l : List E} (hf : Fit l) (hk : KN l) : stepAll [] (allRecs l) = l := by
  have := stepAll_all l [] hf (by rw [List.nil_append]; exact hk)
  rw [List.nil_append] at this
  exact this
theorem Bud.compact (hf : Fit l) (hk : KN l) (hT : QL l ≤ T) : Bud (allRecs l) T := fun i hi => by
  have e : (allRecs l).take i = allRecs (l.take i) := by unfold allRecs; rw [List.map_take]
  rw [e, stepAll_all' (hf.take i) (hk.take i)]
  have h1 := all_size (hf.take i)
  have h2 := QL_split l i
  omega
end
/-- What a call costs. -/
def costC (kind : Int) (key val : ByteArray) : Nat := if kind = 0 then 79 + 2 * key.size + val.size else 0
/-- What the records are behind a plan that goes through. -/
def recsP (rs : List ByteArray) (l : List E) : Plan → List ByteArray
  | .wr rs2 => rs ++ rs2
  | .comp => allRecs l
  | _ => rs
theorem Bud.plan {rs : List ByteArray} {l : List E} {T : Nat} {m kind N : Int} {key val : ByteArray} (h : Bud rs T) (hl : stepAll [] rs = l) (hlf : LF l m) : Bud (recsP rs l (planOf l m kind key val N)) (T + costC kind key val) ∧ needP l (planOf l m kind key val N) ≤ ((T + costC kind key val : Nat) : Int) := by
  have h0 := h.mono (Nat.le_add_right T (costC kind key val))
  have hz : (0 : Int) ≤ ((T + costC kind key val : Nat) : Int) := Int.natCast_nonneg _
  have hw : ∀ rs2, Bud (rs ++ rs2) (T + costC kind key val) → ((Fr.putB rs2).length : Int) ≤ ((T + costC kind key val : Nat) : Int) := fun rs2 hb => by
    have := (hb.all rfl).1
    rw [putB_append, List.length_append] at this
    omega
  unfold planOf
  by_cases c0 : kind = 0
  · rw [if_pos c0]
    have hc : costC kind key val = 79 + 2 * key.size + val.size := by unfold costC; rw [if_pos c0]
    by_cases c1 : 65536 < (recP key val).size
    · rw [if_pos c1]; exact ⟨h0, hz⟩
    rw [if_neg c1]
    by_cases c2 : getE l key = some val
    · rw [if_pos c2]; exact ⟨h0, hz⟩
    rw [if_neg c2]
    have hb : Bud (rs ++ putRecs l m key val) (T + costC kind key val) := by
      unfold putRecs
      rw [hc]
      split
      · rw [List.nil_append]
        exact h.put hl (Nat.not_lt.1 c1)
      · rw [← List.append_assoc]
        exact (h.gones hl hlf.fit.short (min (over l m) l.length) (Nat.min_le_right _ _) |> fun hb => by
          have e : Kv.gones l (min (over l m) l.length) = Kv.gones l (over l m) := by
            unfold Kv.gones keysE
            rcases Nat.le_total (over l m) l.length with c | c
            · rw [Nat.min_eq_left c]
            · rw [Nat.min_eq_right c, List.take_of_length_le (Nat.le_refl _), List.take_of_length_le c]
          rw [e] at hb
          exact hb.put rfl (Nat.not_lt.1 c1))
    exact ⟨hb, hw _ hb⟩
  rw [if_neg c0]
  by_cases c1 : kind = 1
  · rw [if_pos c1]
    by_cases c2 : N < 0
    · rw [if_pos c2]; exact ⟨h0, hz⟩
    rw [if_neg c2]
    by_cases c3 : min N.toNat l.length = 0
    · rw [if_pos c3]; exact ⟨h0, hz⟩
    rw [if_neg c3]
    have hb := (h.gones hl hlf.fit.short _ (Nat.min_le_right N.toNat l.length)).mono (Nat.le_add_right T (costC kind key val))
    exact ⟨hb, hw _ hb⟩
  rw [if_neg c1]
  by_cases c2 : kind = 2
  · rw [if_pos c2]; exact ⟨h0, hz⟩
  rw [if_neg c2]
  by_cases c3 : kind = 3
  · rw [if_pos c3]
    have hq := (h0.all hl).2
    have h1 := all_size hlf.fit
    refine ⟨Bud.compact hlf.fit hlf.kn hq, ?_⟩
    show ((Fr.putB (allRecs l)).length : Int) ≤ _
    omega
  rw [if_neg c3]
  exact ⟨h0, hz⟩
/-- The costs of a script's first calls. -/
def costL : List C5 → Nat
  | [] => 0
  | x :: l => costC x.f0 x.f1 x.f2 + costL l
theorem costL_append (a b : List C5) : costL (a ++ b) = costL a + costL b := by
  induction a with
  | nil => simp [costL]
  | cons x a ih => simp only [List.cons_append, costL, ih]; omega
theorem costL_le (l : List C5) : costL l ≤ 79 * l.length + 2 * tot l := by
  induction l with
  | nil => exact Nat.le_refl _
  | cons x l ih =>
    simp only [costL, tot, List.length_cons]
    have : costC x.f0 x.f1 x.f2 ≤ 79 + 2 * x.f1.size + 2 * x.f2.size := by unfold costC; split <;> omega
    omega
theorem costL_step {l : List C5} {j : Nat} (hj : j < l.length) : costL (l.take (j + 1)) = costL (l.take j) + costC (l[j]).f0 (l[j]).f1 (l[j]).f2 := by
  rw [List.take_succ_eq_append_getElem hj, costL_append]
  simp [costL]
theorem costL_take (l : List C5) (j : Nat) : costL (l.take j) ≤ costL l := by
  have := costL_append (l.take j) (l.drop j)
  rw [List.take_append_drop] at this
  omega
theorem costL_12 {l : List C5} (h : tot l ≤ 4096 ∧ l.length ≤ 60) (j : Nat) : costL (l.take j) ≤ 12932 := by
  have h1 := costL_take l j
  have h2 := costL_le l
  omega
end Go.Proofs.Ytclkcipakncjkaa.Kv
/- Calls for which there is room; two stores on one device. -/
namespace Go.Proofs.Ytclkcipakncjkaa.Kv
open Go Go.RowKit Go.Proofs.YtclkcipakncjkaaW.PrintWords Go.Proofs.YtclkcipakncjkaaW.PrintLast Go.Proofs.YtclkcipakncjkaaW.PrintMore Go.Proofs.YtclkcipakncjkaaMy Go.Proofs.Ytclkcipakncjkaa Go.Proofs.YtclkcipakncjkaaPw Go.Proofs.Ytclkcipakncjkaa.PAll Go.Proofs.Ytclkcipakncjkaa.Dk
set_option linter.unusedVariables false
set_option linter.unusedSimpArgs false
section
variable {d : DS} {R m z free : Int} {n : ByteArray} {rs0 : List ByteArray} {l : List E}
/-- A call for which there is room. -/
theorem run_room (h : Quiet d R) (f : StF d n rs0 l) (nm : Nm n) (hft : Fit l) {p : Plan} (hg : ∀ rs, p = .wr rs → ∀ r ∈ rs, Good r) (h1 : needP l p ≤ R - Dk.sizes d.files) (h2 : needP l p ≤ free) :
    ∃ er d', runS d n l p = (er, d', listP l p) ∧ runR l ((Fr.putB rs0).length : Int) free p = (er, listP l p, ((Fr.putB (recsP rs0 l p)).length : Int)) ∧ Quiet d' R ∧ StF d' n (recsP rs0 l p) (listP l p) ∧ Dk.sizes d'.files = Dk.sizes d.files - ((Fr.putB rs0).length : Int) + ((Fr.putB (recsP rs0 l p)).length : Int) ∧ (∀ t, t ≠ n → t ≠ draftN n → findF d'.files t = findF d.files t) ∧ (p = .sync ∨ p = .comp → ∀ x, findF d'.files n = some x → x.safe = x.b.length) := by
  cases p with
  | ret e => exact ⟨e, d, rfl, rfl, h, f, by show _ = Dk.sizes d.files - _ + ((Fr.putB rs0).length : Int); omega, fun _ _ _ => rfl, fun e => e.elim (fun e => nomatch e) (fun e => nomatch e)⟩
  | wr rs =>
    have h1 : ((Fr.putB rs).length : Int) ≤ R - Dk.sizes d.files := h1
    have h2 : ((Fr.putB rs).length : Int) ≤ free := h2
    obtain ⟨d', a1, a2, a3, a4, a5⟩ := wr_q h f nm (hg rs rfl) (by omega)
    refine ⟨0, d', a1, ?_, a2, a3, ?_, fun t ht _ => a5 t ht, fun e => e.elim (fun e => nomatch e) (fun e => nomatch e)⟩
    · show writeR l _ rs free = (0, stepAll l rs, ((Fr.putB (rs0 ++ rs)).length : Int))
      unfold writeR
      rw [if_neg (by omega), putB_append, List.length_append, Int.natCast_add]
    · show _ = _ - _ + ((Fr.putB (rs0 ++ rs)).length : Int)
      rw [a4, putB_append, List.length_append]
      omega
  | sync =>
    obtain ⟨d', a1, a2, a3, a4, a5, a6⟩ := sync_q h f nm
    refine ⟨0, d', ?_, rfl, a2, a3, ?_, fun t ht _ => a5 t ht, fun _ => a6⟩
    · show ((syncE d n).1, (syncE d n).2, l) = _
      rw [a1]
      rfl
    · show _ = Dk.sizes d.files - _ + ((Fr.putB rs0).length : Int)
      rw [a4]
      omega
  | comp =>
    have h1 : ((Fr.putB (allRecs l)).length : Int) ≤ R - Dk.sizes d.files := h1
    have h2 : ((Fr.putB (allRecs l)).length : Int) ≤ free := h2
    obtain ⟨d', a1, a2, a3, a4, a5, a6⟩ := comp_q h f nm hft (by omega)
    refine ⟨0, d', ?_, ?_, a2, a3, a4, a5, fun _ => a6⟩
    · show ((compactE d n l).1, (compactE d n l).2, l) = _
      rw [a1]
      rfl
    · show ((compactR l _ free).1, l, (compactR l _ free).2) = (0, l, ((Fr.putB (allRecs l)).length : Int))
      unfold compactR
      rw [if_neg (by omega)]
end
/-- Two names apart. -/
structure Apart (n1 n2 : ByteArray) : Prop where
  a : n2 ≠ n1
  b : n2 ≠ draftN n1
  c : draftN n2 ≠ n1
  d : draftN n2 ≠ draftN n1
theorem Apart.swap {n1 n2 : ByteArray} (h : Apart n1 n2) : Apart n2 n1 := ⟨h.a.symm, h.c.symm, h.b.symm, h.d.symm⟩
/-- What the loop keeps to. -/
structure DA (n1 n2 : ByteArray) (T1 T2 : Nat) (k : Int) (d : DS) (l1 l2 : List E) (z1 z2 : Int) : Prop where
  q : Quiet d 1048576
  f : ∃ rs1 rs2, StF d n1 rs1 l1 ∧ StF d n2 rs2 l2 ∧ Bud rs1 T1 ∧ Bud rs2 T2 ∧ z1 = ((Fr.putB rs1).length : Int) ∧ z2 = ((Fr.putB rs2).length : Int)
  sz : Dk.sizes d.files = z1 + z2
  lf1 : LF l1 20
  lf2 : LF l2 20
  up : d.Up k
section
variable {n1 n2 : ByteArray} {T1 T2 : Nat} {k : Int} {d : DS} {l1 l2 : List E} {z1 z2 : Int}
theorem DA.new (n1 n2 : ByteArray) : DA n1 n2 0 0 0 (Dk.new 1048576) [] [] 0 0 := ⟨Quiet.new (by decide), ⟨[], [], StF.new n1, StF.new n2, Bud.nil 0, Bud.nil 0, rfl, rfl⟩, rfl, LF.nil (by decide), LF.nil (by decide), DS.Up.new 1048576⟩
theorem DA.swap (h : DA n1 n2 T1 T2 k d l1 l2 z1 z2) : DA n2 n1 T2 T1 k d l2 l1 z2 z1 := by
  obtain ⟨rs1, rs2, a, b, c, e, f, g⟩ := h.f
  exact ⟨h.q, ⟨rs2, rs1, b, a, e, c, g, f⟩, by rw [h.sz, Int.add_comm], h.lf2, h.lf1, h.up⟩
theorem DA.mono (h : DA n1 n2 T1 T2 k d l1 l2 z1 z2) {T k' : _} (hT : T1 ≤ T) (hk : k ≤ k') : DA n1 n2 T T2 k' d l1 l2 z1 z2 := by
  obtain ⟨rs1, rs2, a, b, c, e, f, g⟩ := h.f
  exact ⟨h.q, ⟨rs1, rs2, a, b, c.mono hT, e, f, g⟩, h.sz, h.lf1, h.lf2, h.up.mono hk⟩
theorem DA.z (h : DA n1 n2 T1 T2 k d l1 l2 z1 z2) : 0 ≤ z1 ∧ z1 ≤ T1 := by
  obtain ⟨rs1, rs2, a, b, c, e, f, g⟩ := h.f
  have := (c.all a.list).1
  omega
theorem DA.fine (h : DA n1 n2 T1 T2 k d l1 l2 z1 z2) (nm : Nm n1) (hT : T1 ≤ 13000) (hk : k < 4611686018427380000) : Fine d n1 20 l1 z1 k := ⟨h.up, hk, h.lf1.kn, h.lf1.fit, by have := h.lf1.len; omega, by decide, nm.sz, by have := h.z; omega⟩
theorem DA.next (h : DA n1 n2 T1 T2 k d l1 l2 z1 z2) (nm : Nm n1) (hn : Apart n1 n2) (kind : Int) (key val : ByteArray) (N : Int) (hT : T1 + costC kind key val ≤ 13000) (hT2 : T2 ≤ 13000) : ∃ er d' l' z', doesS d n1 20 l1 kind key val N = (er, d', l') ∧ doesR l1 20 z1 kind key val N 1048576 = (er, l', z') ∧ DA n1 n2 (T1 + costC kind key val) T2 (k + 3) d' l' l2 z' z2 := by
  obtain ⟨rs1, rs2, a, b, c, e, f, g⟩ := h.f
  obtain ⟨hb, hnd⟩ := c.plan (m := 20) (kind := kind) (key := key) (val := val) (N := N) a.list h.lf1
  have hz1 := h.z
  have hz2 := h.swap.z
  obtain ⟨er, d', r1, r2, r3, r4, r5, r6, _⟩ := run_room (free := 1048576) h.q a nm h.lf1.fit (plan_good (m := 20) (kind := kind) (key := key) (val := val) (N := N) h.lf1.fit) (by have := h.sz; omega) (by omega)
  rw [← doesS_run] at r1
  rw [← f, ← doesR_run] at r2
  have hu := doesS_up h.up n1 20 l1 kind key val N
  rw [r1] at hu
  refine ⟨er, d', _, _, r1, r2, r3, ⟨_, rs2, r4, b.other (fun t ht => ?_), hb, e, rfl, g⟩, ?_, h.lf1.plan (by decide) kind key val N, h.lf2, hu⟩
  · rcases ht with rfl | rfl
    · exact r6 _ hn.a hn.b
    · exact r6 _ hn.c hn.d
  · rw [r5, h.sz, f]
    omega
end
/-- The blocks of the other store, and of the reference's stores. -/
abbrev Rest (S : Nat → Prop) (p q : Nat) : Nat → Prop := U S (fun k => k = p ∨ k = q)
structure KT (S1 Sa Sb : Nat → Prop) (B : Nat) (W : World) (gd ga gb pa pb : Nat) (d : DS) (n1 n2 : ByteArray) (la lb : List E) (za zb : Int) : Prop where
  a : KDM S1 Sa (Rest Sb pa pb) B W gd ga pa d n1 20 la 20 la za
  sb : KSt Sb B W gb gd n2 20 lb
  mb : MSt (U (U S1 Sa) (Rest Sb pa pb)) W pb 20 lb zb
  ne : pa ≠ pb ∧ ¬ Sb pa ∧ ¬ Sb pb
theorem MSt.congr {S S' : Nat → Prop} {W : World} {gm : Nat} {m z : Int} {l : List E} (h : MSt S W gm m l z) (hS : ∀ k, S k ↔ S' k) : MSt S' W gm m l z := by
  obtain ⟨A, c, hc, h1, h2⟩ := h.at_
  exact ⟨⟨A, c, hc, h1, Kd.F_mono h2 (fun k hk hk2 => hk ((hS k).2 hk2))⟩, (hS gm).1 h.sg⟩
section
variable {S1 Sa Sb S1' Sa' : Nat → Prop} {B : Nat} {W W' : World} {gd ga gb pa pb : Nat} {d d' : DS} {n1 n2 : ByteArray} {la lb la' : List E} {za zb za' : Int}
theorem KT.swap (h : KT S1 Sa Sb B W gd ga gb pa pb d n1 n2 la lb za zb) : KT S1 Sb Sa B W gd gb ga pb pa d n2 n1 lb la zb za := by
  have hs : ∀ k, U (U S1 Sa) (Rest Sb pa pb) k ↔ U (U S1 Sb) (Rest Sa pb pa) k := fun k => by
    constructor
    · rintro ((h | h) | (h | (h | h)))
      · exact .inl (.inl h)
      · exact .inr (.inl h)
      · exact .inl (.inr h)
      · exact .inr (.inr (.inr h))
      · exact .inr (.inr (.inl h))
    · rintro ((h | h) | (h | (h | h)))
      · exact .inl (.inl h)
      · exact .inr (.inl h)
      · exact .inl (.inr h)
      · exact .inr (.inr (.inr h))
      · exact .inr (.inr (.inl h))
  have hpa : ∀ {k}, U S1 Sa k → k ≠ pa := fun hk e => h.a.dis _ hk (.inr (.inl e))
  have hpb : ∀ {k}, U S1 Sa k → k ≠ pb := fun hk e => h.a.dis _ hk (.inr (.inr e))
  refine ⟨⟨⟨h.a.kd.dev, h.sb, fun k h1 h2 => h.a.dis k (.inl h1) (.inl h2), h.a.kd.size⟩, h.mb.congr hs, .inr (.inl rfl), ?_, ?_, ?_⟩, h.a.kd.st, h.a.ms.congr hs, h.ne.1.symm, fun hk => hpb (.inr hk) rfl, fun hk => hpa (.inr hk) rfl⟩
  · rintro k (hk | hk) (h2 | (h2 | h2))
    · exact h.a.kd.dis k hk h2
    · exact hpb (.inl hk) h2
    · exact hpa (.inl hk) h2
    · exact h.a.dis k (.inr h2) (.inl hk)
    · subst h2; exact h.ne.2.2 hk
    · subst h2; exact h.ne.2.1 hk
  · rintro k (hk | (hk | hk))
    · exact h.a.kd.st.hi k hk
    · exact h.a.hi k (.inr (.inr hk))
    · exact h.a.hi k (.inr (.inl hk))
  · rintro k (hk | (hk | hk))
    · exact h.a.kd.st.lo k hk
    · exact h.a.lo k (.inr (.inr hk))
    · exact h.a.lo k (.inr (.inl hk))
theorem KT.below (h : KT S1 Sa Sb B W gd ga gb pa pb d n1 n2 la lb za zb) (hb : Below W.heap.size W W') : KT S1 Sa Sb B W' gd ga gb pa pb d n1 n2 la lb za zb := ⟨h.a.below hb, h.sb.below hb, h.mb.below hb, h.ne⟩
theorem KT.turn (h : KT S1 Sa Sb B W gd ga gb pa pb d n1 n2 la lb za zb) (ha : KDM S1' Sa' (Rest Sb pa pb) B W' gd ga pa d' n1 20 la' 20 la' za') (st : Step (U (U S1 Sa) (At1 pa)) W (U (U S1' Sa') (At1 pa)) W') : KT S1' Sa' Sb B W' gd ga gb pa pb d' n1 n2 la' lb za' zb := by
  refine ⟨ha, h.sb.other st.only ?_, h.mb.step (Step.wide (S3 := Rest Sb pa pb) st (.inr (.inl rfl))) (st.only.block pb h.mb.lt ?_) (.inr (.inr (.inr rfl))), h.ne⟩
  · rintro k hk (h2 | h2)
    · exact h.a.dis k h2 (.inl hk)
    · have : k = pa := h2
      subst this
      exact h.ne.2.1 hk
  · rintro (h2 | h2)
    · exact h.a.dis pb h2 (.inr (.inr rfl))
    · exact h.ne.1 (show pb = pa from h2).symm
theorem does_T {k kind N fuse keep er : Int} {torn : Bool} {key val : ByteArray} (h : KT S1 Sa Sb B W gd ga gb pa pb d n1 n2 la lb za zb) (f : Fine d n1 20 la za k) (hsz : key.size + val.size ≤ 274877906944) (hS : doesS d n1 20 la kind key val N = (er, d', la')) (hR : doesR la 20 za kind key val N 1048576 = (er, la', za')) : Calls Try.prog 16 #[.pointer (some ⟨ga, 0, none⟩), .pointer (some ⟨pa, 0, none⟩), .agg #[.int .i64 kind, .string key, .string val, .int .i64 N, .int .i64 fuse, .int .i64 keep, .bool torn], .int .i64 1048576] W fun e W' => e = .returned (.tuple #[.int .i64 er, .int .i64 er]) ∧ ∃ S1' Sa', KT S1' Sa' Sb B W' gd ga gb pa pb d' n1 n2 la' lb za' zb ∧ Only (U (U S1 Sa) (At1 pa)) W W' := by
  refine (does_D (kind := kind) (key := key) (val := val) (N := N) (fuse := fuse) (keep := keep) (torn := torn) (free := 1048576) h.a f hsz hS hR).mono ?_
  rintro e W' ⟨rfl, S1', Sa', hk, st⟩
  exact ⟨rfl, S1', Sa', h.turn hk st, st.only⟩
end
def sN : ByteArray := ⟨#[115]⟩
def tN : ByteArray := ⟨#[116]⟩
theorem sN_nm : Nm sN := ⟨by kernel_rfl, by kernel_rfl, fun e => absurd (congrArg ByteArray.size e) (by decide), fun e => absurd (congrArg ByteArray.size e) (by decide), by decide⟩
theorem tN_nm : Nm tN := ⟨by kernel_rfl, by kernel_rfl, fun e => absurd (congrArg ByteArray.size e) (by decide), fun e => absurd (congrArg ByteArray.size e) (by decide), by decide⟩
theorem st_apart : Apart sN tN := ⟨of_decide_eq_false (by kernel_rfl), of_decide_eq_false (by kernel_rfl), of_decide_eq_false (by kernel_rfl), of_decide_eq_false (by kernel_rfl)⟩
end Go.Proofs.Ytclkcipakncjkaa.Kv
/- KvlogApart: the walk. -/
namespace Go.Proofs.Ytclkcipakncjkaa.Kv
open Go Go.RowKit Go.Proofs.YtclkcipakncjkaaW.PrintWords Go.Proofs.YtclkcipakncjkaaW.PrintLast Go.Proofs.YtclkcipakncjkaaW.PrintMore Go.Proofs.YtclkcipakncjkaaMy Go.Proofs.Ytclkcipakncjkaa Go.Proofs.YtclkcipakncjkaaPw Go.Proofs.Ytclkcipakncjkaa.PAll Go.Proofs.Ytclkcipakncjkaa.Dk
set_option linter.unusedVariables false
set_option linter.unusedSimpArgs false
/-- The j-th call of a script. -/
def CRow (l : List C5) (j : Nat) (kind : Int) (key val : ByteArray) (N fuse keep : Int) (torn : Bool) : Prop := ∃ hj : j < l.length, l[j] = (⟨kind, key, val, N, fuse, keep, torn⟩ : C5)
section
variable {l : List C5} {j : Nat} {kind N fuse keep : Int} {key val : ByteArray} {torn : Bool}
theorem CRow.get (hj : j < l.length) : ∃ kind key val N fuse keep torn, CRow l j kind key val N fuse keep torn := ⟨_, _, _, _, _, _, _, hj, rfl⟩
theorem CRow.tot (h : CRow l j kind key val N fuse keep torn) : key.size + val.size ≤ tot l := by
  obtain ⟨hj, e⟩ := h
  have := tot_le (List.getElem_mem hj)
  rw [e] at this
  exact this
theorem CRow.cost (h : CRow l j kind key val N fuse keep torn) : costL (l.take (j + 1)) = costL (l.take j) + costC kind key val := by
  obtain ⟨hj, e⟩ := h
  rw [costL_step hj, e]
theorem costL_past {l : List C5} {j : Nat} (h : ¬ j < l.length) : costL (l.take (j + 1)) = costL (l.take j) := by
  rw [List.take_of_length_le (by omega), List.take_of_length_le (by omega)]
theorem Script.cells {W w : World} {A : Option Addr} {n c : Nat} (h : Script W A n c l) (hb : Below W.heap.size W w) (hr : CRow l j kind key val N fuse keep torn) : ∃ ad : Addr, A = some ad ∧ w.cell? (ad.add (j * 7)) = some (.int .i64 kind) ∧ w.cell? ⟨(ad.add (j * 7)).block, (ad.add (j * 7)).off + 1, none⟩ = some (.string key) ∧ w.cell? ⟨(ad.add (j * 7)).block, (ad.add (j * 7)).off + 2, none⟩ = some (.string val) ∧ w.cell? ⟨(ad.add (j * 7)).block, (ad.add (j * 7)).off + 3, none⟩ = some (.int .i64 N) ∧ w.cell? ⟨(ad.add (j * 7)).block, (ad.add (j * 7)).off + 4, none⟩ = some (.int .i64 fuse) ∧ w.cell? ⟨(ad.add (j * 7)).block, (ad.add (j * 7)).off + 5, none⟩ = some (.int .i64 keep) ∧ w.cell? ⟨(ad.add (j * 7)).block, (ad.add (j * 7)).off + 6, none⟩ = some (.bool torn) := by
  obtain ⟨hj, e⟩ := hr
  have := h.at_ hb hj
  rw [e] at this
  exact this
end
section
variable {S1 Sa Sb S1' Sa' : Nat → Prop} {B : Nat} {W W' W2 : World} {gd ga gb pa pb : Nat} {d d' : DS} {n1 n2 : ByteArray} {la lb la' : List E} {za zb za' : Int}
/-- A second store is opened. -/
theorem KD.second {w : World} (ha : KD S1 Sa B w gd ga d n1 20 la) (hb : KD S1' Sb B W gd gb d' n2 20 lb) (st : Step S1 w (U S1' Sb) W) : KSt Sa B W ga gd n1 20 la ∧ ∀ k, Sa k → ¬ U S1' Sb k :=
  ⟨ha.st.other st.only (fun k hk h => ha.dis k h hk), fun k hk => Step.disj st (fun k hk h => ha.dis k h hk) ha.st.hi k hk⟩
theorem KT.make (hb : KD S1 Sb B W gd gb d n2 20 []) (ha : KSt Sa B W ga gd n1 20 []) (dis : ∀ k, Sa k → ¬ U S1 Sb k) (o : Below W.heap.size W W') (ha2 : W'.heap[pa]? = some (.cells (mCells 20 (.slice none 0 0) 0) 40 (0, 0))) (hb2 : W'.heap[pb]? = some (.cells (mCells 20 (.slice none 0 0) 0) 40 (0, 0))) (la : W.heap.size ≤ pa) (lb : W.heap.size ≤ pb) (ne : pa ≠ pb) : KT S1 Sa Sb B W' gd ga gb pa pb d n1 n2 [] [] 0 0 := by
  have h1 : ∀ {k p}, S1 k → W.heap.size ≤ p → k ≠ p := fun hk hp e => by have := hb.dev.hi _ hk; omega
  have h2 : ∀ {k p}, Sa k → W.heap.size ≤ p → k ≠ p := fun hk hp e => by have := ha.hi _ hk; omega
  have h3 : ∀ {k p}, Sb k → W.heap.size ≤ p → k ≠ p := fun hk hp e => by have := hb.st.hi _ hk; omega
  refine ⟨⟨⟨hb.dev.below o, ha.below o, fun k hk h => dis k h (.inl hk), Nat.le_trans hb.size o.size⟩, ⟨⟨none, 0, Nat.le_refl _, ha2, Kd.F_nil _ _ _⟩, .inr (.inr (.inl rfl))⟩, .inr (.inl rfl), ?_, ?_, ?_⟩, hb.st.below o, ⟨⟨none, 0, Nat.le_refl _, hb2, Kd.F_nil _ _ _⟩, .inr (.inr (.inr rfl))⟩, ne, fun hk => h3 hk la rfl, fun hk => h3 hk lb rfl⟩
  · rintro k (hk | hk) (h | (h | h))
    · exact hb.dis k hk h
    · exact h1 hk la h
    · exact h1 hk lb h
    · exact dis k hk (.inr h)
    · exact h2 hk la h
    · exact h2 hk lb h
  · rintro k (h | (h | h))
    · exact Nat.lt_of_lt_of_le (hb.st.hi k h) o.size
    · rw [h]; exact blk_lt ha2
    · rw [h]; exact blk_lt hb2
  · rintro k (h | (h | h))
    · exact hb.st.lo k h
    · rw [h]; exact Nat.le_trans hb.size la
    · rw [h]; exact Nat.le_trans hb.size lb
end
abbrev newM : Obj := .cells #[.int .i64 20, .slice none 0 0, .int .i64 0] 40 (0, 0)
section
variable {w : World} {A A2 : Option Addr} {n c n2 c2 : Nat} {sc sc2 : List C5}
set_option maxHeartbeats 16000000 in
set_option maxRecDepth 100000 in
theorem ka_1 (hg : ∀ w', Below w.heap.size w w' → Calls Try.prog 15 #[.slice A n c] w' fun e w2 => e = .returned (.bool true) ∧ Below w'.heap.size w' w2) : Calls Try.prog 6 #[.slice A n c, .slice A2 n2 c2] w fun e w' => e = .returned (.bool true) ∧ Below w.heap.size w w' := by
  have HGr := Aside0.mk hg
  clear hg
  go_enter Try.func6, Try.ntmps6
  go_wp2_with (first
    | (go_at_call 9; refine (alive_Q w).mono ?_; rintro e w1 ⟨rfl, hb⟩; have HA := Aside0.mk hb; clear hb)
    | (go_at_call 15; refine (HGr.out _ HA.out).mono ?_; rintro e w2 ⟨rfl, hb⟩; have HA2 := Aside0.mk (HA.out.trans (hb.mono HA.out.size)); clear hb HA))
  go_ret
  exact ⟨rfl, HA2.out⟩
set_option maxHeartbeats 16000000 in
set_option maxRecDepth 100000 in
theorem ka_2 (hg : ∀ w', Below w.heap.size w w' → Calls Try.prog 15 #[.slice A n c] w' fun e w2 => e = .returned (.bool false) ∧ Below w'.heap.size w' w2) (hg2 : ∀ w', Below w.heap.size w w' → Calls Try.prog 15 #[.slice A2 n2 c2] w' fun e w2 => e = .returned (.bool true) ∧ Below w'.heap.size w' w2) : Calls Try.prog 6 #[.slice A n c, .slice A2 n2 c2] w fun e w' => e = .returned (.bool true) ∧ Below w.heap.size w w' := by
  have HGr := Aside0.mk hg
  have HGr2 := Aside0.mk hg2
  clear hg hg2
  go_enter Try.func6, Try.ntmps6
  go_wp2_with (first
    | (go_at_call 9; refine (alive_Q w).mono ?_; rintro e w1 ⟨rfl, hb⟩; have HA := Aside0.mk hb; clear hb)
    | (go_at_call 15; have tk := HA2; clear tk; refine (HGr2.out _ HA2.out).mono ?_; rintro e w3 ⟨rfl, hb⟩; have HA3 := Aside0.mk (HA2.out.trans (hb.mono HA2.out.size)); clear hb HA2)
    | (go_at_call 15; refine (HGr.out _ HA.out).mono ?_; rintro e w2 ⟨rfl, hb⟩; have HA2 := Aside0.mk (HA.out.trans (hb.mono HA.out.size)); clear hb HA))
  go_ret
  exact ⟨rfl, HA3.out⟩
set_option maxHeartbeats 16000000 in
set_option maxRecDepth 100000 in
theorem ka_main (hs : Script w A n c sc) (hs2 : Script w A2 n2 c2 sc2) (hg : ∀ w', Below w.heap.size w w' → Calls Try.prog 15 #[.slice A n c] w' fun e w2 => e = .returned (.bool false) ∧ Below w'.heap.size w' w2) (hg2 : ∀ w', Below w.heap.size w w' → Calls Try.prog 15 #[.slice A2 n2 c2] w' fun e w2 => e = .returned (.bool false) ∧ Below w'.heap.size w' w2) (hgr : tot sc ≤ 4096 ∧ sc.length ≤ 60) (hgr2 : tot sc2 ≤ 4096 ∧ sc2.length ≤ 60) : Calls Try.prog 6 #[.slice A n c, .slice A2 n2 c2] w fun e w' => e = .returned (.bool true) ∧ Below w.heap.size w w' := by
  have hu := Try.underlying42
  have hu2 := Try.underlying40
  have HGr := Aside0.mk hg
  have HGr2 := Aside0.mk hg2
  have HSc := Aside0.mk hs
  have HSc2 := Aside0.mk hs2
  have HGt := Aside0.mk hgr
  have HGt2 := Aside0.mk hgr2
  have HNl := Aside0.mk hs.len
  have HNl2 := Aside0.mk hs2.len
  obtain ⟨M, hM⟩ : ∃ M, M = max n n2 := ⟨_, rfl⟩
  have HMx := Aside0.mk hM
  have HM := Aside0.mk (show M ≤ 60 from by have := hs.len; have := hs2.len; omega)
  clear hg hg2 hs hs2 hgr hgr2 hM
  go_enter Try.func6, Try.ntmps6
  go_wp2_with (first
    | (go_at_call 9; refine (alive_Q w).mono ?_; rintro e w1 ⟨rfl, hb⟩; have HA := Aside0.mk hb; clear hb)
    | (go_at_call 15; have tk := HA2; clear tk; refine (HGr2.out _ HA2.out).mono ?_; rintro e w3 ⟨rfl, hb⟩; have HA3 := Aside0.mk (HA2.out.trans (hb.mono HA2.out.size)); clear hb HA2)
    | (go_at_call 15; refine (HGr.out _ HA.out).mono ?_; rintro e w2 ⟨rfl, hb⟩; have HA2 := Aside0.mk (HA.out.trans (hb.mono HA.out.size)); clear hb HA)
    | (go_at_call 11; refine (New_D w3 1048576).mono ?_; rintro e w4 ⟨gd, S0, rfl, hd, hb⟩; have HD0 := Aside0.mk (Dev.mk (B := w.heap.size) hd.at_ (fun j hj => Nat.le_trans HA3.out.size (hd.lo j hj)) hd.hi); have HB0 := Aside0.mk (HA3.out.trans (hb.mono HA3.out.size)); clear hd hb HA3)
    | (go_at_call 10; have tk := HK1; clear tk; refine (Open_quiet (k := 0) HK1.out.dev HK1.out.size (DS.Up.new 1048576) (by decide) (Quiet.new (by decide)) (by decide) (StF.new tN) tN_nm (by decide)).mono ?_; rintro e w6 ⟨rfl, S1b, Sb, hk, hs⟩; obtain ⟨hk2, hdis⟩ := KD.second HK1.out hk hs; have HB2 := Aside0.mk (HB1.out.trans (hs.only.toBelow HK1.out.dev.lo HB1.out.size)); have hx1 := below_alloc (Below.refl w6.heap.size w6) newM; have hx2 := below_alloc hx1 newM; have hp1 := (below_alloc (Below.refl _ (w6.alloc newM)) newM).block _ (blk_lt (blk_new w6 newM)) |>.trans (blk_new w6 newM); have hp2 := blk_new (w6.alloc newM) newM; rw [show (w6.alloc newM).heap.size = w6.heap.size + 1 from Array.size_push ..] at hp2; have HKT := Aside0.mk (KT.make hk hk2 hdis hx2 hp1 hp2 (Nat.le_refl _) (Nat.le_succ _) (by omega)); have HB3 := Aside0.mk (HB2.out.trans (hx2.mono HB2.out.size)); clear hk hs hk2 hdis hx1 hx2 hp1 hp2 HK1 HB1 HB2)
    | (go_at_call 10; have tk := HD0; clear tk; refine (Open_quiet (k := 0) HD0.out HB0.out.size (DS.Up.new 1048576) (by decide) (Quiet.new (by decide)) (by decide) (StF.new sN) sN_nm (by decide)).mono ?_; rintro e w5 ⟨rfl, S1, Sa, hk, hs⟩; have HK1 := Aside0.mk hk; have HB1 := Aside0.mk (HB0.out.trans (hs.only.toBelow HD0.out.lo HB0.out.size)); clear hk hs HD0 HB0))
  go_loopw [12] (fun i wr => ∃ (j : Nat) (S1 Sa Sb : Nat → Prop) (d : DS) (la lb : List E) (za zb : Int), j ≤ M ∧ i = .int .i64 (j : Int) ∧ Aside0 (KT S1 Sa Sb w.heap.size wr gd w4.heap.size w5.heap.size w6.heap.size (w6.heap.size + 1) d sN tN la lb za zb) ∧ Aside0 (DA sN tN (costL (sc.take j)) (costL (sc2.take j)) (6 * (j : Int)) d la lb za zb) ∧ Aside0 (Below w.heap.size w wr)) (fun i _ => M - (intOf i).toNat)
  case atStart => exact ⟨0, _, _, _, _, [], [], _, _, Nat.zero_le _, rfl, HKT, ⟨DA.new sN tN⟩, HB3⟩
  case round =>
    obtain ⟨j, S1c, Sac, Sbc, d, la, lb, za, zb, hj, rfl, HT, HI, HB⟩ := hrel
    clear HKT HB3
    by_cases ja : j < n
    · have ka : decide ((j : Int) < (n : Int)) = true := decide_eq_true (Int.ofNat_lt.2 ja)
      have kan : decide (j < n) = true := decide_eq_true ja
      have hlt : j < M := by have := HMx.out; omega
      obtain ⟨kinda, keya, vala, Na, fusea, keepa, torna, hra⟩ := CRow.get (show j < sc.length from by rw [← HNl.out]; exact ja)
      have HRa := Aside0.mk hra
      have HSza := Aside0.mk (show keya.size + vala.size ≤ 274877906944 from by have := hra.tot; have := HGt.out; omega)
      have HCoa := Aside0.mk (show costL (sc.take j) + costC kinda keya vala ≤ 13000 from by rw [← hra.cost]; have := costL_12 HGt.out (j + 1); omega)
      have HFa := Aside0.mk (HI.out.fine sN_nm (by have := costL_12 HGt.out j; omega) (by have := HM.out; omega))
      obtain ⟨era, da, la', za', hdS, hdR, hi2⟩ := HI.out.next sN_nm st_apart kinda keya vala Na HCoa.out (by have := costL_12 HGt2.out j; omega)
      have HdSa := Aside0.mk hdS
      have HdRa := Aside0.mk hdR
      have HIa := Aside0.mk hi2
      clear hdS hdR hi2 hra
      obtain ⟨ada, ea, ya0, ya1, ya2, ya3, ya4, ya5, ya6⟩ := HSc.out.cells HB.out HRa.out
      subst ea
      by_cases jb : j < n2
      · have kb : decide ((j : Int) < (n2 : Int)) = true := decide_eq_true (Int.ofNat_lt.2 jb)
        have kbn : decide (j < n2) = true := decide_eq_true jb
        obtain ⟨kindb, keyb, valb, Nb, fuseb, keepb, tornb, hrb⟩ := CRow.get (show j < sc2.length from by rw [← HNl2.out]; exact jb)
        have HRb := Aside0.mk hrb
        have HSzb := Aside0.mk (show keyb.size + valb.size ≤ 274877906944 from by have := hrb.tot; have := HGt2.out; omega)
        have HCob := Aside0.mk (show costL (sc2.take j) + costC kindb keyb valb ≤ 13000 from by rw [← hrb.cost]; have := costL_12 HGt2.out (j + 1); omega)
        have HFb := Aside0.mk (HIa.out.swap.fine tN_nm (by have := costL_12 HGt2.out j; omega) (by have := HM.out; omega))
        obtain ⟨erb, db, lb', zb', hdS, hdR, hi2⟩ := HIa.out.swap.next tN_nm st_apart.swap kindb keyb valb Nb HCob.out (HCoa.out)
        have HdSb := Aside0.mk hdS
        have HdRb := Aside0.mk hdR
        have HIb := Aside0.mk hi2
        clear hdS hdR hi2 hrb
        go_wp2_with (first
          | (go_at_call 16; have tk := HT; clear tk; refine (does_T HT.out HFa.out HSza.out HdSa.out HdRa.out).mono ?_; rintro e w7 ⟨rfl, S1a, Sna, hk7, ho7⟩; have HBb := Aside0.mk (HB.out.trans (ho7.toBelow (fun k hk => HT.out.a.loA k hk) HB.out.size)); have HTb := Aside0.mk hk7.swap; obtain ⟨adb, eb, yb0, yb1, yb2, yb3, yb4, yb5, yb6⟩ := HSc2.out.cells HBb.out HRb.out; subst eb; clear hk7 ho7 HT HB)
          | (go_at_call 16; have tk := HTb; clear tk; refine (does_T HTb.out HFb.out HSzb.out HdSb.out HdRb.out).mono ?_; rintro e w8 ⟨rfl, S1b, Snb, hk7, ho7⟩; have HBc := Aside0.mk (HBb.out.trans (ho7.toBelow (fun k hk => HTb.out.a.loA k hk) HBb.out.size)); have HTc := Aside0.mk hk7.swap; clear hk7 ho7 HTb HBb))
        go_roundw
        case rel => exact ⟨j + 1, _, _, _, db, la', lb', _, _, hlt, vE hlt (by have := HM.out; omega), ⟨HTc.out⟩, ⟨by rw [HRa.out.cost, HRb.out.cost, (show 6 * (((j + 1 : Nat)) : Int) = 6 * (j : Int) + 6 from by omega), show 6 * (j : Int) + 6 = 6 * (j : Int) + 3 + 3 from by omega]; exact HIb.out.swap⟩, HBc⟩
        case measure => exact mE hlt (by have := HM.out; omega)
      · have kb : decide ((j : Int) < (n2 : Int)) = false := decide_eq_false (fun h => jb (Int.ofNat_lt.1 h))
        have kbn : decide (j < n2) = false := decide_eq_false jb
        go_wp2_with (first
          | (go_at_call 16; have tk := HT; clear tk; refine (does_T HT.out HFa.out HSza.out HdSa.out HdRa.out).mono ?_; rintro e w7 ⟨rfl, S1a, Sna, hk7, ho7⟩; have HBb := Aside0.mk (HB.out.trans (ho7.toBelow (fun k hk => HT.out.a.loA k hk) HB.out.size)); have HTb := Aside0.mk hk7.swap; clear hk7 ho7 HT HB))
        go_roundw
        case rel => exact ⟨j + 1, _, _, _, da, la', lb, _, _, hlt, vE hlt (by have := HM.out; omega), ⟨HTb.out.swap⟩, ⟨by rw [HRa.out.cost, costL_past (show ¬ j < sc2.length from by rw [← HNl2.out]; exact jb), (show 6 * (((j + 1 : Nat)) : Int) = 6 * (j : Int) + 6 from by omega)]; exact HIa.out.mono (Nat.le_refl _) (by omega)⟩, HBb⟩
        case measure => exact mE hlt (by have := HM.out; omega)
    · have ka : decide ((j : Int) < (n : Int)) = false := decide_eq_false (fun h => ja (Int.ofNat_lt.1 h))
      have kan : decide (j < n) = false := decide_eq_false ja
      by_cases jb : j < n2
      · have kb : decide ((j : Int) < (n2 : Int)) = true := decide_eq_true (Int.ofNat_lt.2 jb)
        have kbn : decide (j < n2) = true := decide_eq_true jb
        have hlt : j < M := by have := HMx.out; omega
        obtain ⟨kindb, keyb, valb, Nb, fuseb, keepb, tornb, hrb⟩ := CRow.get (show j < sc2.length from by rw [← HNl2.out]; exact jb)
        have HRb := Aside0.mk hrb
        have HSzb := Aside0.mk (show keyb.size + valb.size ≤ 274877906944 from by have := hrb.tot; have := HGt2.out; omega)
        have HCob := Aside0.mk (show costL (sc2.take j) + costC kindb keyb valb ≤ 13000 from by rw [← hrb.cost]; have := costL_12 HGt2.out (j + 1); omega)
        have HFb := Aside0.mk (HI.out.swap.fine tN_nm (by have := costL_12 HGt2.out j; omega) (by have := HM.out; omega))
        obtain ⟨erb, db, lb', zb', hdS, hdR, hi2⟩ := HI.out.swap.next tN_nm st_apart.swap kindb keyb valb Nb HCob.out (by have := costL_12 HGt.out j; omega)
        have HdSb := Aside0.mk hdS
        have HdRb := Aside0.mk hdR
        have HIb := Aside0.mk hi2
        clear hdS hdR hi2 hrb
        obtain ⟨adb, eb, yb0, yb1, yb2, yb3, yb4, yb5, yb6⟩ := HSc2.out.cells HB.out HRb.out
        subst eb
        have HTw := Aside0.mk HT.out.swap
        clear HT
        go_wp2_with (first
          | (go_at_call 16; have tk := HTw; clear tk; refine (does_T HTw.out HFb.out HSzb.out HdSb.out HdRb.out).mono ?_; rintro e w8 ⟨rfl, S1b, Snb, hk7, ho7⟩; have HBc := Aside0.mk (HB.out.trans (ho7.toBelow (fun k hk => HTw.out.a.loA k hk) HB.out.size)); have HTc := Aside0.mk hk7.swap; clear hk7 ho7 HTw HB))
        go_roundw
        case rel => exact ⟨j + 1, _, _, _, db, la, lb', _, _, hlt, vE hlt (by have := HM.out; omega), ⟨HTc.out⟩, ⟨by rw [HRb.out.cost, costL_past (show ¬ j < sc.length from by rw [← HNl.out]; exact ja), (show 6 * (((j + 1 : Nat)) : Int) = 6 * (j : Int) + 6 from by omega)]; exact (HIb.out.mono (Nat.le_refl _) (by omega)).swap⟩, HBc⟩
        case measure => exact mE hlt (by have := HM.out; omega)
      · have kb : decide ((j : Int) < (n2 : Int)) = false := decide_eq_false (fun h => jb (Int.ofNat_lt.1 h))
        have kbn : decide (j < n2) = false := decide_eq_false jb
        obtain ⟨Aa, ca, qa, hqa, hca, hCa, za1⟩ := HT.out.a.cell1
        have HQa := Aside0.mk hqa
        have HCa := Aside0.mk hCa
        have HCca := Aside0.mk hca
        have HKa := HT
        clear hqa hca hCa HT
        go_wp2_with (first
          | (go_at_call 17; first
        | (have tk := HKa; clear tk; refine (has_Q HKa.out.a.kd.st HI.out.lf1.kn HQa.out HCa.out HCca.out (by have := HI.out.lf1.len; omega) (by have := HI.out.lf1.len; omega)).mono ?_; rintro e w7 ⟨rfl, hb⟩; rw [decide_eq_true rfl]; have HKb := Aside0.mk (HKa.out.below hb); obtain ⟨Ab, cb, qb, hqb, hcb, hCb, zb1⟩ := HKb.out.swap.a.cell1; have HQb := Aside0.mk hqb; have HCb := Aside0.mk hCb; have HCcb := Aside0.mk hcb; have HB7 := Aside0.mk (HB.out.trans (hb.mono HB.out.size)); clear hb hqb hcb hCb HKa HB)
        | (have tk := HKb; clear tk; refine (has_Q HKb.out.swap.a.kd.st HI.out.lf2.kn HQb.out HCb.out HCcb.out (by have := HI.out.lf2.len; omega) (by have := HI.out.lf2.len; omega)).mono ?_; rintro e w8 ⟨rfl, hb⟩; rw [decide_eq_true rfl]; have HB8 := Aside0.mk (HB7.out.trans (hb.mono HB7.out.size)); clear hb)))
        go_ret
        exact ⟨rfl, HB8.out⟩
theorem Apart_Q (hs : Script w A n c sc) (hs2 : Script w A2 n2 c2 sc2) : Calls Try.prog 6 #[.slice A n c, .slice A2 n2 c2] w fun e w' => e = .returned (.bool true) ∧ Below w.heap.size w w' := by
  obtain ⟨r, hr, hg⟩ := great_R w hs
  obtain ⟨r2, hr2, hg2⟩ := great_R w hs2
  cases r with
  | true => exact ka_1 hg
  | false => cases r2 with
    | true => exact ka_2 hg hg2
    | false => exact ka_main hs hs2 hg hg2 (hr rfl) (hr2 rfl)
end
end Go.Proofs.Ytclkcipakncjkaa.Kv
