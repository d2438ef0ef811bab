/- Joined texts of this claim, in build order. -/
import Derived.Test.YtclkcipakncjkaaMg2
import Derived.Test.YtclkcipakncjkaaMg1
import Derived.Test.YtclkcipakncjkaaOp
/- A device that is on, without a fuse: what its files are, behind the store's calls. -/
namespace Go.Proofs.Ytclkcipakncjkaa.Kv
open Go Go.RowKit Go.Proofs.YtclkcipakncjkaaW.PrintWords Go.Proofs.YtclkcipakncjkaaW.PrintLast Go.Proofs.YtclkcipakncjkaaW.PrintMore Go.Proofs.YtclkcipakncjkaaMy Go.Proofs.Ytclkcipakncjkaa Go.Proofs.YtclkcipakncjkaaPw Go.Proofs.Ytclkcipakncjkaa.PAll Go.Proofs.Ytclkcipakncjkaa.Dk
set_option linter.unusedVariables false
set_option linter.unusedSimpArgs false
theorem findF_putF (l : List Fl) (f : Fl) (s : ByteArray) : findF (putF l f) s = if f.name = s then some f else findF l s := by
  induction l with
  | nil =>
    unfold putF findF
    by_cases c : f.name = s
    · rw [if_pos c, List.find?_cons_of_pos (by simp [c])]
    · rw [if_neg c, List.find?_cons_of_neg (by simp [c])]
  | cons x r ih =>
    unfold putF
    by_cases e : x.name = f.name
    · rw [if_pos e]
      unfold findF
      by_cases c : f.name = s
      · rw [if_pos c, List.find?_cons_of_pos (by simp [c])]
      · rw [if_neg c, List.find?_cons_of_neg (by simp [c]), List.find?_cons_of_neg (by simp [e, c])]
    · rw [if_neg e]
      unfold findF at ih ⊢
      by_cases c : x.name = s
      · rw [List.find?_cons_of_pos (by simp [c]), List.find?_cons_of_pos (by simp [c]), if_neg (fun h => e (by rw [c, h]))]
      · rw [List.find?_cons_of_neg (by simp [c]), List.find?_cons_of_neg (by simp [c])]
        exact ih
theorem findF_delF (l : List Fl) (s t : ByteArray) : findF (delF l s) t = if t = s then none else findF l t := by
  unfold findF delF
  by_cases c : t = s
  · rw [if_pos c, List.find?_eq_none]
    intro f hf
    have := of_decide_eq_true (List.mem_filter.1 hf).2
    simp [c, this]
  · rw [if_neg c, List.find?_filter]
    congr 1
    funext f
    by_cases e : f.name = t
    · simp [e, c]
    · simp [e]
/-- How many bytes a name's file has. -/
def lenF (l : List Fl) (s : ByteArray) : Nat := ((findF l s).map fun f => f.b.length).getD 0
theorem lenF_none {l : List Fl} {s : ByteArray} (h : findF l s = none) : lenF l s = 0 := by unfold lenF; rw [h]; rfl
theorem lenF_some {l : List Fl} {s : ByteArray} {f : Fl} (h : findF l s = some f) : lenF l s = f.b.length := by unfold lenF; rw [h]; rfl
theorem lenF_cons (x : Fl) (r : List Fl) (s : ByteArray) : lenF (x :: r) s = if x.name = s then x.b.length else lenF r s := by
  unfold lenF findF
  by_cases c : x.name = s
  · rw [if_pos c, List.find?_cons_of_pos (by simp [c])]; rfl
  · rw [if_neg c, List.find?_cons_of_neg (by simp [c])]
theorem sizes_cons (x : Fl) (r : List Fl) : Dk.sizes (x :: r) = (x.b.length : Int) + Dk.sizes r := by
  unfold Dk.sizes
  rw [List.map_cons, List.sum_cons]
theorem sizes_putF (l : List Fl) (f : Fl) : Dk.sizes (putF l f) = Dk.sizes l - (lenF l f.name : Int) + (f.b.length : Int) := by
  induction l with
  | nil =>
    show Dk.sizes [f] = Dk.sizes [] - _ + _
    rw [sizes_cons]
    unfold lenF findF Dk.sizes
    simp
  | cons x r ih =>
    unfold putF
    rw [lenF_cons]
    by_cases e : x.name = f.name
    · rw [if_pos e, if_pos e, sizes_cons, sizes_cons]
      omega
    · rw [if_neg e, if_neg e, sizes_cons, sizes_cons, ih]
      omega
theorem sizes_delF {l : List Fl} (h : Once l) (s : ByteArray) : Dk.sizes (delF l s) = Dk.sizes l - (lenF l s : Int) := by
  induction l with
  | nil => rfl
  | cons x r ih =>
    unfold Once at h
    rw [List.map_cons, List.nodup_cons] at h
    have ih := ih h.2
    rw [lenF_cons, sizes_cons]
    by_cases e : x.name = s
    · rw [if_pos e]
      have h0 : lenF r s = 0 := lenF_none (by
        unfold findF
        rw [List.find?_eq_none]
        intro f hf
        simp only [decide_eq_true_eq]
        intro e2
        exact h.1 (List.mem_map.2 ⟨f, hf, by rw [e, e2]⟩))
      have hd : delF (x :: r) s = delF r s := by
        unfold delF
        rw [List.filter_cons, if_neg (by simp [e])]
      rw [hd, ih, h0]
      omega
    · rw [if_neg e]
      have hd : delF (x :: r) s = x :: delF r s := by
        unfold delF
        rw [List.filter_cons, if_pos (by simp [e])]
      rw [hd, sizes_cons, ih]
      omega
theorem sizes_nonneg (l : List Fl) : 0 ≤ Dk.sizes l := by
  induction l with
  | nil => exact Int.le_refl _
  | cons x r ih => rw [sizes_cons]; omega
theorem lenF_le (l : List Fl) (s : ByteArray) : (lenF l s : Int) ≤ Dk.sizes l := by
  induction l with
  | nil => exact Int.le_refl _
  | cons x r ih =>
    have := sizes_nonneg r
    rw [lenF_cons, sizes_cons]
    split <;> omega
theorem fileOr_name (d : DS) (s : ByteArray) : (d.fileOr s).name = s := by
  unfold DS.fileOr
  cases h : findF d.files s with
  | none => rfl
  | some f => exact (findF_some h).2
theorem fileOr_len (d : DS) (s : ByteArray) : (d.fileOr s).b.length = lenF d.files s := by
  unfold DS.fileOr lenF
  cases h : findF d.files s with
  | none => rfl
  | some f => rfl
structure Quiet (d : DS) (R : Int) : Prop where
  down : d.down = false
  fuse : d.fuse = 0
  room : d.room = R
  once : Once d.files
  le : Dk.sizes d.files ≤ R
section
variable {d : DS} {R : Int} {s t : ByteArray} {f : Fl}
theorem Quiet.new (h : 0 ≤ R ∧ R ≤ 1048576) : Quiet (new R) R := ⟨rfl, rfl, by show min (max R 0) 1048576 = R; omega, List.nodup_nil, by show (0 : Int) ≤ R; exact h.1⟩
theorem Quiet.ready (h : Quiet d R) (hs : nameOk s = true) : d.ready s = 0 := by
  unfold DS.ready
  rw [h.down, if_neg (by decide), if_pos hs]
theorem Quiet.goes (h : Quiet d R) : d.goes = false := by
  unfold DS.goes
  rw [h.fuse]
  rfl
theorem Quiet.there_none (h : Quiet d R) (hs : nameOk s = true) (hf : findF d.files s = none) : d.there s = 5 := by
  unfold DS.there
  rw [if_neg (by rw [h.ready hs]; decide), hf, if_neg (by decide)]
theorem Quiet.there_some (h : Quiet d R) (hs : nameOk s = true) (hf : findF d.files s = some f) : d.there s = 0 := by
  unfold DS.there
  rw [if_neg (by rw [h.ready hs]; decide), hf, if_pos (by rfl)]
theorem Quiet.free (h : Quiet d R) : d.free = R - Dk.sizes d.files := by
  unfold DS.free
  rw [h.room]
theorem Quiet.full (h : Quiet d R) (hs : nameOk s = true) {X : List Int} (hX : R - Dk.sizes d.files < (X.length : Int)) : d.append s X = (6, d) := by
  unfold DS.append
  rw [if_neg (fun e => e (h.ready hs)), if_pos (by rw [h.free]; exact hX)]
theorem act_quiet (h : Quiet d R) : d.act.files = d.files ∧ d.act.down = false ∧ d.act.fuse = 0 ∧ d.act.room = R := by
  refine ⟨rfl, h.down, ?_, h.room⟩
  show (if d.fuse = 0 then (0 : Int) else d.fuse - 1) = 0
  rw [if_pos h.fuse]
theorem Quiet.put (h : Quiet d R) (f : Fl) (hle : Dk.sizes d.files - (lenF d.files f.name : Int) + (f.b.length : Int) ≤ R) : Quiet (d.act.put f) R ∧ (∀ t, findF (d.act.put f).files t = if f.name = t then some f else findF d.files t) ∧ Dk.sizes (d.act.put f).files = Dk.sizes d.files - (lenF d.files f.name : Int) + (f.b.length : Int) :=
  ⟨⟨h.down, (act_quiet h).2.2.1, h.room, putF_once h.once f, by show Dk.sizes (putF d.files f) ≤ R; rw [sizes_putF]; exact hle⟩, fun t => findF_putF d.files f t, sizes_putF d.files f⟩
theorem Quiet.append (h : Quiet d R) (hs : nameOk s = true) {X : List Int} (hX : ¬ R - Dk.sizes d.files < (X.length : Int)) : ∃ d', d.append s X = (0, d') ∧ Quiet d' R ∧ (∀ t, findF d'.files t = if s = t then some ⟨s, (d.fileOr s).b ++ X, (d.fileOr s).safe⟩ else findF d.files t) ∧ Dk.sizes d'.files = Dk.sizes d.files + (X.length : Int) := by
  have hn := fileOr_name d s
  have hl := fileOr_len d s
  obtain ⟨h1, h2, h3⟩ := h.put ⟨s, (d.fileOr s).b ++ X, (d.fileOr s).safe⟩ (by
    show Dk.sizes d.files - (lenF d.files s : Int) + (((d.fileOr s).b ++ X).length : Int) ≤ R
    rw [List.length_append, hl]
    omega)
  refine ⟨_, ?_, h1, h2, ?_⟩
  · unfold DS.append
    rw [if_neg (fun e => e (h.ready hs)), if_neg (by rw [h.free]; exact hX)]
    simp only [h.goes, Bool.false_eq_true, if_false]
    show (0, d.act.put { d.fileOr s with b := (d.fileOr s).b ++ X }) = _
    rw [show ({ d.fileOr s with b := (d.fileOr s).b ++ X } : Fl) = ⟨(d.fileOr s).name, (d.fileOr s).b ++ X, (d.fileOr s).safe⟩ from rfl, hn]
  · rw [h3]
    show Dk.sizes d.files - (lenF d.files s : Int) + (((d.fileOr s).b ++ X).length : Int) = _
    rw [List.length_append, hl]
    omega
theorem Quiet.sync_none (h : Quiet d R) (hs : nameOk s = true) (hf : findF d.files s = none) : d.sync s = (5, d) := by
  unfold DS.sync
  rw [if_pos (by rw [h.there_none hs hf]; decide), h.there_none hs hf]
theorem fileOr_findF (hf : findF d.files s = some f) : d.fileOr s = f := by
  unfold DS.fileOr
  rw [hf]
  rfl
theorem Quiet.sync (h : Quiet d R) (hs : nameOk s = true) (hf : findF d.files s = some f) : ∃ d', d.sync s = (0, d') ∧ Quiet d' R ∧ (∀ t, findF d'.files t = if s = t then some ⟨s, f.b, f.b.length⟩ else findF d.files t) ∧ Dk.sizes d'.files = Dk.sizes d.files := by
  have hl := lenF_some hf
  have hn := (findF_some hf).2
  obtain ⟨h1, h2, h3⟩ := h.put ⟨s, f.b, f.b.length⟩ (by
    show Dk.sizes d.files - (lenF d.files s : Int) + (f.b.length : Int) ≤ R
    have := h.le
    omega)
  refine ⟨_, ?_, h1, h2, ?_⟩
  · unfold DS.sync
    rw [if_neg (fun e => e (h.there_some hs hf)), fileOr_findF hf]
    simp only [h.goes, Bool.false_eq_true, if_false]
    rw [hn]
  · rw [h3]
    show Dk.sizes d.files - (lenF d.files s : Int) + (f.b.length : Int) = _
    omega
theorem Quiet.rename (h : Quiet d R) (hs : nameOk s = true) (ht : nameOk t = true) (hne : s ≠ t) (hf : findF d.files s = some f) : ∃ d', d.rename s t = (0, d') ∧ Quiet d' R ∧ (∀ u, findF d'.files u = if t = u then some ⟨t, f.b, f.safe⟩ else if u = s then none else findF d.files u) ∧ Dk.sizes d'.files = Dk.sizes d.files - (lenF d.files t : Int) := by
  have hl := lenF_some hf
  have hfo : d.act.fileOr s = f := fileOr_findF hf
  have hsz : Dk.sizes (putF (delF d.files s) ⟨t, f.b, f.safe⟩) = Dk.sizes d.files - (lenF d.files t : Int) := by
    rw [sizes_putF, sizes_delF h.once]
    have h0 : lenF (delF d.files s) t = lenF d.files t := by
      unfold lenF
      rw [findF_delF, if_neg (fun e => hne e.symm)]
    show _ - (lenF (delF d.files s) t : Int) + _ = _
    rw [h0]
    show Dk.sizes d.files - (lenF d.files s : Int) - _ + (f.b.length : Int) = _
    omega
  refine ⟨(d.act.drop s).put ⟨t, f.b, f.safe⟩, ?_, ⟨h.down, (act_quiet h).2.2.1, h.room, putF_once (delF_once h.once s) _, ?_⟩, fun u => ?_, hsz⟩
  · unfold DS.rename DS.fall
    rw [if_neg (fun e => e (h.there_some hs hf)), if_neg (by rw [ht]; decide), h.goes, if_neg (by decide)]
    show (0, (d.act.drop s).put ⟨t, (d.act.fileOr s).b, (d.act.fileOr s).safe⟩) = _
    rw [hfo]
  · show Dk.sizes (putF (delF d.files s) ⟨t, f.b, f.safe⟩) ≤ R
    rw [hsz]
    have := h.le
    omega
  · show findF (putF (delF d.files s) ⟨t, f.b, f.safe⟩) u = _
    rw [findF_putF, findF_delF]
theorem Quiet.remove_none (h : Quiet d R) (hs : nameOk s = true) (hf : findF d.files s = none) : d.remove s = (5, d) := by
  unfold DS.remove
  rw [if_pos (by rw [h.there_none hs hf]; decide), h.there_none hs hf]
theorem Quiet.read_none (h : Quiet d R) (hs : nameOk s = true) (hf : findF d.files s = none) : d.read s = ([], 5) := by
  unfold DS.read
  rw [if_pos (by rw [h.there_none hs hf]; decide), h.there_none hs hf]
theorem Quiet.read_some (h : Quiet d R) (hs : nameOk s = true) (hf : findF d.files s = some f) : d.read s = (f.b, 0) := by
  unfold DS.read
  rw [if_neg (fun e => e (h.there_some hs hf)), fileOr_findF hf]
end
end Go.Proofs.Ytclkcipakncjkaa.Kv
/- The store's calls on a device that is on, without a fuse: what they answer, and what the file is. -/
namespace Go.Proofs.Ytclkcipakncjkaa.Kv
open Go Go.RowKit Go.Proofs.YtclkcipakncjkaaW.PrintWords Go.Proofs.YtclkcipakncjkaaW.PrintLast Go.Proofs.YtclkcipakncjkaaW.PrintMore Go.Proofs.YtclkcipakncjkaaMy Go.Proofs.Ytclkcipakncjkaa Go.Proofs.YtclkcipakncjkaaPw Go.Proofs.Ytclkcipakncjkaa.PAll Go.Proofs.Ytclkcipakncjkaa.Dk
set_option linter.unusedVariables false
set_option linter.unusedSimpArgs false
/-- A store's name. -/
structure Nm (n : ByteArray) : Prop where
  ok : nameOk n = true
  dok : nameOk (draftN n) = true
  ne : n ≠ draftN n
  nn : n ≠ ⟨#[]⟩
  sz : n.size ≤ 28
/-- What a call comes to. -/
inductive Plan where
  | ret (e : Int)
  | wr (rs : List ByteArray)
  | sync
  | comp
def planOf (l : List E) (m kind : Int) (key val : ByteArray) (N : Int) : Plan :=
  if kind = 0 then (if 65536 < (recP key val).size then .ret 3 else if getE l key = some val then .ret 0 else .wr (putRecs l m key val))
  else if kind = 1 then (if N < 0 then .ret 1 else if min N.toNat l.length = 0 then .ret 0 else .wr (gones l (min N.toNat l.length)))
  else if kind = 2 then .sync else if kind = 3 then .comp else .ret 0
def runS (d : DS) (n : ByteArray) (l : List E) : Plan → Int × DS × List E
  | .ret e => (e, d, l)
  | .wr rs => writeE d n l rs
  | .sync => ((syncE d n).1, (syncE d n).2, l)
  | .comp => ((compactE d n l).1, (compactE d n l).2, l)
def runR (l : List E) (z free : Int) : Plan → Int × List E × Int
  | .ret e => (e, l, z)
  | .wr rs => writeR l z rs free
  | .sync => (0, l, z)
  | .comp => ((compactR l z free).1, l, (compactR l z free).2)
theorem doesS_run (d : DS) (n : ByteArray) (m : Int) (l : List E) (kind : Int) (key val : ByteArray) (N : Int) : doesS d n m l kind key val N = runS d n l (planOf l m kind key val N) := by
  unfold doesS planOf putE evictE
  repeat' (first | rfl | split)
theorem doesR_run (l : List E) (m z kind : Int) (key val : ByteArray) (N free : Int) : doesR l m z kind key val N free = runR l z free (planOf l m kind key val N) := by
  unfold doesR planOf putR evictR
  repeat' (first | rfl | split)
/-- The bytes that a call writes. -/
def needP (l : List E) : Plan → Int
  | .wr rs => (Fr.putB rs).length
  | .comp => (Fr.putB (allRecs l)).length
  | _ => 0
theorem putB_append (a b : List ByteArray) : Fr.putB (a ++ b) = Fr.putB a ++ Fr.putB b := by
  unfold Fr.putB
  rw [List.filter_append, List.flatMap_append]
/-- A store's file; its records lead to these entries. -/
structure StF (d : DS) (n : ByteArray) (rs : List ByteArray) (l : List E) : Prop where
  file : (findF d.files n = none ∧ rs = []) ∨ ∃ sf, findF d.files n = some ⟨n, Fr.putB rs, sf⟩
  draft : findF d.files (draftN n) = none
  good : ∀ r ∈ rs, Good r
  list : stepAll [] rs = l
theorem stepAll_append (l : List E) (a b : List ByteArray) : stepAll l (a ++ b) = stepAll (stepAll l a) b := by
  unfold stepAll
  rw [List.foldl_append]
theorem stepAll_all : ∀ (l acc : List E), Fit l → KN (acc ++ l) → stepAll acc (allRecs l) = acc ++ l
  | [], acc, _, _ => by simp [allRecs, stepAll]
  | e :: l, acc, hf, hk => by
    have h1 : stepE acc (recP e.f0 e.f1) = acc ++ [e] := by
      unfold stepE
      rw [doneE_recP acc (by have := hf e (List.mem_cons_self ..); omega), Option.getD_some, dropE_no]
      rw [getE_none_iff]
      intro x hx e2
      unfold KN at hk
      rw [List.map_append, List.nodup_append] at hk
      exact hk.2.2 x.f0 (List.mem_map.2 ⟨x, hx, rfl⟩) e.f0 (List.mem_map.2 ⟨e, List.mem_cons_self .., rfl⟩) e2
    have h2 := stepAll_all l (acc ++ [e]) (fun x hx => hf x (List.mem_cons_of_mem _ hx)) (by rw [List.append_assoc]; exact hk)
    show stepAll (stepE acc (recP e.f0 e.f1)) (allRecs l) = _
    rw [h1, h2, List.append_assoc]
    rfl
section
variable {d : DS} {R m z : Int} {n : ByteArray} {rs rs0 : List ByteArray} {l : List E}
theorem StF.new (n : ByteArray) : StF (new R) n [] [] := ⟨.inl ⟨rfl, rfl⟩, rfl, (fun r h => nomatch h), rfl⟩
theorem StF.fileB (f : StF d n rs l) : (d.fileOr n).b = Fr.putB rs := by
  rcases f.file with ⟨h, rfl⟩ | ⟨sf, h⟩
  · unfold DS.fileOr
    rw [h]
    rfl
  · rw [fileOr_findF h]
theorem StF.len (f : StF d n rs l) : lenF d.files n = (Fr.putB rs).length := by rw [← fileOr_len, f.fileB]
theorem StF.kn (f : StF d n rs l) : KN l := by rw [← f.list]; exact KN.nil.steps f.good
theorem StF.other {d' : DS} (f : StF d n rs l) (h : ∀ t, t = n ∨ t = draftN n → findF d'.files t = findF d.files t) : StF d' n rs l := ⟨by rw [h n (.inl rfl)]; exact f.file, by rw [h _ (.inr rfl)]; exact f.draft, f.good, f.list⟩
theorem wr_q (h : Quiet d R) (f : StF d n rs0 l) (nm : Nm n) (hg : ∀ r ∈ rs, Good r) (hX : ¬ R - Dk.sizes d.files < ((Fr.putB rs).length : Int)) : ∃ d', writeE d n l rs = (0, d', stepAll l rs) ∧ Quiet d' R ∧ StF d' n (rs0 ++ rs) (stepAll l rs) ∧ Dk.sizes d'.files = Dk.sizes d.files + ((Fr.putB rs).length : Int) ∧ ∀ t, t ≠ n → findF d'.files t = findF d.files t := by
  obtain ⟨d', h1, h2, h3, h4⟩ := h.append nm.ok hX
  refine ⟨d', ?_, h2, ⟨.inr ⟨(d.fileOr n).safe, ?_⟩, ?_, ?_, ?_⟩, h4, fun t ht => ?_⟩
  · unfold writeE
    rw [h1, if_pos rfl]
  · rw [h3, if_pos rfl, f.fileB, putB_append]
  · rw [h3, if_neg nm.ne]
    exact f.draft
  · intro r hr
    rcases List.mem_append.1 hr with hr | hr
    · exact f.good r hr
    · exact hg r hr
  · rw [stepAll_append, f.list]
  · rw [h3, if_neg (fun e => ht e.symm)]
theorem wr_full (h : Quiet d R) (nm : Nm n) (hX : R - Dk.sizes d.files < ((Fr.putB rs).length : Int)) : writeE d n l rs = (6, d, l) := by
  have h1 := h.full nm.ok hX
  unfold writeE
  rw [h1, if_neg (by show ¬ (6 : Int) = 0; decide)]
theorem sync_q (h : Quiet d R) (f : StF d n rs0 l) (nm : Nm n) : ∃ d', syncE d n = (0, d') ∧ Quiet d' R ∧ StF d' n rs0 l ∧ Dk.sizes d'.files = Dk.sizes d.files ∧ (∀ t, t ≠ n → findF d'.files t = findF d.files t) ∧ (∀ x, findF d'.files n = some x → x.safe = x.b.length) := by
  rcases f.file with ⟨h0, h1⟩ | ⟨sf, h0⟩
  · refine ⟨d, ?_, h, f, rfl, fun t _ => rfl, fun x hx => ?_⟩
    · unfold syncE
      rw [h.sync_none nm.ok h0, if_pos rfl]
    · rw [h0] at hx; cases hx
  · obtain ⟨d', h1, h2, h3, h4⟩ := h.sync nm.ok h0
    refine ⟨d', ?_, h2, ⟨.inr ⟨_, by rw [h3, if_pos rfl]⟩, by rw [h3, if_neg nm.ne]; exact f.draft, f.good, f.list⟩, h4, fun t ht => by rw [h3, if_neg (fun e => ht e.symm)], fun x hx => ?_⟩
    · unfold syncE
      rw [h1, if_neg (by show ¬ (0 : Int) = 5; decide)]
    · rw [h3, if_pos rfl] at hx
      injection hx with hx
      subst hx
      rfl
theorem comp_full (h : Quiet d R) (nm : Nm n) (hX : R - Dk.sizes d.files < ((Fr.putB (allRecs l)).length : Int)) : compactE d n l = (6, d) := by
  have h1 := h.full nm.dok hX
  unfold compactE
  rw [h1, if_pos (by show (6 : Int) ≠ 0; decide)]
theorem comp_q (h : Quiet d R) (f : StF d n rs0 l) (nm : Nm n) (hft : Fit l) (hX : ¬ R - Dk.sizes d.files < ((Fr.putB (allRecs l)).length : Int)) : ∃ d', compactE d n l = (0, d') ∧ Quiet d' R ∧ StF d' n (allRecs l) l ∧ Dk.sizes d'.files = Dk.sizes d.files - ((Fr.putB rs0).length : Int) + ((Fr.putB (allRecs l)).length : Int) ∧ (∀ t, t ≠ n → t ≠ draftN n → findF d'.files t = findF d.files t) ∧ (∀ x, findF d'.files n = some x → x.safe = x.b.length) := by
  obtain ⟨d1, a1, a2, a3, a4⟩ := h.append nm.dok hX
  have hb : (d.fileOr (draftN n)).b = [] := by unfold DS.fileOr; rw [f.draft]; rfl
  have f1 : findF d1.files (draftN n) = some ⟨draftN n, Fr.putB (allRecs l), (d.fileOr (draftN n)).safe⟩ := by rw [a3, if_pos rfl, hb, List.nil_append]
  obtain ⟨d2, b1, b2, b3, b4⟩ := a2.sync nm.dok f1
  have f2 : findF d2.files (draftN n) = some ⟨draftN n, Fr.putB (allRecs l), (Fr.putB (allRecs l)).length⟩ := by rw [b3, if_pos rfl]
  obtain ⟨d3, c1, c2, c3, c4⟩ := b2.rename nm.dok nm.ok (fun e => nm.ne e.symm) f2
  have hl2 : lenF d2.files n = (Fr.putB rs0).length := by
    unfold lenF
    rw [b3, if_neg (fun e => nm.ne e.symm), a3, if_neg (fun e => nm.ne e.symm)]
    exact f.len
  refine ⟨d3, ?_, c2, ⟨.inr ⟨_, by rw [c3, if_pos rfl]⟩, by rw [c3, if_neg nm.ne, if_pos rfl], Good.all hft, ?_⟩, ?_, fun t ht hd => ?_, fun x hx => ?_⟩
  · unfold compactE
    rw [a1, if_neg (by simp), b1, if_neg (by simp), c1]
  · have := stepAll_all l [] hft (by rw [List.nil_append]; exact f.kn)
    rw [List.nil_append] at this
    exact this
  · rw [c4, b4, a4, hl2]
    omega
  · rw [c3, if_neg (fun e => ht e.symm), if_neg hd, b3, if_neg (fun e => hd e.symm), a3, if_neg (fun e => hd e.symm)]
  · rw [c3, if_pos rfl] at hx
    injection hx with hx
    subst hx
    rfl
/-- A call, on the store and on the reference's with the device's own room. -/
theorem run_quiet (h : Quiet d R) (f : StF d n rs0 l) (nm : Nm n) (hft : Fit l) {p : Plan} (hg : ∀ rs, p = .wr rs → ∀ r ∈ rs, Good r) (hz : z = ((Fr.putB rs0).length : Int)) :
    ∃ d' rs', runS d n l p = ((runR l z (R - Dk.sizes d.files) p).1, d', (runR l z (R - Dk.sizes d.files) p).2.1) ∧ Quiet d' R ∧ StF d' n rs' (runR l z (R - Dk.sizes d.files) p).2.1 ∧ (runR l z (R - Dk.sizes d.files) p).2.2 = ((Fr.putB rs').length : Int) ∧ Dk.sizes d'.files - ((Fr.putB rs').length : Int) = Dk.sizes d.files - ((Fr.putB rs0).length : Int) ∧ (∀ t, t ≠ n → t ≠ draftN n → findF d'.files t = findF d.files t) := by
  cases p with
  | ret e => exact ⟨d, rs0, rfl, h, f, hz, rfl, fun _ _ _ => rfl⟩
  | wr rs =>
    by_cases c : R - Dk.sizes d.files < ((Fr.putB rs).length : Int)
    · have e1 : runR l z (R - Dk.sizes d.files) (.wr rs) = (6, l, z) := by
        show writeR l z rs _ = _
        unfold writeR
        rw [if_pos c]
      rw [e1]
      exact ⟨d, rs0, wr_full h nm c, h, f, hz, rfl, fun _ _ _ => rfl⟩
    · have e1 : runR l z (R - Dk.sizes d.files) (.wr rs) = (0, stepAll l rs, z + ((Fr.putB rs).length : Int)) := by
        show writeR l z rs _ = _
        unfold writeR
        rw [if_neg c]
      rw [e1]
      obtain ⟨d', h1, h2, h3, h4, h5⟩ := wr_q h f nm (hg rs rfl) c
      refine ⟨d', rs0 ++ rs, h1, h2, h3, ?_, ?_, fun t ht _ => h5 t ht⟩
      · show z + ((Fr.putB rs).length : Int) = _
        rw [putB_append, List.length_append, hz]
        omega
      · rw [h4, putB_append, List.length_append]
        omega
  | sync =>
    obtain ⟨d', h1, h2, h3, h4, h5, _⟩ := sync_q h f nm
    refine ⟨d', rs0, ?_, h2, h3, hz, by rw [h4], fun t ht _ => h5 t ht⟩
    show ((syncE d n).1, (syncE d n).2, l) = _
    rw [h1]
    rfl
  | comp =>
    by_cases c : R - Dk.sizes d.files < ((Fr.putB (allRecs l)).length : Int)
    · have e1 : runR l z (R - Dk.sizes d.files) .comp = (6, l, z) := by
        show ((compactR l z _).1, l, (compactR l z _).2) = _
        unfold compactR
        rw [if_pos c]
      rw [e1]
      refine ⟨d, rs0, ?_, h, f, hz, rfl, fun _ _ _ => rfl⟩
      show ((compactE d n l).1, (compactE d n l).2, l) = _
      rw [comp_full h nm c]
    · have e1 : runR l z (R - Dk.sizes d.files) .comp = (0, l, ((Fr.putB (allRecs l)).length : Int)) := by
        show ((compactR l z _).1, l, (compactR l z _).2) = _
        unfold compactR
        rw [if_neg c]
      rw [e1]
      obtain ⟨d', h1, h2, h3, h4, h5, _⟩ := comp_q h f nm hft c
      refine ⟨d', allRecs l, ?_, h2, h3, rfl, ?_, h5⟩
      · show ((compactE d n l).1, (compactE d n l).2, l) = _
        rw [h1]
      · rw [h4]
        omega
theorem plan_good {kind N : Int} {key val : ByteArray} (hft : Fit l) : ∀ rs, planOf l m kind key val N = .wr rs → ∀ r ∈ rs, Good r := by
  intro rs e
  unfold planOf at e
  split at e
  · split at e
    · cases e
    · rename_i c
      split at e
      · cases e
      · injection e with e
        subst e
        exact Good.puts hft.short (Nat.not_lt.1 c)
  · split at e
    · split at e
      · cases e
      · split at e
        · cases e
        · injection e with e
          subst e
          exact Good.gones hft.short _
    · split at e
      · cases e
      · split at e
        · cases e
        · cases e
/-- What the entries keep to. -/
structure LF (l : List E) (m : Int) : Prop where
  kn : KN l
  fit : Fit l
  len : (l.length : Int) ≤ m
theorem LF.nil (hm : 1 ≤ m) : LF [] m := ⟨KN.nil, (fun e he => nomatch he), by simp only [List.length_nil]; omega⟩
theorem stepAll_gones2 {l : List E} (hs : Short l) (j : Nat) (hj : j ≤ l.length) : stepAll l (gones l j) = l.drop j := stepAll_gones l hs j hj
/-- The entries behind a plan that goes through. -/
def listP (l : List E) : Plan → List E
  | .wr rs => stepAll l rs
  | _ => l
theorem LF.plan (h : LF l m) (hm : 1 ≤ m) (kind : Int) (key val : ByteArray) (N : Int) : LF (listP l (planOf l m kind key val N)) m := by
  have hg := plan_good (m := m) (kind := kind) (key := key) (val := val) (N := N) h.fit
  have hid : ∀ e, LF (listP l (.ret e)) m := fun _ => h
  unfold planOf at hg ⊢
  by_cases c0 : kind = 0
  · rw [if_pos c0] at hg ⊢
    by_cases c1 : 65536 < (recP key val).size
    · rw [if_pos c1]; exact h
    rw [if_neg c1] at hg ⊢
    by_cases c2 : getE l key = some val
    · rw [if_pos c2]; exact h
    rw [if_neg c2] at hg ⊢
    show LF (stepAll l (putRecs l m key val)) m
    have e := stepAll_put h.fit.short hm (Nat.not_lt.1 c1 : (recP key val).size ≤ 65536)
    refine ⟨h.kn.steps (hg _ rfl), ?_, ?_⟩
    · rw [e]
      intro x hx
      rcases putL_mem hx with hx | rfl
      · exact h.fit x hx
      · exact Nat.not_lt.1 c1
    · rw [e]
      exact putL_len hm h.len
  rw [if_neg c0] at hg ⊢
  by_cases c1 : kind = 1
  · rw [if_pos c1] at hg ⊢
    by_cases c2 : N < 0
    · rw [if_pos c2]; exact h
    rw [if_neg c2] at hg ⊢
    by_cases c3 : min N.toNat l.length = 0
    · rw [if_pos c3]; exact h
    rw [if_neg c3] at hg ⊢
    show LF (stepAll l (gones l _)) m
    rw [stepAll_gones2 h.fit.short _ (Nat.min_le_right _ _)]
    refine ⟨h.kn.suffix _, fun x hx => h.fit x (List.mem_of_mem_drop hx), ?_⟩
    rw [List.length_drop]
    have := h.len
    omega
  rw [if_neg c1]
  split
  · exact h
  · split
    · exact h
    · exact h
theorem runR_list (l : List E) (z free : Int) (p : Plan) : (runR l z free p).2.1 = l ∨ (runR l z free p).2.1 = listP l p := by
  cases p with
  | wr rs =>
    show (writeR l z rs free).2.1 = l ∨ (writeR l z rs free).2.1 = stepAll l rs
    unfold writeR
    split
    · exact .inl rfl
    · exact .inr rfl
  | _ => exact .inl rfl
theorem LF.run (h : LF l m) (hm : 1 ≤ m) (kind : Int) (key val : ByteArray) (N free : Int) : LF (doesR l m z kind key val N free).2.1 m := by
  rw [doesR_run]
  rcases runR_list l z free (planOf l m kind key val N) with e | e
  · rw [e]; exact h
  · rw [e]; exact h.plan hm kind key val N
/-- With room enough on both sides it is the same. -/
theorem runR_free {p : Plan} {f1 f2 : Int} (h1 : needP l p ≤ f1) (h2 : needP l p ≤ f2) : runR l z f1 p = runR l z f2 p := by
  cases p with
  | ret e => rfl
  | sync => rfl
  | wr rs =>
    show writeR l z rs f1 = writeR l z rs f2
    have h1 : ((Fr.putB rs).length : Int) ≤ f1 := h1
    have h2 : ((Fr.putB rs).length : Int) ≤ f2 := h2
    unfold writeR
    rw [if_neg (by omega), if_neg (by omega)]
  | comp =>
    have h1 : ((Fr.putB (allRecs l)).length : Int) ≤ f1 := h1
    have h2 : ((Fr.putB (allRecs l)).length : Int) ≤ f2 := h2
    show ((compactR l z f1).1, l, (compactR l z f1).2) = ((compactR l z f2).1, l, (compactR l z f2).2)
    unfold compactR
    rw [if_neg (by omega), if_neg (by omega)]
/-- The file's size has no part in the error and the entries. -/
theorem runR_size (l : List E) (z1 z2 free : Int) (p : Plan) : (runR l z1 free p).1 = (runR l z2 free p).1 ∧ (runR l z1 free p).2.1 = (runR l z2 free p).2.1 := by
  cases p with
  | ret e => exact ⟨rfl, rfl⟩
  | sync => exact ⟨rfl, rfl⟩
  | wr rs =>
    show (writeR l z1 rs free).1 = (writeR l z2 rs free).1 ∧ (writeR l z1 rs free).2.1 = (writeR l z2 rs free).2.1
    unfold writeR
    split <;> exact ⟨rfl, rfl⟩
  | comp =>
    show (compactR l z1 free).1 = (compactR l z2 free).1 ∧ l = l
    unfold compactR
    split <;> exact ⟨rfl, rfl⟩
/-- With more room: what was not full is the same. -/
theorem runR_more {p : Plan} {f1 f2 : Int} (h0 : 0 ≤ f1) (hp : ∀ e, p = .ret e → e ≠ 6) (h1 : (runR l z f1 p).1 ≠ 6) (h2 : f1 ≤ f2) : runR l z f2 p = runR l z f1 p := by
  have hn : needP l p ≤ f1 := by
    cases p with
    | ret e => exact h0
    | sync => exact h0
    | wr rs =>
      refine Int.not_lt.1 (fun c => h1 ?_)
      show (writeR l z rs f1).1 = 6
      replace c : f1 < ((Fr.putB rs).length : Int) := c
      unfold writeR
      rw [if_pos c]
    | comp =>
      refine Int.not_lt.1 (fun c => h1 ?_)
      show (compactR l z f1).1 = 6
      replace c : f1 < ((Fr.putB (allRecs l)).length : Int) := c
      unfold compactR
      rw [if_pos c]
  exact runR_free (by omega) hn
theorem runS_full {p : Plan} (h : Quiet d R) (nm : Nm n) (hp : ∀ e, p = .ret e → e ≠ 6) (h6 : (runR l z (R - Dk.sizes d.files) p).1 = 6) : runS d n l p = (6, d, l) := by
  cases p with
  | ret e => exact absurd h6 (hp e rfl)
  | sync => exact absurd h6 (by show (0 : Int) ≠ 6; decide)
  | wr rs =>
    refine wr_full h nm ?_
    refine Int.not_le.1 (fun c => ?_)
    have h6 : (writeR l z rs (R - Dk.sizes d.files)).1 = 6 := h6
    unfold writeR at h6
    rw [if_neg (by omega)] at h6
    exact absurd h6 (by show (0 : Int) ≠ 6; decide)
  | comp =>
    have c : R - Dk.sizes d.files < ((Fr.putB (allRecs l)).length : Int) := by
      refine Int.not_le.1 (fun c => ?_)
      have h6 : (compactR l z (R - Dk.sizes d.files)).1 = 6 := h6
      unfold compactR at h6
      rw [if_neg (by omega)] at h6
      exact absurd h6 (by show (0 : Int) ≠ 6; decide)
    show ((compactE d n l).1, (compactE d n l).2, l) = _
    rw [comp_full h nm c]
theorem plan_ret {kind N e : Int} {key val : ByteArray} (h : planOf l m kind key val N = .ret e) : e ≠ 6 := by
  unfold planOf at h
  repeat' (first | (injection h with h; subst h; decide) | cases h | split at h)
end
end Go.Proofs.Ytclkcipakncjkaa.Kv
/- One file on a device; alive; KvlogOrders. -/
namespace Go.Proofs.Ytclkcipakncjkaa.Kv
open Go Go.RowKit Go.Proofs.YtclkcipakncjkaaW.PrintWords Go.Proofs.YtclkcipakncjkaaW.PrintLast Go.Proofs.YtclkcipakncjkaaW.PrintMore Go.Proofs.YtclkcipakncjkaaMy Go.Proofs.Ytclkcipakncjkaa Go.Proofs.YtclkcipakncjkaaPw Go.Proofs.Ytclkcipakncjkaa.PAll Go.Proofs.Ytclkcipakncjkaa.Dk
set_option linter.unusedVariables false
set_option linter.unusedSimpArgs false
def kN : ByteArray := ⟨#[107]⟩
/-- A device that is on, without a fuse, with one file at most, of at most c bytes. -/
structure One (d : DS) (n : ByteArray) (R : Int) (c : Nat) : Prop where
  down : d.down = false
  fuse : d.fuse = 0
  room : d.room = R
  file : d.files = [] ∨ ∃ b s, d.files = [⟨n, b, s⟩] ∧ b.length ≤ c
theorem One.new_ (n : ByteArray) {R : Int} (h : 0 ≤ R ∧ R ≤ 1048576) : One (new R) n R 0 := ⟨rfl, rfl, by show min (max R 0) 1048576 = R; omega, .inl rfl⟩
theorem One.append {d : DS} {n : ByteArray} {R : Int} {c : Nat} (h : One d n R c) (hn : nameOk n = true) {X : List Int} (hX : (c + X.length : Nat) ≤ R) : (d.append n X).1 = 0 ∧ One (d.append n X).2 n R (c + X.length) := by
  have hr : d.ready n = 0 := by
    unfold DS.ready
    rw [h.down, if_neg (by decide), if_pos hn]
  have hg : d.goes = false := by
    unfold DS.goes
    rw [h.fuse]
    rfl
  have hfree : ¬ (X.length : Int) > d.free := by
    unfold DS.free
    rw [h.room]
    rcases h.file with e | ⟨b, s, e, hb⟩
    · rw [e]
      show ¬ (X.length : Int) > R - 0
      omega
    · rw [e]
      show ¬ (X.length : Int) > R - ((b.length : Int) + 0)
      omega
  unfold DS.append
  rw [if_neg (fun h => h hr), if_neg hfree]
  simp only [hg]
  refine ⟨rfl, h.down, ?_, h.room, .inr ?_⟩
  · show (if d.fuse = 0 then (0 : Int) else d.fuse - 1) = 0
    rw [if_pos h.fuse]
  · rcases h.file with e | ⟨b, s, e, hb⟩
    · refine ⟨X, 0, ?_, by omega⟩
      show putF d.files _ = _
      unfold DS.fileOr findF
      rw [e]
      rfl
    · refine ⟨b ++ X, s, ?_, by rw [List.length_append]; omega⟩
      show putF d.files _ = _
      have hf : d.fileOr n = ⟨n, b, s⟩ := by
        unfold DS.fileOr findF
        rw [e, List.find?_cons_of_pos (by simp)]
        rfl
      rw [hf, e]
      unfold putF
      rw [if_pos rfl]
theorem gones_bytes {l : List E} {c : Nat} (h : ∀ e ∈ l, e.f0.size ≤ c) : ∀ r ∈ gones l 1, r.size ≤ 28 + c := by
  intro r hr
  obtain ⟨x, hx, rfl⟩ := List.mem_map.1 hr
  obtain ⟨y, hy, rfl⟩ := List.mem_map.1 hx
  rw [recG_size]
  have := h y (List.mem_of_mem_take hy)
  omega
theorem sizes_append (a b : List ByteArray) : Fr.sizes (a ++ b) = Fr.sizes a + Fr.sizes b := by
  induction a with
  | nil => simp [Fr.sizes]
  | cons x a ih => simp only [List.cons_append, Fr.sizes, ih]; omega
theorem putRecs_bytes {l : List E} {m : Int} {k u : ByteArray} {c : Nat} (hl : (l.length : Int) ≤ m) (hm : 1 ≤ m) (h : ∀ e ∈ l, e.f0.size ≤ c) (hc : c ≤ 65501) (hok : (recP k u).size ≤ 65536) : (Fr.putB (putRecs l m k u)).length ≤ 79 + c + k.size + u.size := by
  have hg := Good.of_put (m := m) hok (fun e he => Nat.le_trans (h e he) hc)
  rw [Fr.putB_length (fun s hs => (hg s hs).size)]
  unfold putRecs
  split
  · simp only [List.nil_append, List.length_singleton, Fr.sizes, recP_size]
    omega
  · have hov : over l m = 0 ∨ over l m = 1 := by unfold over; omega
    rcases hov with e | e
    · rw [e]
      show 8 * ([] ++ [recP k u] : List ByteArray).length + Fr.sizes ([] ++ [recP k u]) ≤ _
      simp only [List.nil_append, List.length_singleton, Fr.sizes, recP_size]
      omega
    · rw [e, List.length_append, sizes_append, List.length_singleton, gones_length]
      have h1 := sizes_le (gones_bytes h)
      rw [gones_length] at h1
      simp only [Fr.sizes, recP_size]
      have h2 : min 1 l.length ≤ 1 := Nat.min_le_left _ _
      have h3 : min 1 l.length * (28 + c) ≤ 1 * (28 + c) := Nat.mul_le_mul_right _ h2
      omega
theorem putE_ok {d : DS} {n : ByteArray} {R : Int} {c q : Nat} {m : Int} {l : List E} {k u : ByteArray} (h : One d n R c) (hn : nameOk n = true) (hl : (l.length : Int) ≤ m) (hm : 1 ≤ m) (hk : ∀ e ∈ l, e.f0.size ≤ q) (hq : q ≤ 65501) (hok : (recP k u).size ≤ 65536) (hX : (c + (79 + q + k.size + u.size) : Nat) ≤ R) {j : Int} (hu : d.Up j) :
    ∃ d', putE d n m l k u = (0, d', if getE l k = some u then l else putL l m k u) ∧ One d' n R (c + (79 + q + k.size + u.size)) ∧ d'.Up (j + 1) := by
  have hb := putRecs_bytes hl hm hk hq hok
  have hsh : Short l := fun e he => Nat.le_trans (hk e he) hq
  unfold putE
  rw [if_neg (by omega)]
  by_cases e : getE l k = some u
  · rw [if_pos e, if_pos e]
    refine ⟨d, rfl, ⟨h.down, h.fuse, h.room, ?_⟩, hu.more⟩
    rcases h.file with e | ⟨b, s, e, hb⟩
    · exact .inl e
    · exact .inr ⟨b, s, e, by omega⟩
  · rw [if_neg e, if_neg e]
    obtain ⟨h1, h2⟩ := h.append hn (X := Fr.putB (putRecs l m k u)) (by omega)
    unfold writeE
    rw [if_pos h1, stepAll_put hsh hm hok, h1]
    refine ⟨_, rfl, ⟨h2.down, h2.fuse, h2.room, ?_⟩, hu.append n (fun x hx => by have := Fr.byt_putB _ x hx; omega)⟩
    rcases h2.file with e | ⟨b, s, e, hb⟩
    · exact .inl e
    · exact .inr ⟨b, s, e, by omega⟩
theorem kN_ok : nameOk kN = true := by kernel_rfl
theorem new_rem {R : Int} : (new R).remove (draftN kN) = (5, new R) := by
  have ht : (new R).there (draftN kN) = 5 := by
    unfold DS.there
    rw [if_neg (by show ¬ (new R).ready (draftN kN) ≠ 0; unfold DS.ready; rw [if_neg (by show ¬ (false = true); decide), if_pos (by kernel_rfl)]; decide)]
    rfl
  unfold DS.remove
  rw [if_pos (by rw [ht]; decide), ht]
theorem new_read {R : Int} : (new R).read kN = ([], 5) := by
  have ht : (new R).there kN = 5 := by
    unfold DS.there
    rw [if_neg (by show ¬ (new R).ready kN ≠ 0; unfold DS.ready; rw [if_neg (by show ¬ (false = true); decide), if_pos kN_ok]; decide)]
    rfl
  unfold DS.read
  rw [if_pos (by rw [ht]; decide), ht]
/-- A new device and a store on it. -/
theorem Open_new {w W : World} {S : Nat → Prop} {gd : Nat} {R m : Int} (h : Dev S w.heap.size W gd (new R)) (hB : w.heap.size ≤ W.heap.size) (hm : 1 ≤ m ∧ m ≤ 4096) : Calls Try.prog 10 #[.pointer (some ⟨gd, 0, none⟩), .string kN, .int .i64 m] W fun e W' => e = .returned (.tuple #[.pointer (some ⟨W.heap.size, 0, none⟩), .int .i64 0]) ∧ ∃ S1' S2', KD S1' S2' w.heap.size W' gd W.heap.size (new R) kN m [] ∧ Step S W (U S1' S2') W' :=
  Open_none h hB (DS.Up.new R) (by decide) ⟨by intro e; exact absurd (congrArg ByteArray.size e) (by decide), by decide⟩ hm (.inr rfl) new_rem new_read
def aT : ByteArray := ⟨#[97]⟩
def bT : ByteArray := ⟨#[98]⟩
def oneT : ByteArray := ⟨#[49]⟩
def twoT : ByteArray := ⟨#[50]⟩
theorem al1 : ∃ d', putE (new 1000) kN 1 [] aT oneT = (0, d', [⟨aT, oneT⟩]) ∧ One d' kN 1000 82 ∧ d'.Up 1 := by
  obtain ⟨d', h1, h2, h3⟩ := putE_ok (d := new 1000) (n := kN) (R := 1000) (c := 0) (q := 1) (m := 1) (l := []) (k := aT) (u := oneT) (One.new_ kN (by decide)) kN_ok (by decide) (by decide) (fun e he => by cases he) (by decide) (by rw [recP_size]; decide) (by decide) (DS.Up.new 1000)
  rw [if_neg (by intro e; cases e)] at h1
  exact ⟨d', h1, h2, h3⟩
theorem al2 {d : DS} (h : One d kN 1000 82) (hu : d.Up 1) : ∃ d', putE d kN 1 [⟨aT, oneT⟩] bT twoT = (0, d', [⟨bT, twoT⟩]) ∧ d'.Up 2 := by
  obtain ⟨d', h1, h2, h3⟩ := putE_ok (q := 1) (m := 1) (l := [⟨aT, oneT⟩]) (k := bT) (u := twoT) h kN_ok (by decide) (by decide) (fun e he => by rcases List.mem_singleton.1 he with rfl; decide) (by decide) (by rw [recP_size]; decide) (by decide) hu
  have hg : getE [⟨aT, oneT⟩] bT = none := by kernel_rfl
  rw [hg, if_neg (by intro e; cases e)] at h1
  exact ⟨d', h1, h3⟩
theorem al3 : getE [(⟨bT, twoT⟩ : E)] aT = none := by kernel_rfl
theorem al4 : getE [(⟨bT, twoT⟩ : E)] bT = some twoT := by kernel_rfl
theorem getK {S1 S2 : Nat → Prop} {B : Nat} {W : World} {gd g : Nat} {d : DS} {n : ByteArray} {m : Int} {l : List E} (h : KD S1 S2 B W gd g d n m l) (s : ByteArray) (hl : l.length ≤ 1048576) : Calls Try.prog 12 #[.pointer (some ⟨g, 0, none⟩), .string s] W fun e w' => e = .returned (.tuple #[.string ((getE l s).getD ⟨#[]⟩), .bool (getE l s).isSome]) ∧ Below W.heap.size W w' := by
  obtain ⟨v, hv⟩ := h.st.at_
  exact Get_Q hv s hl
set_option maxHeartbeats 4000000 in
set_option maxRecDepth 100000 in
theorem alive_Q (w : World) : Calls Try.prog 9 #[] w fun e w' => e = .returned (.bool true) ∧ Below w.heap.size w w' := by
  obtain ⟨d1, e1, ho1, u1⟩ := al1
  obtain ⟨d2, e2, u2⟩ := al2 ho1 u1
  have E1 := Aside0.mk e1
  have E2 := Aside0.mk e2
  have U1 := Aside0.mk u1
  clear e1 e2 u1 u2 ho1
  go_enter Try.func9, Try.ntmps9
  go_wp2_with (first
    | (go_at_call 11; refine (New_D w 1000).mono ?_; rintro e w1 ⟨gd, S0, rfl, hd, hb⟩; have HD := Aside0.mk hd; have HB := Aside0.mk hb; clear hd hb)
    | (go_at_call 10; refine (Open_new HD.out HB.out.size (by decide)).mono ?_; rintro e w2 ⟨rfl, S1, S2, hk, hs⟩; have HK := Aside0.mk hk; have HB2 := Aside0.mk (HB.out.trans (hs.only.toBelow HD.out.lo HB.out.size)); clear hk hs HD HB)
    | (go_at_call 13; refine (Put_K HK.out (DS.Up.new 1000) (by decide) (by decide) (by decide) (fun e he => by cases he) (key := aT) (val := oneT) (by decide)).mono ?_; rintro e w3 ⟨rfl, S1a, S2a, hk, hs⟩; rw [E1.out] at hk ⊢; have HK2 := Aside0.mk hk; have HB3 := Aside0.mk (HB2.out.trans (hs.only.toBelow (fun j hj => hj.elim (HK.out.dev.lo j) (HK.out.st.lo j)) HB2.out.size)); clear hk hs HK HB2)
    | (go_at_call 13; refine (Put_K HK2.out U1.out (by decide) (by decide) (by decide) (fun e he => by rcases List.mem_singleton.1 he with rfl; decide) (key := bT) (val := twoT) (by decide)).mono ?_; rintro e w4 ⟨rfl, S1b, S2b, hk, hs⟩; rw [E2.out] at hk ⊢; have HK3 := Aside0.mk hk; have HB4 := Aside0.mk (HB3.out.trans (hs.only.toBelow (fun j hj => hj.elim (HK2.out.dev.lo j) (HK2.out.st.lo j)) HB3.out.size)); clear hk hs HK2 HB3)
    | (go_at_call 12; refine (getK HK3.out aT (by decide)).mono ?_; rintro e w5 ⟨rfl, hb⟩; rw [al3]; have HK4 := Aside0.mk (HK3.out.below hb); have HB5 := Aside0.mk (HB4.out.trans (hb.mono HB4.out.size)); clear hb HK3 HB4)
    | (go_at_call 12; refine (getK HK4.out bT (by decide)).mono ?_; rintro e w6 ⟨rfl, hb⟩; rw [al4]; have HB6 := Aside0.mk (HB5.out.trans (hb.mono HB5.out.size)); clear hb HK4 HB5))
  go_ret
  exact ⟨by first | rfl | (simp; done) | (simp; rw [ba_toList]; rfl), HB6.out⟩
end Go.Proofs.Ytclkcipakncjkaa.Kv
/- What the laws of chapter 5 share: a script among the arguments, great, Open on a device that is on. -/
namespace Go.Proofs.Ytclkcipakncjkaa.Kv
open Go Go.RowKit Go.Proofs.YtclkcipakncjkaaW.PrintWords Go.Proofs.YtclkcipakncjkaaW.PrintLast Go.Proofs.YtclkcipakncjkaaW.PrintMore Go.Proofs.YtclkcipakncjkaaMy Go.Proofs.Ytclkcipakncjkaa Go.Proofs.YtclkcipakncjkaaPw Go.Proofs.Ytclkcipakncjkaa.PAll Go.Proofs.Ytclkcipakncjkaa.Dk
set_option linter.unusedVariables false
set_option linter.unusedSimpArgs false
abbrev C5 : Type := S42
abbrev kC5 : Kd C5 := k42
instance : Inhabited C5 := ⟨z42⟩
theorem i64_wf {n : Int} (h : (Lit.int .i64 n).wf = true) : -9223372036854775808 ≤ n ∧ n ≤ 9223372036854775807 := by
  simp only [Lit.wf, IntKind.min, IntKind.max, IntKind.signed, IntKind.bits, Bool.and_eq_true] at h
  simp at h
  omega
/-- A script that a law is given. -/
structure Script (W : World) (A : Option Addr) (n c : Nat) (l : List C5) : Prop where
  len : n = l.length
  C : Kd.C kC5 W A l.length l
  cap : l.length ≤ c
  few : l.length ≤ 140737488351232
  hi : ∀ x ∈ l, x.f4 ≤ 9223372036854775807
  s1 : ∀ x ∈ l, x.f1.size ≤ 140737488351232
  s2 : ∀ x ∈ l, x.f2.size ≤ 140737488351232
theorem call_opens {H : Type} {enc : TypeId × Value → H} {W : World} {base : Nat} {held : Bool} : YtclkcipakncjkaaOp.Opens enc Try.prog W base held 42 kC5
    (fun x => (Lit.int .i64 x.f0).wf = true ∧ x.f1.size ≤ maxLen ∧ x.f2.size ≤ maxLen ∧ (Lit.int .i64 x.f3).wf = true ∧ (Lit.int .i64 x.f4).wf = true ∧ (Lit.int .i64 x.f5).wf = true ∧ True)
    (fun x => [] ++ ([x.f1.size] ++ ([x.f2.size] ++ ([] ++ ([] ++ ([] ++ [])))))) := by
  have h := YtclkcipakncjkaaOp.Opens.struct (enc := enc) (W := W) (base := base) (held := held) Try.underlying42 (by kernel_rfl) (.cons rfl (by kernel_rfl) (.int Try.underlying3) (.cons rfl (by kernel_rfl) (.string Try.underlying9) (.cons rfl (by kernel_rfl) (.string Try.underlying9) (.cons rfl (by kernel_rfl) (.int Try.underlying3)
    (.cons rfl (by kernel_rfl) (.int Try.underlying3) (.cons rfl (by kernel_rfl) (.int Try.underlying3) (.one rfl (by kernel_rfl) (.bool Try.underlying4))))))))
  exact YtclkcipakncjkaaOp.Opens.iso (fun x : C5 => (x.f0, x.f1, x.f2, x.f3, x.f4, x.f5, x.f6)) (fun p => ⟨p.1, p.2.1, p.2.2.1, p.2.2.2.1, p.2.2.2.2.1, p.2.2.2.2.2.1, p.2.2.2.2.2.2⟩) (fun _ => rfl) h
theorem script_arg {H : Type} {enc : TypeId × Value → H} {W : World} {base : Nat} {held : Bool} {a : Option Addr} {len cap : Nat} {x : DataW H} {ps : List MemPlace} {ts : List TypeId} {ds : List (DataW H)} {j : Nat}
    (hs : (DataW.weightsEach Try.prog ts ds).all (· ≤ reachBytes) = true) (hj : ts[j]? = some 35) (hd : ds[j]? = some x)
    (h : DataW.Trod enc Try.prog W base (fun _ => true) held 35 (.slice a len cap) x ps) : ∃ l, Script W a len cap l := by
  obtain ⟨l, e, hC, hc, hok, hf, hm⟩ := YtclkcipakncjkaaOp.slice_arg hs hj hd Try.underlying35 (by kernel_rfl) call_opens h
  have hb : Try.prog.bytesOf 42 = 72 := by kernel_rfl
  rw [hb] at hf
  refine ⟨l, e, hC, hc, by omega, fun y hy => ?_, fun y hy => hm y hy _ ?_, fun y hy => hm y hy _ ?_⟩
  · exact (i64_wf (hok y hy).2.2.2.2.1).2
  · simp
  · simp
def tot : List C5 → Nat
  | [] => 0
  | x :: l => x.f1.size + x.f2.size + tot l
theorem gq1 {a b : Nat} (h1 : a ≤ 140737488351232) (h2 : b ≤ 140737488351232) : wrap64 ((a : Int) + (b : Int)) = ((a + b : Nat) : Int) := by rw [w64 (by omega) (by omega)]; omega
theorem gq2 {n a : Nat} (h1 : n ≤ 4096) (h2 : a ≤ 281474976702464) : wrap64 ((n : Int) + (a : Int)) = ((n + a : Nat) : Int) := by rw [w64 (by omega) (by omega)]; omega
theorem great_l0 (l : List C5) (h1 : ∀ x ∈ l, x.f1.size ≤ 140737488351232) (h2 : ∀ x ∈ l, x.f2.size ≤ 140737488351232) (hl : l.length ≤ 140737488351232) :
    ∀ (k i n : Nat), i ≤ l.length → l.length - i < k → n ≤ 4096 →
      ∃ r, seichelaw05_great.l0 k l (n : Int) l (l.length : Int) (i : Int) = some r ∧ (r = false → n + tot (l.drop i) ≤ 4096 ∧ l.length ≤ 60)
  | 0, i, n, _, hk, _ => absurd hk (Nat.not_lt_zero _)
  | k + 1, i, n, hi, hk, hn => by
    unfold seichelaw05_great.l0
    by_cases c : i < l.length
    · have hr : rd_T42 l (i : Int) = l[i]'c := by unfold rd_T42; rw [Int.toNat_natCast, List.getD_eq_getElem?_getD, List.getElem?_eq_getElem c]; rfl
      have hm : l[i]'c ∈ l := List.getElem_mem c
      rw [if_pos (by omega), if_pos (by omega), if_pos (by omega), hr, List.drop_eq_getElem_cons c]
      have e1 := h1 _ hm
      have e2 := h2 _ hm
      simp only [tot]
      obtain ⟨x, hxe⟩ : ∃ x, x = l[i]'c := ⟨_, rfl⟩
      rw [← hxe] at e1 e2 ⊢
      rw [gq1 e1 e2, gq2 hn (by omega)]
      by_cases c2 : ((n + (x.f1.size + x.f2.size) : Nat) : Int) > 4096
      · rw [if_pos c2]
        exact ⟨true, rfl, fun h => nomatch h⟩
      · rw [if_neg c2, w64 (x := (i : Int) + 1) (by omega) (by omega)]
        obtain ⟨r, hr1, hr2⟩ := great_l0 l h1 h2 hl k (i + 1) (n + (x.f1.size + x.f2.size)) c (by omega) (by omega)
        refine ⟨r, hr1, fun h => ?_⟩
        have := hr2 h
        omega
    · rw [if_neg (by omega)]
      refine ⟨_, rfl, fun h => ?_⟩
      have h3 := of_decide_eq_false h
      rw [List.drop_of_length_le (by omega)]
      simp only [tot]
      omega
/-- The j-th call's cells. -/
theorem Script.at_ {W w : World} {A : Option Addr} {n c : Nat} {l : List C5} (h : Script W A n c l) (hb : Below W.heap.size W w) {j : Nat} (hj : j < l.length) : ∃ ad : Addr, A = some ad ∧ w.cell? (ad.add (j * 7)) = some (.int .i64 (l[j]).f0) ∧ w.cell? ⟨(ad.add (j * 7)).block, (ad.add (j * 7)).off + 1, none⟩ = some (.string (l[j]).f1) ∧ w.cell? ⟨(ad.add (j * 7)).block, (ad.add (j * 7)).off + 2, none⟩ = some (.string (l[j]).f2) ∧ w.cell? ⟨(ad.add (j * 7)).block, (ad.add (j * 7)).off + 3, none⟩ = some (.int .i64 (l[j]).f3) ∧ w.cell? ⟨(ad.add (j * 7)).block, (ad.add (j * 7)).off + 4, none⟩ = some (.int .i64 (l[j]).f4) ∧ w.cell? ⟨(ad.add (j * 7)).block, (ad.add (j * 7)).off + 5, none⟩ = some (.int .i64 (l[j]).f5) ∧ w.cell? ⟨(ad.add (j * 7)).block, (ad.add (j * 7)).off + 6, none⟩ = some (.bool (l[j]).f6) := by
  obtain ⟨ad, e, h0⟩ := at_T42 (Kd.C_below h.C hb) (j : Int) (by omega) (by omega)
  rw [show rd_T42 l (j : Int) = l[j] by unfold rd_T42; rw [Int.toNat_natCast, List.getD_eq_getElem?_getD, List.getElem?_eq_getElem hj]; rfl, Int.toNat_natCast] at h0
  exact ⟨ad, e, h0⟩
theorem Open_quiet {S1 : Nat → Prop} {B : Nat} {W : World} {gd : Nat} {d : DS} {R m k : Int} {n : ByteArray} {rs : List ByteArray} {l : List E} (h : Dev S1 B W gd d) (hB : B ≤ W.heap.size) (u : d.Up k) (hk : k < 4611686018427387900) (hq : Quiet d R) (hR : R ≤ 1048576) (f : StF d n rs l) (nm : Nm n) (hm : 1 ≤ m ∧ m ≤ 4096) : Calls Try.prog 10 #[.pointer (some ⟨gd, 0, none⟩), .string n, .int .i64 m] W fun e W' => e = .returned (.tuple #[.pointer (some ⟨W.heap.size, 0, none⟩), .int .i64 0]) ∧ ∃ S1' S2', KD S1' S2' B W' gd W.heap.size d n m l ∧ Step S1 W (U S1' S2') W' := by
  have hrem := hq.remove_none nm.dok f.draft
  rcases f.file with ⟨h0, h1⟩ | ⟨sf, h0⟩
  · have hl := f.list
    rw [h1] at hl
    have : l = [] := hl.symm
    subst this
    exact Open_none h hB u hk ⟨nm.nn, nm.sz⟩ hm (.inr rfl) hrem (hq.read_none nm.ok h0)
  · have hsz : (Fr.putB rs).length ≤ 1048576 := by
      have h1 := lenF_le d.files n
      rw [lenF_some h0] at h1
      have h2 := hq.le
      have h3 : ((Fr.putB rs).length : Int) ≤ Dk.sizes d.files := h1
      omega
    have hg : ∀ s ∈ rs, s.size ≤ 65536 := fun s hs => (f.good s hs).size
    have hlen : rs.length ≤ 1048576 := by
      have := Fr.putB_length hg
      omega
    have := Open_all (rs := rs.map bytesOf) h hB u hk ⟨nm.nn, nm.sz⟩ hm (.inr rfl) hrem (hq.read_some nm.ok h0) (Fr.byt_putB rs) (by show (Fr.putB rs).length ≤ _; omega) (Fr.splits_put hg) (by rw [Fr.map_str]; exact f.good) (by rw [List.length_map]; exact hlen) (Fr.total_put hg)
    rw [Fr.map_str, f.list] at this
    exact this
theorem kN_nm : Nm kN := ⟨by kernel_rfl, by kernel_rfl, fun e => absurd (congrArg ByteArray.size e) (by decide), fun e => absurd (congrArg ByteArray.size e) (by decide), by decide⟩
/-- A device's acts behind a call. -/
theorem doesS_up {d : DS} {k : Int} (u : d.Up k) (n : ByteArray) (m : Int) (l : List E) (kind : Int) (key val : ByteArray) (N : Int) : (doesS d n m l kind key val N).2.1.Up (k + 3) := by
  have hb : ∀ rs : List ByteArray, ∀ x ∈ Fr.putB rs, 0 ≤ x ∧ x ≤ 255 := fun rs x hx => by have := Fr.byt_putB rs x hx; omega
  have h0 : d.Up (k + 3) := u.mono (by omega)
  have hw : ∀ rs, (writeE d n l rs).2.1.Up (k + 3) := fun rs => (u.append n (hb rs)).mono (by omega)
  rw [doesS_run]
  cases planOf l m kind key val N with
  | ret e => exact h0
  | wr rs => exact hw rs
  | sync => exact (u.sync n).mono (by omega)
  | comp =>
    show (compactE d n l).2.Up (k + 3)
    unfold compactE
    split
    · exact (u.append _ (hb _)).mono (by omega)
    · split
      · exact ((u.append _ (hb _)).sync _).mono (by omega)
      · exact (((u.append _ (hb _)).sync _).rename _ _).mono (by omega)
theorem box_seven {W W6 : World} {gb : Nat} {u0 u1 u2 u3 u4 u5 u6 : Value} (h : W6.heap[gb]? = some (.cells #[u0, u1, u2, u3, u4, u5, u6] 42 (0, 0))) (hg : W.heap.size ≤ gb) (hb : Below W.heap.size W W6) (v0 v1 v2 v3 v4 v5 v6 : Value) :
    (((((((W6.setCell ⟨gb, 0, none⟩ v0).setCell ⟨gb, 1, none⟩ v1).setCell ⟨gb, 2, none⟩ v2).setCell ⟨gb, 3, none⟩ v3).setCell ⟨gb, 4, none⟩ v4).setCell ⟨gb, 5, none⟩ v5).setCell ⟨gb, 6, none⟩ v6).heap[gb]? = some (.cells #[v0, v1, v2, v3, v4, v5, v6] 42 (0, 0)) ∧ Below W.heap.size W (((((((W6.setCell ⟨gb, 0, none⟩ v0).setCell ⟨gb, 1, none⟩ v1).setCell ⟨gb, 2, none⟩ v2).setCell ⟨gb, 3, none⟩ v3).setCell ⟨gb, 4, none⟩ v4).setCell ⟨gb, 5, none⟩ v5).setCell ⟨gb, 6, none⟩ v6) := by
  refine ⟨?_, below_set (below_set (below_set (below_set (below_set (below_set (below_set hb hg) hg) hg) hg) hg) hg) hg⟩
  rw [blk_set (blk_set (blk_set (blk_set (blk_set (blk_set (blk_set h 0 v0) 1 v1) 2 v2) 3 v3) 4 v4) 5 v5) 6 v6]
  simp only [List.setIfInBounds_toArray, List.set_cons_zero, List.set_cons_succ]
end Go.Proofs.Ytclkcipakncjkaa.Kv
/- No store: what its calls answer; what Open refuses. -/
namespace Go.Proofs.Ytclkcipakncjkaa.Kv
open Go Go.RowKit Go.Proofs.YtclkcipakncjkaaW.PrintWords Go.Proofs.YtclkcipakncjkaaW.PrintLast Go.Proofs.YtclkcipakncjkaaW.PrintMore Go.Proofs.YtclkcipakncjkaaMy Go.Proofs.Ytclkcipakncjkaa Go.Proofs.YtclkcipakncjkaaPw Go.Proofs.Ytclkcipakncjkaa.PAll Go.Proofs.Ytclkcipakncjkaa.Dk
set_option linter.unusedVariables false
set_option linter.unusedSimpArgs false
section
variable {w : World} {m : Int} {gd : Nat} {s t : ByteArray}
set_option maxHeartbeats 4000000
set_option maxRecDepth 100000
end
end Go.Proofs.Ytclkcipakncjkaa.Kv
/- KvlogDoes: the walk. -/
namespace Go.Proofs.Ytclkcipakncjkaa.Kv
open Go Go.RowKit Go.Proofs.YtclkcipakncjkaaW.PrintWords Go.Proofs.YtclkcipakncjkaaW.PrintLast Go.Proofs.YtclkcipakncjkaaW.PrintMore Go.Proofs.YtclkcipakncjkaaMy Go.Proofs.Ytclkcipakncjkaa Go.Proofs.YtclkcipakncjkaaPw Go.Proofs.Ytclkcipakncjkaa.PAll Go.Proofs.Ytclkcipakncjkaa.Dk
set_option linter.unusedVariables false
set_option linter.unusedSimpArgs false
/-- What the loop keeps to. -/
structure DI (R m k : Int) (d : DS) (l : List E) (z : Int) : Prop where
  q : Quiet d R
  f : ∃ rs, StF d kN rs l ∧ z = ((Fr.putB rs).length : Int)
  sz : Dk.sizes d.files = z
  lf : LF l m
  up : d.Up k
theorem tot_le {l : List C5} {x : C5} (h : x ∈ l) : x.f1.size + x.f2.size ≤ tot l := by
  induction l with
  | nil => cases h
  | cons y r ih =>
    simp only [tot]
    rcases List.mem_cons.1 h with rfl | h
    · omega
    · have := ih h
      omega
section
variable {R m k z : Int} {d : DS} {l : List E}
theorem DI.new (hR : 0 ≤ R ∧ R ≤ 1048576) (hm : 1 ≤ m) : DI R m 0 (Dk.new R) [] 0 := ⟨Quiet.new hR, ⟨[], StF.new kN, rfl⟩, rfl, LF.nil hm, DS.Up.new R⟩
theorem DI.z0 (h : DI R m k d l z) : 0 ≤ z ∧ z ≤ R := by
  have h1 := h.q.le
  have h2 := sizes_nonneg d.files
  rw [h.sz] at h1 h2
  exact ⟨h2, h1⟩
theorem DI.fine (h : DI R m k d l z) (hR : R ≤ 1048576) (hm : 1 ≤ m ∧ m ≤ 4096) (hk : k < 4611686018427380000) : Fine d kN m l z k := ⟨h.up, hk, h.lf.kn, h.lf.fit, by have := h.lf.len; omega, hm, by decide, by have := h.z0; omega⟩
theorem DI.next (h : DI R m k d l z) (hm : 1 ≤ m) (kind : Int) (key val : ByteArray) (N : Int) : ∃ er d' l' z', doesS d kN m l kind key val N = (er, d', l') ∧ doesR l m z kind key val N (R - z) = (er, l', z') ∧ DI R m (k + 3) d' l' z' := by
  obtain ⟨rs, f, hz⟩ := h.f
  obtain ⟨d', rs', h1, h2, h3, h4, h5, h6⟩ := run_quiet (z := z) h.q f kN_nm h.lf.fit (plan_good (m := m) (kind := kind) (key := key) (val := val) (N := N) h.lf.fit) hz
  rw [h.sz] at h1 h3 h4 h5
  rw [← doesS_run, ← doesR_run] at h1
  rw [← doesR_run] at h3 h4
  have hu := doesS_up h.up kN m l kind key val N
  rw [h1] at hu
  have hlf : LF (doesR l m z kind key val N (R - z)).2.1 m := h.lf.run hm kind key val N _
  obtain ⟨er, l', z', hR⟩ : ∃ er l' z', doesR l m z kind key val N (R - z) = (er, l', z') := ⟨_, _, _, rfl⟩
  rw [hR] at h1 h3 h4 hlf
  refine ⟨er, d', l', z', h1, hR, h2, ⟨rs', h3, h4⟩, ?_, hlf, hu⟩
  have h4 : z' = ((Fr.putB rs').length : Int) := h4
  rw [h4]
  omega
theorem DI.draft (h : DI R m k d l z) : d.read (draftN kN) = ([], 5) := by
  obtain ⟨rs, f, _⟩ := h.f
  exact h.q.read_none kN_nm.dok f.draft
theorem DI.free (h : DI R m k d l z) : d.free = R - z := by rw [h.q.free, h.sz]
end
section
variable {S1 S2 S3 S1' S2' : Nat → Prop} {B : Nat} {W W' : World} {gd g g' gm : Nat} {d d' : DS} {n : ByteArray} {m mm z k x y free kind N fuse keep : Int} {torn : Bool} {l l' ml ml' : List E} {z' : Int} {key val : ByteArray}
theorem does_D (h : KDM S1 S2 S3 B W gd g gm d n m l m l z) (f : Fine d n m l z k) (hsz : key.size + val.size ≤ 274877906944) (hS : doesS d n m l kind key val N = (x, d', l')) (hR : doesR l m z kind key val N free = (y, ml', z')) : Calls Try.prog 16 #[.pointer (some ⟨g, 0, none⟩), .pointer (some ⟨gm, 0, none⟩), .agg #[.int .i64 kind, .string key, .string val, .int .i64 N, .int .i64 fuse, .int .i64 keep, .bool torn], .int .i64 free] W fun e W' => e = .returned (.tuple #[.int .i64 x, .int .i64 y]) ∧ ∃ S1' S2', KDM S1' S2' S3 B W' gd g gm d' n m l' m ml' z' ∧ Step (U (U S1 S2) S3) W (U (U S1' S2') S3) W' := by
  have := does_Q (kind := kind) (key := key) (val := val) (N := N) (fuse := fuse) (keep := keep) (torn := torn) (free := free) h f hsz
  rw [hS, hR] at this
  exact this
/-- A store opened anew takes the other's place. -/
theorem KDM.open_ (h : KDM S1 S2 S3 B W gd g gm d n m l mm ml z) (hk : KD S1' S2' B W' gd g' d' n m l') (st : Step S1 W (U S1' S2') W') : KDM S1' S2' S3 B W' gd g' gm d' n m l' mm ml z ∧ Step (U (U S1 S2) S3) W (U (U S1' S2') S3) W' := by
  have st2 : Step (U S1 S2) W (U S1' S2') W' := ⟨st.only.mono (fun _ hk => .inl hk), fun k hk => (st.sub k hk).elim (fun h => .inl (.inl h)) .inr⟩
  have h1 : Step (U (U S1 S2) S3) W (U (U S1' S2') S3) W' := Step.left st2
  have h2 : ∀ k, U S1' S2' k → ¬ S3 k := fun k hk h3 => Step.disj st2 (fun k h3 hk => h.dis k hk h3) h.hi k h3 hk
  exact ⟨⟨hk, h.ms.step h1 (st2.only.block gm h.ms.lt (fun hk => h.dis gm hk h.own)) (.inr h.own), h.own, h2, fun k hk => Nat.lt_of_lt_of_le (h.hi k hk) st2.only.size, h.lo⟩, h1⟩
/-- The reference's store is made beside. -/
theorem KDM.make (h : KD S1 S2 B W gd g d n m l) (hb : Below W.heap.size W W') {gm : Nat} (hg : W'.heap[gm]? = some (.cells (mCells mm (.slice none 0 0) 0) 40 (0, 0))) (hl : W.heap.size ≤ gm) : KDM S1 S2 (At1 gm) B W' gd g gm d n m l mm [] 0 := by
  refine ⟨h.below hb, ⟨⟨none, 0, Nat.le_refl _, hg, Kd.F_nil _ _ _⟩, .inr rfl⟩, rfl, fun k hk e => ?_, fun k e => ?_, fun k e => ?_⟩
  · subst e
    exact hk.elim (fun hk => absurd (h.dev.hi _ hk) (Nat.not_lt.2 hl)) (fun hk => absurd (h.st.hi _ hk) (Nat.not_lt.2 hl))
  · subst e
    exact blk_lt hg
  · subst e
    exact Nat.le_trans h.size hl
theorem KDM.cell1 (h : KDM S1 S2 S3 B W gd g gm d n m l mm ml z) : ∃ A c q, q = ml.length ∧ ml.length ≤ c ∧ Kd.C kE W A ml.length ml ∧ W.cell? ⟨gm, 1, none⟩ = some (.slice A q c) := by
  obtain ⟨A, c, hc, hb, he⟩ := h.ms.at_
  exact ⟨A, c, _, rfl, hc, he.C, (blk_cell hb 1).trans rfl⟩
end
theorem great_R (w : World) {W : World} {A : Option Addr} {n c : Nat} {l : List C5} (h : Script W A n c l) : ∃ r, (r = false → tot l ≤ 4096 ∧ l.length ≤ 60) ∧ ∀ w, Below W.heap.size W w → Calls Try.prog 15 #[.slice A n c] w fun e w' => e = .returned (.bool r) ∧ Below w.heap.size w w' := by
  obtain ⟨r, hr1, hr2⟩ := great_l0 l h.s1 h.s2 h.few (l.length + 1) 0 0 (Nat.zero_le _) (by omega) (by omega)
  have hn := h.len
  subst hn
  refine ⟨r, fun h => ?_, fun w hb => ?_⟩
  · have := hr2 h
    rw [List.drop_zero] at this
    omega
  · exact seichelaw05_great.calls (l.length + 1) A c l r w (Kd.C_below h.C hb) h.cap hr1
section
variable {w : World} {A : Option Addr} {n c : Nat} {sc : List C5} {R m : Int}
end
end Go.Proofs.Ytclkcipakncjkaa.Kv
/- KvlogOrders: the walk. -/
namespace Go.Proofs.Ytclkcipakncjkaa.Kv
open Go Go.RowKit Go.Proofs.YtclkcipakncjkaaW.PrintWords Go.Proofs.YtclkcipakncjkaaW.PrintLast Go.Proofs.YtclkcipakncjkaaW.PrintMore Go.Proofs.YtclkcipakncjkaaMy Go.Proofs.Ytclkcipakncjkaa Go.Proofs.YtclkcipakncjkaaPw Go.Proofs.Ytclkcipakncjkaa.PAll Go.Proofs.Ytclkcipakncjkaa.Dk
set_option linter.unusedVariables false
set_option linter.unusedSimpArgs false
theorem R_strs9 {W : World} {base : Nat} {A : Option Addr} {c : Nat} {xs : List ByteArray} (h : Kd.R Kd.string 9 W base (fun _ => True) (.slice A xs.length c) xs) : xs.length ≤ c := R_strs8 h
theorem keysK {S1 S2 : Nat → Prop} {B : Nat} {W : World} {gd g : Nat} {d : DS} {n : ByteArray} {m : Int} {l : List E} {r : Nat} (h : KD S1 S2 B W gd g d n m l) (hl : l.length ≤ 1048576) (hr : r = l.length) : Calls Try.prog 14 #[.pointer (some ⟨g, 0, none⟩)] W fun e W' => ∃ A c, e = .returned (.slice A r c) ∧ r ≤ c ∧ Kd.C Kd.string W' A r (keysE l) ∧ Below W.heap.size W W' := by
  obtain ⟨v, hv⟩ := h.st.at_
  have hk : r = (keysE l).length := by unfold keysE; rw [List.length_map]; exact hr
  subst hk
  refine (Keys_Q hv hl).mono ?_
  rintro e W' ⟨v1, rfl, hR, hb⟩
  obtain ⟨A, c, rfl⟩ := Kd.R_slice hR
  exact ⟨A, c, rfl, R_strs9 hR, (Kd.R_reads' hR).2.2, hb⟩
/-- Texts among a law's arguments. -/
structure Strs (W : World) (A : Option Addr) (n : Nat) (l : List ByteArray) : Prop where
  len : n = l.length
  C : Kd.C Kd.string W A n l
  size : ∀ s ∈ l, s.size ≤ 140737488351232
theorem Strs.at_ {W : World} {A : Option Addr} {n : Nat} {l : List ByteArray} (h : Strs W A n l) {j : Nat} (hj : j < n) : ∃ (s : ByteArray) (ad : Addr), s ∈ l ∧ l[j]? = some s ∧ A = some ad ∧ W.cell? (ad.add j) = some (.string s) ∧ s.size ≤ 140737488351232 := by
  have hl := h.len
  obtain ⟨ad, e, hc⟩ := Kd.at_string h.C (j : Int) (by omega) (by omega)
  have hjl : j < l.length := by omega
  have er : rdOf ByteArray.empty l (j : Int) = l[j]'hjl := by
    unfold rdOf
    rw [Int.toNat_natCast, List.getD_eq_getElem?_getD, List.getElem?_eq_getElem hjl]
    rfl
  rw [er, Int.toNat_natCast] at hc
  exact ⟨l[j]'hjl, ad, List.getElem_mem hjl, List.getElem?_eq_getElem hjl, e, hc, h.size _ (List.getElem_mem hjl)⟩
/-- What the loop keeps to. -/
structure OI (j : Nat) (m : Int) (d : DS) (l : List E) : Prop where
  one : One d kN 1048576 (8271 * j)
  len : (l.length : Int) ≤ m
  key : ∀ e ∈ l, e.f0.size ≤ 4096
  up : d.Up j
theorem OI.put {j : Nat} {m : Int} {d : DS} {l : List E} (h : OI j m d l) (hm : 1 ≤ m ∧ m ≤ 100) (hj : j < 60) {k u : ByteArray} (hk : k.size + u.size ≤ 4096) : ∃ d' l', putE d kN m l k u = (0, d', l') ∧ OI (j + 1) m d' l' ∧ l' = (if getE l k = some u then l else putL l m k u) := by
  obtain ⟨d', h1, h2, h3⟩ := putE_ok (q := 4096) (k := k) (u := u) h.one kN_ok h.len hm.1 h.key (by decide) (by rw [recP_size]; omega) (by omega) h.up
  refine ⟨d', _, h1, ⟨⟨h2.down, h2.fuse, h2.room, ?_⟩, ?_, ?_, h3⟩, rfl⟩
  · rcases h2.file with e | ⟨b, s, e, hb⟩
    · exact .inl e
    · exact .inr ⟨b, s, e, by omega⟩
  · split
    · exact h.len
    · exact putL_len hm.1 h.len
  · intro e he
    split at he
    · exact h.key e he
    · rcases putL_mem he with he | rfl
      · exact h.key e he
      · show k.size ≤ 4096
        omega
section
variable {w : World} {A1 A2 : Option Addr} {n1 n2 c1 c2 : Nat} {ks vs : List ByteArray} {m : Int}
end
end Go.Proofs.Ytclkcipakncjkaa.Kv
/- KvlogFull: the walk. -/
namespace Go.Proofs.Ytclkcipakncjkaa.Kv
open Go Go.RowKit Go.Proofs.YtclkcipakncjkaaW.PrintWords Go.Proofs.YtclkcipakncjkaaW.PrintLast Go.Proofs.YtclkcipakncjkaaW.PrintMore Go.Proofs.YtclkcipakncjkaaMy Go.Proofs.Ytclkcipakncjkaa Go.Proofs.YtclkcipakncjkaaPw Go.Proofs.Ytclkcipakncjkaa.PAll Go.Proofs.Ytclkcipakncjkaa.Dk
set_option linter.unusedVariables false
set_option linter.unusedSimpArgs false
/-- What the loop keeps to. -/
structure DF (R k : Int) (d : DS) (l : List E) : Prop where
  q : Quiet d R
  f : ∃ rs, StF d kN rs l
  lf : LF l 20
  up : d.Up k
section
variable {R k : Int} {d : DS} {l : List E}
theorem DF.new (hR : 0 ≤ R ∧ R ≤ 1048576) : DF R 0 (Dk.new R) [] := ⟨Quiet.new hR, ⟨[], StF.new kN⟩, LF.nil (by decide), DS.Up.new R⟩
theorem DF.fine (h : DF R k d l) (hk : k < 4611686018427380000) : Fine d kN 20 l 0 k := ⟨h.up, hk, h.lf.kn, h.lf.fit, by have := h.lf.len; omega, by decide, by decide, by decide⟩
theorem DF.next (h : DF R k d l) (hR : R ≤ 4096) (kind : Int) (key val : ByteArray) (N : Int) : ∃ er d' l' y ml' z', doesS d kN 20 l kind key val N = (er, d', l') ∧ doesR l 20 0 kind key val N 1048576 = (y, ml', z') ∧ DF R (k + 3) d' l' ∧ (er ≠ 6 → ml' = l') ∧ (er = 6 → l' = l) := by
  obtain ⟨rs, f⟩ := h.f
  have hg := plan_good (m := 20) (kind := kind) (key := key) (val := val) (N := N) h.lf.fit
  obtain ⟨d', rs', h1, h2, h3, h4, h5, h6⟩ := run_quiet (z := ((Fr.putB rs).length : Int)) h.q f kN_nm h.lf.fit hg rfl
  have hu := doesS_up h.up kN 20 l kind key val N
  have hret : ∀ e, planOf l 20 kind key val N = .ret e → e ≠ 6 := fun e he => plan_ret he
  have h0 : 0 ≤ R - Dk.sizes d.files := by have := h.q.le; omega
  have hle := sizes_nonneg d.files
  have hlf := h.lf.run (z := ((Fr.putB rs).length : Int)) (by decide) kind key val N (R - Dk.sizes d.files)
  rw [doesR_run] at hlf
  rw [doesS_run, doesR_run]
  rw [doesS_run] at hu
  have hmore := runR_more (l := l) (z := 0) (p := planOf l 20 kind key val N) (f1 := R - Dk.sizes d.files) (f2 := 1048576) h0 hret
  have hfull := runS_full (l := l) (z := ((Fr.putB rs).length : Int)) (p := planOf l 20 kind key val N) h.q kN_nm hret
  have hsz := runR_size l 0 ((Fr.putB rs).length : Int) (R - Dk.sizes d.files) (planOf l 20 kind key val N)
  obtain ⟨a, b, c, e1⟩ : ∃ a b c, runR l ((Fr.putB rs).length : Int) (R - Dk.sizes d.files) (planOf l 20 kind key val N) = (a, b, c) := ⟨_, _, _, rfl⟩
  obtain ⟨a0, b0, c0, e2⟩ : ∃ a0 b0 c0, runR l 0 (R - Dk.sizes d.files) (planOf l 20 kind key val N) = (a0, b0, c0) := ⟨_, _, _, rfl⟩
  obtain ⟨y, ml', z', e3⟩ : ∃ y ml' z', runR l 0 1048576 (planOf l 20 kind key val N) = (y, ml', z') := ⟨_, _, _, rfl⟩
  rw [e1] at h1 h3 hlf hsz hfull
  rw [e2] at hsz hmore
  rw [e3] at hmore
  rw [h1] at hu hfull
  obtain ⟨ha, hb⟩ := hsz
  have ha : a0 = a := ha
  have hb : b0 = b := hb
  refine ⟨a, d', b, y, ml', z', h1, e3, ⟨h2, ⟨rs', h3⟩, hlf, hu⟩, fun h6 => ?_, fun h6 => ?_⟩
  · have h7 := hmore (by show a0 ≠ 6; rw [ha]; exact h6) (by omega)
    have h8 := congrArg (fun x => x.2.1) h7
    have h8 : ml' = b0 := h8
    rw [h8, hb]
  · have h7 := hfull h6
    exact congrArg (fun x => x.2.2) h7
end
section
variable {S1 S2 S1' S2' : Nat → Prop} {B : Nat} {W W' : World} {gd g : Nat} {d : DS} {n : ByteArray} {m mm : Int} {l ml : List E} {A : Option Addr} {c q : Nat}
/-- A row of entries, the reference's store made on it. -/
theorem ERow.made (h : ERow (U S1 S2) W A q ml) (o : Obj) : ERow (U (U S1 S2) (At1 W.heap.size)) (W.alloc o) A q ml :=
  ERow.below (Kd.F_mono (Kd.F_bound h) (fun k hk hU => hU.elim hk.1 (fun e => by have := hk.2; have e : k = W.heap.size := e; omega)) : ERow (U (U S1 S2) (At1 W.heap.size)) W A q ml) (below_alloc (Below.refl _ _) o)
theorem KDM.makeL (h : KD S1 S2 B W gd g d n m l) (hr : ERow (U S1 S2) W A ml.length ml) (hc : ml.length ≤ c) : KDM S1 S2 (At1 W.heap.size) B (W.alloc (.cells #[.int .i64 mm, .slice A ml.length c, .int .i64 0] 40 (0, 0))) gd g W.heap.size d n m l mm ml 0 := by
  have hb := below_alloc (Below.refl W.heap.size W) (.cells #[.int .i64 mm, .slice A ml.length c, .int .i64 0] 40 (0, 0))
  have hg := blk_new W (.cells #[.int .i64 mm, .slice A ml.length c, .int .i64 0] 40 (0, 0))
  refine ⟨h.below hb, ⟨⟨A, c, hc, hg, hr.made _⟩, .inr rfl⟩, rfl, fun k hk e => ?_, fun k e => ?_, fun k e => ?_⟩
  · have e : k = W.heap.size := e
    subst e
    exact hk.elim (fun hk => Nat.lt_irrefl _ (h.dev.hi _ hk)) (fun hk => Nat.lt_irrefl _ (h.st.hi _ hk))
  · have e : k = W.heap.size := e
    subst e
    exact blk_lt hg
  · have e : k = W.heap.size := e
    subst e
    exact h.size
theorem getE_at' {l : List E} (hN : KN l) {i : Nat} (hi : i < l.length) : getE l (l[i]).f0 = some (l[i]).f1 := getE_mem hN (List.getElem_mem hi)
theorem take_step {l : List E} {i : Nat} (hi : i < l.length) : l.take (i + 1) = l.take i ++ [(⟨(l[i]).f0, (l[i]).f1⟩ : E)] := by
  rw [List.take_succ_eq_append_getElem hi]
theorem keysE_get {l : List E} {i : Nat} (hi : i < l.length) : rdOf ByteArray.empty (keysE l) (i : Int) = (l[i]).f0 := by
  have h : i < (keysE l).length := by unfold keysE; rw [List.length_map]; exact hi
  unfold rdOf
  rw [Int.toNat_natCast, List.getD_eq_getElem?_getD, List.getElem?_eq_getElem h]
  exact List.getElem_map ..
end
section
variable {w : World} {A : Option Addr} {n c : Nat} {sc : List C5} {R : Int}
set_option maxHeartbeats 16000000 in
set_option maxRecDepth 100000 in
theorem kf_1 (hg : ∀ w', Below w.heap.size w w' → Calls Try.prog 15 #[.slice A n c] w' fun e w2 => e = .returned (.bool true) ∧ Below w'.heap.size w' w2)  : Calls Try.prog 5 #[.int .i64 R, .slice A n c] w fun e w' => e = .returned (.bool true) ∧ Below w.heap.size w w' := by
  have HGr := Aside0.mk hg
  clear hg 
  go_enter Try.func5, Try.ntmps5
  go_wp2_with (first
    | (go_at_call 9; refine (alive_Q w).mono ?_; rintro e w1 ⟨rfl, hb⟩; have HA := Aside0.mk hb; clear hb)
    | (go_at_call 15; refine (HGr.out _ HA.out).mono ?_; rintro e w2 ⟨rfl, hb⟩; have HA2 := Aside0.mk (HA.out.trans (hb.mono HA.out.size)); clear hb HA))
  go_ret
  exact ⟨rfl, HA2.out⟩
set_option maxHeartbeats 16000000 in
set_option maxRecDepth 100000 in
theorem kf_2 (hg : ∀ w', Below w.heap.size w w' → Calls Try.prog 15 #[.slice A n c] w' fun e w2 => e = .returned (.bool false) ∧ Below w'.heap.size w' w2) (h : R < 0) : Calls Try.prog 5 #[.int .i64 R, .slice A n c] w fun e w' => e = .returned (.bool true) ∧ Below w.heap.size w w' := by
  have HGr := Aside0.mk hg
  have b1 : decide (R < 0) = true := decide_eq_true h
  clear hg h
  go_enter Try.func5, Try.ntmps5
  go_wp2_with (first
    | (go_at_call 9; refine (alive_Q w).mono ?_; rintro e w1 ⟨rfl, hb⟩; have HA := Aside0.mk hb; clear hb)
    | (go_at_call 15; refine (HGr.out _ HA.out).mono ?_; rintro e w2 ⟨rfl, hb⟩; have HA2 := Aside0.mk (HA.out.trans (hb.mono HA.out.size)); clear hb HA))
  go_ret
  exact ⟨rfl, HA2.out⟩
set_option maxHeartbeats 16000000 in
set_option maxRecDepth 100000 in
theorem kf_3 (hg : ∀ w', Below w.heap.size w w' → Calls Try.prog 15 #[.slice A n c] w' fun e w2 => e = .returned (.bool false) ∧ Below w'.heap.size w' w2) (h0 : 0 ≤ R) (h : 4096 < R) : Calls Try.prog 5 #[.int .i64 R, .slice A n c] w fun e w' => e = .returned (.bool true) ∧ Below w.heap.size w w' := by
  have HGr := Aside0.mk hg
  have b1 : decide (R < 0) = false := decide_eq_false (by omega)
  have b2 : decide ((4096 : Int) < R) = true := decide_eq_true h
  clear hg h0 h
  go_enter Try.func5, Try.ntmps5
  go_wp2_with (first
    | (go_at_call 9; refine (alive_Q w).mono ?_; rintro e w1 ⟨rfl, hb⟩; have HA := Aside0.mk hb; clear hb)
    | (go_at_call 15; refine (HGr.out _ HA.out).mono ?_; rintro e w2 ⟨rfl, hb⟩; have HA2 := Aside0.mk (HA.out.trans (hb.mono HA.out.size)); clear hb HA))
  go_ret
  exact ⟨rfl, HA2.out⟩
set_option maxHeartbeats 16000000 in
set_option maxRecDepth 100000 in
theorem kf_main (hs : Script w A n c sc) (hg : ∀ w', Below w.heap.size w w' → Calls Try.prog 15 #[.slice A n c] w' fun e w2 => e = .returned (.bool false) ∧ Below w'.heap.size w' w2) (hgr : tot sc ≤ 4096 ∧ sc.length ≤ 60) (h0 : 0 ≤ R) (h1 : R ≤ 4096) : Calls Try.prog 5 #[.int .i64 R, .slice A n c] w fun e w' => e = .returned (.bool true) ∧ Below w.heap.size w w' := by
  have hu := Try.underlying42
  have hu2 := Try.underlying40
  have hu3 := Try.underlying54
  have HGr := Aside0.mk hg
  have HSc := Aside0.mk hs
  have HTot := Aside0.mk hgr.1
  have HNl := Aside0.mk hs.len
  have H60 := Aside0.mk (show n ≤ 60 from by rw [hs.len]; exact hgr.2)
  have HR := Aside0.mk (And.intro h0 h1)
  have b1 : decide (R < 0) = false := decide_eq_false (by omega)
  have b2 : decide ((4096 : Int) < R) = false := decide_eq_false (by omega)
  clear hg h0 h1 hs hgr
  go_enter Try.func5, Try.ntmps5
  go_wp2_with (first
    | (go_at_call 9; refine (alive_Q w).mono ?_; rintro e w1 ⟨rfl, hb⟩; have HA := Aside0.mk hb; clear hb)
    | (go_at_call 15; refine (HGr.out _ HA.out).mono ?_; rintro e w2 ⟨rfl, hb⟩; have HA2 := Aside0.mk (HA.out.trans (hb.mono HA.out.size)); clear hb HA)
    | (go_at_call 11; refine (New_D w2 R).mono ?_; rintro e w3 ⟨gd, S0, rfl, hd, hb⟩; have HD0 := Aside0.mk (Dev.mk (B := w.heap.size) hd.at_ (fun j hj => Nat.le_trans HA2.out.size (hd.lo j hj)) hd.hi); have HB0 := Aside0.mk (HA2.out.trans (hb.mono HA2.out.size)); clear hd hb HA2)
    | (go_at_call 10; refine (Open_new HD0.out HB0.out.size (by decide)).mono ?_; rintro e w4 ⟨rfl, S1, S2, hk, hs⟩; have HK := Aside0.mk hk; have HB1 := Aside0.mk (HB0.out.trans (hs.only.toBelow HD0.out.lo HB0.out.size)); clear hk hs HD0 HB0))
  go_loopw [6, 43] (fun s i wr => ∃ (j : Nat) (g : Nat) (S1 S2 : Nat → Prop) (d : DS) (l : List E), j ≤ n ∧ i = .int .i64 (j : Int) ∧ s = .pointer (some ⟨g, 0, none⟩) ∧ Aside0 (KD S1 S2 w.heap.size wr gd g d kN 20 l) ∧ Aside0 (DF R (3 * (j : Int)) d l) ∧ Aside0 (Below w.heap.size w wr)) (fun _ i _ => n - (intOf i).toNat)
  case atStart => exact ⟨0, _, S1, S2, _, [], Nat.zero_le _, rfl, rfl, HK, ⟨DF.new (by have := HR.out; omega)⟩, HB1⟩
  case round =>
    obtain ⟨j, g, S1a, S2a, d, l, hj, rfl, rfl, HD, HI, HB⟩ := hrel
    clear HK HB1
    by_cases hlt : j < n
    · have kb : decide ((j : Int) < (n : Int)) = true := decide_eq_true (Int.ofNat_lt.2 hlt)
      have kbn : decide (j < n) = true := decide_eq_true hlt
      have hjl : j < sc.length := by rw [← HNl.out]; exact hlt
      obtain ⟨ad, rfl, y0, y1, y2, y3, y4, y5, y6⟩ := HSc.out.at_ HB.out hjl
      have htl := tot_le (List.getElem_mem hjl)
      obtain ⟨kind, hk0⟩ : ∃ x, x = (sc[j]'hjl).f0 := ⟨_, rfl⟩
      obtain ⟨key, hk1⟩ : ∃ x, x = (sc[j]'hjl).f1 := ⟨_, rfl⟩
      obtain ⟨val, hk2⟩ : ∃ x, x = (sc[j]'hjl).f2 := ⟨_, rfl⟩
      obtain ⟨N, hk3⟩ : ∃ x, x = (sc[j]'hjl).f3 := ⟨_, rfl⟩
      obtain ⟨fuse, hk4⟩ : ∃ x, x = (sc[j]'hjl).f4 := ⟨_, rfl⟩
      obtain ⟨keep, hk5⟩ : ∃ x, x = (sc[j]'hjl).f5 := ⟨_, rfl⟩
      obtain ⟨torn, hk6⟩ : ∃ x, x = (sc[j]'hjl).f6 := ⟨_, rfl⟩
      rw [← hk0] at y0
      rw [← hk1] at y1 htl
      rw [← hk2] at y2 htl
      rw [← hk3] at y3
      rw [← hk4] at y4
      rw [← hk5] at y5
      rw [← hk6] at y6
      have HSz := Aside0.mk (show key.size + val.size ≤ 274877906944 from by have := HTot.out; omega)
      clear hk0 hk1 hk2 hk3 hk4 hk5 hk6 htl
      have HFi := Aside0.mk (HI.out.fine (by have := H60.out; omega))
      have HKn := Aside0.mk HI.out.lf.kn
      have HLl0 := Aside0.mk (show l.length ≤ 20 from by have := HI.out.lf.len; omega)
      obtain ⟨er, d', l', y, ml', z', hdS, hdR, hi2, hml, hl6⟩ := HI.out.next HR.out.2 kind key val N
      have HdS := Aside0.mk hdS
      have HdR := Aside0.mk hdR
      have HI2 := Aside0.mk hi2
      have HMl := Aside0.mk hml
      have HL6 := Aside0.mk hl6
      have HLn := Aside0.mk (show l'.length ≤ 1048576 from by have := hi2.lf.len; omega)
      clear hdS hdR hi2 hml hl6
      obtain ⟨q, hq⟩ : ∃ q, q = l.length := ⟨_, rfl⟩
      have HQ := Aside0.mk hq
      clear hq
      go_wp2_with (first
        | ((with_reducible refine gate_dst (N := 9) rfl ?_); refine box_event ?hg (N := 9) ?hd (cs := #[.int .i64 0, .string (⟨#[]⟩ : ByteArray), .string (⟨#[]⟩ : ByteArray), .int .i64 0, .int .i64 0, .int .i64 0, .bool false]) (t := 42) ?hr ?_; (case hd => rfl); (case hg => rfl); (case hr => first | (go_simp; done) | (go_simp; rfl)); intro gb hg wq hbox hb; have HGb := Aside0.mk (Nat.le_of_eq hg.symm); have BX := Aside0.mk (box_seven (W := wr) hbox (Nat.le_of_eq hg.symm) hb (.int .i64 kind) (.string key) (.string val) (.int .i64 N) (.int .i64 fuse) (.int .i64 keep) (.bool torn)); have q0 : wq.cell? ⟨gb, 0, none⟩ = some (.int .i64 0) := (blk_cell hbox 0).trans rfl; have r0 := blk_frozen hbox 0; have q1 : wq.cell? ⟨gb, 1, none⟩ = some (.string (⟨#[]⟩ : ByteArray)) := (blk_cell hbox 1).trans rfl; have r1 := blk_frozen hbox 1; have q2 : wq.cell? ⟨gb, 2, none⟩ = some (.string (⟨#[]⟩ : ByteArray)) := (blk_cell hbox 2).trans rfl; have r2 := blk_frozen hbox 2; have q3 : wq.cell? ⟨gb, 3, none⟩ = some (.int .i64 0) := (blk_cell hbox 3).trans rfl; have r3 := blk_frozen hbox 3; have q4 : wq.cell? ⟨gb, 4, none⟩ = some (.int .i64 0) := (blk_cell hbox 4).trans rfl; have r4 := blk_frozen hbox 4; have q5 : wq.cell? ⟨gb, 5, none⟩ = some (.int .i64 0) := (blk_cell hbox 5).trans rfl; have r5 := blk_frozen hbox 5; have q6 : wq.cell? ⟨gb, 6, none⟩ = some (.bool false) := (blk_cell hbox 6).trans rfl; have r6 := blk_frozen hbox 6; clear hbox hb hg)
        | (go_at_call 14; go_loud (have HBX := Aside0.mk BX.out.1; have HD5 := Aside0.mk (HD.out.below BX.out.2); have HB5 := Aside0.mk (HB.out.trans (BX.out.2.mono HB.out.size)); refine (keysK HD5.out (by have := HLl0.out; omega) HQ.out).mono ?_; rintro e w6 ⟨A6, c6, rfl, hc6, hC6, hb⟩; have HD6 := Aside0.mk (HD5.out.below hb); have HB6 := Aside0.mk (HB5.out.trans (hb.mono HB5.out.size)); have HX6 := Aside0.mk ((hb.block gb (blk_lt HBX.out)).trans HBX.out); have HK6 := Aside0.mk hC6; clear hc6 hC6 hb HD5 HB5 HBX BX HD HB)))
      go_loopw [10, 50] (fun o i wr => ∃ (a : Nat), a ≤ q ∧ i = .int .i64 (a : Int) ∧ Aside0 (Kd.R kE 54 wr w6.heap.size (fun _ => True) o (l.take a)) ∧ Aside0 (Below w6.heap.size w6 wr)) (fun _ i _ => q - (intOf i).toNat)
      case atStart => exact ⟨0, Nat.zero_le _, rfl, ⟨Kd.R_nil _ _ _ _ _⟩, ⟨Below.refl _ _⟩⟩
      case round =>
        obtain ⟨a, ha, rfl, HR1, HBr⟩ := hrel
        by_cases hlt2 : a < q
        · have kb2 : decide ((a : Int) < (q : Int)) = true := decide_eq_true (Int.ofNat_lt.2 hlt2)
          have kbn2 : decide (a < q) = true := decide_eq_true hlt2
          have hal : a < l.length := by rw [← HQ.out]; exact hlt2
          obtain ⟨ad6, rfl, x0⟩ := Kd.at_string HK6.out (a : Int) (by omega) (by omega)
          rw [keysE_get hal, Int.toNat_natCast] at x0
          have x1 := pw_cell_below HBr.out x0
          have HGa := Aside0.mk (getE_at' HKn.out hal)
          have HTk := Aside0.mk (take_step hal)
          obtain ⟨s, hs⟩ : ∃ s, s = (l[a]'hal).f0 := ⟨_, rfl⟩
          obtain ⟨t, ht⟩ : ∃ t, t = (l[a]'hal).f1 := ⟨_, rfl⟩
          rw [← hs] at x1 HGa HTk
          rw [← ht] at HGa HTk
          have HLe := Aside0.mk (show ((l.take a).length + 1) * 32 ≤ 140737488355328 from by rw [List.length_take]; have := HLl0.out; omega)
          clear x0 hs ht
          go_wp2_with (first
            | (go_at_call 12; refine (getK (HD6.out.below HBr.out) s (by have := HLl0.out; omega)).mono ?_; rintro e wa ⟨rfl, hb⟩; rw [HGa.out]; have HBa := Aside0.mk (HBr.out.trans (hb.mono HBr.out.size)); have HRa := Aside0.mk (Kd.R_below HR1.out hb); clear hb HR1)
            | ((with_reducible refine gate_builtin (b := .append) (xs := #[.tmp 60, .tmp 64]) rfl ?_); (try (refine gate_guard (by rfl) ?_; dsimp only)); at_builtin; refine Kd.R_append kE (w0 := w6) w6.heap.size rfl (.tmp 60) (.tmp 64) 38 54 (.agg #[.string ⟨#[]⟩, .string ⟨#[]⟩]) 32 rfl Try.underlying38 info54 rfl (by decide) (by decide) u10 (l.take a) (⟨s, t⟩ : E) [.string s, .string t] (fun _ => True) (fun _ => False) rfl rfl (kE_M.2 rfl) (fun _ h => h.elim) (fun _ _ => trivial) HRa.out HBa.out HBa.out.size HLe.out ?_; intro v1 wb hrb hbb hgb hatb; have HRb := Aside0.mk hrb; have HBb := Aside0.mk hbb; clear hrb hbb hgb hatb))
          go_roundw
          case rel => exact ⟨a + 1, hlt2, vE hlt2 (by have := HLl0.out; have := HQ.out; omega), ⟨by rw [HTk.out]; exact HRb.out⟩, HBb⟩
          case measure => exact mE hlt2 (by have := HLl0.out; have := HQ.out; omega)
        · have kb2 : decide ((a : Int) < (q : Int)) = false := decide_eq_false (fun h => hlt2 (Int.ofNat_lt.1 h))
          have kbn2 : decide (a < q) = false := decide_eq_false hlt2
          have hr1 := HR1.out
          rw [show a = l.length from by have := HQ.out; omega, List.take_length] at hr1
          obtain ⟨A10, c10, e10⟩ := Kd.R_slice hr1
          subst e10
          have HLc := Aside0.mk (R_entC hr1).1
          have HD7 := Aside0.mk (HD6.out.below HBr.out)
          have hew : ERow (U S1a S2a) wr A10 l.length l := ERow.of hr1 (fun k hk => Nat.lt_of_lt_of_le (hk.elim (HD6.out.dev.hi k) (HD6.out.st.hi k)) (Nat.le_refl _))
          have hkm := KDM.makeL (mm := 20) HD7.out hew HLc.out
          have hba := below_alloc (Below.refl wr.heap.size wr) (.cells #[.int .i64 20, .slice A10 l.length c10, .int .i64 0] 40 (0, 0))
          have HEw := Aside0.mk (hew.made (.cells #[.int .i64 20, .slice A10 l.length c10, .int .i64 0] 40 (0, 0)))
          have HKM := Aside0.mk hkm
          have HBk := Aside0.mk (HB6.out.trans ((HBr.out.trans (hba.mono HBr.out.size)).mono HB6.out.size))
          have hx7 := ((HBr.out.trans (hba.mono HBr.out.size)).block gb (blk_lt HX6.out)).trans HX6.out
          have e0 := (blk_cell hx7 0); have e1 := (blk_cell hx7 1); have e2 := (blk_cell hx7 2); have e3 := (blk_cell hx7 3); have e4 := (blk_cell hx7 4); have e5 := (blk_cell hx7 5); have e6 := (blk_cell hx7 6)
          have HLl := Aside0.mk HQ.out.symm
          clear hr1 hew hkm hba hx7 HR1
          by_cases h6 : er = 6
          · subst h6
            have HML := Aside0.mk (show l' = l from HL6.out rfl)
            have HMLn := Aside0.mk (show l.length ≤ 1048576 from by have := HLl0.out; omega)
            go_wp2_with (first
              | (go_at_call 16; refine (does_D HKM.out HFi.out HSz.out HdS.out HdR.out).mono ?_; rintro e w7 ⟨rfl, S1b, S2b, hk7, hs7⟩; have HB7 := Aside0.mk (HBk.out.trans (hs7.only.toBelow (fun k hk => HKM.out.loU k hk) HBk.out.size)); obtain ⟨A7, c7, hc7, hb7, he7⟩ := hk7.ms.at_; have z1 := (blk_cell hb7 1); have f1 := blk_frozen hb7 1; have hm8 := MSt.listed (S := U (U S1b S2b) (At1 wr.heap.size)) hb7 hk7.ms.sg (ERow.step HEw.out hs7) HLc.out; have ho8 := only_set1 (gm := wr.heap.size) (Only.refl (At1 wr.heap.size) w7) 1 (.slice A10 l.length c10); obtain ⟨hk8, hs8⟩ := hk7.ref hm8 ho8; obtain ⟨A8, c8, q8, hq8, hc8, hC8, z1'⟩ := hk8.cell1; have H8 := Aside0.mk hk8; have HB8 := Aside0.mk (HB7.out.trans (hs8.only.toBelow (fun k hk => hk7.loU k hk) HB7.out.size)); have HQ8 := Aside0.mk hq8; have HC8 := Aside0.mk hC8; have HCc8 := Aside0.mk hc8; clear hq8 hc8 hC8 hc7 hb7 he7 hm8 ho8 hk8 hs8 HB7; clear hk7 hs7 HKM HBk)
              | (go_at_call 17; first
            | (have tk := H8; clear tk; refine (has_Q H8.out.kd.st HI2.out.lf.kn HQ8.out HC8.out HCc8.out HLn.out HMLn.out).mono ?_; rintro e w9 ⟨rfl, hb⟩; rw [decide_eq_true HML.out]; have H9 := Aside0.mk (H8.out.below hb); have HB9 := Aside0.mk (HB8.out.trans (hb.mono HB8.out.size)); clear hb H8 HB8 HQ8 HC8 HCc8)
            | (have tk := H10; clear tk; refine (has_Q H10.out.kd.st HI2.out.lf.kn HQ10.out HC10.out HCc10.out HLn.out HMLn.out).mono ?_; rintro e w11 ⟨rfl, hb⟩; rw [decide_eq_true HML.out]; have H11 := Aside0.mk (H10.out.below hb); have HB11 := Aside0.mk (HB10.out.trans (hb.mono HB10.out.size)); clear hb H10 HB10 HQ10 HC10 HCc10))
              | (go_at_call 10; obtain ⟨rs, hf⟩ := HI2.out.f; refine (Open_quiet (k := 3 * (j : Int) + 3) H9.out.kd.dev H9.out.kd.size HI2.out.up (by have := H60.out; omega) HI2.out.q (by have := HR.out; omega) hf kN_nm (by decide)).mono ?_; rintro e w10 ⟨rfl, S1c, S2c, hk, hs⟩; obtain ⟨hk2, hs2⟩ := H9.out.open_ hk hs; have HB10 := Aside0.mk (HB9.out.trans (hs2.only.toBelow (fun k hk => H9.out.loU k hk) HB9.out.size)); have H10 := Aside0.mk hk2; obtain ⟨A10b, c10b, q10b, hq10, hc10, hC10, z10⟩ := hk2.cell1; have HQ10 := Aside0.mk hq10; have HC10 := Aside0.mk hC10; have HCc10 := Aside0.mk hc10; clear hk hs hk2 hs2 hq10 hc10 hC10 hf H9 HB9))
            go_roundw
            case rel => exact ⟨j + 1, _, _, _, d', l', hlt, vE hlt (by have := H60.out; omega), rfl, ⟨H11.out.kd⟩, ⟨by rw [show (3 * ((j + 1 : Nat) : Int)) = 3 * (j : Int) + 3 by omega]; exact HI2.out⟩, HB11⟩
            case measure => exact mE hlt (by have := H60.out; omega)
          · have e6 : (er == 6) = false := beq_eq_false_iff_ne.mpr h6
            have HML := Aside0.mk (show l' = ml' from (HMl.out h6).symm)
            have HMLn := Aside0.mk (show ml'.length ≤ 1048576 from by rw [HMl.out h6]; exact HLn.out)
            clear h6
            go_wp2_with (first
              | (go_at_call 16; refine (does_D HKM.out HFi.out HSz.out HdS.out HdR.out).mono ?_; rintro e w7 ⟨rfl, S1b, S2b, hk7, hs7⟩; have HB7 := Aside0.mk (HBk.out.trans (hs7.only.toBelow (fun k hk => HKM.out.loU k hk) HBk.out.size)); obtain ⟨A8, c8, q8, hq8, hc8, hC8, z1⟩ := hk7.cell1; have H8 := Aside0.mk hk7; have HB8 := HB7; have HQ8 := Aside0.mk hq8; have HC8 := Aside0.mk hC8; have HCc8 := Aside0.mk hc8; clear hq8 hc8 hC8 HB7; clear hk7 hs7 HKM HBk)
              | (go_at_call 17; first
            | (have tk := H8; clear tk; refine (has_Q H8.out.kd.st HI2.out.lf.kn HQ8.out HC8.out HCc8.out HLn.out HMLn.out).mono ?_; rintro e w9 ⟨rfl, hb⟩; rw [decide_eq_true HML.out]; have H9 := Aside0.mk (H8.out.below hb); have HB9 := Aside0.mk (HB8.out.trans (hb.mono HB8.out.size)); clear hb H8 HB8 HQ8 HC8 HCc8)
            | (have tk := H10; clear tk; refine (has_Q H10.out.kd.st HI2.out.lf.kn HQ10.out HC10.out HCc10.out HLn.out HMLn.out).mono ?_; rintro e w11 ⟨rfl, hb⟩; rw [decide_eq_true HML.out]; have H11 := Aside0.mk (H10.out.below hb); have HB11 := Aside0.mk (HB10.out.trans (hb.mono HB10.out.size)); clear hb H10 HB10 HQ10 HC10 HCc10))
              | (go_at_call 10; obtain ⟨rs, hf⟩ := HI2.out.f; refine (Open_quiet (k := 3 * (j : Int) + 3) H9.out.kd.dev H9.out.kd.size HI2.out.up (by have := H60.out; omega) HI2.out.q (by have := HR.out; omega) hf kN_nm (by decide)).mono ?_; rintro e w10 ⟨rfl, S1c, S2c, hk, hs⟩; obtain ⟨hk2, hs2⟩ := H9.out.open_ hk hs; have HB10 := Aside0.mk (HB9.out.trans (hs2.only.toBelow (fun k hk => H9.out.loU k hk) HB9.out.size)); have H10 := Aside0.mk hk2; obtain ⟨A10b, c10b, q10b, hq10, hc10, hC10, z10⟩ := hk2.cell1; have HQ10 := Aside0.mk hq10; have HC10 := Aside0.mk hC10; have HCc10 := Aside0.mk hc10; clear hk hs hk2 hs2 hq10 hc10 hC10 hf H9 HB9))
            go_roundw
            case rel => exact ⟨j + 1, _, _, _, d', l', hlt, vE hlt (by have := H60.out; omega), rfl, ⟨H11.out.kd⟩, ⟨by rw [show (3 * ((j + 1 : Nat) : Int)) = 3 * (j : Int) + 3 by omega]; exact HI2.out⟩, HB11⟩
            case measure => exact mE hlt (by have := H60.out; omega)
    · have kb : decide ((j : Int) < (n : Int)) = false := decide_eq_false (fun h => hlt (Int.ofNat_lt.1 h))
      have kbn : decide (j < n) = false := decide_eq_false hlt
      go_wp2
      go_ret
      exact ⟨rfl, HB.out⟩
theorem Full_Q (hs : Script w A n c sc) : Calls Try.prog 5 #[.int .i64 R, .slice A n c] w fun e w' => e = .returned (.bool true) ∧ Below w.heap.size w w' := by
  obtain ⟨r, hr, hg⟩ := great_R w hs
  cases r with
  | true => exact kf_1 hg
  | false =>
    by_cases h0 : R < 0
    · exact kf_2 hg h0
    by_cases h1 : 4096 < R
    · exact kf_3 hg (by omega) h1
    exact kf_main hs hg (hr rfl) (by omega) (by omega)
end
end Go.Proofs.Ytclkcipakncjkaa.Kv
