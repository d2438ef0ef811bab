/- Joined texts of this claim, in build order. -/
import Derived.Test.YtclkcipakncjkaaMg2
import Derived.Test.YtclkcipakncjkaaMg1
import Derived.Test.YtclkcipakncjkaaOp
/- A device that is on, without a fuse: what its files are, behind the store's calls. -/
namespace Go.Proofs.Ytclkcipakncjkaa.Kv
open Go Go.RowKit Go.Proofs.YtclkcipakncjkaaW.PrintWords Go.Proofs.YtclkcipakncjkaaW.PrintLast Go.Proofs.YtclkcipakncjkaaW.PrintMore Go.Proofs.YtclkcipakncjkaaMy Go.Proofs.Ytclkcipakncjkaa Go.Proofs.YtclkcipakncjkaaPw Go.Proofs.Ytclkcipakncjkaa.PAll Go.Proofs.Ytclkcipakncjkaa.Dk
set_option linter.unusedVariables false
set_option linter.unusedSimpArgs false
theorem findF_putF (l : List Fl) (f : Fl) (s : ByteArray) : findF (putF l f) s = if f.name = s then some f else findF l s := by
  induction l with
  | nil =>
    unfold putF findF
    by_cases c : f.name = s
    · rw [if_pos c, List.find?_cons_of_pos (by simp [c])]
    · rw [if_neg c, List.find?_cons_of_neg (by simp [c])]
  | cons x r ih =>
    unfold putF
    by_cases e : x.name = f.name
    · rw [if_pos e]
      unfold findF
      by_cases c : f.name = s
      · rw [if_pos c, List.find?_cons_of_pos (by simp [c])]
      · rw [if_neg c, List.find?_cons_of_neg (by simp [c]), List.find?_cons_of_neg (by simp [e, c])]
    · rw [if_neg e]
      unfold findF at ih ⊢
      by_cases c : x.name = s
      · rw [List.find?_cons_of_pos (by simp [c]), List.find?_cons_of_pos (by simp [c]), if_neg (fun h => e (by rw [c, h]))]
      · rw [List.find?_cons_of_neg (by simp [c]), List.find?_cons_of_neg (by simp [c])]
        exact ih
theorem findF_delF (l : List Fl) (s t : ByteArray) : findF (delF l s) t = if t = s then none else findF l t := by
  unfold findF delF
  by_cases c : t = s
  · rw [if_pos c, List.find?_eq_none]
    intro f hf
    have := of_decide_eq_true (List.mem_filter.1 hf).2
    simp [c, this]
  · rw [if_neg c, List.find?_filter]
    congr 1
    funext f
    by_cases e : f.name = t
    · simp [e, c]
    · simp [e]
theorem findF_lose (l : List Fl) (keep : Int) (torn : Bool) (s : ByteArray) : findF (l.map (lose1 keep torn)) s = (findF l s).map (lose1 keep torn) := by
  unfold findF
  rw [List.find?_map]
  rfl
/-- How many bytes a name's file has. -/
def lenF (l : List Fl) (s : ByteArray) : Nat := ((findF l s).map fun f => f.b.length).getD 0
theorem lenF_none {l : List Fl} {s : ByteArray} (h : findF l s = none) : lenF l s = 0 := by unfold lenF; rw [h]; rfl
theorem lenF_some {l : List Fl} {s : ByteArray} {f : Fl} (h : findF l s = some f) : lenF l s = f.b.length := by unfold lenF; rw [h]; rfl
theorem lenF_cons (x : Fl) (r : List Fl) (s : ByteArray) : lenF (x :: r) s = if x.name = s then x.b.length else lenF r s := by
  unfold lenF findF
  by_cases c : x.name = s
  · rw [if_pos c, List.find?_cons_of_pos (by simp [c])]; rfl
  · rw [if_neg c, List.find?_cons_of_neg (by simp [c])]
theorem sizes_cons (x : Fl) (r : List Fl) : Dk.sizes (x :: r) = (x.b.length : Int) + Dk.sizes r := by
  unfold Dk.sizes
  rw [List.map_cons, List.sum_cons]
theorem sizes_putF (l : List Fl) (f : Fl) : Dk.sizes (putF l f) = Dk.sizes l - (lenF l f.name : Int) + (f.b.length : Int) := by
  induction l with
  | nil =>
    show Dk.sizes [f] = Dk.sizes [] - _ + _
    rw [sizes_cons]
    unfold lenF findF Dk.sizes
    simp
  | cons x r ih =>
    unfold putF
    rw [lenF_cons]
    by_cases e : x.name = f.name
    · rw [if_pos e, if_pos e, sizes_cons, sizes_cons]
      omega
    · rw [if_neg e, if_neg e, sizes_cons, sizes_cons, ih]
      omega
theorem sizes_delF {l : List Fl} (h : Once l) (s : ByteArray) : Dk.sizes (delF l s) = Dk.sizes l - (lenF l s : Int) := by
  induction l with
  | nil => rfl
  | cons x r ih =>
    unfold Once at h
    rw [List.map_cons, List.nodup_cons] at h
    have ih := ih h.2
    rw [lenF_cons, sizes_cons]
    by_cases e : x.name = s
    · rw [if_pos e]
      have h0 : lenF r s = 0 := lenF_none (by
        unfold findF
        rw [List.find?_eq_none]
        intro f hf
        simp only [decide_eq_true_eq]
        intro e2
        exact h.1 (List.mem_map.2 ⟨f, hf, by rw [e, e2]⟩))
      have hd : delF (x :: r) s = delF r s := by
        unfold delF
        rw [List.filter_cons, if_neg (by simp [e])]
      rw [hd, ih, h0]
      omega
    · rw [if_neg e]
      have hd : delF (x :: r) s = x :: delF r s := by
        unfold delF
        rw [List.filter_cons, if_pos (by simp [e])]
      rw [hd, sizes_cons, ih]
      omega
theorem sizes_nonneg (l : List Fl) : 0 ≤ Dk.sizes l := by
  induction l with
  | nil => exact Int.le_refl _
  | cons x r ih => rw [sizes_cons]; omega
theorem lenF_le (l : List Fl) (s : ByteArray) : (lenF l s : Int) ≤ Dk.sizes l := by
  induction l with
  | nil => exact Int.le_refl _
  | cons x r ih =>
    have := sizes_nonneg r
    rw [lenF_cons, sizes_cons]
    split <;> omega
theorem fileOr_name (d : DS) (s : ByteArray) : (d.fileOr s).name = s := by
  unfold DS.fileOr
  cases h : findF d.files s with
  | none => rfl
  | some f => exact (findF_some h).2
theorem fileOr_len (d : DS) (s : ByteArray) : (d.fileOr s).b.length = lenF d.files s := by
  unfold DS.fileOr lenF
  cases h : findF d.files s with
  | none => rfl
  | some f => rfl
structure Quiet (d : DS) (R : Int) : Prop where
  down : d.down = false
  fuse : d.fuse = 0
  room : d.room = R
  once : Once d.files
  le : Dk.sizes d.files ≤ R
section
variable {d : DS} {R : Int} {s t : ByteArray} {f : Fl}
theorem Quiet.new (h : 0 ≤ R ∧ R ≤ 1048576) : Quiet (new R) R := ⟨rfl, rfl, by show min (max R 0) 1048576 = R; omega, List.nodup_nil, by show (0 : Int) ≤ R; exact h.1⟩
theorem Quiet.ready (h : Quiet d R) (hs : nameOk s = true) : d.ready s = 0 := by
  unfold DS.ready
  rw [h.down, if_neg (by decide), if_pos hs]
theorem Quiet.goes (h : Quiet d R) : d.goes = false := by
  unfold DS.goes
  rw [h.fuse]
  rfl
theorem Quiet.there_none (h : Quiet d R) (hs : nameOk s = true) (hf : findF d.files s = none) : d.there s = 5 := by
  unfold DS.there
  rw [if_neg (by rw [h.ready hs]; decide), hf, if_neg (by decide)]
theorem Quiet.there_some (h : Quiet d R) (hs : nameOk s = true) (hf : findF d.files s = some f) : d.there s = 0 := by
  unfold DS.there
  rw [if_neg (by rw [h.ready hs]; decide), hf, if_pos (by rfl)]
theorem Quiet.free (h : Quiet d R) : d.free = R - Dk.sizes d.files := by
  unfold DS.free
  rw [h.room]
theorem Quiet.full (h : Quiet d R) (hs : nameOk s = true) {X : List Int} (hX : R - Dk.sizes d.files < (X.length : Int)) : d.append s X = (6, d) := by
  unfold DS.append
  rw [if_neg (fun e => e (h.ready hs)), if_pos (by rw [h.free]; exact hX)]
theorem act_quiet (h : Quiet d R) : d.act.files = d.files ∧ d.act.down = false ∧ d.act.fuse = 0 ∧ d.act.room = R := by
  refine ⟨rfl, h.down, ?_, h.room⟩
  show (if d.fuse = 0 then (0 : Int) else d.fuse - 1) = 0
  rw [if_pos h.fuse]
theorem Quiet.put (h : Quiet d R) (f : Fl) (hle : Dk.sizes d.files - (lenF d.files f.name : Int) + (f.b.length : Int) ≤ R) : Quiet (d.act.put f) R ∧ (∀ t, findF (d.act.put f).files t = if f.name = t then some f else findF d.files t) ∧ Dk.sizes (d.act.put f).files = Dk.sizes d.files - (lenF d.files f.name : Int) + (f.b.length : Int) :=
  ⟨⟨h.down, (act_quiet h).2.2.1, h.room, putF_once h.once f, by show Dk.sizes (putF d.files f) ≤ R; rw [sizes_putF]; exact hle⟩, fun t => findF_putF d.files f t, sizes_putF d.files f⟩
theorem Quiet.append (h : Quiet d R) (hs : nameOk s = true) {X : List Int} (hX : ¬ R - Dk.sizes d.files < (X.length : Int)) : ∃ d', d.append s X = (0, d') ∧ Quiet d' R ∧ (∀ t, findF d'.files t = if s = t then some ⟨s, (d.fileOr s).b ++ X, (d.fileOr s).safe⟩ else findF d.files t) ∧ Dk.sizes d'.files = Dk.sizes d.files + (X.length : Int) := by
  have hn := fileOr_name d s
  have hl := fileOr_len d s
  obtain ⟨h1, h2, h3⟩ := h.put ⟨s, (d.fileOr s).b ++ X, (d.fileOr s).safe⟩ (by
    show Dk.sizes d.files - (lenF d.files s : Int) + (((d.fileOr s).b ++ X).length : Int) ≤ R
    rw [List.length_append, hl]
    omega)
  refine ⟨_, ?_, h1, h2, ?_⟩
  · unfold DS.append
    rw [if_neg (fun e => e (h.ready hs)), if_neg (by rw [h.free]; exact hX)]
    simp only [h.goes, Bool.false_eq_true, if_false]
    show (0, d.act.put { d.fileOr s with b := (d.fileOr s).b ++ X }) = _
    rw [show ({ d.fileOr s with b := (d.fileOr s).b ++ X } : Fl) = ⟨(d.fileOr s).name, (d.fileOr s).b ++ X, (d.fileOr s).safe⟩ from rfl, hn]
  · rw [h3]
    show Dk.sizes d.files - (lenF d.files s : Int) + (((d.fileOr s).b ++ X).length : Int) = _
    rw [List.length_append, hl]
    omega
theorem Quiet.sync_none (h : Quiet d R) (hs : nameOk s = true) (hf : findF d.files s = none) : d.sync s = (5, d) := by
  unfold DS.sync
  rw [if_pos (by rw [h.there_none hs hf]; decide), h.there_none hs hf]
theorem fileOr_findF (hf : findF d.files s = some f) : d.fileOr s = f := by
  unfold DS.fileOr
  rw [hf]
  rfl
theorem Quiet.sync (h : Quiet d R) (hs : nameOk s = true) (hf : findF d.files s = some f) : ∃ d', d.sync s = (0, d') ∧ Quiet d' R ∧ (∀ t, findF d'.files t = if s = t then some ⟨s, f.b, f.b.length⟩ else findF d.files t) ∧ Dk.sizes d'.files = Dk.sizes d.files := by
  have hl := lenF_some hf
  have hn := (findF_some hf).2
  obtain ⟨h1, h2, h3⟩ := h.put ⟨s, f.b, f.b.length⟩ (by
    show Dk.sizes d.files - (lenF d.files s : Int) + (f.b.length : Int) ≤ R
    have := h.le
    omega)
  refine ⟨_, ?_, h1, h2, ?_⟩
  · unfold DS.sync
    rw [if_neg (fun e => e (h.there_some hs hf)), fileOr_findF hf]
    simp only [h.goes, Bool.false_eq_true, if_false]
    rw [hn]
  · rw [h3]
    show Dk.sizes d.files - (lenF d.files s : Int) + (f.b.length : Int) = _
    omega
theorem Quiet.rename (h : Quiet d R) (hs : nameOk s = true) (ht : nameOk t = true) (hne : s ≠ t) (hf : findF d.files s = some f) : ∃ d', d.rename s t = (0, d') ∧ Quiet d' R ∧ (∀ u, findF d'.files u = if t = u then some ⟨t, f.b, f.safe⟩ else if u = s then none else findF d.files u) ∧ Dk.sizes d'.files = Dk.sizes d.files - (lenF d.files t : Int) := by
  have hl := lenF_some hf
  have hfo : d.act.fileOr s = f := fileOr_findF hf
  have hsz : Dk.sizes (putF (delF d.files s) ⟨t, f.b, f.safe⟩) = Dk.sizes d.files - (lenF d.files t : Int) := by
    rw [sizes_putF, sizes_delF h.once]
    have h0 : lenF (delF d.files s) t = lenF d.files t := by
      unfold lenF
      rw [findF_delF, if_neg (fun e => hne e.symm)]
    show _ - (lenF (delF d.files s) t : Int) + _ = _
    rw [h0]
    show Dk.sizes d.files - (lenF d.files s : Int) - _ + (f.b.length : Int) = _
    omega
  refine ⟨(d.act.drop s).put ⟨t, f.b, f.safe⟩, ?_, ⟨h.down, (act_quiet h).2.2.1, h.room, putF_once (delF_once h.once s) _, ?_⟩, fun u => ?_, hsz⟩
  · unfold DS.rename DS.fall
    rw [if_neg (fun e => e (h.there_some hs hf)), if_neg (by rw [ht]; decide), h.goes, if_neg (by decide)]
    show (0, (d.act.drop s).put ⟨t, (d.act.fileOr s).b, (d.act.fileOr s).safe⟩) = _
    rw [hfo]
  · show Dk.sizes (putF (delF d.files s) ⟨t, f.b, f.safe⟩) ≤ R
    rw [hsz]
    have := h.le
    omega
  · show findF (putF (delF d.files s) ⟨t, f.b, f.safe⟩) u = _
    rw [findF_putF, findF_delF]
theorem Quiet.read_none (h : Quiet d R) (hs : nameOk s = true) (hf : findF d.files s = none) : d.read s = ([], 5) := by
  unfold DS.read
  rw [if_pos (by rw [h.there_none hs hf]; decide), h.there_none hs hf]
end
end Go.Proofs.Ytclkcipakncjkaa.Kv
/- The store's calls on a device that is on, without a fuse: what they answer, and what the file is. -/
namespace Go.Proofs.Ytclkcipakncjkaa.Kv
open Go Go.RowKit Go.Proofs.YtclkcipakncjkaaW.PrintWords Go.Proofs.YtclkcipakncjkaaW.PrintLast Go.Proofs.YtclkcipakncjkaaW.PrintMore Go.Proofs.YtclkcipakncjkaaMy Go.Proofs.Ytclkcipakncjkaa Go.Proofs.YtclkcipakncjkaaPw Go.Proofs.Ytclkcipakncjkaa.PAll Go.Proofs.Ytclkcipakncjkaa.Dk
set_option linter.unusedVariables false
set_option linter.unusedSimpArgs false
/-- A store's name. -/
structure Nm (n : ByteArray) : Prop where
  ok : nameOk n = true
  dok : nameOk (draftN n) = true
  ne : n ≠ draftN n
  nn : n ≠ ⟨#[]⟩
  sz : n.size ≤ 28
/-- What a call comes to. -/
inductive Plan where
  | ret (e : Int)
  | wr (rs : List ByteArray)
  | sync
  | comp
def planOf (l : List E) (m kind : Int) (key val : ByteArray) (N : Int) : Plan :=
  if kind = 0 then (if 65536 < (recP key val).size then .ret 3 else if getE l key = some val then .ret 0 else .wr (putRecs l m key val))
  else if kind = 1 then (if N < 0 then .ret 1 else if min N.toNat l.length = 0 then .ret 0 else .wr (gones l (min N.toNat l.length)))
  else if kind = 2 then .sync else if kind = 3 then .comp else .ret 0
def runS (d : DS) (n : ByteArray) (l : List E) : Plan → Int × DS × List E
  | .ret e => (e, d, l)
  | .wr rs => writeE d n l rs
  | .sync => ((syncE d n).1, (syncE d n).2, l)
  | .comp => ((compactE d n l).1, (compactE d n l).2, l)
def runR (l : List E) (z free : Int) : Plan → Int × List E × Int
  | .ret e => (e, l, z)
  | .wr rs => writeR l z rs free
  | .sync => (0, l, z)
  | .comp => ((compactR l z free).1, l, (compactR l z free).2)
theorem doesS_run (d : DS) (n : ByteArray) (m : Int) (l : List E) (kind : Int) (key val : ByteArray) (N : Int) : doesS d n m l kind key val N = runS d n l (planOf l m kind key val N) := by
  unfold doesS planOf putE evictE
  repeat' (first | rfl | split)
theorem doesR_run (l : List E) (m z kind : Int) (key val : ByteArray) (N free : Int) : doesR l m z kind key val N free = runR l z free (planOf l m kind key val N) := by
  unfold doesR planOf putR evictR
  repeat' (first | rfl | split)
/-- The bytes that a call writes. -/
def needP (l : List E) : Plan → Int
  | .wr rs => (Fr.putB rs).length
  | .comp => (Fr.putB (allRecs l)).length
  | _ => 0
theorem putB_append (a b : List ByteArray) : Fr.putB (a ++ b) = Fr.putB a ++ Fr.putB b := by
  unfold Fr.putB
  rw [List.filter_append, List.flatMap_append]
/-- A store's file; its records lead to these entries. -/
structure StF (d : DS) (n : ByteArray) (rs : List ByteArray) (l : List E) : Prop where
  file : (findF d.files n = none ∧ rs = []) ∨ ∃ sf, findF d.files n = some ⟨n, Fr.putB rs, sf⟩
  draft : findF d.files (draftN n) = none
  good : ∀ r ∈ rs, Good r
  list : stepAll [] rs = l
theorem stepAll_append (l : List E) (a b : List ByteArray) : stepAll l (a ++ b) = stepAll (stepAll l a) b := by
  unfold stepAll
  rw [List.foldl_append]
theorem stepAll_all : ∀ (l acc : List E), Fit l → KN (acc ++ l) → stepAll acc (allRecs l) = acc ++ l
  | [], acc, _, _ => by simp [allRecs, stepAll]
  | e :: l, acc, hf, hk => by
    have h1 : stepE acc (recP e.f0 e.f1) = acc ++ [e] := by
      unfold stepE
      rw [doneE_recP acc (by have := hf e (List.mem_cons_self ..); omega), Option.getD_some, dropE_no]
      rw [getE_none_iff]
      intro x hx e2
      unfold KN at hk
      rw [List.map_append, List.nodup_append] at hk
      exact hk.2.2 x.f0 (List.mem_map.2 ⟨x, hx, rfl⟩) e.f0 (List.mem_map.2 ⟨e, List.mem_cons_self .., rfl⟩) e2
    have h2 := stepAll_all l (acc ++ [e]) (fun x hx => hf x (List.mem_cons_of_mem _ hx)) (by rw [List.append_assoc]; exact hk)
    show stepAll (stepE acc (recP e.f0 e.f1)) (allRecs l) = _
    rw [h1, h2, List.append_assoc]
    rfl
section
variable {d : DS} {R m z : Int} {n : ByteArray} {rs rs0 : List ByteArray} {l : List E}
theorem StF.new (n : ByteArray) : StF (new R) n [] [] := ⟨.inl ⟨rfl, rfl⟩, rfl, (fun r h => nomatch h), rfl⟩
theorem StF.fileB (f : StF d n rs l) : (d.fileOr n).b = Fr.putB rs := by
  rcases f.file with ⟨h, rfl⟩ | ⟨sf, h⟩
  · unfold DS.fileOr
    rw [h]
    rfl
  · rw [fileOr_findF h]
theorem StF.len (f : StF d n rs l) : lenF d.files n = (Fr.putB rs).length := by rw [← fileOr_len, f.fileB]
theorem StF.kn (f : StF d n rs l) : KN l := by rw [← f.list]; exact KN.nil.steps f.good
theorem StF.other {d' : DS} (f : StF d n rs l) (h : ∀ t, t = n ∨ t = draftN n → findF d'.files t = findF d.files t) : StF d' n rs l := ⟨by rw [h n (.inl rfl)]; exact f.file, by rw [h _ (.inr rfl)]; exact f.draft, f.good, f.list⟩
theorem wr_q (h : Quiet d R) (f : StF d n rs0 l) (nm : Nm n) (hg : ∀ r ∈ rs, Good r) (hX : ¬ R - Dk.sizes d.files < ((Fr.putB rs).length : Int)) : ∃ d', writeE d n l rs = (0, d', stepAll l rs) ∧ Quiet d' R ∧ StF d' n (rs0 ++ rs) (stepAll l rs) ∧ Dk.sizes d'.files = Dk.sizes d.files + ((Fr.putB rs).length : Int) ∧ ∀ t, t ≠ n → findF d'.files t = findF d.files t := by
  obtain ⟨d', h1, h2, h3, h4⟩ := h.append nm.ok hX
  refine ⟨d', ?_, h2, ⟨.inr ⟨(d.fileOr n).safe, ?_⟩, ?_, ?_, ?_⟩, h4, fun t ht => ?_⟩
  · unfold writeE
    rw [h1, if_pos rfl]
  · rw [h3, if_pos rfl, f.fileB, putB_append]
  · rw [h3, if_neg nm.ne]
    exact f.draft
  · intro r hr
    rcases List.mem_append.1 hr with hr | hr
    · exact f.good r hr
    · exact hg r hr
  · rw [stepAll_append, f.list]
  · rw [h3, if_neg (fun e => ht e.symm)]
theorem wr_full (h : Quiet d R) (nm : Nm n) (hX : R - Dk.sizes d.files < ((Fr.putB rs).length : Int)) : writeE d n l rs = (6, d, l) := by
  have h1 := h.full nm.ok hX
  unfold writeE
  rw [h1, if_neg (by show ¬ (6 : Int) = 0; decide)]
theorem sync_q (h : Quiet d R) (f : StF d n rs0 l) (nm : Nm n) : ∃ d', syncE d n = (0, d') ∧ Quiet d' R ∧ StF d' n rs0 l ∧ Dk.sizes d'.files = Dk.sizes d.files ∧ (∀ t, t ≠ n → findF d'.files t = findF d.files t) ∧ (∀ x, findF d'.files n = some x → x.safe = x.b.length) := by
  rcases f.file with ⟨h0, h1⟩ | ⟨sf, h0⟩
  · refine ⟨d, ?_, h, f, rfl, fun t _ => rfl, fun x hx => ?_⟩
    · unfold syncE
      rw [h.sync_none nm.ok h0, if_pos rfl]
    · rw [h0] at hx; cases hx
  · obtain ⟨d', h1, h2, h3, h4⟩ := h.sync nm.ok h0
    refine ⟨d', ?_, h2, ⟨.inr ⟨_, by rw [h3, if_pos rfl]⟩, by rw [h3, if_neg nm.ne]; exact f.draft, f.good, f.list⟩, h4, fun t ht => by rw [h3, if_neg (fun e => ht e.symm)], fun x hx => ?_⟩
    · unfold syncE
      rw [h1, if_neg (by show ¬ (0 : Int) = 5; decide)]
    · rw [h3, if_pos rfl] at hx
      injection hx with hx
      subst hx
      rfl
theorem comp_full (h : Quiet d R) (nm : Nm n) (hX : R - Dk.sizes d.files < ((Fr.putB (allRecs l)).length : Int)) : compactE d n l = (6, d) := by
  have h1 := h.full nm.dok hX
  unfold compactE
  rw [h1, if_pos (by show (6 : Int) ≠ 0; decide)]
theorem comp_q (h : Quiet d R) (f : StF d n rs0 l) (nm : Nm n) (hft : Fit l) (hX : ¬ R - Dk.sizes d.files < ((Fr.putB (allRecs l)).length : Int)) : ∃ d', compactE d n l = (0, d') ∧ Quiet d' R ∧ StF d' n (allRecs l) l ∧ Dk.sizes d'.files = Dk.sizes d.files - ((Fr.putB rs0).length : Int) + ((Fr.putB (allRecs l)).length : Int) ∧ (∀ t, t ≠ n → t ≠ draftN n → findF d'.files t = findF d.files t) ∧ (∀ x, findF d'.files n = some x → x.safe = x.b.length) := by
  obtain ⟨d1, a1, a2, a3, a4⟩ := h.append nm.dok hX
  have hb : (d.fileOr (draftN n)).b = [] := by unfold DS.fileOr; rw [f.draft]; rfl
  have f1 : findF d1.files (draftN n) = some ⟨draftN n, Fr.putB (allRecs l), (d.fileOr (draftN n)).safe⟩ := by rw [a3, if_pos rfl, hb, List.nil_append]
  obtain ⟨d2, b1, b2, b3, b4⟩ := a2.sync nm.dok f1
  have f2 : findF d2.files (draftN n) = some ⟨draftN n, Fr.putB (allRecs l), (Fr.putB (allRecs l)).length⟩ := by rw [b3, if_pos rfl]
  obtain ⟨d3, c1, c2, c3, c4⟩ := b2.rename nm.dok nm.ok (fun e => nm.ne e.symm) f2
  have hl2 : lenF d2.files n = (Fr.putB rs0).length := by
    unfold lenF
    rw [b3, if_neg (fun e => nm.ne e.symm), a3, if_neg (fun e => nm.ne e.symm)]
    exact f.len
  refine ⟨d3, ?_, c2, ⟨.inr ⟨_, by rw [c3, if_pos rfl]⟩, by rw [c3, if_neg nm.ne, if_pos rfl], Good.all hft, ?_⟩, ?_, fun t ht hd => ?_, fun x hx => ?_⟩
  · unfold compactE
    rw [a1, if_neg (by simp), b1, if_neg (by simp), c1]
  · have := stepAll_all l [] hft (by rw [List.nil_append]; exact f.kn)
    rw [List.nil_append] at this
    exact this
  · rw [c4, b4, a4, hl2]
    omega
  · rw [c3, if_neg (fun e => ht e.symm), if_neg hd, b3, if_neg (fun e => hd e.symm), a3, if_neg (fun e => hd e.symm)]
  · rw [c3, if_pos rfl] at hx
    injection hx with hx
    subst hx
    rfl
/-- A call, on the store and on the reference's with the device's own room. -/
theorem run_quiet (h : Quiet d R) (f : StF d n rs0 l) (nm : Nm n) (hft : Fit l) {p : Plan} (hg : ∀ rs, p = .wr rs → ∀ r ∈ rs, Good r) (hz : z = ((Fr.putB rs0).length : Int)) :
    ∃ d' rs', runS d n l p = ((runR l z (R - Dk.sizes d.files) p).1, d', (runR l z (R - Dk.sizes d.files) p).2.1) ∧ Quiet d' R ∧ StF d' n rs' (runR l z (R - Dk.sizes d.files) p).2.1 ∧ (runR l z (R - Dk.sizes d.files) p).2.2 = ((Fr.putB rs').length : Int) ∧ Dk.sizes d'.files - ((Fr.putB rs').length : Int) = Dk.sizes d.files - ((Fr.putB rs0).length : Int) ∧ (∀ t, t ≠ n → t ≠ draftN n → findF d'.files t = findF d.files t) := by
  cases p with
  | ret e => exact ⟨d, rs0, rfl, h, f, hz, rfl, fun _ _ _ => rfl⟩
  | wr rs =>
    by_cases c : R - Dk.sizes d.files < ((Fr.putB rs).length : Int)
    · have e1 : runR l z (R - Dk.sizes d.files) (.wr rs) = (6, l, z) := by
        show writeR l z rs _ = _
        unfold writeR
        rw [if_pos c]
      rw [e1]
      exact ⟨d, rs0, wr_full h nm c, h, f, hz, rfl, fun _ _ _ => rfl⟩
    · have e1 : runR l z (R - Dk.sizes d.files) (.wr rs) = (0, stepAll l rs, z + ((Fr.putB rs).length : Int)) := by
        show writeR l z rs _ = _
        unfold writeR
        rw [if_neg c]
      rw [e1]
      obtain ⟨d', h1, h2, h3, h4, h5⟩ := wr_q h f nm (hg rs rfl) c
      refine ⟨d', rs0 ++ rs, h1, h2, h3, ?_, ?_, fun t ht _ => h5 t ht⟩
      · show z + ((Fr.putB rs).length : Int) = _
        rw [putB_append, List.length_append, hz]
        omega
      · rw [h4, putB_append, List.length_append]
        omega
  | sync =>
    obtain ⟨d', h1, h2, h3, h4, h5, _⟩ := sync_q h f nm
    refine ⟨d', rs0, ?_, h2, h3, hz, by rw [h4], fun t ht _ => h5 t ht⟩
    show ((syncE d n).1, (syncE d n).2, l) = _
    rw [h1]
    rfl
  | comp =>
    by_cases c : R - Dk.sizes d.files < ((Fr.putB (allRecs l)).length : Int)
    · have e1 : runR l z (R - Dk.sizes d.files) .comp = (6, l, z) := by
        show ((compactR l z _).1, l, (compactR l z _).2) = _
        unfold compactR
        rw [if_pos c]
      rw [e1]
      refine ⟨d, rs0, ?_, h, f, hz, rfl, fun _ _ _ => rfl⟩
      show ((compactE d n l).1, (compactE d n l).2, l) = _
      rw [comp_full h nm c]
    · have e1 : runR l z (R - Dk.sizes d.files) .comp = (0, l, ((Fr.putB (allRecs l)).length : Int)) := by
        show ((compactR l z _).1, l, (compactR l z _).2) = _
        unfold compactR
        rw [if_neg c]
      rw [e1]
      obtain ⟨d', h1, h2, h3, h4, h5, _⟩ := comp_q h f nm hft c
      refine ⟨d', allRecs l, ?_, h2, h3, rfl, ?_, h5⟩
      · show ((compactE d n l).1, (compactE d n l).2, l) = _
        rw [h1]
      · rw [h4]
        omega
theorem plan_good {kind N : Int} {key val : ByteArray} (hft : Fit l) : ∀ rs, planOf l m kind key val N = .wr rs → ∀ r ∈ rs, Good r := by
  intro rs e
  unfold planOf at e
  split at e
  · split at e
    · cases e
    · rename_i c
      split at e
      · cases e
      · injection e with e
        subst e
        exact Good.puts hft.short (Nat.not_lt.1 c)
  · split at e
    · split at e
      · cases e
      · split at e
        · cases e
        · injection e with e
          subst e
          exact Good.gones hft.short _
    · split at e
      · cases e
      · split at e
        · cases e
        · cases e
/-- What the entries keep to. -/
structure LF (l : List E) (m : Int) : Prop where
  kn : KN l
  fit : Fit l
  len : (l.length : Int) ≤ m
theorem LF.nil (hm : 1 ≤ m) : LF [] m := ⟨KN.nil, (fun e he => nomatch he), by simp only [List.length_nil]; omega⟩
theorem stepAll_gones2 {l : List E} (hs : Short l) (j : Nat) (hj : j ≤ l.length) : stepAll l (gones l j) = l.drop j := stepAll_gones l hs j hj
/-- The entries behind a plan that goes through. -/
def listP (l : List E) : Plan → List E
  | .wr rs => stepAll l rs
  | _ => l
theorem LF.plan (h : LF l m) (hm : 1 ≤ m) (kind : Int) (key val : ByteArray) (N : Int) : LF (listP l (planOf l m kind key val N)) m := by
  have hg := plan_good (m := m) (kind := kind) (key := key) (val := val) (N := N) h.fit
  have hid : ∀ e, LF (listP l (.ret e)) m := fun _ => h
  unfold planOf at hg ⊢
  by_cases c0 : kind = 0
  · rw [if_pos c0] at hg ⊢
    by_cases c1 : 65536 < (recP key val).size
    · rw [if_pos c1]; exact h
    rw [if_neg c1] at hg ⊢
    by_cases c2 : getE l key = some val
    · rw [if_pos c2]; exact h
    rw [if_neg c2] at hg ⊢
    show LF (stepAll l (putRecs l m key val)) m
    have e := stepAll_put h.fit.short hm (Nat.not_lt.1 c1 : (recP key val).size ≤ 65536)
    refine ⟨h.kn.steps (hg _ rfl), ?_, ?_⟩
    · rw [e]
      intro x hx
      rcases putL_mem hx with hx | rfl
      · exact h.fit x hx
      · exact Nat.not_lt.1 c1
    · rw [e]
      exact putL_len hm h.len
  rw [if_neg c0] at hg ⊢
  by_cases c1 : kind = 1
  · rw [if_pos c1] at hg ⊢
    by_cases c2 : N < 0
    · rw [if_pos c2]; exact h
    rw [if_neg c2] at hg ⊢
    by_cases c3 : min N.toNat l.length = 0
    · rw [if_pos c3]; exact h
    rw [if_neg c3] at hg ⊢
    show LF (stepAll l (gones l _)) m
    rw [stepAll_gones2 h.fit.short _ (Nat.min_le_right _ _)]
    refine ⟨h.kn.suffix _, fun x hx => h.fit x (List.mem_of_mem_drop hx), ?_⟩
    rw [List.length_drop]
    have := h.len
    omega
  rw [if_neg c1]
  split
  · exact h
  · split
    · exact h
    · exact h
theorem runR_list (l : List E) (z free : Int) (p : Plan) : (runR l z free p).2.1 = l ∨ (runR l z free p).2.1 = listP l p := by
  cases p with
  | wr rs =>
    show (writeR l z rs free).2.1 = l ∨ (writeR l z rs free).2.1 = stepAll l rs
    unfold writeR
    split
    · exact .inl rfl
    · exact .inr rfl
  | _ => exact .inl rfl
theorem LF.run (h : LF l m) (hm : 1 ≤ m) (kind : Int) (key val : ByteArray) (N free : Int) : LF (doesR l m z kind key val N free).2.1 m := by
  rw [doesR_run]
  rcases runR_list l z free (planOf l m kind key val N) with e | e
  · rw [e]; exact h
  · rw [e]; exact h.plan hm kind key val N
end
end Go.Proofs.Ytclkcipakncjkaa.Kv
/- One file on a device; alive; KvlogOrders. -/
namespace Go.Proofs.Ytclkcipakncjkaa.Kv
open Go Go.RowKit Go.Proofs.YtclkcipakncjkaaW.PrintWords Go.Proofs.YtclkcipakncjkaaW.PrintLast Go.Proofs.YtclkcipakncjkaaW.PrintMore Go.Proofs.YtclkcipakncjkaaMy Go.Proofs.Ytclkcipakncjkaa Go.Proofs.YtclkcipakncjkaaPw Go.Proofs.Ytclkcipakncjkaa.PAll Go.Proofs.Ytclkcipakncjkaa.Dk
set_option linter.unusedVariables false
set_option linter.unusedSimpArgs false
def kN : ByteArray := ⟨#[107]⟩
/-- A device that is on, without a fuse, with one file at most, of at most c bytes. -/
structure One (d : DS) (n : ByteArray) (R : Int) (c : Nat) : Prop where
  down : d.down = false
  fuse : d.fuse = 0
  room : d.room = R
  file : d.files = [] ∨ ∃ b s, d.files = [⟨n, b, s⟩] ∧ b.length ≤ c
theorem One.new_ (n : ByteArray) {R : Int} (h : 0 ≤ R ∧ R ≤ 1048576) : One (new R) n R 0 := ⟨rfl, rfl, by show min (max R 0) 1048576 = R; omega, .inl rfl⟩
theorem One.append {d : DS} {n : ByteArray} {R : Int} {c : Nat} (h : One d n R c) (hn : nameOk n = true) {X : List Int} (hX : (c + X.length : Nat) ≤ R) : (d.append n X).1 = 0 ∧ One (d.append n X).2 n R (c + X.length) := by
  have hr : d.ready n = 0 := by
    unfold DS.ready
    rw [h.down, if_neg (by decide), if_pos hn]
  have hg : d.goes = false := by
    unfold DS.goes
    rw [h.fuse]
    rfl
  have hfree : ¬ (X.length : Int) > d.free := by
    unfold DS.free
    rw [h.room]
    rcases h.file with e | ⟨b, s, e, hb⟩
    · rw [e]
      show ¬ (X.length : Int) > R - 0
      omega
    · rw [e]
      show ¬ (X.length : Int) > R - ((b.length : Int) + 0)
      omega
  unfold DS.append
  rw [if_neg (fun h => h hr), if_neg hfree]
  simp only [hg]
  refine ⟨rfl, h.down, ?_, h.room, .inr ?_⟩
  · show (if d.fuse = 0 then (0 : Int) else d.fuse - 1) = 0
    rw [if_pos h.fuse]
  · rcases h.file with e | ⟨b, s, e, hb⟩
    · refine ⟨X, 0, ?_, by omega⟩
      show putF d.files _ = _
      unfold DS.fileOr findF
      rw [e]
      rfl
    · refine ⟨b ++ X, s, ?_, by rw [List.length_append]; omega⟩
      show putF d.files _ = _
      have hf : d.fileOr n = ⟨n, b, s⟩ := by
        unfold DS.fileOr findF
        rw [e, List.find?_cons_of_pos (by simp)]
        rfl
      rw [hf, e]
      unfold putF
      rw [if_pos rfl]
theorem gones_bytes {l : List E} {c : Nat} (h : ∀ e ∈ l, e.f0.size ≤ c) : ∀ r ∈ gones l 1, r.size ≤ 28 + c := by
  intro r hr
  obtain ⟨x, hx, rfl⟩ := List.mem_map.1 hr
  obtain ⟨y, hy, rfl⟩ := List.mem_map.1 hx
  rw [recG_size]
  have := h y (List.mem_of_mem_take hy)
  omega
theorem sizes_append (a b : List ByteArray) : Fr.sizes (a ++ b) = Fr.sizes a + Fr.sizes b := by
  induction a with
  | nil => simp [Fr.sizes]
  | cons x a ih => simp only [List.cons_append, Fr.sizes, ih]; omega
theorem putRecs_bytes {l : List E} {m : Int} {k u : ByteArray} {c : Nat} (hl : (l.length : Int) ≤ m) (hm : 1 ≤ m) (h : ∀ e ∈ l, e.f0.size ≤ c) (hc : c ≤ 65501) (hok : (recP k u).size ≤ 65536) : (Fr.putB (putRecs l m k u)).length ≤ 79 + c + k.size + u.size := by
  have hg := Good.of_put (m := m) hok (fun e he => Nat.le_trans (h e he) hc)
  rw [Fr.putB_length (fun s hs => (hg s hs).size)]
  unfold putRecs
  split
  · simp only [List.nil_append, List.length_singleton, Fr.sizes, recP_size]
    omega
  · have hov : over l m = 0 ∨ over l m = 1 := by unfold over; omega
    rcases hov with e | e
    · rw [e]
      show 8 * ([] ++ [recP k u] : List ByteArray).length + Fr.sizes ([] ++ [recP k u]) ≤ _
      simp only [List.nil_append, List.length_singleton, Fr.sizes, recP_size]
      omega
    · rw [e, List.length_append, sizes_append, List.length_singleton, gones_length]
      have h1 := sizes_le (gones_bytes h)
      rw [gones_length] at h1
      simp only [Fr.sizes, recP_size]
      have h2 : min 1 l.length ≤ 1 := Nat.min_le_left _ _
      have h3 : min 1 l.length * (28 + c) ≤ 1 * (28 + c) := Nat.mul_le_mul_right _ h2
      omega
theorem putE_ok {d : DS} {n : ByteArray} {R : Int} {c q : Nat} {m : Int} {l : List E} {k u : ByteArray} (h : One d n R c) (hn : nameOk n = true) (hl : (l.length : Int) ≤ m) (hm : 1 ≤ m) (hk : ∀ e ∈ l, e.f0.size ≤ q) (hq : q ≤ 65501) (hok : (recP k u).size ≤ 65536) (hX : (c + (79 + q + k.size + u.size) : Nat) ≤ R) {j : Int} (hu : d.Up j) :
    ∃ d', putE d n m l k u = (0, d', if getE l k = some u then l else putL l m k u) ∧ One d' n R (c + (79 + q + k.size + u.size)) ∧ d'.Up (j + 1) := by
  have hb := putRecs_bytes hl hm hk hq hok
  have hsh : Short l := fun e he => Nat.le_trans (hk e he) hq
  unfold putE
  rw [if_neg (by omega)]
  by_cases e : getE l k = some u
  · rw [if_pos e, if_pos e]
    refine ⟨d, rfl, ⟨h.down, h.fuse, h.room, ?_⟩, hu.more⟩
    rcases h.file with e | ⟨b, s, e, hb⟩
    · exact .inl e
    · exact .inr ⟨b, s, e, by omega⟩
  · rw [if_neg e, if_neg e]
    obtain ⟨h1, h2⟩ := h.append hn (X := Fr.putB (putRecs l m k u)) (by omega)
    unfold writeE
    rw [if_pos h1, stepAll_put hsh hm hok, h1]
    refine ⟨_, rfl, ⟨h2.down, h2.fuse, h2.room, ?_⟩, hu.append n (fun x hx => by have := Fr.byt_putB _ x hx; omega)⟩
    rcases h2.file with e | ⟨b, s, e, hb⟩
    · exact .inl e
    · exact .inr ⟨b, s, e, by omega⟩
theorem kN_ok : nameOk kN = true := by kernel_rfl
theorem new_rem {R : Int} : (new R).remove (draftN kN) = (5, new R) := by
  have ht : (new R).there (draftN kN) = 5 := by
    unfold DS.there
    rw [if_neg (by show ¬ (new R).ready (draftN kN) ≠ 0; unfold DS.ready; rw [if_neg (by show ¬ (false = true); decide), if_pos (by kernel_rfl)]; decide)]
    rfl
  unfold DS.remove
  rw [if_pos (by rw [ht]; decide), ht]
theorem new_read {R : Int} : (new R).read kN = ([], 5) := by
  have ht : (new R).there kN = 5 := by
    unfold DS.there
    rw [if_neg (by show ¬ (new R).ready kN ≠ 0; unfold DS.ready; rw [if_neg (by show ¬ (false = true); decide), if_pos kN_ok]; decide)]
    rfl
  unfold DS.read
  rw [if_pos (by rw [ht]; decide), ht]
/-- A new device and a store on it. -/
theorem Open_new {w W : World} {S : Nat → Prop} {gd : Nat} {R m : Int} (h : Dev S w.heap.size W gd (new R)) (hB : w.heap.size ≤ W.heap.size) (hm : 1 ≤ m ∧ m ≤ 4096) : Calls Try.prog 10 #[.pointer (some ⟨gd, 0, none⟩), .string kN, .int .i64 m] W fun e W' => e = .returned (.tuple #[.pointer (some ⟨W.heap.size, 0, none⟩), .int .i64 0]) ∧ ∃ S1' S2', KD S1' S2' w.heap.size W' gd W.heap.size (new R) kN m [] ∧ Step S W (U S1' S2') W' :=
  Open_none h hB (DS.Up.new R) (by decide) ⟨by intro e; exact absurd (congrArg ByteArray.size e) (by decide), by decide⟩ hm (.inr rfl) new_rem new_read
def aT : ByteArray := ⟨#[97]⟩
def bT : ByteArray := ⟨#[98]⟩
def oneT : ByteArray := ⟨#[49]⟩
def twoT : ByteArray := ⟨#[50]⟩
theorem al1 : ∃ d', putE (new 1000) kN 1 [] aT oneT = (0, d', [⟨aT, oneT⟩]) ∧ One d' kN 1000 82 ∧ d'.Up 1 := by
  obtain ⟨d', h1, h2, h3⟩ := putE_ok (d := new 1000) (n := kN) (R := 1000) (c := 0) (q := 1) (m := 1) (l := []) (k := aT) (u := oneT) (One.new_ kN (by decide)) kN_ok (by decide) (by decide) (fun e he => by cases he) (by decide) (by rw [recP_size]; decide) (by decide) (DS.Up.new 1000)
  rw [if_neg (by intro e; cases e)] at h1
  exact ⟨d', h1, h2, h3⟩
theorem al2 {d : DS} (h : One d kN 1000 82) (hu : d.Up 1) : ∃ d', putE d kN 1 [⟨aT, oneT⟩] bT twoT = (0, d', [⟨bT, twoT⟩]) ∧ d'.Up 2 := by
  obtain ⟨d', h1, h2, h3⟩ := putE_ok (q := 1) (m := 1) (l := [⟨aT, oneT⟩]) (k := bT) (u := twoT) h kN_ok (by decide) (by decide) (fun e he => by rcases List.mem_singleton.1 he with rfl; decide) (by decide) (by rw [recP_size]; decide) (by decide) hu
  have hg : getE [⟨aT, oneT⟩] bT = none := by kernel_rfl
  rw [hg, if_neg (by intro e; cases e)] at h1
  exact ⟨d', h1, h3⟩
theorem al3 : getE [(⟨bT, twoT⟩ : E)] aT = none := by kernel_rfl
theorem al4 : getE [(⟨bT, twoT⟩ : E)] bT = some twoT := by kernel_rfl
theorem getK {S1 S2 : Nat → Prop} {B : Nat} {W : World} {gd g : Nat} {d : DS} {n : ByteArray} {m : Int} {l : List E} (h : KD S1 S2 B W gd g d n m l) (s : ByteArray) (hl : l.length ≤ 1048576) : Calls Try.prog 12 #[.pointer (some ⟨g, 0, none⟩), .string s] W fun e w' => e = .returned (.tuple #[.string ((getE l s).getD ⟨#[]⟩), .bool (getE l s).isSome]) ∧ Below W.heap.size W w' := by
  obtain ⟨v, hv⟩ := h.st.at_
  exact Get_Q hv s hl
set_option maxHeartbeats 4000000 in
set_option maxRecDepth 100000 in
theorem alive_Q (w : World) : Calls Try.prog 9 #[] w fun e w' => e = .returned (.bool true) ∧ Below w.heap.size w w' := by
  obtain ⟨d1, e1, ho1, u1⟩ := al1
  obtain ⟨d2, e2, u2⟩ := al2 ho1 u1
  have E1 := Aside0.mk e1
  have E2 := Aside0.mk e2
  have U1 := Aside0.mk u1
  clear e1 e2 u1 u2 ho1
  go_enter Try.func9, Try.ntmps9
  go_wp2_with (first
    | (go_at_call 11; refine (New_D w 1000).mono ?_; rintro e w1 ⟨gd, S0, rfl, hd, hb⟩; have HD := Aside0.mk hd; have HB := Aside0.mk hb; clear hd hb)
    | (go_at_call 10; refine (Open_new HD.out HB.out.size (by decide)).mono ?_; rintro e w2 ⟨rfl, S1, S2, hk, hs⟩; have HK := Aside0.mk hk; have HB2 := Aside0.mk (HB.out.trans (hs.only.toBelow HD.out.lo HB.out.size)); clear hk hs HD HB)
    | (go_at_call 13; refine (Put_K HK.out (DS.Up.new 1000) (by decide) (by decide) (by decide) (fun e he => by cases he) (key := aT) (val := oneT) (by decide)).mono ?_; rintro e w3 ⟨rfl, S1a, S2a, hk, hs⟩; rw [E1.out] at hk ⊢; have HK2 := Aside0.mk hk; have HB3 := Aside0.mk (HB2.out.trans (hs.only.toBelow (fun j hj => hj.elim (HK.out.dev.lo j) (HK.out.st.lo j)) HB2.out.size)); clear hk hs HK HB2)
    | (go_at_call 13; refine (Put_K HK2.out U1.out (by decide) (by decide) (by decide) (fun e he => by rcases List.mem_singleton.1 he with rfl; decide) (key := bT) (val := twoT) (by decide)).mono ?_; rintro e w4 ⟨rfl, S1b, S2b, hk, hs⟩; rw [E2.out] at hk ⊢; have HK3 := Aside0.mk hk; have HB4 := Aside0.mk (HB3.out.trans (hs.only.toBelow (fun j hj => hj.elim (HK2.out.dev.lo j) (HK2.out.st.lo j)) HB3.out.size)); clear hk hs HK2 HB3)
    | (go_at_call 12; refine (getK HK3.out aT (by decide)).mono ?_; rintro e w5 ⟨rfl, hb⟩; rw [al3]; have HK4 := Aside0.mk (HK3.out.below hb); have HB5 := Aside0.mk (HB4.out.trans (hb.mono HB4.out.size)); clear hb HK3 HB4)
    | (go_at_call 12; refine (getK HK4.out bT (by decide)).mono ?_; rintro e w6 ⟨rfl, hb⟩; rw [al4]; have HB6 := Aside0.mk (HB5.out.trans (hb.mono HB5.out.size)); clear hb HK4 HB5))
  go_ret
  exact ⟨by first | rfl | (simp; done) | (simp; rw [ba_toList]; rfl), HB6.out⟩
end Go.Proofs.Ytclkcipakncjkaa.Kv
/- What the laws of chapter 5 share: a script among the arguments, great, Open on a device that is on. -/
namespace Go.Proofs.Ytclkcipakncjkaa.Kv
open Go Go.RowKit Go.Proofs.YtclkcipakncjkaaW.PrintWords Go.Proofs.YtclkcipakncjkaaW.PrintLast Go.Proofs.YtclkcipakncjkaaW.PrintMore Go.Proofs.YtclkcipakncjkaaMy Go.Proofs.Ytclkcipakncjkaa Go.Proofs.YtclkcipakncjkaaPw Go.Proofs.Ytclkcipakncjkaa.PAll Go.Proofs.Ytclkcipakncjkaa.Dk
set_option linter.unusedVariables false
set_option linter.unusedSimpArgs false
abbrev C5 : Type := S42
abbrev kC5 : Kd C5 := k42
instance : Inhabited C5 := ⟨z42⟩
theorem i64_wf {n : Int} (h : (Lit.int .i64 n).wf = true) : -9223372036854775808 ≤ n ∧ n ≤ 9223372036854775807 := by
  simp only [Lit.wf, IntKind.min, IntKind.max, IntKind.signed, IntKind.bits, Bool.and_eq_true] at h
  simp at h
  omega
/-- A script that a law is given. -/
structure Script (W : World) (A : Option Addr) (n c : Nat) (l : List C5) : Prop where
  len : n = l.length
  C : Kd.C kC5 W A l.length l
  cap : l.length ≤ c
  few : l.length ≤ 140737488351232
  hi : ∀ x ∈ l, x.f4 ≤ 9223372036854775807
  s1 : ∀ x ∈ l, x.f1.size ≤ 140737488351232
  s2 : ∀ x ∈ l, x.f2.size ≤ 140737488351232
theorem call_opens {H : Type} {enc : TypeId × Value → H} {W : World} {base : Nat} {held : Bool} : YtclkcipakncjkaaOp.Opens enc Try.prog W base held 42 kC5
    (fun x => (Lit.int .i64 x.f0).wf = true ∧ x.f1.size ≤ maxLen ∧ x.f2.size ≤ maxLen ∧ (Lit.int .i64 x.f3).wf = true ∧ (Lit.int .i64 x.f4).wf = true ∧ (Lit.int .i64 x.f5).wf = true ∧ True)
    (fun x => [] ++ ([x.f1.size] ++ ([x.f2.size] ++ ([] ++ ([] ++ ([] ++ [])))))) := by
  have h := YtclkcipakncjkaaOp.Opens.struct (enc := enc) (W := W) (base := base) (held := held) Try.underlying42 (by kernel_rfl) (.cons rfl (by kernel_rfl) (.int Try.underlying3) (.cons rfl (by kernel_rfl) (.string Try.underlying9) (.cons rfl (by kernel_rfl) (.string Try.underlying9) (.cons rfl (by kernel_rfl) (.int Try.underlying3)
    (.cons rfl (by kernel_rfl) (.int Try.underlying3) (.cons rfl (by kernel_rfl) (.int Try.underlying3) (.one rfl (by kernel_rfl) (.bool Try.underlying4))))))))
  exact YtclkcipakncjkaaOp.Opens.iso (fun x : C5 => (x.f0, x.f1, x.f2, x.f3, x.f4, x.f5, x.f6)) (fun p => ⟨p.1, p.2.1, p.2.2.1, p.2.2.2.1, p.2.2.2.2.1, p.2.2.2.2.2.1, p.2.2.2.2.2.2⟩) (fun _ => rfl) h
theorem script_arg {H : Type} {enc : TypeId × Value → H} {W : World} {base : Nat} {held : Bool} {a : Option Addr} {len cap : Nat} {x : DataW H} {ps : List MemPlace} {ts : List TypeId} {ds : List (DataW H)} {j : Nat}
    (hs : (DataW.weightsEach Try.prog ts ds).all (· ≤ reachBytes) = true) (hj : ts[j]? = some 35) (hd : ds[j]? = some x)
    (h : DataW.Trod enc Try.prog W base (fun _ => true) held 35 (.slice a len cap) x ps) : ∃ l, Script W a len cap l := by
  obtain ⟨l, e, hC, hc, hok, hf, hm⟩ := YtclkcipakncjkaaOp.slice_arg hs hj hd Try.underlying35 (by kernel_rfl) call_opens h
  have hb : Try.prog.bytesOf 42 = 72 := by kernel_rfl
  rw [hb] at hf
  refine ⟨l, e, hC, hc, by omega, fun y hy => ?_, fun y hy => hm y hy _ ?_, fun y hy => hm y hy _ ?_⟩
  · exact (i64_wf (hok y hy).2.2.2.2.1).2
  · simp
  · simp
def tot : List C5 → Nat
  | [] => 0
  | x :: l => x.f1.size + x.f2.size + tot l
theorem gq1 {a b : Nat} (h1 : a ≤ 140737488351232) (h2 : b ≤ 140737488351232) : wrap64 ((a : Int) + (b : Int)) = ((a + b : Nat) : Int) := by rw [w64 (by omega) (by omega)]; omega
theorem gq2 {n a : Nat} (h1 : n ≤ 4096) (h2 : a ≤ 281474976702464) : wrap64 ((n : Int) + (a : Int)) = ((n + a : Nat) : Int) := by rw [w64 (by omega) (by omega)]; omega
theorem great_l0 (l : List C5) (h1 : ∀ x ∈ l, x.f1.size ≤ 140737488351232) (h2 : ∀ x ∈ l, x.f2.size ≤ 140737488351232) (hl : l.length ≤ 140737488351232) :
    ∀ (k i n : Nat), i ≤ l.length → l.length - i < k → n ≤ 4096 →
      ∃ r, seichelaw05_great.l0 k l (n : Int) l (l.length : Int) (i : Int) = some r ∧ (r = false → n + tot (l.drop i) ≤ 4096 ∧ l.length ≤ 60)
  | 0, i, n, _, hk, _ => absurd hk (Nat.not_lt_zero _)
  | k + 1, i, n, hi, hk, hn => by
    unfold seichelaw05_great.l0
    by_cases c : i < l.length
    · have hr : rd_T42 l (i : Int) = l[i]'c := by unfold rd_T42; rw [Int.toNat_natCast, List.getD_eq_getElem?_getD, List.getElem?_eq_getElem c]; rfl
      have hm : l[i]'c ∈ l := List.getElem_mem c
      rw [if_pos (by omega), if_pos (by omega), if_pos (by omega), hr, List.drop_eq_getElem_cons c]
      have e1 := h1 _ hm
      have e2 := h2 _ hm
      simp only [tot]
      obtain ⟨x, hxe⟩ : ∃ x, x = l[i]'c := ⟨_, rfl⟩
      rw [← hxe] at e1 e2 ⊢
      rw [gq1 e1 e2, gq2 hn (by omega)]
      by_cases c2 : ((n + (x.f1.size + x.f2.size) : Nat) : Int) > 4096
      · rw [if_pos c2]
        exact ⟨true, rfl, fun h => nomatch h⟩
      · rw [if_neg c2, w64 (x := (i : Int) + 1) (by omega) (by omega)]
        obtain ⟨r, hr1, hr2⟩ := great_l0 l h1 h2 hl k (i + 1) (n + (x.f1.size + x.f2.size)) c (by omega) (by omega)
        refine ⟨r, hr1, fun h => ?_⟩
        have := hr2 h
        omega
    · rw [if_neg (by omega)]
      refine ⟨_, rfl, fun h => ?_⟩
      have h3 := of_decide_eq_false h
      rw [List.drop_of_length_le (by omega)]
      simp only [tot]
      omega
/-- The j-th call's cells. -/
theorem Script.at_ {W w : World} {A : Option Addr} {n c : Nat} {l : List C5} (h : Script W A n c l) (hb : Below W.heap.size W w) {j : Nat} (hj : j < l.length) : ∃ ad : Addr, A = some ad ∧ w.cell? (ad.add (j * 7)) = some (.int .i64 (l[j]).f0) ∧ w.cell? ⟨(ad.add (j * 7)).block, (ad.add (j * 7)).off + 1, none⟩ = some (.string (l[j]).f1) ∧ w.cell? ⟨(ad.add (j * 7)).block, (ad.add (j * 7)).off + 2, none⟩ = some (.string (l[j]).f2) ∧ w.cell? ⟨(ad.add (j * 7)).block, (ad.add (j * 7)).off + 3, none⟩ = some (.int .i64 (l[j]).f3) ∧ w.cell? ⟨(ad.add (j * 7)).block, (ad.add (j * 7)).off + 4, none⟩ = some (.int .i64 (l[j]).f4) ∧ w.cell? ⟨(ad.add (j * 7)).block, (ad.add (j * 7)).off + 5, none⟩ = some (.int .i64 (l[j]).f5) ∧ w.cell? ⟨(ad.add (j * 7)).block, (ad.add (j * 7)).off + 6, none⟩ = some (.bool (l[j]).f6) := by
  obtain ⟨ad, e, h0⟩ := at_T42 (Kd.C_below h.C hb) (j : Int) (by omega) (by omega)
  rw [show rd_T42 l (j : Int) = l[j] by unfold rd_T42; rw [Int.toNat_natCast, List.getD_eq_getElem?_getD, List.getElem?_eq_getElem hj]; rfl, Int.toNat_natCast] at h0
  exact ⟨ad, e, h0⟩
theorem kN_nm : Nm kN := ⟨by kernel_rfl, by kernel_rfl, fun e => absurd (congrArg ByteArray.size e) (by decide), fun e => absurd (congrArg ByteArray.size e) (by decide), by decide⟩
/-- A device's acts behind a call. -/
theorem doesS_up {d : DS} {k : Int} (u : d.Up k) (n : ByteArray) (m : Int) (l : List E) (kind : Int) (key val : ByteArray) (N : Int) : (doesS d n m l kind key val N).2.1.Up (k + 3) := by
  have hb : ∀ rs : List ByteArray, ∀ x ∈ Fr.putB rs, 0 ≤ x ∧ x ≤ 255 := fun rs x hx => by have := Fr.byt_putB rs x hx; omega
  have h0 : d.Up (k + 3) := u.mono (by omega)
  have hw : ∀ rs, (writeE d n l rs).2.1.Up (k + 3) := fun rs => (u.append n (hb rs)).mono (by omega)
  rw [doesS_run]
  cases planOf l m kind key val N with
  | ret e => exact h0
  | wr rs => exact hw rs
  | sync => exact (u.sync n).mono (by omega)
  | comp =>
    show (compactE d n l).2.Up (k + 3)
    unfold compactE
    split
    · exact (u.append _ (hb _)).mono (by omega)
    · split
      · exact ((u.append _ (hb _)).sync _).mono (by omega)
      · exact (((u.append _ (hb _)).sync _).rename _ _).mono (by omega)
theorem box_seven {W W6 : World} {gb : Nat} {u0 u1 u2 u3 u4 u5 u6 : Value} (h : W6.heap[gb]? = some (.cells #[u0, u1, u2, u3, u4, u5, u6] 42 (0, 0))) (hg : W.heap.size ≤ gb) (hb : Below W.heap.size W W6) (v0 v1 v2 v3 v4 v5 v6 : Value) :
    (((((((W6.setCell ⟨gb, 0, none⟩ v0).setCell ⟨gb, 1, none⟩ v1).setCell ⟨gb, 2, none⟩ v2).setCell ⟨gb, 3, none⟩ v3).setCell ⟨gb, 4, none⟩ v4).setCell ⟨gb, 5, none⟩ v5).setCell ⟨gb, 6, none⟩ v6).heap[gb]? = some (.cells #[v0, v1, v2, v3, v4, v5, v6] 42 (0, 0)) ∧ Below W.heap.size W (((((((W6.setCell ⟨gb, 0, none⟩ v0).setCell ⟨gb, 1, none⟩ v1).setCell ⟨gb, 2, none⟩ v2).setCell ⟨gb, 3, none⟩ v3).setCell ⟨gb, 4, none⟩ v4).setCell ⟨gb, 5, none⟩ v5).setCell ⟨gb, 6, none⟩ v6) := by
  refine ⟨?_, below_set (below_set (below_set (below_set (below_set (below_set (below_set hb hg) hg) hg) hg) hg) hg) hg⟩
  rw [blk_set (blk_set (blk_set (blk_set (blk_set (blk_set (blk_set h 0 v0) 1 v1) 2 v2) 3 v3) 4 v4) 5 v5) 6 v6]
  simp only [List.setIfInBounds_toArray, List.set_cons_zero, List.set_cons_succ]
end Go.Proofs.Ytclkcipakncjkaa.Kv
/- No store: what its calls answer; what Open refuses. -/
namespace Go.Proofs.Ytclkcipakncjkaa.Kv
open Go Go.RowKit Go.Proofs.YtclkcipakncjkaaW.PrintWords Go.Proofs.YtclkcipakncjkaaW.PrintLast Go.Proofs.YtclkcipakncjkaaW.PrintMore Go.Proofs.YtclkcipakncjkaaMy Go.Proofs.Ytclkcipakncjkaa Go.Proofs.YtclkcipakncjkaaPw Go.Proofs.Ytclkcipakncjkaa.PAll Go.Proofs.Ytclkcipakncjkaa.Dk
set_option linter.unusedVariables false
set_option linter.unusedSimpArgs false
section
variable {w : World} {m : Int} {gd : Nat} {s t : ByteArray}
set_option maxHeartbeats 4000000
set_option maxRecDepth 100000
end
end Go.Proofs.Ytclkcipakncjkaa.Kv
/- KvlogDoes: the walk. -/
namespace Go.Proofs.Ytclkcipakncjkaa.Kv
open Go Go.RowKit Go.Proofs.YtclkcipakncjkaaW.PrintWords Go.Proofs.YtclkcipakncjkaaW.PrintLast Go.Proofs.YtclkcipakncjkaaW.PrintMore Go.Proofs.YtclkcipakncjkaaMy Go.Proofs.Ytclkcipakncjkaa Go.Proofs.YtclkcipakncjkaaPw Go.Proofs.Ytclkcipakncjkaa.PAll Go.Proofs.Ytclkcipakncjkaa.Dk
set_option linter.unusedVariables false
set_option linter.unusedSimpArgs false
/-- What the loop keeps to. -/
structure DI (R m k : Int) (d : DS) (l : List E) (z : Int) : Prop where
  q : Quiet d R
  f : ∃ rs, StF d kN rs l ∧ z = ((Fr.putB rs).length : Int)
  sz : Dk.sizes d.files = z
  lf : LF l m
  up : d.Up k
theorem tot_le {l : List C5} {x : C5} (h : x ∈ l) : x.f1.size + x.f2.size ≤ tot l := by
  induction l with
  | nil => cases h
  | cons y r ih =>
    simp only [tot]
    rcases List.mem_cons.1 h with rfl | h
    · omega
    · have := ih h
      omega
section
variable {R m k z : Int} {d : DS} {l : List E}
theorem DI.new (hR : 0 ≤ R ∧ R ≤ 1048576) (hm : 1 ≤ m) : DI R m 0 (Dk.new R) [] 0 := ⟨Quiet.new hR, ⟨[], StF.new kN, rfl⟩, rfl, LF.nil hm, DS.Up.new R⟩
theorem DI.z0 (h : DI R m k d l z) : 0 ≤ z ∧ z ≤ R := by
  have h1 := h.q.le
  have h2 := sizes_nonneg d.files
  rw [h.sz] at h1 h2
  exact ⟨h2, h1⟩
theorem DI.fine (h : DI R m k d l z) (hR : R ≤ 1048576) (hm : 1 ≤ m ∧ m ≤ 4096) (hk : k < 4611686018427380000) : Fine d kN m l z k := ⟨h.up, hk, h.lf.kn, h.lf.fit, by have := h.lf.len; omega, hm, by decide, by have := h.z0; omega⟩
theorem DI.next (h : DI R m k d l z) (hm : 1 ≤ m) (kind : Int) (key val : ByteArray) (N : Int) : ∃ er d' l' z', doesS d kN m l kind key val N = (er, d', l') ∧ doesR l m z kind key val N (R - z) = (er, l', z') ∧ DI R m (k + 3) d' l' z' := by
  obtain ⟨rs, f, hz⟩ := h.f
  obtain ⟨d', rs', h1, h2, h3, h4, h5, h6⟩ := run_quiet (z := z) h.q f kN_nm h.lf.fit (plan_good (m := m) (kind := kind) (key := key) (val := val) (N := N) h.lf.fit) hz
  rw [h.sz] at h1 h3 h4 h5
  rw [← doesS_run, ← doesR_run] at h1
  rw [← doesR_run] at h3 h4
  have hu := doesS_up h.up kN m l kind key val N
  rw [h1] at hu
  have hlf : LF (doesR l m z kind key val N (R - z)).2.1 m := h.lf.run hm kind key val N _
  obtain ⟨er, l', z', hR⟩ : ∃ er l' z', doesR l m z kind key val N (R - z) = (er, l', z') := ⟨_, _, _, rfl⟩
  rw [hR] at h1 h3 h4 hlf
  refine ⟨er, d', l', z', h1, hR, h2, ⟨rs', h3, h4⟩, ?_, hlf, hu⟩
  have h4 : z' = ((Fr.putB rs').length : Int) := h4
  rw [h4]
  omega
theorem DI.draft (h : DI R m k d l z) : d.read (draftN kN) = ([], 5) := by
  obtain ⟨rs, f, _⟩ := h.f
  exact h.q.read_none kN_nm.dok f.draft
theorem DI.free (h : DI R m k d l z) : d.free = R - z := by rw [h.q.free, h.sz]
end
section
variable {S1 S2 S3 S1' S2' : Nat → Prop} {B : Nat} {W W' : World} {gd g g' gm : Nat} {d d' : DS} {n : ByteArray} {m mm z k x y free kind N fuse keep : Int} {torn : Bool} {l l' ml ml' : List E} {z' : Int} {key val : ByteArray}
theorem does_D (h : KDM S1 S2 S3 B W gd g gm d n m l m l z) (f : Fine d n m l z k) (hsz : key.size + val.size ≤ 274877906944) (hS : doesS d n m l kind key val N = (x, d', l')) (hR : doesR l m z kind key val N free = (y, ml', z')) : Calls Try.prog 16 #[.pointer (some ⟨g, 0, none⟩), .pointer (some ⟨gm, 0, none⟩), .agg #[.int .i64 kind, .string key, .string val, .int .i64 N, .int .i64 fuse, .int .i64 keep, .bool torn], .int .i64 free] W fun e W' => e = .returned (.tuple #[.int .i64 x, .int .i64 y]) ∧ ∃ S1' S2', KDM S1' S2' S3 B W' gd g gm d' n m l' m ml' z' ∧ Step (U (U S1 S2) (At1 gm)) W (U (U S1' S2') (At1 gm)) W' := by
  have := does_Q (kind := kind) (key := key) (val := val) (N := N) (fuse := fuse) (keep := keep) (torn := torn) (free := free) h f hsz
  rw [hS, hR] at this
  exact this
/-- A store opened anew takes the other's place. -/
theorem KDM.open_ (h : KDM S1 S2 S3 B W gd g gm d n m l mm ml z) (hk : KD S1' S2' B W' gd g' d' n m l') (st : Step S1 W (U S1' S2') W') : KDM S1' S2' S3 B W' gd g' gm d' n m l' mm ml z ∧ Step (U (U S1 S2) S3) W (U (U S1' S2') S3) W' := by
  have st2 : Step (U S1 S2) W (U S1' S2') W' := ⟨st.only.mono (fun _ hk => .inl hk), fun k hk => (st.sub k hk).elim (fun h => .inl (.inl h)) .inr⟩
  have h1 : Step (U (U S1 S2) S3) W (U (U S1' S2') S3) W' := Step.left st2
  have h2 : ∀ k, U S1' S2' k → ¬ S3 k := fun k hk h3 => Step.disj st2 (fun k h3 hk => h.dis k hk h3) h.hi k h3 hk
  exact ⟨⟨hk, h.ms.step h1 (st2.only.block gm h.ms.lt (fun hk => h.dis gm hk h.own)) (.inr h.own), h.own, h2, fun k hk => Nat.lt_of_lt_of_le (h.hi k hk) st2.only.size, h.lo⟩, Step.left st2⟩
/-- The reference's store is made beside. -/
theorem KDM.make (h : KD S1 S2 B W gd g d n m l) (hb : Below W.heap.size W W') {gm : Nat} (hg : W'.heap[gm]? = some (.cells (mCells mm (.slice none 0 0) 0) 40 (0, 0))) (hl : W.heap.size ≤ gm) : KDM S1 S2 (At1 gm) B W' gd g gm d n m l mm [] 0 := by
  refine ⟨h.below hb, ⟨⟨none, 0, Nat.le_refl _, hg, Kd.F_nil _ _ _⟩, .inr rfl⟩, rfl, fun k hk e => ?_, fun k e => ?_, fun k e => ?_⟩
  · subst e
    exact hk.elim (fun hk => absurd (h.dev.hi _ hk) (Nat.not_lt.2 hl)) (fun hk => absurd (h.st.hi _ hk) (Nat.not_lt.2 hl))
  · subst e
    exact blk_lt hg
  · subst e
    exact Nat.le_trans h.size hl
theorem KDM.cell1 (h : KDM S1 S2 S3 B W gd g gm d n m l mm ml z) : ∃ A c q, q = ml.length ∧ ml.length ≤ c ∧ Kd.C kE W A ml.length ml ∧ W.cell? ⟨gm, 1, none⟩ = some (.slice A q c) := by
  obtain ⟨A, c, hc, hb, he⟩ := h.ms.at_
  exact ⟨A, c, _, rfl, hc, he.C, (blk_cell hb 1).trans rfl⟩
end
theorem great_R (w : World) {W : World} {A : Option Addr} {n c : Nat} {l : List C5} (h : Script W A n c l) : ∃ r, (r = false → tot l ≤ 4096 ∧ l.length ≤ 60) ∧ ∀ w, Below W.heap.size W w → Calls Try.prog 15 #[.slice A n c] w fun e w' => e = .returned (.bool r) ∧ Below w.heap.size w w' := by
  obtain ⟨r, hr1, hr2⟩ := great_l0 l h.s1 h.s2 h.few (l.length + 1) 0 0 (Nat.zero_le _) (by omega) (by omega)
  have hn := h.len
  subst hn
  refine ⟨r, fun h => ?_, fun w hb => ?_⟩
  · have := hr2 h
    rw [List.drop_zero] at this
    omega
  · exact seichelaw05_great.calls (l.length + 1) A c l r w (Kd.C_below h.C hb) h.cap hr1
section
variable {w : World} {A : Option Addr} {n c : Nat} {sc : List C5} {R m : Int}
end
end Go.Proofs.Ytclkcipakncjkaa.Kv
/- A budget: how many bytes a store's file can come to. -/
namespace Go.Proofs.Ytclkcipakncjkaa.Kv
open Go Go.RowKit Go.Proofs.YtclkcipakncjkaaW.PrintWords Go.Proofs.YtclkcipakncjkaaW.PrintLast Go.Proofs.YtclkcipakncjkaaW.PrintMore Go.Proofs.YtclkcipakncjkaaMy Go.Proofs.Ytclkcipakncjkaa Go.Proofs.YtclkcipakncjkaaPw Go.Proofs.Ytclkcipakncjkaa.PAll Go.Proofs.Ytclkcipakncjkaa.Dk
set_option linter.unusedVariables false
set_option linter.unusedSimpArgs false
/-- What it takes to tell an entry gone; to tell all; with what they took themselves. -/
def PL (l : List E) : Nat := (l.map fun e => 36 + e.f0.size).sum
def QL (l : List E) : Nat := (l.map fun e => 79 + 2 * e.f0.size + e.f1.size).sum
theorem PL_append (a b : List E) : PL (a ++ b) = PL a + PL b := by unfold PL; rw [List.map_append, List.sum_append]
theorem QL_append (a b : List E) : QL (a ++ b) = QL a + QL b := by unfold QL; rw [List.map_append, List.sum_append]
theorem PL_split (l : List E) (i : Nat) : PL (l.take i) + PL (l.drop i) = PL l := by rw [← PL_append, List.take_append_drop]
theorem QL_split (l : List E) (i : Nat) : QL (l.take i) + QL (l.drop i) = QL l := by rw [← QL_append, List.take_append_drop]
theorem erase_le (l : List E) (i : Nat) : PL (l.eraseIdx i) ≤ PL l ∧ QL (l.eraseIdx i) ≤ QL l := by
  rw [List.eraseIdx_eq_take_drop_succ, PL_append, QL_append]
  have h1 := PL_split l i
  have h2 := QL_split l i
  have h3 := PL_split (l.drop i) 1
  have h4 := QL_split (l.drop i) 1
  rw [List.drop_drop] at h3 h4
  omega
theorem drop_le (l : List E) (s : ByteArray) : PL (dropE l s) ≤ PL l ∧ QL (dropE l s) ≤ QL l := by
  unfold dropE
  split
  · exact erase_le l _
  · exact ⟨Nat.le_refl _, Nat.le_refl _⟩
theorem gones_size {l : List E} (h : Short l) (j : Nat) : (Fr.putB (gones l j)).length = PL (l.take j) := by
  have hg := Good.gones h j
  have h0 : ∀ l : List E, Fr.sizes ((keysE l).map recG) + 8 * ((keysE l).map recG).length = PL l := by
    intro l
    induction l with
    | nil => rfl
    | cons e r ih =>
      unfold keysE PL at ih ⊢
      simp only [List.map_cons, Fr.sizes, List.length_cons, List.sum_cons, recG_size] at ih ⊢
      omega
  rw [Fr.putB_length (fun r hr => (hg r hr).size)]
  have := h0 (l.take j)
  unfold gones
  omega
theorem all_size {l : List E} (h : Fit l) : (Fr.putB (allRecs l)).length + PL l = QL l := by
  have hg := Good.all h
  have h0 : ∀ l : List E, Fr.sizes (allRecs l) + 8 * (allRecs l).length + PL l = QL l := by
    intro l
    induction l with
    | nil => rfl
    | cons e r ih =>
      unfold allRecs PL QL at ih ⊢
      simp only [List.map_cons, Fr.sizes, List.length_cons, List.sum_cons, recP_size] at ih ⊢
      omega
  rw [Fr.putB_length (fun r hr => (hg r hr).size)]
  have := h0 l
  omega
theorem one_size {k u : ByteArray} (h : (recP k u).size ≤ 65536) : (Fr.putB [recP k u]).length = 43 + k.size + u.size := by
  rw [Fr.putB_length (fun r hr => by rcases List.mem_singleton.1 hr with rfl; exact h)]
  simp only [List.length_singleton, Fr.sizes, recP_size]
  omega
/-- Every beginning of the records keeps to the budget. -/
def Bud (rs : List ByteArray) (T : Nat) : Prop := ∀ i, i ≤ rs.length → (Fr.putB (rs.take i)).length + PL (stepAll [] (rs.take i)) ≤ T ∧ QL (stepAll [] (rs.take i)) ≤ T
section
variable {rs : List ByteArray} {l : List E} {T : Nat}
theorem Bud.nil (T : Nat) : Bud [] T := fun i hi => by
  have : i = 0 := Nat.le_zero.1 hi
  subst this
  exact ⟨Nat.zero_le _, Nat.zero_le _⟩
theorem Bud.mono {T' : Nat} (h : Bud rs T) (hT : T ≤ T') : Bud rs T' := fun i hi => ⟨Nat.le_trans (h i hi).1 hT, Nat.le_trans (h i hi).2 hT⟩
theorem Bud.all (h : Bud rs T) (hl : stepAll [] rs = l) : (Fr.putB rs).length + PL l ≤ T ∧ QL l ≤ T := by
  have := h rs.length (Nat.le_refl _)
  rw [List.take_length, hl] at this
  exact this
theorem Bud.take (h : Bud rs T) (j : Nat) : Bud (rs.take j) T := fun i hi => by
  rw [List.length_take] at hi
  rw [List.take_take]
  exact h _ (by omega)
theorem gones_take (l : List E) (j a : Nat) (h : a ≤ j) : (gones l j).take a = gones l a := by
  unfold gones keysE
  rw [← List.map_take, ← List.map_take, List.take_take, Nat.min_eq_left h]
theorem Bud.append {rs2 : List ByteArray} (h : Bud rs T) (h2 : ∀ a, a ≤ rs2.length → (Fr.putB rs).length + (Fr.putB (rs2.take a)).length + PL (stepAll (stepAll [] rs) (rs2.take a)) ≤ T ∧ QL (stepAll (stepAll [] rs) (rs2.take a)) ≤ T) : Bud (rs ++ rs2) T := fun i hi => by
  rcases Nat.le_total i rs.length with c | c
  · rw [List.take_append_of_le_length c]
    exact h i c
  · obtain ⟨a, rfl⟩ : ∃ a, i = rs.length + a := ⟨i - rs.length, by omega⟩
    rw [List.length_append] at hi
    rw [List.take_append, List.take_of_length_le (by omega), putB_append, List.length_append, stepAll_append]
    rw [show rs.length + a - rs.length = a by omega]
    exact h2 a (by omega)
theorem Bud.gones (h : Bud rs T) (hl : stepAll [] rs = l) (hs : Short l) (j : Nat) (hj : j ≤ l.length) : Bud (rs ++ gones l j) T := by
  have ht := h.all hl
  refine h.append (fun a ha => ?_)
  rw [gones_length] at ha
  rw [hl, gones_take l j a (by omega), stepAll_gones2 hs a (by omega), gones_size hs]
  have h1 := PL_split l a
  have h2 := QL_split l a
  omega
theorem Bud.put (h : Bud rs T) (hl : stepAll [] rs = l) {k u : ByteArray} (hok : (recP k u).size ≤ 65536) : Bud (rs ++ [recP k u]) (T + (79 + 2 * k.size + u.size)) := by
  have ht := h.all hl
  refine (h.mono (Nat.le_add_right _ _)).append (fun a ha => ?_)
  rw [hl]
  rw [List.length_singleton] at ha
  rcases Nat.le_one_iff_eq_zero_or_eq_one.1 ha with rfl | rfl
  · show (Fr.putB rs).length + 0 + PL l ≤ _ ∧ QL l ≤ _
    omega
  · show (Fr.putB rs).length + (Fr.putB [recP k u]).length + PL (stepE l (recP k u)) ≤ _ ∧ QL (stepE l (recP k u)) ≤ _
    rw [one_size hok]
    unfold stepE
    rw [doneE_recP l (by omega), Option.getD_some, PL_append, QL_append]
    have h1 := drop_le l k
    have h2 : PL [(⟨k, u⟩ : E)] = 36 + k.size := by unfold PL; simp
    have h3 : QL [(⟨k, u⟩ : E)] = 79 + 2 * k.size + u.size := by unfold QL; simp
    rw [h2, h3]
    omega
theorem Fit.take {l : List E} (h : Fit l) (i : Nat) : Fit (l.take i) := fun e he => h e (List.mem_of_mem_take he)
theorem KN.take {l : List E} (h : KN l) (j : Nat) : KN (l.take j) := by
  unfold KN at h ⊢
  exact List.Nodup.sublist (List.Sublist.map _ (List.take_sublist j l)) h
theorem stepAll_all' {l : List E} (hf : Fit l) (hk : KN l) : stepAll [] (allRecs l) = l := by
  have := stepAll_all l [] hf (by rw [List.nil_append]; exact hk)
  rw [List.nil_append] at this
  exact this
theorem Bud.compact (hf : Fit l) (hk : KN l) (hT : QL l ≤ T) : Bud (allRecs l) T := fun i hi => by
  have e : (allRecs l).take i = allRecs (l.take i) := by unfold allRecs; rw [List.map_take]
  rw [e, stepAll_all' (hf.take i) (hk.take i)]
  have h1 := all_size (hf.take i)
  have h2 := QL_split l i
  omega
end
/-- What a call costs. -/
def costC (kind : Int) (key val : ByteArray) : Nat := if kind = 0 then 79 + 2 * key.size + val.size else 0
/-- What the records are behind a plan that goes through. -/
def recsP (rs : List ByteArray) (l : List E) : Plan → List ByteArray
  | .wr rs2 => rs ++ rs2
  | .comp => allRecs l
  | _ => rs
theorem Bud.plan {rs : List ByteArray} {l : List E} {T : Nat} {m kind N : Int} {key val : ByteArray} (h : Bud rs T) (hl : stepAll [] rs = l) (hlf : LF l m) : Bud (recsP rs l (planOf l m kind key val N)) (T + costC kind key val) ∧ needP l (planOf l m kind key val N) ≤ ((T + costC kind key val : Nat) : Int) := by
  have h0 := h.mono (Nat.le_add_right T (costC kind key val))
  have hz : (0 : Int) ≤ ((T + costC kind key val : Nat) : Int) := Int.natCast_nonneg _
  have hw : ∀ rs2, Bud (rs ++ rs2) (T + costC kind key val) → ((Fr.putB rs2).length : Int) ≤ ((T + costC kind key val : Nat) : Int) := fun rs2 hb => by
    have := (hb.all rfl).1
    rw [putB_append, List.length_append] at this
    omega
  unfold planOf
  by_cases c0 : kind = 0
  · rw [if_pos c0]
    have hc : costC kind key val = 79 + 2 * key.size + val.size := by unfold costC; rw [if_pos c0]
    by_cases c1 : 65536 < (recP key val).size
    · rw [if_pos c1]; exact ⟨h0, hz⟩
    rw [if_neg c1]
    by_cases c2 : getE l key = some val
    · rw [if_pos c2]; exact ⟨h0, hz⟩
    rw [if_neg c2]
    have hb : Bud (rs ++ putRecs l m key val) (T + costC kind key val) := by
      unfold putRecs
      rw [hc]
      split
      · rw [List.nil_append]
        exact h.put hl (Nat.not_lt.1 c1)
      · rw [← List.append_assoc]
        exact (h.gones hl hlf.fit.short (min (over l m) l.length) (Nat.min_le_right _ _) |> fun hb => by
          have e : Kv.gones l (min (over l m) l.length) = Kv.gones l (over l m) := by
            unfold Kv.gones keysE
            rcases Nat.le_total (over l m) l.length with c | c
            · rw [Nat.min_eq_left c]
            · rw [Nat.min_eq_right c, List.take_of_length_le (Nat.le_refl _), List.take_of_length_le c]
          rw [e] at hb
          exact hb.put rfl (Nat.not_lt.1 c1))
    exact ⟨hb, hw _ hb⟩
  rw [if_neg c0]
  by_cases c1 : kind = 1
  · rw [if_pos c1]
    by_cases c2 : N < 0
    · rw [if_pos c2]; exact ⟨h0, hz⟩
    rw [if_neg c2]
    by_cases c3 : min N.toNat l.length = 0
    · rw [if_pos c3]; exact ⟨h0, hz⟩
    rw [if_neg c3]
    have hb := (h.gones hl hlf.fit.short _ (Nat.min_le_right N.toNat l.length)).mono (Nat.le_add_right T (costC kind key val))
    exact ⟨hb, hw _ hb⟩
  rw [if_neg c1]
  by_cases c2 : kind = 2
  · rw [if_pos c2]; exact ⟨h0, hz⟩
  rw [if_neg c2]
  by_cases c3 : kind = 3
  · rw [if_pos c3]
    have hq := (h0.all hl).2
    have h1 := all_size hlf.fit
    refine ⟨Bud.compact hlf.fit hlf.kn hq, ?_⟩
    show ((Fr.putB (allRecs l)).length : Int) ≤ _
    omega
  rw [if_neg c3]
  exact ⟨h0, hz⟩
/-- The costs of a script's first calls. -/
def costL : List C5 → Nat
  | [] => 0
  | x :: l => costC x.f0 x.f1 x.f2 + costL l
theorem costL_append (a b : List C5) : costL (a ++ b) = costL a + costL b := by
  induction a with
  | nil => simp [costL]
  | cons x a ih => simp only [List.cons_append, costL, ih]; omega
theorem costL_le (l : List C5) : costL l ≤ 79 * l.length + 2 * tot l := by
  induction l with
  | nil => exact Nat.le_refl _
  | cons x l ih =>
    simp only [costL, tot, List.length_cons]
    have : costC x.f0 x.f1 x.f2 ≤ 79 + 2 * x.f1.size + 2 * x.f2.size := by unfold costC; split <;> omega
    omega
theorem costL_step {l : List C5} {j : Nat} (hj : j < l.length) : costL (l.take (j + 1)) = costL (l.take j) + costC (l[j]).f0 (l[j]).f1 (l[j]).f2 := by
  rw [List.take_succ_eq_append_getElem hj, costL_append]
  simp [costL]
theorem costL_take (l : List C5) (j : Nat) : costL (l.take j) ≤ costL l := by
  have := costL_append (l.take j) (l.drop j)
  rw [List.take_append_drop] at this
  omega
theorem costL_12 {l : List C5} (h : tot l ≤ 4096 ∧ l.length ≤ 60) (j : Nat) : costL (l.take j) ≤ 12932 := by
  have h1 := costL_take l j
  have h2 := costL_le l
  omega
end Go.Proofs.Ytclkcipakncjkaa.Kv
/- Calls for which there is room; two stores on one device. -/
namespace Go.Proofs.Ytclkcipakncjkaa.Kv
open Go Go.RowKit Go.Proofs.YtclkcipakncjkaaW.PrintWords Go.Proofs.YtclkcipakncjkaaW.PrintLast Go.Proofs.YtclkcipakncjkaaW.PrintMore Go.Proofs.YtclkcipakncjkaaMy Go.Proofs.Ytclkcipakncjkaa Go.Proofs.YtclkcipakncjkaaPw Go.Proofs.Ytclkcipakncjkaa.PAll Go.Proofs.Ytclkcipakncjkaa.Dk
set_option linter.unusedVariables false
set_option linter.unusedSimpArgs false
section
variable {d : DS} {R m z free : Int} {n : ByteArray} {rs0 : List ByteArray} {l : List E}
/-- A call for which there is room. -/
theorem run_room (h : Quiet d R) (f : StF d n rs0 l) (nm : Nm n) (hft : Fit l) {p : Plan} (hg : ∀ rs, p = .wr rs → ∀ r ∈ rs, Good r) (h1 : needP l p ≤ R - Dk.sizes d.files) (h2 : needP l p ≤ free) :
    ∃ er d', runS d n l p = (er, d', listP l p) ∧ runR l ((Fr.putB rs0).length : Int) free p = (er, listP l p, ((Fr.putB (recsP rs0 l p)).length : Int)) ∧ Quiet d' R ∧ StF d' n (recsP rs0 l p) (listP l p) ∧ Dk.sizes d'.files = Dk.sizes d.files - ((Fr.putB rs0).length : Int) + ((Fr.putB (recsP rs0 l p)).length : Int) ∧ (∀ t, t ≠ n → t ≠ draftN n → findF d'.files t = findF d.files t) ∧ (p = .sync ∨ p = .comp → ∀ x, findF d'.files n = some x → x.safe = x.b.length) := by
  cases p with
  | ret e => exact ⟨e, d, rfl, rfl, h, f, by show _ = Dk.sizes d.files - _ + ((Fr.putB rs0).length : Int); omega, fun _ _ _ => rfl, fun e => e.elim (fun e => nomatch e) (fun e => nomatch e)⟩
  | wr rs =>
    have h1 : ((Fr.putB rs).length : Int) ≤ R - Dk.sizes d.files := h1
    have h2 : ((Fr.putB rs).length : Int) ≤ free := h2
    obtain ⟨d', a1, a2, a3, a4, a5⟩ := wr_q h f nm (hg rs rfl) (by omega)
    refine ⟨0, d', a1, ?_, a2, a3, ?_, fun t ht _ => a5 t ht, fun e => e.elim (fun e => nomatch e) (fun e => nomatch e)⟩
    · show writeR l _ rs free = (0, stepAll l rs, ((Fr.putB (rs0 ++ rs)).length : Int))
      unfold writeR
      rw [if_neg (by omega), putB_append, List.length_append, Int.natCast_add]
    · show _ = _ - _ + ((Fr.putB (rs0 ++ rs)).length : Int)
      rw [a4, putB_append, List.length_append]
      omega
  | sync =>
    obtain ⟨d', a1, a2, a3, a4, a5, a6⟩ := sync_q h f nm
    refine ⟨0, d', ?_, rfl, a2, a3, ?_, fun t ht _ => a5 t ht, fun _ => a6⟩
    · show ((syncE d n).1, (syncE d n).2, l) = _
      rw [a1]
      rfl
    · show _ = Dk.sizes d.files - _ + ((Fr.putB rs0).length : Int)
      rw [a4]
      omega
  | comp =>
    have h1 : ((Fr.putB (allRecs l)).length : Int) ≤ R - Dk.sizes d.files := h1
    have h2 : ((Fr.putB (allRecs l)).length : Int) ≤ free := h2
    obtain ⟨d', a1, a2, a3, a4, a5, a6⟩ := comp_q h f nm hft (by omega)
    refine ⟨0, d', ?_, ?_, a2, a3, a4, a5, fun _ => a6⟩
    · show ((compactE d n l).1, (compactE d n l).2, l) = _
      rw [a1]
      rfl
    · show ((compactR l _ free).1, l, (compactR l _ free).2) = (0, l, ((Fr.putB (allRecs l)).length : Int))
      unfold compactR
      rw [if_neg (by omega)]
end
/-- Two names apart. -/
structure Apart (n1 n2 : ByteArray) : Prop where
  a : n2 ≠ n1
  b : n2 ≠ draftN n1
  c : draftN n2 ≠ n1
  d : draftN n2 ≠ draftN n1
theorem Apart.swap {n1 n2 : ByteArray} (h : Apart n1 n2) : Apart n2 n1 := ⟨h.a.symm, h.c.symm, h.b.symm, h.d.symm⟩
/-- What the loop keeps to. -/
structure DA (n1 n2 : ByteArray) (T1 T2 : Nat) (k : Int) (d : DS) (l1 l2 : List E) (z1 z2 : Int) : Prop where
  q : Quiet d 1048576
  f : ∃ rs1 rs2, StF d n1 rs1 l1 ∧ StF d n2 rs2 l2 ∧ Bud rs1 T1 ∧ Bud rs2 T2 ∧ z1 = ((Fr.putB rs1).length : Int) ∧ z2 = ((Fr.putB rs2).length : Int)
  sz : Dk.sizes d.files = z1 + z2
  lf1 : LF l1 20
  lf2 : LF l2 20
  up : d.Up k
section
variable {n1 n2 : ByteArray} {T1 T2 : Nat} {k : Int} {d : DS} {l1 l2 : List E} {z1 z2 : Int}
theorem DA.new (n1 n2 : ByteArray) : DA n1 n2 0 0 0 (Dk.new 1048576) [] [] 0 0 := ⟨Quiet.new (by decide), ⟨[], [], StF.new n1, StF.new n2, Bud.nil 0, Bud.nil 0, rfl, rfl⟩, rfl, LF.nil (by decide), LF.nil (by decide), DS.Up.new 1048576⟩
theorem DA.swap (h : DA n1 n2 T1 T2 k d l1 l2 z1 z2) : DA n2 n1 T2 T1 k d l2 l1 z2 z1 := by
  obtain ⟨rs1, rs2, a, b, c, e, f, g⟩ := h.f
  exact ⟨h.q, ⟨rs2, rs1, b, a, e, c, g, f⟩, by rw [h.sz, Int.add_comm], h.lf2, h.lf1, h.up⟩
theorem DA.mono (h : DA n1 n2 T1 T2 k d l1 l2 z1 z2) {T k' : _} (hT : T1 ≤ T) (hk : k ≤ k') : DA n1 n2 T T2 k' d l1 l2 z1 z2 := by
  obtain ⟨rs1, rs2, a, b, c, e, f, g⟩ := h.f
  exact ⟨h.q, ⟨rs1, rs2, a, b, c.mono hT, e, f, g⟩, h.sz, h.lf1, h.lf2, h.up.mono hk⟩
theorem DA.z (h : DA n1 n2 T1 T2 k d l1 l2 z1 z2) : 0 ≤ z1 ∧ z1 ≤ T1 := by
  obtain ⟨rs1, rs2, a, b, c, e, f, g⟩ := h.f
  have := (c.all a.list).1
  omega
theorem DA.fine (h : DA n1 n2 T1 T2 k d l1 l2 z1 z2) (nm : Nm n1) (hT : T1 ≤ 13000) (hk : k < 4611686018427380000) : Fine d n1 20 l1 z1 k := ⟨h.up, hk, h.lf1.kn, h.lf1.fit, by have := h.lf1.len; omega, by decide, nm.sz, by have := h.z; omega⟩
theorem DA.next (h : DA n1 n2 T1 T2 k d l1 l2 z1 z2) (nm : Nm n1) (hn : Apart n1 n2) (kind : Int) (key val : ByteArray) (N : Int) (hT : T1 + costC kind key val ≤ 13000) (hT2 : T2 ≤ 13000) : ∃ er d' l' z', doesS d n1 20 l1 kind key val N = (er, d', l') ∧ doesR l1 20 z1 kind key val N 1048576 = (er, l', z') ∧ DA n1 n2 (T1 + costC kind key val) T2 (k + 3) d' l' l2 z' z2 := by
  obtain ⟨rs1, rs2, a, b, c, e, f, g⟩ := h.f
  obtain ⟨hb, hnd⟩ := c.plan (m := 20) (kind := kind) (key := key) (val := val) (N := N) a.list h.lf1
  have hz1 := h.z
  have hz2 := h.swap.z
  obtain ⟨er, d', r1, r2, r3, r4, r5, r6, _⟩ := run_room (free := 1048576) h.q a nm h.lf1.fit (plan_good (m := 20) (kind := kind) (key := key) (val := val) (N := N) h.lf1.fit) (by have := h.sz; omega) (by omega)
  rw [← doesS_run] at r1
  rw [← f, ← doesR_run] at r2
  have hu := doesS_up h.up n1 20 l1 kind key val N
  rw [r1] at hu
  refine ⟨er, d', _, _, r1, r2, r3, ⟨_, rs2, r4, b.other (fun t ht => ?_), hb, e, rfl, g⟩, ?_, h.lf1.plan (by decide) kind key val N, h.lf2, hu⟩
  · rcases ht with rfl | rfl
    · exact r6 _ hn.a hn.b
    · exact r6 _ hn.c hn.d
  · rw [r5, h.sz, f]
    omega
end
/-- The blocks of the other store, and of the reference's stores. -/
abbrev Rest (S : Nat → Prop) (p q : Nat) : Nat → Prop := U S (fun k => k = p ∨ k = q)
structure KT (S1 Sa Sb : Nat → Prop) (B : Nat) (W : World) (gd ga gb pa pb : Nat) (d : DS) (n1 n2 : ByteArray) (la lb : List E) (za zb : Int) : Prop where
  a : KDM S1 Sa (Rest Sb pa pb) B W gd ga pa d n1 20 la 20 la za
  sb : KSt Sb B W gb gd n2 20 lb
  mb : MSt (U (U S1 Sa) (Rest Sb pa pb)) W pb 20 lb zb
  ne : pa ≠ pb ∧ ¬ Sb pa ∧ ¬ Sb pb
theorem MSt.congr {S S' : Nat → Prop} {W : World} {gm : Nat} {m z : Int} {l : List E} (h : MSt S W gm m l z) (hS : ∀ k, S k ↔ S' k) : MSt S' W gm m l z := by
  obtain ⟨A, c, hc, h1, h2⟩ := h.at_
  exact ⟨⟨A, c, hc, h1, Kd.F_mono h2 (fun k hk hk2 => hk ((hS k).2 hk2))⟩, (hS gm).1 h.sg⟩
section
variable {S1 Sa Sb S1' Sa' : Nat → Prop} {B : Nat} {W W' : World} {gd ga gb pa pb : Nat} {d d' : DS} {n1 n2 : ByteArray} {la lb la' : List E} {za zb za' : Int}
theorem KT.swap (h : KT S1 Sa Sb B W gd ga gb pa pb d n1 n2 la lb za zb) : KT S1 Sb Sa B W gd gb ga pb pa d n2 n1 lb la zb za := by
  have hs : ∀ k, U (U S1 Sa) (Rest Sb pa pb) k ↔ U (U S1 Sb) (Rest Sa pb pa) k := fun k => by
    constructor
    · rintro ((h | h) | (h | (h | h)))
      · exact .inl (.inl h)
      · exact .inr (.inl h)
      · exact .inl (.inr h)
      · exact .inr (.inr (.inr h))
      · exact .inr (.inr (.inl h))
    · rintro ((h | h) | (h | (h | h)))
      · exact .inl (.inl h)
      · exact .inr (.inl h)
      · exact .inl (.inr h)
      · exact .inr (.inr (.inr h))
      · exact .inr (.inr (.inl h))
  have hpa : ∀ {k}, U S1 Sa k → k ≠ pa := fun hk e => h.a.dis _ hk (.inr (.inl e))
  have hpb : ∀ {k}, U S1 Sa k → k ≠ pb := fun hk e => h.a.dis _ hk (.inr (.inr e))
  refine ⟨⟨⟨h.a.kd.dev, h.sb, fun k h1 h2 => h.a.dis k (.inl h1) (.inl h2), h.a.kd.size⟩, h.mb.congr hs, .inr (.inl rfl), ?_, ?_, ?_⟩, h.a.kd.st, h.a.ms.congr hs, h.ne.1.symm, fun hk => hpb (.inr hk) rfl, fun hk => hpa (.inr hk) rfl⟩
  · rintro k (hk | hk) (h2 | (h2 | h2))
    · exact h.a.kd.dis k hk h2
    · exact hpb (.inl hk) h2
    · exact hpa (.inl hk) h2
    · exact h.a.dis k (.inr h2) (.inl hk)
    · subst h2; exact h.ne.2.2 hk
    · subst h2; exact h.ne.2.1 hk
  · rintro k (hk | (hk | hk))
    · exact h.a.kd.st.hi k hk
    · exact h.a.hi k (.inr (.inr hk))
    · exact h.a.hi k (.inr (.inl hk))
  · rintro k (hk | (hk | hk))
    · exact h.a.kd.st.lo k hk
    · exact h.a.lo k (.inr (.inr hk))
    · exact h.a.lo k (.inr (.inl hk))
theorem KT.below (h : KT S1 Sa Sb B W gd ga gb pa pb d n1 n2 la lb za zb) (hb : Below W.heap.size W W') : KT S1 Sa Sb B W' gd ga gb pa pb d n1 n2 la lb za zb := ⟨h.a.below hb, h.sb.below hb, h.mb.below hb, h.ne⟩
theorem KT.turn (h : KT S1 Sa Sb B W gd ga gb pa pb d n1 n2 la lb za zb) (ha : KDM S1' Sa' (Rest Sb pa pb) B W' gd ga pa d' n1 20 la' 20 la' za') (st : Step (U (U S1 Sa) (At1 pa)) W (U (U S1' Sa') (At1 pa)) W') : KT S1' Sa' Sb B W' gd ga gb pa pb d' n1 n2 la' lb za' zb := by
  refine ⟨ha, h.sb.other st.only ?_, h.mb.step (Step.wide (S3 := Rest Sb pa pb) st (.inr (.inl rfl))) (st.only.block pb h.mb.lt ?_) (.inr (.inr (.inr rfl))), h.ne⟩
  · rintro k hk (h2 | h2)
    · exact h.a.dis k h2 (.inl hk)
    · have : k = pa := h2
      subst this
      exact h.ne.2.1 hk
  · rintro (h2 | h2)
    · exact h.a.dis pb h2 (.inr (.inr rfl))
    · exact h.ne.1 (show pb = pa from h2).symm
end
end Go.Proofs.Ytclkcipakncjkaa.Kv
/- What a loss of power leaves of a file of records, and what Open makes of it. -/
namespace Go.Proofs.Ytclkcipakncjkaa.Kv
open Go Go.RowKit Go.Proofs.YtclkcipakncjkaaW.PrintWords Go.Proofs.YtclkcipakncjkaaW.PrintLast Go.Proofs.YtclkcipakncjkaaW.PrintMore Go.Proofs.YtclkcipakncjkaaMy Go.Proofs.Ytclkcipakncjkaa Go.Proofs.YtclkcipakncjkaaPw Go.Proofs.Ytclkcipakncjkaa.PAll Go.Proofs.Ytclkcipakncjkaa.Dk
set_option linter.unusedVariables false
set_option linter.unusedSimpArgs false
theorem turnLast_append (a : List Int) {b : List Int} (hb : b ≠ []) : turnLast (a ++ b) = a ++ turnLast b := by
  unfold turnLast
  have hl : 0 < b.length := List.length_pos_iff.2 hb
  rw [List.length_append, show a.length + b.length - 1 = a.length + (b.length - 1) by omega, List.set_append_right _ _ (by omega)]
  congr 1
  rw [show a.length + (b.length - 1) - a.length = b.length - 1 by omega]
  congr 1
  rw [List.getD_eq_getElem?_getD, List.getD_eq_getElem?_getD, List.getElem?_append_right (by omega), show a.length + (b.length - 1) - a.length = b.length - 1 by omega]
theorem turnLast_last (a : List Int) (x : Int) : turnLast (a ++ [x]) = a ++ [255 - x] := by
  rw [turnLast_append a (by simp)]
  rfl
theorem list_last {l : List Int} (h : l ≠ []) : ∃ a x, l = a ++ [x] := ⟨l.dropLast, l.getLast h, (List.dropLast_concat_getLast h).symm⟩
theorem num4_set (l : List Int) (i : Nat) (x : Int) (h : 4 ≤ i) : Fr.num4 (l.set i x) = Fr.num4 l := by
  have h1 : ∀ j, j < 4 → (l.set i x).getD j 0 = l.getD j 0 := fun j hj => by
    rw [List.getD_eq_getElem?_getD, List.getD_eq_getElem?_getD, List.getElem?_set_ne (by omega)]
  unfold Fr.num4
  rw [h1 0 (by omega), h1 1 (by omega), h1 2 (by omega), h1 3 (by omega)]
theorem num4_rec (s r : List Int) (h : s.length ≤ 65536) : Fr.num4 (Fr.recB s ++ r) = s.length := by
  unfold Fr.recB
  rw [List.append_assoc]
  exact Fr.num4_word4 _ _ (by omega) (by omega)
/-- A record that is cut isn't whole, turned or not. -/
theorem whole_cut {s : List Int} (hs : s.length ≤ 65536) {c : Nat} (hc : c < 8 + s.length) (r : List Int) : Fr.wholeL ((Fr.recB s ++ r).take c) = none ∧ Fr.wholeL (turnLast ((Fr.recB s ++ r).take c)) = none := by
  have hlen : ((Fr.recB s ++ r).take c).length = c := by rw [List.length_take, List.length_append, Fr.recB_length]; omega
  have key : ∀ l : List Int, l.length = c → (8 ≤ c → Fr.num4 l = s.length) → Fr.wholeL l = none := fun l h1 h2 => by
    unfold Fr.wholeL
    by_cases h8 : l.length < 8
    · rw [if_pos h8]
    · rw [if_neg h8, if_pos]
      right
      rw [h2 (by omega), h1]
      omega
  have hn : 8 ≤ c → Fr.num4 ((Fr.recB s ++ r).take c) = s.length := fun h => by rw [Fr.num4_take _ _ (by omega), num4_rec s r hs]
  refine ⟨key _ hlen hn, key _ (by rw [DS.turnLast_len, hlen]) (fun h => ?_)⟩
  unfold turnLast
  rw [num4_set _ _ _ (by rw [hlen]; omega), hn h]
theorem byt_mid {a b : List Int} {x : Int} (h : Byt (a ++ x :: b)) : 0 ≤ x ∧ x < 256 := h x (List.mem_append_right _ (List.mem_cons_self ..))
/-- A whole record whose last byte is turned isn't whole. -/
theorem whole_turned {s : List Int} (hs : s.length ≤ 65536) (hb : Byt s) (hne : s ≠ []) : Fr.wholeL (turnLast (Fr.recB s)) = none := by
  obtain ⟨a, x, rfl⟩ := list_last hne
  have hx := byt_mid hb
  have e1 : Fr.recB (a ++ [x]) = (Fr.word4 (a ++ [x]).length ++ (Fr.word4 (Fr.crc (a ++ [x])) ++ a)) ++ [x] := by
    unfold Fr.recB
    simp only [List.append_assoc]
  rw [e1, turnLast_last]
  have e2 : (Fr.word4 (a ++ [x]).length ++ (Fr.word4 (Fr.crc (a ++ [x])) ++ a)) ++ [255 - x] = Fr.word4 (a ++ [x]).length ++ (Fr.word4 (Fr.crc (a ++ [x])) ++ (a ++ [255 - x])) := by
    simp only [List.append_assoc]
  rw [e2]
  have hl : (a ++ [255 - x]).length = (a ++ [x]).length := by simp
  have h1 : Fr.num4 (Fr.word4 (a ++ [x]).length ++ (Fr.word4 (Fr.crc (a ++ [x])) ++ (a ++ [255 - x]))) = ((a ++ [x]).length : Int) := Fr.num4_word4 _ _ (by omega) (by omega)
  have h2 : Fr.num4 ((Fr.word4 (a ++ [x]).length ++ (Fr.word4 (Fr.crc (a ++ [x])) ++ (a ++ [255 - x]))).drop 4) = Fr.crc (a ++ [x]) := by
    rw [show (Fr.word4 (a ++ [x]).length ++ (Fr.word4 (Fr.crc (a ++ [x])) ++ (a ++ [255 - x]))).drop 4 = Fr.word4 (Fr.crc (a ++ [x])) ++ (a ++ [255 - x]) by simp [Fr.word4]]
    exact Fr.num4_word4 _ _ (Fr.crc_range _).1 (Fr.crc_range _).2
  have h3 : (Fr.word4 (a ++ [x]).length ++ (Fr.word4 (Fr.crc (a ++ [x])) ++ (a ++ [255 - x]))).drop 8 = a ++ [255 - x] := by simp [Fr.word4]
  have h4 : (Fr.word4 (a ++ [x]).length ++ (Fr.word4 (Fr.crc (a ++ [x])) ++ (a ++ [255 - x]))).length = 8 + (a ++ [x]).length := by simp [Fr.word4]; omega
  unfold Fr.wholeL
  rw [h1, h2, h3, h4, if_neg (by omega), if_neg (by omega), Int.toNat_natCast, ← hl, List.take_length, if_neg]
  exact fun e => Fr.crc_one a [] (255 - x) x (by omega) (by omega) hx.1 hx.2 (by omega) e
/-- What's left of records: some whole ones, and nothing whole behind. -/
theorem cut_shape : ∀ (rs : List (List Int)) (c : Nat), (∀ s ∈ rs, s.length ≤ 65536 ∧ Byt s ∧ s ≠ []) → c ≤ (rs.flatMap Fr.recB).length →
    (∃ i t, i ≤ rs.length ∧ (rs.flatMap Fr.recB).take c = (rs.take i).flatMap Fr.recB ++ t ∧ Fr.wholeL t = none ∧ ∀ j, j ≤ rs.length → ((rs.take j).flatMap Fr.recB).length ≤ c → j ≤ i) ∧
    (∃ i t, i ≤ rs.length ∧ turnLast ((rs.flatMap Fr.recB).take c) = (rs.take i).flatMap Fr.recB ++ t ∧ Fr.wholeL t = none ∧ ∀ j, j ≤ rs.length → ((rs.take j).flatMap Fr.recB).length < c → j ≤ i)
  | [], c, _, _ => by
    refine ⟨⟨0, [], Nat.le_refl _, ?_, Fr.wholeL_nil, fun j hj _ => hj⟩, ⟨0, [], Nat.le_refl _, ?_, Fr.wholeL_nil, fun j hj _ => hj⟩⟩
    · simp
    · simp [turnLast]
  | s :: rs, c, h, hc => by
    obtain ⟨hs, hb, hne⟩ := h s (List.mem_cons_self ..)
    have hr : ∀ x ∈ rs, x.length ≤ 65536 ∧ Byt x ∧ x ≠ [] := fun x hx => h x (List.mem_cons_of_mem _ hx)
    have hj0 : ∀ j c', ((((s :: rs).take j).flatMap Fr.recB).length ≤ c' → j = 0 ∨ 8 + s.length ≤ c') := fun j c' hl => by
      cases j with
      | zero => exact .inl rfl
      | succ j =>
        right
        rw [List.take_succ_cons, List.flatMap_cons, List.length_append, Fr.recB_length] at hl
        omega
    rw [List.flatMap_cons, List.length_append, Fr.recB_length] at hc
    rw [List.flatMap_cons]
    by_cases c0 : c < 8 + s.length
    · have hw := whole_cut hs c0 (rs.flatMap Fr.recB)
      refine ⟨⟨0, _, Nat.zero_le _, by rw [List.take_zero, List.flatMap_nil, List.nil_append], hw.1, fun j _ hl => ?_⟩, ⟨0, _, Nat.zero_le _, by rw [List.take_zero, List.flatMap_nil, List.nil_append], hw.2, fun j _ hl => ?_⟩⟩
      · rcases hj0 j c hl with h0 | h0
        · omega
        · omega
      · rcases hj0 j c (Nat.le_of_lt hl) with h0 | h0
        · omega
        · omega
    · have e1 : (Fr.recB s ++ rs.flatMap Fr.recB).take c = Fr.recB s ++ (rs.flatMap Fr.recB).take (c - (8 + s.length)) := by
        rw [List.take_append, Fr.recB_length, List.take_of_length_le (by rw [Fr.recB_length]; omega)]
      obtain ⟨⟨i, t, i1, i2, i3, i4⟩, ⟨i', t', j1, j2, j3, j4⟩⟩ := cut_shape rs (c - (8 + s.length)) hr (by omega)
      refine ⟨⟨i + 1, t, by rw [List.length_cons]; omega, ?_, i3, fun j hj hl => ?_⟩, ?_⟩
      · rw [e1, i2, List.take_succ_cons, List.flatMap_cons, List.append_assoc]
      · cases j with
        | zero => omega
        | succ j =>
          rw [List.take_succ_cons, List.flatMap_cons, List.length_append, Fr.recB_length] at hl
          rw [List.length_cons] at hj
          have := i4 j (by omega) (by omega)
          omega
      · rw [e1]
        by_cases c1 : c = 8 + s.length
        · subst c1
          rw [Nat.sub_self, List.take_zero, List.append_nil]
          refine ⟨0, _, Nat.zero_le _, by rw [List.take_zero, List.flatMap_nil, List.nil_append], whole_turned hs hb hne, fun j _ hl => ?_⟩
          cases j with
          | zero => omega
          | succ j =>
            rw [List.take_succ_cons, List.flatMap_cons, List.length_append, Fr.recB_length] at hl
            omega
        · have hne2 : (rs.flatMap Fr.recB).take (c - (8 + s.length)) ≠ [] := fun e => by
            have := congrArg List.length e
            rw [List.length_take, List.length_nil] at this
            omega
          rw [turnLast_append _ hne2]
          refine ⟨i' + 1, t', by rw [List.length_cons]; omega, ?_, j3, fun j hj hl => ?_⟩
          · rw [j2, List.take_succ_cons, List.flatMap_cons, List.append_assoc]
          · cases j with
            | zero => omega
            | succ j =>
              rw [List.take_succ_cons, List.flatMap_cons, List.length_append, Fr.recB_length] at hl
              rw [List.length_cons] at hj
              have := j4 j (by omega) (by omega)
              omega
theorem Good.full {r : ByteArray} (h : Good r) : (bytesOf r).length ≤ 65536 ∧ Byt (bytesOf r) ∧ bytesOf r ≠ [] := by
  refine ⟨by rw [bytesOf_length]; exact h.size, byt_bytesOf r, fun e => ?_⟩
  have h0 : r.size = 0 := by rw [← bytesOf_length, e]; rfl
  rcases h with ⟨k, u, rfl, _⟩ | ⟨k, rfl, _⟩
  · rw [recP_size] at h0; omega
  · rw [recG_size] at h0; omega
theorem putB_full {rs : List ByteArray} (hg : ∀ r ∈ rs, Good r) : Fr.putB rs = (rs.map bytesOf).flatMap Fr.recB := Fr.putB_short (fun r hr => (hg r hr).size)
theorem putB_full_take {rs : List ByteArray} (hg : ∀ r ∈ rs, Good r) (j : Nat) : Fr.putB (rs.take j) = ((rs.map bytesOf).take j).flatMap Fr.recB := by
  rw [putB_full (fun r hr => hg r (List.mem_of_mem_take hr)), List.map_take]
/-- What a loss of power leaves of records: those that were safe, some more, and nothing whole behind. -/
theorem lose_shape {rs : List ByteArray} (hg : ∀ r ∈ rs, Good r) {f : Fl} (hb : f.b = Fr.putB rs) {j : Nat} (hj : j ≤ rs.length) (hs : f.safe = (Fr.putB (rs.take j)).length) (keep : Int) (torn : Bool) : ∃ i t, j ≤ i ∧ i ≤ rs.length ∧ loseB keep torn f = Fr.putB (rs.take i) ++ t ∧ Fr.wholeL t = none := by
  have hall : ∀ s ∈ rs.map bytesOf, s.length ≤ 65536 ∧ Byt s ∧ s ≠ [] := fun s hs => by
    obtain ⟨r, hr, rfl⟩ := List.mem_map.1 hs
    exact (hg r hr).full
  have hle : f.safe ≤ f.b.length := by
    rw [hs, hb]
    conv => rhs; rw [← List.take_append_drop j rs, putB_append, List.length_append]
    omega
  have hk : f.safe + kept keep f ≤ f.b.length := by unfold kept; omega
  have e1 : f.b = (rs.map bytesOf).flatMap Fr.recB := by rw [hb, putB_full hg]
  have hsj : f.safe = (((rs.map bytesOf).take j).flatMap Fr.recB).length := by rw [hs, putB_full_take hg]
  have hjl : j ≤ (rs.map bytesOf).length := by rw [List.length_map]; exact hj
  obtain ⟨⟨i, t, i1, i2, i3, i4⟩, ⟨i', t', j1, j2, j3, j4⟩⟩ := cut_shape (rs.map bytesOf) (f.safe + kept keep f) hall (by rw [← e1]; exact hk)
  rw [List.length_map] at i1 j1
  unfold loseB
  by_cases c : torn = true ∧ 0 < kept keep f
  · rw [if_pos c, e1, j2, ← putB_full_take hg]
    exact ⟨i', t', j4 j hjl (by rw [← hsj]; omega), j1, rfl, j3⟩
  · rw [if_neg c, e1, i2, ← putB_full_take hg]
    exact ⟨i, t, i4 j hjl (by rw [← hsj]; omega), i1, rfl, i3⟩
/-- Where all is safe nothing is lost. -/
theorem lose_safe {f : Fl} (h : f.safe = f.b.length) (keep : Int) (torn : Bool) : lose1 keep torn f = f := by
  have hk : kept keep f = 0 := by unfold kept; omega
  have hb : loseB keep torn f = f.b := by
    unfold loseB
    rw [hk, if_neg (fun e => absurd e.2 (by decide)), h, Nat.add_zero, List.take_length]
  unfold lose1
  rw [hb, ← h]
structure TF (d : DS) (n : ByteArray) (rs : List ByteArray) (R : Int) : Prop where
  room : d.room = R
  file : (findF d.files n = none ∧ rs = []) ∨ ∃ t, Fr.wholeL t = none ∧ findF d.files n = some ⟨n, Fr.putB rs ++ t, (Fr.putB rs ++ t).length⟩
  good : ∀ r ∈ rs, Good r
section
variable {d d' d1 d2 : DS} {n s : ByteArray} {rs : List ByteArray} {R k er m : Int}
theorem TF.same (h : TF d n rs R) (hf : findF d'.files n = findF d.files n) (hr : d'.room = d.room) : TF d' n rs R := ⟨hr.trans h.room, by rw [hf]; exact h.file, h.good⟩
theorem TF.act (h : TF d n rs R) : TF d.act n rs R := h.same rfl rfl
theorem TF.on (h : TF d n rs R) : TF d.on n rs R := h.same rfl rfl
theorem TF.arm (h : TF d n rs R) (j keep : Int) (torn : Bool) : TF (d.arm j keep torn) n rs R := h.same rfl rfl
theorem TF.drop (h : TF d n rs R) (hs : n ≠ s) : TF (d.drop s) n rs R := h.same (by show findF (delF d.files s) n = _; rw [findF_delF, if_neg hs]) rfl
theorem TF.off (h : TF d n rs R) (keep : Int) (torn : Bool) : TF (d.off keep torn) n rs R := by
  unfold DS.off
  split
  · exact h
  · refine ⟨h.room, ?_, h.good⟩
    show (findF (d.files.map (lose1 keep torn)) n = none ∧ rs = []) ∨ ∃ t, Fr.wholeL t = none ∧ findF (d.files.map (lose1 keep torn)) n = _
    rw [findF_lose]
    rcases h.file with ⟨h1, h2⟩ | ⟨t, h1, h2⟩
    · rw [h1]
      exact .inl ⟨rfl, h2⟩
    · rw [h2]
      refine .inr ⟨t, h1, ?_⟩
      show some (lose1 keep torn _) = _
      rw [lose_safe rfl]
theorem off_down (d : DS) (keep : Int) (torn : Bool) : (d.off keep torn).down = true := by
  unfold DS.off
  split
  · assumption
  · rfl
theorem TF.le (h : TF d n rs R) (u : d.Up k) : (lenF d.files n : Int) ≤ R := by
  have h1 := lenF_le d.files n
  have h2 := u.fits
  have h3 := h.room
  omega
theorem TF.cut (h : TF d n rs R) : TF (d.put (cutTo (d.fileOr n) ((Fr.putB rs).length : Int))) n rs R ∧ (∀ x, findF d.files n = some x → findF (d.put (cutTo (d.fileOr n) ((Fr.putB rs).length : Int))).files n = some ⟨n, Fr.putB rs, (Fr.putB rs).length⟩) := by
  have key : ∀ t, findF d.files n = some ⟨n, Fr.putB rs ++ t, (Fr.putB rs ++ t).length⟩ → findF (d.put (cutTo (d.fileOr n) ((Fr.putB rs).length : Int))).files n = some ⟨n, Fr.putB rs, (Fr.putB rs).length⟩ := fun t ht => by
    rw [fileOr_findF ht]
    show findF (putF d.files (cutTo _ _)) n = _
    rw [findF_putF]
    unfold cutTo
    rw [if_pos rfl]
    simp only [Int.toNat_natCast, List.take_left]
    rw [List.length_append, Nat.min_eq_right (Nat.le_add_right _ _)]
  rcases h.file with ⟨h1, h2⟩ | ⟨t, h1, h2⟩
  · refine ⟨⟨h.room, .inr ⟨[], Fr.wholeL_nil, ?_⟩, h.good⟩, fun x hx => by rw [h1] at hx; cases hx⟩
    subst h2
    show findF (putF d.files (cutTo (d.fileOr n) _)) n = _
    have hn : (cutTo (d.fileOr n) (((Fr.putB []).length : Nat) : Int)).name = n := fileOr_name d n
    rw [findF_putF, if_pos hn]
    unfold DS.fileOr cutTo
    rw [h1]
    rfl
  · refine ⟨⟨h.room, .inr ⟨[], Fr.wholeL_nil, ?_⟩, h.good⟩, fun x hx => key t h2⟩
    rw [List.append_nil]
    exact key t h2
end
end Go.Proofs.Ytclkcipakncjkaa.Kv
/- Open, of a file that is all safe, with a fuse or without. -/
namespace Go.Proofs.Ytclkcipakncjkaa.Kv
open Go Go.RowKit Go.Proofs.YtclkcipakncjkaaW.PrintWords Go.Proofs.YtclkcipakncjkaaW.PrintLast Go.Proofs.YtclkcipakncjkaaW.PrintMore Go.Proofs.YtclkcipakncjkaaMy Go.Proofs.Ytclkcipakncjkaa Go.Proofs.YtclkcipakncjkaaPw Go.Proofs.Ytclkcipakncjkaa.PAll Go.Proofs.Ytclkcipakncjkaa.Dk
set_option linter.unusedVariables false
set_option linter.unusedSimpArgs false
/-- What Open makes of the device. -/
def OpenP (d : DS) (n : ByteArray) (rs : List ByteArray) (er : Int) (d' : DS) : Prop := ∃ r1 d1, d.remove (draftN n) = (r1, d1) ∧ ((r1 = 7 ∧ er = 7 ∧ d' = d1) ∨ ((r1 = 0 ∨ r1 = 5) ∧ ((d1.read n = ([], 5) ∧ er = 0 ∧ d' = d1 ∧ rs = []) ∨ ∃ t, d1.read n = (Fr.putB rs ++ t, 0) ∧ Fr.wholeL t = none ∧ Byt (Fr.putB rs ++ t) ∧ (Fr.putB rs ++ t).length ≤ 1048576 ∧ ((t = [] ∧ er = 0 ∧ d' = d1) ∨ (t ≠ [] ∧ d1.cut n ((Fr.putB rs).length : Int) = (er, d'))))))
/-- A store's file behind Open. -/
structure Opened (d : DS) (n : ByteArray) (rs : List ByteArray) (R : Int) : Prop where
  down : d.down = false
  room : d.room = R
  file : (findF d.files n = none ∧ rs = []) ∨ findF d.files n = some ⟨n, Fr.putB rs, (Fr.putB rs).length⟩
  draft : findF d.files (draftN n) = none
  good : ∀ r ∈ rs, Good r
section
variable {d d' d1 d2 : DS} {n s : ByteArray} {rs : List ByteArray} {R k er m : Int}
theorem Opened.tf (h : Opened d n rs R) : TF d n rs R := ⟨h.room, h.file.elim .inl (fun h => .inr ⟨[], Fr.wholeL_nil, by rw [List.append_nil]; exact h⟩), h.good⟩
theorem there_none (hd : d.down = false) (hs : nameOk s = true) (hf : findF d.files s = none) : d.there s = 5 := by
  unfold DS.there DS.ready
  rw [hd, if_neg (fun e => e (by rw [if_neg (by decide), if_pos hs])), hf, if_neg (by decide)]
theorem there_some {f : Fl} (hd : d.down = false) (hs : nameOk s = true) (hf : findF d.files s = some f) : d.there s = 0 := by
  unfold DS.there DS.ready
  rw [hd, if_neg (fun e => e (by rw [if_neg (by decide), if_pos hs])), hf, if_pos (by rfl)]
theorem fall_goes (hg : d.goes = true) (done : DS → DS) : d.fall done = (7, (if 0 < d.keep then done d.act else d.act).ends) := by unfold DS.fall; rw [if_pos hg]
theorem fall_not (hg : ¬ d.goes = true) (done : DS → DS) : d.fall done = (0, done d.act) := by unfold DS.fall; rw [if_neg hg]
theorem goes_zero (h : d.fuse = 0) : ¬ d.goes = true := by unfold DS.goes; rw [h]; decide
theorem act_zero (h : d.fuse = 0) : d.act.fuse = 0 := by show (if d.fuse = 0 then (0 : Int) else d.fuse - 1) = 0; rw [if_pos h]
theorem open_plain (h : TF d n rs R) (u : d.Up k) (nm : Nm n) (hR : R ≤ 1048576) (hd : d.down = false) : ∃ er d', OpenP d n rs er d' ∧ (er = 0 ∨ er = 7) ∧ d'.Up (k + 2) ∧ TF d' n rs R ∧ (er = 7 → d'.down = true) ∧ (er = 0 → Opened d' n rs R) ∧ (d.fuse = 0 → er = 0 ∧ d'.fuse = 0) := by
  -- behind the draft's taking out
  have part : ∀ r1 d1, d.remove (draftN n) = (r1, d1) → (r1 = 0 ∨ r1 = 5) → TF d1 n rs R → d1.Up (k + 1) → d1.down = false → findF d1.files (draftN n) = none → (d.fuse = 0 → d1.fuse = 0) → ∃ er d', OpenP d n rs er d' ∧ (er = 0 ∨ er = 7) ∧ d'.Up (k + 2) ∧ TF d' n rs R ∧ (er = 7 → d'.down = true) ∧ (er = 0 → Opened d' n rs R) ∧ (d.fuse = 0 → er = 0 ∧ d'.fuse = 0) := by
    intro r1 d1 e1 hr1 t1 u1 hd1 hdr hfu
    have hlen := t1.le u1
    rcases t1.file with ⟨f1, f2⟩ | ⟨t, f1, f2⟩
    · have hrd : d1.read n = ([], 5) := by
        unfold DS.read
        rw [there_none hd1 nm.ok f1, if_pos (by decide)]
      exact ⟨0, d1, ⟨r1, d1, e1, .inr ⟨hr1, .inl ⟨hrd, rfl, rfl, f2⟩⟩⟩, .inl rfl, u1.mono (by omega), t1, fun e => absurd e (by decide), fun _ => ⟨hd1, t1.room, .inl ⟨f1, f2⟩, hdr, t1.good⟩, fun e => ⟨rfl, hfu e⟩⟩
    · have hrd : d1.read n = (Fr.putB rs ++ t, 0) := by
        unfold DS.read
        rw [there_some hd1 nm.ok f2, if_neg (by decide), fileOr_findF f2]
      have hby : Byt (Fr.putB rs ++ t) := fun x hx => by
        have := u1.bytes _ (findF_some f2).1 x hx
        omega
      have hl : (Fr.putB rs ++ t).length ≤ 1048576 := by
        rw [lenF_some f2] at hlen
        have hlen : ((Fr.putB rs ++ t).length : Int) ≤ R := hlen
        omega
      by_cases ht : t = []
      · subst ht
        exact ⟨0, d1, ⟨r1, d1, e1, .inr ⟨hr1, .inr ⟨[], hrd, f1, hby, hl, .inl ⟨rfl, rfl, rfl⟩⟩⟩⟩, .inl rfl, u1.mono (by omega), t1, fun e => absurd e (by decide), fun _ => ⟨hd1, t1.room, .inr (by rw [List.append_nil] at f2; exact f2), hdr, t1.good⟩, fun e => ⟨rfl, hfu e⟩⟩
      · have u2 := u1.cut n ((Fr.putB rs).length : Int)
        have hc : d1.cut n ((Fr.putB rs).length : Int) = d1.fall fun e => e.put (cutTo (e.fileOr n) ((Fr.putB rs).length : Int)) := by
          unfold DS.cut
          rw [there_some hd1 nm.ok f2, if_neg (by decide), if_neg (by omega)]
        obtain ⟨er, d2, e2⟩ : ∃ er d2, d1.cut n ((Fr.putB rs).length : Int) = (er, d2) := ⟨_, _, rfl⟩
        rw [e2] at u2
        have u2' : d2.Up (k + 2) := u2.mono (by show k + 1 + 1 ≤ k + 2; omega)
        have ho : OpenP d n rs er d2 := ⟨r1, d1, e1, .inr ⟨hr1, .inr ⟨t, hrd, f1, hby, hl, .inr ⟨ht, e2⟩⟩⟩⟩
        rw [hc] at e2
        by_cases hg : d1.goes = true
        · rw [fall_goes hg] at e2
          injection e2 with e3 e4
          subst e3
          subst e4
          refine ⟨7, _, ho, .inr rfl, u2', ?_, fun _ => off_down _ _ _, fun e => absurd e (by decide), fun e => absurd hg (goes_zero (hfu e))⟩
          unfold DS.ends
          split
          · exact (TF.cut t1.act).1.off _ _
          · exact t1.act.off _ _
        · rw [fall_not hg] at e2
          injection e2 with e3 e4
          subst e3
          subst e4
          have hcut := TF.cut t1.act
          refine ⟨0, _, ho, .inl rfl, u2', hcut.1, fun e => absurd e (by decide), fun _ => ⟨hd1, t1.room, .inr (hcut.2 _ f2), ?_, t1.good⟩, fun e => ⟨rfl, act_zero (hfu e)⟩⟩
          show findF (putF d1.files (cutTo (d1.act.fileOr n) _)) (draftN n) = none
          have hnm : (cutTo (d1.act.fileOr n) (((Fr.putB rs).length : Nat) : Int)).name = n := fileOr_name d1.act n
          rw [findF_putF, if_neg (by rw [hnm]; exact nm.ne)]
          exact hdr
  have ur := u.remove (draftN n)
  cases hf : findF d.files (draftN n) with
  | none =>
    have e1 : d.remove (draftN n) = (5, d) := by
      unfold DS.remove
      rw [there_none hd nm.dok hf, if_pos (by decide)]
    exact part 5 d e1 (.inr rfl) h u.more hd hf (fun e => e)
  | some f =>
    have e1 : d.remove (draftN n) = d.fall fun e => e.drop (draftN n) := by
      unfold DS.remove
      rw [there_some hd nm.dok hf, if_neg (by decide)]
    by_cases hg : d.goes = true
    · rw [fall_goes hg] at e1
      rw [e1] at ur
      refine ⟨7, _, ⟨7, _, e1, .inl ⟨rfl, rfl, rfl⟩⟩, .inr rfl, ur.mono (by omega), ?_, fun _ => off_down _ _ _, fun e => absurd e (by decide), fun e => absurd hg (goes_zero e)⟩
      unfold DS.ends
      split
      · exact (h.act.drop nm.ne).off _ _
      · exact h.act.off _ _
    · rw [fall_not hg] at e1
      rw [e1] at ur
      refine part 0 _ e1 (.inl rfl) (h.act.drop nm.ne) ur hd ?_ (fun e => act_zero e)
      show findF (delF d.files (draftN n)) (draftN n) = none
      rw [findF_delF, if_pos rfl]
section
variable {S1 : Nat → Prop} {B : Nat} {W : World} {gd : Nat}
theorem splits_tail {t : List Int} (hg : ∀ r ∈ rs, Good r) (ht : Fr.wholeL t = none) : Fr.Splits (Fr.putB rs ++ t) (rs.map bytesOf) := by
  rw [putB_full hg]
  exact Fr.splits_recs _ (fun s hs => by
    obtain ⟨r, hr, rfl⟩ := List.mem_map.1 hs
    exact (hg r hr).full.1) t ht
theorem Open_P0 (h : Dev S1 B W gd d) (hB : B ≤ W.heap.size) (u : d.Up k) (hk : k < 4611686018427387900) (nm : Nm n) (hm : 1 ≤ m ∧ m ≤ 4096) (hg : ∀ r ∈ rs, Good r) (p : OpenP d n rs 0 d') : Calls Try.prog 10 #[.pointer (some ⟨gd, 0, none⟩), .string n, .int .i64 m] W fun e W' => e = .returned (.tuple #[.pointer (some ⟨W.heap.size, 0, none⟩), .int .i64 0]) ∧ ∃ S1' S2', KD S1' S2' B W' gd W.heap.size d' n m (stepAll [] rs) ∧ Step S1 W (U S1' S2') W' := by
  have hsz : ∀ s ∈ rs, s.size ≤ 65536 := fun s hs => (hg s hs).size
  obtain ⟨r1, d1, e1, ⟨_, e2, _⟩ | ⟨h5, ⟨e2, _, e3, e4⟩ | ⟨t, e2, e3, e4, e5, ⟨e6, _, e7⟩ | ⟨e6, e7⟩⟩⟩⟩ := p
  · exact absurd e2 (by decide)
  · subst e3
    subst e4
    exact Open_none h hB u hk ⟨nm.nn, nm.sz⟩ hm h5 e1 e2
  · subst e6
    subst e7
    have hlen : rs.length ≤ 1048576 := by
      have := Fr.putB_length hsz
      rw [List.append_nil] at e5
      omega
    have := Open_all (rs := rs.map bytesOf) h hB u hk ⟨nm.nn, nm.sz⟩ hm h5 e1 e2 e4 (by omega) (splits_tail hg e3) (by rw [Fr.map_str]; exact hg) (by rw [List.length_map]; exact hlen) (by rw [List.append_nil]; exact Fr.total_put hsz)
    rw [Fr.map_str] at this
    exact this
  · have hlen : rs.length ≤ 1048576 := by
      have := Fr.putB_length hsz
      rw [List.length_append] at e5
      omega
    have hlt : 0 < t.length := List.length_pos_iff.2 e6
    have := Open_some (rs := rs.map bytesOf) h hB u hk ⟨nm.nn, nm.sz⟩ hm h5 e1 e2 e4 (by omega) (splits_tail hg e3) (by rw [Fr.map_str]; exact hg) (by rw [List.length_map]; exact hlen) (by rw [Fr.total_put hsz, List.length_append]; omega) (by rw [Fr.total_put hsz]; exact e7)
    rw [Fr.map_str] at this
    exact this
theorem Open_P7 (h : Dev S1 B W gd d) (hB : B ≤ W.heap.size) (u : d.Up k) (hk : k < 4611686018427387900) (nm : Nm n) (hm : 1 ≤ m ∧ m ≤ 4096) (hg : ∀ r ∈ rs, Good r) (p : OpenP d n rs 7 d') : Calls Try.prog 10 #[.pointer (some ⟨gd, 0, none⟩), .string n, .int .i64 m] W fun e W' => e = .returned (.tuple #[.pointer none, .int .i64 7]) ∧ ∃ S1', Dev S1' B W' gd d' ∧ Step S1 W S1' W' := by
  have hsz : ∀ s ∈ rs, s.size ≤ 65536 := fun s hs => (hg s hs).size
  obtain ⟨r1, d1, e1, ⟨e2, _, e3⟩ | ⟨h5, ⟨e2, e3, _⟩ | ⟨t, e2, e3, e4, e5, ⟨_, e6, _⟩ | ⟨e6, e7⟩⟩⟩⟩ := p
  · subst e2
    subst e3
    exact Open_rem h hB u hk ⟨nm.nn, nm.sz⟩ hm e1 (by decide)
  · exact absurd e3 (by decide)
  · exact absurd e6 (by decide)
  · have hlt : 0 < t.length := List.length_pos_iff.2 e6
    exact Open_cut (rs := rs.map bytesOf) h hB u hk ⟨nm.nn, nm.sz⟩ hm h5 e1 e2 e4 (by omega) (splits_tail hg e3) (by rw [Fr.total_put hsz, List.length_append]; omega) (by rw [Fr.total_put hsz]; exact e7) (by decide)
end
end
end Go.Proofs.Ytclkcipakncjkaa.Kv
/- A call on a device with a fuse: it goes through, or what is left is a beginning of the records. -/
namespace Go.Proofs.Ytclkcipakncjkaa.Kv
open Go Go.RowKit Go.Proofs.YtclkcipakncjkaaW.PrintWords Go.Proofs.YtclkcipakncjkaaW.PrintLast Go.Proofs.YtclkcipakncjkaaW.PrintMore Go.Proofs.YtclkcipakncjkaaMy Go.Proofs.Ytclkcipakncjkaa Go.Proofs.YtclkcipakncjkaaPw Go.Proofs.Ytclkcipakncjkaa.PAll Go.Proofs.Ytclkcipakncjkaa.Dk
set_option linter.unusedVariables false
set_option linter.unusedSimpArgs false
/-- Nothing is there but a store's file and its draft. -/
def Names (d : DS) (n : ByteArray) : Prop := ∀ f ∈ d.files, f.name = n ∨ f.name = draftN n
structure Live (d : DS) (n : ByteArray) (R k : Int) : Prop where
  up : d.Up k
  down : d.down = false
  room : d.room = R
  names : Names d n
structure Dead (d : DS) (n : ByteArray) (R k : Int) : Prop where
  up : d.Up k
  down : d.down = true
  fuse : d.fuse = 0
  room : d.room = R
  names : Names d n
/-- A store's file: records that are safe, and others. -/
structure StS (d : DS) (n : ByteArray) (rs0 rs : List ByteArray) (l : List E) : Prop where
  file : (findF d.files n = none ∧ rs0 ++ rs = []) ∨ findF d.files n = some ⟨n, Fr.putB (rs0 ++ rs), (Fr.putB rs0).length⟩
  draft : findF d.files (draftN n) = none
  good : ∀ r ∈ rs0 ++ rs, Good r
  list : stepAll [] (rs0 ++ rs) = l
section
variable {d d' e : DS} {n s : ByteArray} {R k : Int} {rs rs0 : List ByteArray} {l : List E}
theorem Names.put (h : Names d n) {f : Fl} (hf : f.name = n ∨ f.name = draftN n) : ∀ g ∈ putF d.files f, g.name = n ∨ g.name = draftN n := fun g hg => by
  have : ∀ (l : List Fl), (∀ g ∈ l, g.name = n ∨ g.name = draftN n) → ∀ g ∈ putF l f, g.name = n ∨ g.name = draftN n := by
    intro l
    induction l with
    | nil =>
      intro _ g hg
      unfold putF at hg
      rcases List.mem_cons.1 hg with rfl | hg
      · exact hf
      · cases hg
    | cons x r ih =>
      intro hl g hg
      unfold putF at hg
      split at hg
      · rcases List.mem_cons.1 hg with rfl | hg
        · exact hf
        · exact hl g (List.mem_cons_of_mem _ hg)
      · rcases List.mem_cons.1 hg with rfl | hg
        · exact hl _ (List.mem_cons_self ..)
        · exact ih (fun g hg => hl g (List.mem_cons_of_mem _ hg)) g hg
  exact this d.files h g hg
theorem Names.del (h : Names d n) (s : ByteArray) : ∀ g ∈ delF d.files s, g.name = n ∨ g.name = draftN n := fun g hg => h g (List.mem_filter.1 hg).1
theorem Names.off (h : Names d n) (keep : Int) (torn : Bool) : Names (d.off keep torn) n := by
  unfold DS.off
  split
  · exact h
  · intro g hg
    have hg : g ∈ d.files.map (lose1 keep torn) := hg
    obtain ⟨f, hf, rfl⟩ := List.mem_map.1 hg
    exact h f hf
theorem Names.fall (h : Names d n) {done : DS → DS} (hd : ∀ e : DS, e.files = d.files → Names (done e) n) : Names (d.fall done).2 n := by
  unfold DS.fall
  split
  · show Names (if 0 < d.keep then done d.act else d.act).ends n
    unfold DS.ends
    split
    · exact (hd d.act rfl).off _ _
    · exact Names.off (d := d.act) h _ _
  · exact hd d.act rfl
theorem Names.remove (h : Names d n) (s : ByteArray) : Names (d.remove s).2 n := by
  unfold DS.remove
  split
  · exact h
  · exact h.fall (fun e he g hg => by
      have hg : g ∈ delF e.files s := hg
      rw [he] at hg
      exact h.del s g hg)
theorem Names.cut (h : Names d n) (j : Int) : Names (d.cut n j).2 n := by
  unfold DS.cut
  split
  · exact h
  · split
    · exact h
    · exact h.fall (fun e he g hg => by
        have hg : g ∈ putF e.files (cutTo (e.fileOr n) j) := hg
        rw [he] at hg
        exact h.put (f := cutTo (e.fileOr n) j) (.inl (fileOr_name e n)) g hg)
theorem OpenP.names {er : Int} (p : OpenP d n rs er d') (h : Names d n) : Names d' n := by
  obtain ⟨r1, d1, e1, p⟩ := p
  have h1 : Names d1 n := by have := h.remove (draftN n); rw [e1] at this; exact this
  rcases p with ⟨_, _, rfl⟩ | ⟨_, ⟨_, _, rfl, _⟩ | ⟨t, _, _, _, _, ⟨_, _, rfl⟩ | ⟨_, e2⟩⟩⟩
  · exact h1
  · exact h1
  · exact h1
  · have := h1.cut ((Fr.putB rs).length : Int)
    rw [e2] at this
    exact this
theorem Names.sizes (h : Names d n) (ho : Once d.files) (hn : n ≠ draftN n) : Dk.sizes d.files = (lenF d.files n : Int) + (lenF d.files (draftN n) : Int) := by
  have h1 := sizes_delF ho n
  have h2 := sizes_delF (delF_once ho n) (draftN n)
  have h3 : lenF (delF d.files n) (draftN n) = lenF d.files (draftN n) := by
    unfold lenF
    rw [findF_delF, if_neg (fun e => hn e.symm)]
  have h4 : delF (delF d.files n) (draftN n) = [] := by
    rw [List.eq_nil_iff_forall_not_mem]
    intro g hg
    have g1 := List.mem_filter.1 hg
    have g2 := List.mem_filter.1 g1.1
    have e1 := of_decide_eq_true g1.2
    have e2 := of_decide_eq_true g2.2
    rcases h g g2.1 with e | e
    · exact e2 e
    · exact e1 e
  rw [h4, h3] at h2
  have : Dk.sizes [] = 0 := rfl
  omega
theorem StS.len (f : StS d n rs0 rs l) : lenF d.files n = (Fr.putB (rs0 ++ rs)).length := by
  rcases f.file with ⟨h, h2⟩ | h
  · rw [lenF_none h, h2]; rfl
  · rw [lenF_some h]
theorem Live.sizes (h : Live d n R k) (f : StS d n rs0 rs l) (nm : Nm n) : Dk.sizes d.files = ((Fr.putB (rs0 ++ rs)).length : Int) := by
  rw [h.names.sizes h.up.once nm.ne, f.len, lenF_none f.draft]
  simp
theorem StS.fileOr (f : StS d n rs0 rs l) : d.fileOr n = ⟨n, Fr.putB (rs0 ++ rs), (Fr.putB rs0).length⟩ := by
  rcases f.file with ⟨h, h2⟩ | h
  · unfold DS.fileOr
    rw [h, h2]
    have : rs0 = [] := (List.append_eq_nil_iff.1 h2).1
    subst this
    rfl
  · exact fileOr_findF h
theorem StS.other (f : StS d n rs0 rs l) (h1 : findF d'.files n = findF d.files n) (h2 : findF d'.files (draftN n) = none) : StS d' n rs0 rs l := ⟨by rw [h1]; exact f.file, h2, f.good, f.list⟩
/-- The power goes. -/
theorem ends_dead (u : e.ends.Up k) (hd : e.down = false) (hr : e.room = R) (hn : Names e n) : Dead e.ends n R k := by
  refine ⟨u, off_down _ _ _, ?_, ?_, hn.off _ _⟩
  · unfold DS.ends DS.off
    rw [hd, if_neg (by decide)]
  · unfold DS.ends DS.off
    rw [hd, if_neg (by decide)]
    exact hr
theorem ends_tf {j : Nat} (hd : e.down = false) (hr : e.room = R) (hf : (findF e.files n = none ∧ rs = []) ∨ findF e.files n = some ⟨n, Fr.putB rs, (Fr.putB (rs.take j)).length⟩) (hj : j ≤ rs.length) (hg : ∀ r ∈ rs, Good r) : ∃ i, j ≤ i ∧ i ≤ rs.length ∧ TF e.ends n (rs.take i) R := by
  have e1 : e.ends.files = e.files.map (lose1 e.keep e.torn) := by
    unfold DS.ends DS.off
    rw [hd, if_neg (by decide)]
  have e2 : e.ends.room = R := by
    unfold DS.ends DS.off
    rw [hd, if_neg (by decide)]
    exact hr
  rcases hf with ⟨h1, h2⟩ | h1
  · subst h2
    refine ⟨0, by simpa using hj, Nat.zero_le _, e2, .inl ⟨?_, by simp⟩, fun r hr => by simp at hr⟩
    rw [e1, findF_lose, h1]
    rfl
  · obtain ⟨i, t, i1, i2, i3, i4⟩ := lose_shape hg (f := ⟨n, Fr.putB rs, (Fr.putB (rs.take j)).length⟩) rfl hj rfl e.keep e.torn
    refine ⟨i, i1, i2, e2, .inr ⟨t, i4, ?_⟩, fun r hr => hg r (List.mem_of_mem_take hr)⟩
    rw [e1, findF_lose, h1]
    show some (lose1 e.keep e.torn _) = _
    unfold lose1
    rw [i3]
def erP : Plan → Int
  | .ret e => e
  | _ => 0
def zP (l : List E) (z : Int) : Plan → Int
  | .wr rs => z + ((Fr.putB rs).length : Int)
  | .comp => ((Fr.putB (allRecs l)).length : Int)
  | _ => z
def safeP (rs0 rs : List ByteArray) (l : List E) : Plan → List ByteArray
  | .sync => rs0 ++ rs
  | .comp => allRecs l
  | _ => rs0
def moreP (rs : List ByteArray) : Plan → List ByteArray
  | .wr rs2 => rs ++ rs2
  | .ret _ => rs
  | _ => []
def recsW (rs0 rs : List ByteArray) : Plan → List ByteArray
  | .wr rs2 => rs0 ++ (rs ++ rs2)
  | _ => rs0 ++ rs
def Loss (rs0 rs : List ByteArray) (l : List E) (p : Plan) (rsx : List ByteArray) : Prop := (∃ i, rs0.length ≤ i ∧ i ≤ (recsW rs0 rs p).length ∧ rsx = (recsW rs0 rs p).take i) ∨ (p = .comp ∧ rsx = allRecs l)
theorem runR_room {p : Plan} {z free : Int} (h : needP l p ≤ free) : runR l z free p = (erP p, listP l p, zP l z p) := by
  cases p with
  | ret e => rfl
  | sync => rfl
  | wr rs =>
    have h : ((Fr.putB rs).length : Int) ≤ free := h
    show writeR l z rs free = _
    unfold writeR
    rw [if_neg (by omega)]
    rfl
  | comp =>
    have h : ((Fr.putB (allRecs l)).length : Int) ≤ free := h
    show ((compactR l z free).1, l, (compactR l z free).2) = _
    unfold compactR
    rw [if_neg (by omega)]
    rfl
theorem take_self (a b : List ByteArray) : (a ++ b).take a.length = a := List.take_left
theorem live_free (h : Live d n R k) : d.free = R - Dk.sizes d.files := by unfold DS.free; rw [h.room]
theorem live_ready (h : Live d n R k) (hs : nameOk s = true) : d.ready s = 0 := by
  unfold DS.ready
  rw [h.down, if_neg (by decide), if_pos hs]
theorem byt_putB' (rs : List ByteArray) : ∀ x ∈ Fr.putB rs, 0 ≤ x ∧ x ≤ 255 := fun x hx => by have := Fr.byt_putB rs x hx; omega
/-- Append, with a fuse or without. -/
theorem live_append (h : Live d n R k) (hs : nameOk s = true) (hsn : s = n ∨ s = draftN n) {X : List Int} (hb : ∀ x ∈ X, 0 ≤ x ∧ x ≤ 255) (hX : (X.length : Int) ≤ R - Dk.sizes d.files) : ∃ d1, (d.append s X = if d.goes = true then (7, d1.ends) else (0, d1)) ∧ d1 = d.act.put ⟨s, (d.fileOr s).b ++ X, (d.fileOr s).safe⟩ ∧ d1.down = false ∧ d1.room = R ∧ Names d1 n ∧ (∀ t, findF d1.files t = if s = t then some ⟨s, (d.fileOr s).b ++ X, (d.fileOr s).safe⟩ else findF d.files t) := by
  have hn := fileOr_name d s
  refine ⟨_, ?_, rfl, h.down, h.room, h.names.put hsn, fun t => findF_putF d.files _ t⟩
  unfold DS.append
  rw [if_neg (fun e => e (live_ready h hs)), if_neg (by rw [live_free h]; omega)]
  have e1 : ({ d.fileOr s with b := (d.fileOr s).b ++ X } : Fl) = ⟨s, (d.fileOr s).b ++ X, (d.fileOr s).safe⟩ := by
    show (⟨(d.fileOr s).name, _, _⟩ : Fl) = _
    rw [hn]
  simp only [e1]
theorem live_sync (h : Live d n R k) (hs : nameOk s = true) (hsn : s = n ∨ s = draftN n) {f : Fl} (hf : findF d.files s = some f) : ∃ d1, (d.sync s = if d.goes = true then (7, d.act.ends) else (0, d1)) ∧ d1 = d.act.put ⟨s, f.b, f.b.length⟩ ∧ d1.down = false ∧ d1.room = R ∧ Names d1 n ∧ (∀ t, findF d1.files t = if s = t then some ⟨s, f.b, f.b.length⟩ else findF d.files t) := by
  have hn := (findF_some hf).2
  refine ⟨_, ?_, rfl, h.down, h.room, h.names.put hsn, fun t => findF_putF d.files _ t⟩
  unfold DS.sync
  rw [there_some h.down hs hf, if_neg (by decide), fileOr_findF hf]
  show (if d.goes = true then (7, d.act.ends) else (0, d.act.put ⟨f.name, f.b, f.b.length⟩)) = _
  rw [hn]
theorem run_armed (h : Live d n R k) (f : StS d n rs0 rs l) (nm : Nm n) (hft : Fit l) {p : Plan} (hg : ∀ rs2, p = .wr rs2 → ∀ r ∈ rs2, Good r) (hret : ∀ e, p = .ret e → e ≠ 7) (h1 : needP l p + ((Fr.putB (rs0 ++ rs)).length : Int) ≤ R) :
    ∃ d', (runS d n l p = (erP p, d', listP l p) ∧ erP p ≠ 7 ∧ Live d' n R (k + 3) ∧ StS d' n (safeP rs0 rs l p) (moreP rs p) (listP l p) ∧ (d.fuse = 0 → d'.fuse = 0)) ∨
      (d.fuse ≠ 0 ∧ runS d n l p = (7, d', l) ∧ Dead d' n R (k + 3) ∧ ∃ rsx, TF d' n rsx R ∧ Loss rs0 rs l p rsx) := by
  have hsz := h.sizes f nm
  have hu3 : ∀ {e : DS}, e.Up (k + 1) → e.Up (k + 3) := fun u => u.mono (by omega)
  have base : (findF d.files n = none ∧ rs0 ++ rs = []) ∨ findF d.files n = some ⟨n, Fr.putB (rs0 ++ rs), (Fr.putB ((rs0 ++ rs).take rs0.length)).length⟩ := by rw [take_self]; exact f.file
  have hlen0 : rs0.length ≤ (rs0 ++ rs).length := by rw [List.length_append]; omega
  cases p with
  | ret e => exact ⟨d, .inl ⟨rfl, hret e rfl, ⟨h.up.mono (by omega), h.down, h.room, h.names⟩, f, fun e => e⟩⟩
  | wr rs2 =>
    have h1 : ((Fr.putB rs2).length : Int) + ((Fr.putB (rs0 ++ rs)).length : Int) ≤ R := h1
    have u1 := h.up.append n (byt_putB' rs2)
    obtain ⟨d1, a1, a0, a2, a3, a4, a5⟩ := live_append h nm.ok (.inl rfl) (byt_putB' rs2) (by rw [hsz]; omega)
    have hf1 : findF d1.files n = some ⟨n, Fr.putB (rs0 ++ (rs ++ rs2)), (Fr.putB rs0).length⟩ := by
      rw [a5, if_pos rfl, f.fileOr, ← putB_append, List.append_assoc]
    have hgood : ∀ r ∈ rs0 ++ (rs ++ rs2), Good r := fun r hr => by
      rw [← List.append_assoc] at hr
      rcases List.mem_append.1 hr with hr | hr
      · exact f.good r hr
      · exact hg rs2 rfl r hr
    have hw : runS d n l (.wr rs2) = ((d.append n (Fr.putB rs2)).1, (d.append n (Fr.putB rs2)).2, if (d.append n (Fr.putB rs2)).1 = 0 then stepAll l rs2 else l) := rfl
    by_cases g : d.goes = true
    · rw [if_pos g] at a1
      rw [a1] at hw u1
      obtain ⟨i, i1, i2, i3⟩ := ends_tf (n := n) (j := rs0.length) a2 a3 (.inr (by rw [hf1, take_self])) (by rw [List.length_append]; omega) hgood
      exact ⟨d1.ends, .inr ⟨fun e => goes_zero e g, by rw [hw, if_neg (by show ¬ (7 : Int) = 0; decide)], ends_dead (hu3 u1) a2 a3 a4, _, i3, .inl ⟨i, i1, i2, rfl⟩⟩⟩
    · rw [if_neg g] at a1
      rw [a1] at hw u1
      refine ⟨d1, .inl ⟨by rw [hw, if_pos rfl]; rfl, by show (0 : Int) ≠ 7; decide, ⟨hu3 u1, a2, a3, a4⟩, ⟨.inr hf1, by rw [a5, if_neg nm.ne]; exact f.draft, hgood, ?_⟩, fun e => by rw [a0]; exact act_zero e⟩⟩
      show stepAll [] (rs0 ++ (rs ++ rs2)) = stepAll l rs2
      rw [← List.append_assoc, stepAll_append, f.list]
  | sync =>
    have u1 := h.up.sync n
    have hw : runS d n l .sync = (if (d.sync n).1 = 5 then 0 else (d.sync n).1, (d.sync n).2, l) := rfl
    rcases f.file with ⟨f1, f2⟩ | f1
    · have e1 : d.sync n = (5, d) := by
        unfold DS.sync
        rw [there_none h.down nm.ok f1, if_pos (by decide)]
      rw [e1] at hw
      exact ⟨d, .inl ⟨by rw [hw]; rfl, by show (0 : Int) ≠ 7; decide, ⟨h.up.mono (by omega), h.down, h.room, h.names⟩, ⟨.inl ⟨f1, by show (rs0 ++ rs) ++ [] = []; rw [f2]; rfl⟩, f.draft, by show ∀ r ∈ (rs0 ++ rs) ++ [], _; rw [List.append_nil]; exact f.good, by show stepAll [] ((rs0 ++ rs) ++ []) = l; rw [List.append_nil]; exact f.list⟩, fun e => e⟩⟩
    · obtain ⟨d1, a1, a0, a2, a3, a4, a5⟩ := live_sync h nm.ok (.inl rfl) f1
      by_cases g : d.goes = true
      · rw [if_pos g] at a1
        rw [a1] at hw u1
        obtain ⟨i, i1, i2, i3⟩ := ends_tf (e := d.act) (n := n) (j := rs0.length) h.down h.room base hlen0 f.good
        exact ⟨d.act.ends, .inr ⟨fun e => goes_zero e g, hw, ends_dead (hu3 u1) h.down h.room h.names, _, i3, .inl ⟨i, i1, i2, rfl⟩⟩⟩
      · rw [if_neg g] at a1
        rw [a1] at hw u1
        exact ⟨d1, .inl ⟨by rw [hw]; rfl, by show (0 : Int) ≠ 7; decide, ⟨hu3 u1, a2, a3, a4⟩, ⟨.inr (by show findF d1.files n = some ⟨n, Fr.putB ((rs0 ++ rs) ++ []), _⟩; rw [a5, if_pos rfl, List.append_nil]; rfl), by rw [a5, if_neg nm.ne]; exact f.draft, by show ∀ r ∈ (rs0 ++ rs) ++ [], _; rw [List.append_nil]; exact f.good, by show stepAll [] ((rs0 ++ rs) ++ []) = l; rw [List.append_nil]; exact f.list⟩, fun e => by rw [a0]; exact act_zero e⟩⟩
  | comp =>
    have h1 : ((Fr.putB (allRecs l)).length : Int) + ((Fr.putB (rs0 ++ rs)).length : Int) ≤ R := h1
    have hw : runS d n l .comp = ((compactE d n l).1, (compactE d n l).2, l) := rfl
    have u1 := h.up.append (draftN n) (byt_putB' (allRecs l))
    obtain ⟨d1, a1, a0, a2, a3, a4, a5⟩ := live_append h nm.dok (.inr rfl) (byt_putB' (allRecs l)) (by rw [hsz]; omega)
    have hb : (d.fileOr (draftN n)).b = [] := by unfold DS.fileOr; rw [f.draft]; rfl
    have f1 : findF d1.files (draftN n) = some ⟨draftN n, Fr.putB (allRecs l), (d.fileOr (draftN n)).safe⟩ := by rw [a5, if_pos rfl, hb, List.nil_append]
    have n1 : findF d1.files n = findF d.files n := by rw [a5, if_neg (fun e => nm.ne e.symm)]
    by_cases g : d.goes = true
    · rw [if_pos g] at a1
      rw [a1] at u1
      have hc : compactE d n l = (7, d1.ends) := by
        unfold compactE
        rw [a1, if_pos (by show (7 : Int) ≠ 0; decide)]
      rw [hc] at hw
      obtain ⟨i, i1, i2, i3⟩ := ends_tf (e := d1) (n := n) (j := rs0.length) a2 a3 (by rw [n1]; exact base) hlen0 f.good
      exact ⟨d1.ends, .inr ⟨fun e => goes_zero e g, hw, ends_dead (hu3 u1) a2 a3 a4, _, i3, .inl ⟨i, i1, i2, rfl⟩⟩⟩
    rw [if_neg g] at a1
    rw [a1] at u1
    have L1 : Live d1 n R (k + 1) := ⟨u1, a2, a3, a4⟩
    have u2 := L1.up.sync (draftN n)
    obtain ⟨d2, b1, b0, b2, b3, b4, b5⟩ := live_sync L1 nm.dok (.inr rfl) f1
    have f2 : findF d2.files (draftN n) = some ⟨draftN n, Fr.putB (allRecs l), (Fr.putB (allRecs l)).length⟩ := by rw [b5, if_pos rfl]
    have n2 : findF d2.files n = findF d.files n := by rw [b5, if_neg (fun e => nm.ne e.symm), n1]
    by_cases g1 : d1.goes = true
    · rw [if_pos g1] at b1
      rw [b1] at u2
      have hc : compactE d n l = (7, d1.act.ends) := by
        unfold compactE
        rw [a1, if_neg (by simp), b1, if_pos (by show (7 : Int) ≠ 0; decide)]
      rw [hc] at hw
      obtain ⟨i, i1, i2, i3⟩ := ends_tf (e := d1.act) (n := n) (j := rs0.length) a2 a3 (by show (findF d1.files n = none ∧ _) ∨ findF d1.files n = _; rw [n1]; exact base) hlen0 f.good
      exact ⟨d1.act.ends, .inr ⟨fun e => goes_zero (by rw [a0]; exact act_zero e) g1, hw, ends_dead (u2.mono (by omega)) a2 a3 a4, _, i3, .inl ⟨i, i1, i2, rfl⟩⟩⟩
    rw [if_neg g1] at b1
    rw [b1] at u2
    have u3 := u2.rename (draftN n) n
    have hren : d2.rename (draftN n) n = d2.fall fun e => (e.drop (draftN n)).put ⟨n, (e.fileOr (draftN n)).b, (e.fileOr (draftN n)).safe⟩ := by
      unfold DS.rename
      rw [there_some b2 nm.dok f2, if_neg (by decide), if_neg (by rw [nm.ok]; decide)]
    have hfo : d2.act.fileOr (draftN n) = ⟨draftN n, Fr.putB (allRecs l), (Fr.putB (allRecs l)).length⟩ := fileOr_findF f2
    have hc : compactE d n l = d2.rename (draftN n) n := by
      unfold compactE
      rw [a1, if_neg (by simp), b1, if_neg (by simp)]
    have hga := Good.all hft
    -- behind the rename
    have r1 : findF ((d2.act.drop (draftN n)).put ⟨n, (d2.act.fileOr (draftN n)).b, (d2.act.fileOr (draftN n)).safe⟩).files n = some ⟨n, Fr.putB (allRecs l), (Fr.putB (allRecs l)).length⟩ := by
      rw [hfo]
      show findF (putF (delF d2.files (draftN n)) _) n = _
      rw [findF_putF, if_pos rfl]
    have r2 : findF ((d2.act.drop (draftN n)).put ⟨n, (d2.act.fileOr (draftN n)).b, (d2.act.fileOr (draftN n)).safe⟩).files (draftN n) = none := by
      show findF (putF (delF d2.files (draftN n)) _) (draftN n) = _
      rw [findF_putF, if_neg nm.ne, findF_delF, if_pos rfl]
    have r3 : Names ((d2.act.drop (draftN n)).put ⟨n, (d2.act.fileOr (draftN n)).b, (d2.act.fileOr (draftN n)).safe⟩) n := Names.put (d := d2.act.drop (draftN n)) (Names.del b4 (draftN n)) (.inl rfl)
    rw [hren] at u3 hc
    by_cases g2 : d2.goes = true
    · rw [fall_goes g2] at u3 hc
      have nz : d.fuse ≠ 0 := fun e => goes_zero (by rw [b0]; exact act_zero (by rw [a0]; exact act_zero e)) g2
      have hw2 : runS d n l .comp = (7, (if 0 < d2.keep then (d2.act.drop (draftN n)).put ⟨n, (d2.act.fileOr (draftN n)).b, (d2.act.fileOr (draftN n)).safe⟩ else d2.act).ends, l) := by rw [hw, hc]
      refine ⟨_, .inr ⟨nz, hw2, ?_⟩⟩
      have u3 : (if 0 < d2.keep then (d2.act.drop (draftN n)).put ⟨n, (d2.act.fileOr (draftN n)).b, (d2.act.fileOr (draftN n)).safe⟩ else d2.act).ends.Up (k + 3) := u3.mono (by omega)
      by_cases hk : 0 < d2.keep
      · rw [if_pos hk] at u3 ⊢
        obtain ⟨i, i1, i2, i3⟩ := ends_tf (n := n) (rs := allRecs l) (j := (allRecs l).length) (e := (d2.act.drop (draftN n)).put ⟨n, (d2.act.fileOr (draftN n)).b, (d2.act.fileOr (draftN n)).safe⟩) b2 b3 (.inr (by rw [List.take_length]; exact r1)) (Nat.le_refl _) hga
        have : i = (allRecs l).length := by omega
        subst this
        rw [List.take_length] at i3
        exact ⟨ends_dead u3 b2 b3 r3, _, i3, .inr ⟨rfl, rfl⟩⟩
      · rw [if_neg hk] at u3 ⊢
        obtain ⟨i, i1, i2, i3⟩ := ends_tf (e := d2.act) (n := n) (j := rs0.length) b2 b3 (by show (findF d2.files n = none ∧ _) ∨ findF d2.files n = _; rw [n2]; exact base) hlen0 f.good
        exact ⟨ends_dead u3 b2 b3 b4, _, i3, .inl ⟨i, i1, i2, rfl⟩⟩
    · rw [fall_not g2] at u3 hc
      refine ⟨(d2.act.drop (draftN n)).put ⟨n, (d2.act.fileOr (draftN n)).b, (d2.act.fileOr (draftN n)).safe⟩, .inl ⟨by rw [hw, hc]; rfl, by show (0 : Int) ≠ 7; decide, ⟨u3.mono (by omega), b2, b3, r3⟩, ⟨.inr (by show _ = some (⟨n, Fr.putB (allRecs l ++ []), _⟩ : Fl); rw [List.append_nil]; exact r1), r2, by show ∀ r ∈ allRecs l ++ [], _; rw [List.append_nil]; exact hga, ?_⟩, fun e => act_zero (by rw [b0]; exact act_zero (by rw [a0]; exact act_zero e))⟩⟩
      show stepAll [] (allRecs l ++ []) = l
      rw [List.append_nil]
      have := stepAll_all l [] hft (by rw [List.nil_append, ← f.list]; exact KN.nil.steps f.good)
      rw [List.nil_append] at this
      exact this
end
end Go.Proofs.Ytclkcipakncjkaa.Kv
/- KvlogApart: the walk. -/
namespace Go.Proofs.Ytclkcipakncjkaa.Kv
open Go Go.RowKit Go.Proofs.YtclkcipakncjkaaW.PrintWords Go.Proofs.YtclkcipakncjkaaW.PrintLast Go.Proofs.YtclkcipakncjkaaW.PrintMore Go.Proofs.YtclkcipakncjkaaMy Go.Proofs.Ytclkcipakncjkaa Go.Proofs.YtclkcipakncjkaaPw Go.Proofs.Ytclkcipakncjkaa.PAll Go.Proofs.Ytclkcipakncjkaa.Dk
set_option linter.unusedVariables false
set_option linter.unusedSimpArgs false
/-- The j-th call of a script. -/
def CRow (l : List C5) (j : Nat) (kind : Int) (key val : ByteArray) (N fuse keep : Int) (torn : Bool) : Prop := ∃ hj : j < l.length, l[j] = (⟨kind, key, val, N, fuse, keep, torn⟩ : C5)
section
variable {l : List C5} {j : Nat} {kind N fuse keep : Int} {key val : ByteArray} {torn : Bool}
theorem CRow.get (hj : j < l.length) : ∃ kind key val N fuse keep torn, CRow l j kind key val N fuse keep torn := ⟨_, _, _, _, _, _, _, hj, rfl⟩
theorem CRow.tot (h : CRow l j kind key val N fuse keep torn) : key.size + val.size ≤ tot l := by
  obtain ⟨hj, e⟩ := h
  have := tot_le (List.getElem_mem hj)
  rw [e] at this
  exact this
theorem CRow.cost (h : CRow l j kind key val N fuse keep torn) : costL (l.take (j + 1)) = costL (l.take j) + costC kind key val := by
  obtain ⟨hj, e⟩ := h
  rw [costL_step hj, e]
theorem Script.cells {W w : World} {A : Option Addr} {n c : Nat} (h : Script W A n c l) (hb : Below W.heap.size W w) (hr : CRow l j kind key val N fuse keep torn) : ∃ ad : Addr, A = some ad ∧ w.cell? (ad.add (j * 7)) = some (.int .i64 kind) ∧ w.cell? ⟨(ad.add (j * 7)).block, (ad.add (j * 7)).off + 1, none⟩ = some (.string key) ∧ w.cell? ⟨(ad.add (j * 7)).block, (ad.add (j * 7)).off + 2, none⟩ = some (.string val) ∧ w.cell? ⟨(ad.add (j * 7)).block, (ad.add (j * 7)).off + 3, none⟩ = some (.int .i64 N) ∧ w.cell? ⟨(ad.add (j * 7)).block, (ad.add (j * 7)).off + 4, none⟩ = some (.int .i64 fuse) ∧ w.cell? ⟨(ad.add (j * 7)).block, (ad.add (j * 7)).off + 5, none⟩ = some (.int .i64 keep) ∧ w.cell? ⟨(ad.add (j * 7)).block, (ad.add (j * 7)).off + 6, none⟩ = some (.bool torn) := by
  obtain ⟨hj, e⟩ := hr
  have := h.at_ hb hj
  rw [e] at this
  exact this
end
section
variable {S1 Sa Sb S1' Sa' : Nat → Prop} {B : Nat} {W W' W2 : World} {gd ga gb pa pb : Nat} {d d' : DS} {n1 n2 : ByteArray} {la lb la' : List E} {za zb za' : Int}
/-- A second store is opened. -/
theorem KD.second {w : World} (ha : KD S1 Sa B w gd ga d n1 20 la) (hb : KD S1' Sb B W gd gb d' n2 20 lb) (st : Step S1 w (U S1' Sb) W) : KSt Sa B W ga gd n1 20 la ∧ ∀ k, Sa k → ¬ U S1' Sb k :=
  ⟨ha.st.other st.only (fun k hk h => ha.dis k h hk), fun k hk => Step.disj st (fun k hk h => ha.dis k h hk) ha.st.hi k hk⟩
theorem KT.make (hb : KD S1 Sb B W gd gb d n2 20 []) (ha : KSt Sa B W ga gd n1 20 []) (dis : ∀ k, Sa k → ¬ U S1 Sb k) (o : Below W.heap.size W W') (ha2 : W'.heap[pa]? = some (.cells (mCells 20 (.slice none 0 0) 0) 40 (0, 0))) (hb2 : W'.heap[pb]? = some (.cells (mCells 20 (.slice none 0 0) 0) 40 (0, 0))) (la : W.heap.size ≤ pa) (lb : W.heap.size ≤ pb) (ne : pa ≠ pb) : KT S1 Sa Sb B W' gd ga gb pa pb d n1 n2 [] [] 0 0 := by
  have h1 : ∀ {k p}, S1 k → W.heap.size ≤ p → k ≠ p := fun hk hp e => by have := hb.dev.hi _ hk; omega
  have h2 : ∀ {k p}, Sa k → W.heap.size ≤ p → k ≠ p := fun hk hp e => by have := ha.hi _ hk; omega
  have h3 : ∀ {k p}, Sb k → W.heap.size ≤ p → k ≠ p := fun hk hp e => by have := hb.st.hi _ hk; omega
  refine ⟨⟨⟨hb.dev.below o, ha.below o, fun k hk h => dis k h (.inl hk), Nat.le_trans hb.size o.size⟩, ⟨⟨none, 0, Nat.le_refl _, ha2, Kd.F_nil _ _ _⟩, .inr (.inr (.inl rfl))⟩, .inr (.inl rfl), ?_, ?_, ?_⟩, hb.st.below o, ⟨⟨none, 0, Nat.le_refl _, hb2, Kd.F_nil _ _ _⟩, .inr (.inr (.inr rfl))⟩, ne, fun hk => h3 hk la rfl, fun hk => h3 hk lb rfl⟩
  · rintro k (hk | hk) (h | (h | h))
    · exact hb.dis k hk h
    · exact h1 hk la h
    · exact h1 hk lb h
    · exact dis k hk (.inr h)
    · exact h2 hk la h
    · exact h2 hk lb h
  · rintro k (h | (h | h))
    · exact Nat.lt_of_lt_of_le (hb.st.hi k h) o.size
    · rw [h]; exact blk_lt ha2
    · rw [h]; exact blk_lt hb2
  · rintro k (h | (h | h))
    · exact hb.st.lo k h
    · rw [h]; exact Nat.le_trans hb.size la
    · rw [h]; exact Nat.le_trans hb.size lb
end
section
variable {w : World} {A A2 : Option Addr} {n c n2 c2 : Nat} {sc sc2 : List C5}
end
end Go.Proofs.Ytclkcipakncjkaa.Kv
/- What the laws with losses of power keep to. -/
namespace Go.Proofs.Ytclkcipakncjkaa.Kv
open Go Go.RowKit Go.Proofs.YtclkcipakncjkaaW.PrintWords Go.Proofs.YtclkcipakncjkaaW.PrintLast Go.Proofs.YtclkcipakncjkaaW.PrintMore Go.Proofs.YtclkcipakncjkaaMy Go.Proofs.Ytclkcipakncjkaa Go.Proofs.YtclkcipakncjkaaPw Go.Proofs.Ytclkcipakncjkaa.PAll Go.Proofs.Ytclkcipakncjkaa.Dk
set_option linter.unusedVariables false
set_option linter.unusedSimpArgs false
structure DC (n : ByteArray) (m : Int) (T : Nat) (k : Int) (d : DS) (rs0 rs : List ByteArray) (l : List E) : Prop where
  live : Live d n 1048576 k
  f : StS d n rs0 rs l
  bud : Bud (rs0 ++ rs) T
  lf : LF l m
theorem plan_ret7 {l : List E} {m kind N e : Int} {key val : ByteArray} (h : planOf l m kind key val N = .ret e) : e ≠ 7 := by
  unfold planOf at h
  repeat' (first | (injection h with h; subst h; decide) | cases h | split at h)
theorem recsP_eq (rs0 rs : List ByteArray) (l : List E) (p : Plan) : safeP rs0 rs l p ++ moreP rs p = recsP (rs0 ++ rs) l p := by
  cases p with
  | wr rs2 => exact (List.append_assoc ..).symm
  | ret e => rfl
  | sync => exact List.append_nil _
  | comp => exact List.append_nil _
section
variable {n : ByteArray} {m k z : Int} {T : Nat} {d : DS} {rs0 rs : List ByteArray} {l : List E}
theorem DC.new (n : ByteArray) (hm : 1 ≤ m) : DC n m 0 0 (Dk.new 1048576) [] [] [] := ⟨⟨DS.Up.new 1048576, rfl, rfl, (fun f hf => nomatch hf)⟩, ⟨.inl ⟨rfl, rfl⟩, rfl, (fun r h => nomatch h), rfl⟩, Bud.nil 0, LF.nil hm⟩
theorem DC.kn (h : DC n m T k d rs0 rs l) : KN l := h.lf.kn
theorem DC.fine (h : DC n m T k d rs0 rs l) (nm : Nm n) (hm : 1 ≤ m ∧ m ≤ 4096) (hk : k < 4611686018427380000) (hz : 0 ≤ z ∧ z ≤ 1099511627776) : Fine d n m l z k := ⟨h.live.up, hk, h.lf.kn, h.lf.fit, by have := h.lf.len; omega, hm, nm.sz, hz⟩
theorem DC.mono (h : DC n m T k d rs0 rs l) {T' : Nat} {k' : Int} (hT : T ≤ T') (hk : k ≤ k') : DC n m T' k' d rs0 rs l := ⟨⟨h.live.up.mono hk, h.live.down, h.live.room, h.live.names⟩, h.f, h.bud.mono hT, h.lf⟩
/-- A call on the store and on the reference's. -/
theorem DC.call (h : DC n m T k d rs0 rs l) (nm : Nm n) (hm : 1 ≤ m) (kind : Int) (key val : ByteArray) (N : Int) (hT : T + costC kind key val ≤ 500000) (hz : 0 ≤ z) : ∃ y z', doesR l m z kind key val N 1048576 = (y, listP l (planOf l m kind key val N), z') ∧ 0 ≤ z' ∧ z' ≤ z + 500000 ∧ LF (listP l (planOf l m kind key val N)) m ∧ y = erP (planOf l m kind key val N) ∧
    ∃ d', (doesS d n m l kind key val N = (y, d', listP l (planOf l m kind key val N)) ∧ y ≠ 7 ∧ DC n m (T + costC kind key val) (k + 3) d' (safeP rs0 rs l (planOf l m kind key val N)) (moreP rs (planOf l m kind key val N)) (listP l (planOf l m kind key val N)) ∧ (d.fuse = 0 → d'.fuse = 0)) ∨
      (d.fuse ≠ 0 ∧ doesS d n m l kind key val N = (7, d', l) ∧ Dead d' n 1048576 (k + 3) ∧ ∃ rsx, TF d' n rsx 1048576 ∧ Loss rs0 rs l (planOf l m kind key val N) rsx ∧ Bud rsx (T + costC kind key val)) := by
  obtain ⟨hb, hnd⟩ := h.bud.plan (m := m) (kind := kind) (key := key) (val := val) (N := N) h.f.list h.lf
  have hlp := h.lf.plan hm kind key val N
  have hlen := (h.bud.all h.f.list).1
  have hR := runR_room (l := l) (z := z) (free := 1048576) (p := planOf l m kind key val N) (by omega)
  rw [← doesR_run] at hR
  have hzp : 0 ≤ zP l z (planOf l m kind key val N) ∧ zP l z (planOf l m kind key val N) ≤ z + 500000 := by
    have : ∀ p, needP l p ≤ 500000 → 0 ≤ zP l z p ∧ zP l z p ≤ z + 500000 := fun p hp => by
      cases p with
      | ret e => exact ⟨hz, by show z ≤ z + 500000; omega⟩
      | sync => exact ⟨hz, by show z ≤ z + 500000; omega⟩
      | wr rs =>
        have hp : ((Fr.putB rs).length : Int) ≤ 500000 := hp
        show 0 ≤ z + ((Fr.putB rs).length : Int) ∧ z + ((Fr.putB rs).length : Int) ≤ z + 500000
        omega
      | comp =>
        have hp : ((Fr.putB (allRecs l)).length : Int) ≤ 500000 := hp
        show 0 ≤ ((Fr.putB (allRecs l)).length : Int) ∧ ((Fr.putB (allRecs l)).length : Int) ≤ z + 500000
        omega
    exact this _ (by omega)
  refine ⟨_, _, hR, hzp.1, hzp.2, hlp, rfl, ?_⟩
  obtain ⟨d', hc⟩ := run_armed h.live h.f nm h.lf.fit (plan_good (m := m) (kind := kind) (key := key) (val := val) (N := N) h.lf.fit) (fun e he => plan_ret7 he) (by omega)
  refine ⟨d', ?_⟩
  rw [doesS_run]
  rcases hc with ⟨c1, c2, c3, c4, c5⟩ | ⟨c1, c2, c3, rsx, c4, c5⟩
  · exact .inl ⟨c1, c2, ⟨c3, c4, by rw [recsP_eq]; exact hb, hlp⟩, c5⟩
  · refine .inr ⟨c1, c2, c3, rsx, c4, c5, ?_⟩
    rcases c5 with ⟨i, i1, i2, rfl⟩ | ⟨i1, rfl⟩
    · have : Bud (recsW rs0 rs (planOf l m kind key val N)) (T + costC kind key val) := by
        have h0 := h.bud.mono (Nat.le_add_right T (costC kind key val))
        cases hp : planOf l m kind key val N with
        | wr rs2 =>
          rw [hp] at hb
          show Bud (rs0 ++ (rs ++ rs2)) _
          rw [← List.append_assoc]
          exact hb
        | ret e => exact h0
        | sync => exact h0
        | comp => exact h0
      exact this.take i
    · rw [i1] at hb
      exact hb
theorem off_few (h : DC n m T k d rs0 rs l) {keep : Int} (hk : keep ≤ 7) (torn : Bool) : TF (d.off keep torn) n rs0 1048576 := by
  have hg : ∀ r ∈ rs0, Good r := fun r hr => h.f.good r (List.mem_append_left _ hr)
  have e1 : (d.off keep torn).files = d.files.map (lose1 keep torn) := by
    unfold DS.off
    rw [h.live.down, if_neg (by decide)]
  have e2 : (d.off keep torn).room = 1048576 := by
    unfold DS.off
    rw [h.live.down, if_neg (by decide)]
    exact h.live.room
  refine ⟨e2, ?_, hg⟩
  rw [e1, findF_lose]
  rcases h.f.file with ⟨h1, h2⟩ | h1
  · rw [h1]
    exact .inl ⟨rfl, (List.append_eq_nil_iff.1 h2).1⟩
  · rw [h1]
    right
    have key : ∀ t : List Int, t.length ≤ 7 → Fr.wholeL t = none := fun t ht => by
      unfold Fr.wholeL
      rw [if_pos (by omega)]
    have e3 : (Fr.putB (rs0 ++ rs)).take ((Fr.putB rs0).length + kept keep ⟨n, Fr.putB (rs0 ++ rs), (Fr.putB rs0).length⟩) = Fr.putB rs0 ++ (Fr.putB rs).take (kept keep ⟨n, Fr.putB (rs0 ++ rs), (Fr.putB rs0).length⟩) := by
      rw [putB_append, List.take_append, List.take_of_length_le (Nat.le_add_right _ _), Nat.add_sub_cancel_left]
    have hkl : kept keep ⟨n, Fr.putB (rs0 ++ rs), (Fr.putB rs0).length⟩ ≤ 7 := by unfold kept; omega
    have hkb : kept keep ⟨n, Fr.putB (rs0 ++ rs), (Fr.putB rs0).length⟩ ≤ (Fr.putB rs).length := by
      unfold kept
      show (min (max keep 0) (((Fr.putB (rs0 ++ rs)).length : Int) - ((Fr.putB rs0).length : Int))).toNat ≤ _
      rw [putB_append, List.length_append]
      omega
    obtain ⟨t, ht, hl⟩ : ∃ t, Fr.wholeL t = none ∧ loseB keep torn ⟨n, Fr.putB (rs0 ++ rs), (Fr.putB rs0).length⟩ = Fr.putB rs0 ++ t := by
      unfold loseB
      by_cases c : torn = true ∧ 0 < kept keep ⟨n, Fr.putB (rs0 ++ rs), (Fr.putB rs0).length⟩
      · rw [if_pos c]
        refine ⟨turnLast ((Fr.putB rs).take (kept keep ⟨n, Fr.putB (rs0 ++ rs), (Fr.putB rs0).length⟩)), key _ (by rw [DS.turnLast_len, List.length_take]; omega), ?_⟩
        show turnLast ((Fr.putB (rs0 ++ rs)).take ((Fr.putB rs0).length + _)) = _
        rw [e3, turnLast_append]
        intro e
        have := congrArg List.length e
        rw [List.length_take, List.length_nil] at this
        omega
      · rw [if_neg c]
        exact ⟨_, key _ (by rw [List.length_take]; omega), e3⟩
    refine ⟨t, ht, ?_⟩
    show some (lose1 keep torn _) = _
    unfold lose1
    rw [hl]
end
structure DMs (S1 S3 : Nat → Prop) (B : Nat) (W : World) (gd gm : Nat) (d : DS) (mm : Int) (ml : List E) (z : Int) : Prop where
  dev : Dev S1 B W gd d
  ms : MSt (U S1 S3) W gm mm ml z
  own : S3 gm
  dis : ∀ k, S1 k → ¬ S3 k
  hi : ∀ k, S3 k → k < W.heap.size
  lo : ∀ k, S3 k → B ≤ k
  size : B ≤ W.heap.size
section
variable {S1 S2 S3 S1' S2' : Nat → Prop} {B : Nat} {W W' : World} {gd g g' gm : Nat} {d d' : DS} {n : ByteArray} {m mm z : Int} {l l' ml : List E}
theorem MSt.shrink {S S' : Nat → Prop} (h : MSt S W gm mm ml z) (hS : ∀ k, S' k → S k) (hg : S' gm) : MSt S' W gm mm ml z := by
  obtain ⟨A, c, hc, h1, h2⟩ := h.at_
  exact ⟨⟨A, c, hc, h1, Kd.F_mono h2 (fun k hk hk2 => hk (hS k hk2))⟩, hg⟩
theorem KDM.dms (h : KDM S1 S2 S3 B W gd g gm d n m l mm ml z) : DMs S1 S3 B W gd gm d mm ml z := ⟨h.kd.dev, h.ms.shrink (fun k hk => hk.elim (fun hk => .inl (.inl hk)) .inr) (.inr h.own), h.own, fun k hk => h.dis k (.inl hk), h.hi, h.lo, h.kd.size⟩
theorem DMs.below (h : DMs S1 S3 B W gd gm d mm ml z) (hb : Below W.heap.size W W') : DMs S1 S3 B W' gd gm d mm ml z := ⟨h.dev.below hb, h.ms.below hb, h.own, h.dis, fun k hk => Nat.lt_of_lt_of_le (h.hi k hk) hb.size, h.lo, Nat.le_trans h.size hb.size⟩
theorem DMs.step (h : DMs S1 S3 B W gd gm d mm ml z) (hd : Dev S1' B W' gd d') (st : Step S1 W S1' W') : DMs S1' S3 B W' gd gm d' mm ml z :=
  ⟨hd, h.ms.step (Step.left st) (st.only.block gm h.ms.lt (fun hk => h.dis gm hk h.own)) (.inr h.own), h.own, fun k hk h3 => Step.disj st (fun k h3 hk => h.dis k hk h3) h.hi k h3 hk, fun k hk => Nat.lt_of_lt_of_le (h.hi k hk) st.only.size, h.lo, Nat.le_trans h.size st.only.size⟩
theorem DMs.open_ (h : DMs S1 S3 B W gd gm d mm ml z) (hk : KD S1' S2' B W' gd g' d' n m l') (st : Step S1 W (U S1' S2') W') : KDM S1' S2' S3 B W' gd g' gm d' n m l' mm ml z :=
  ⟨hk, h.ms.step (Step.left st) (st.only.block gm h.ms.lt (fun hk => h.dis gm hk h.own)) (.inr h.own), h.own, fun k hk h3 => Step.disj st (fun k h3 hk => h.dis k hk h3) h.hi k h3 hk, fun k hk => Nat.lt_of_lt_of_le (h.hi k hk) st.only.size, h.lo⟩
theorem KDM.devS (h : KDM S1 S2 S3 B W gd g gm d n m l mm ml z) (hd : Dev S1' B W' gd d') (st : Step S1 W S1' W') : KDM S1' S2 S3 B W' gd g gm d' n m l mm ml z := (h.dev (h.kd.devStep hd st).1 (h.kd.devStep hd st).2).1
/-- A call on the store alone. -/
theorem KDM.devK (h : KDM S1 S2 S3 B W gd g gm d n m l mm ml z) (hk : KD S1' S2' B W' gd g d' n m l') (st : Step (U S1 S2) W (U S1' S2') W') : KDM S1' S2' S3 B W' gd g gm d' n m l' mm ml z ∧ Only (U S1 S2) W W' := ⟨(h.dev hk st).1, st.only⟩
theorem DMs.cell1 (h : DMs S1 S3 B W gd gm d mm ml z) : ∃ A c q, q = ml.length ∧ ml.length ≤ c ∧ Kd.C kE W A ml.length ml ∧ W.cell? ⟨gm, 1, none⟩ = some (.slice A q c) := by
  obtain ⟨A, c, hc, hb, he⟩ := h.ms.at_
  exact ⟨A, c, _, rfl, hc, he.C, (blk_cell hb 1).trans rfl⟩
end
structure Ints (W : World) (A : Option Addr) (n : Nat) (l : List Int) : Prop where
  len : n = l.length
  C : Kd.C (Kd.int .i64) W A l.length l
  hi : ∀ x ∈ l, x ≤ 9223372036854775807
  few : l.length ≤ 140737488351232
theorem ints_arg {H : Type} {enc : TypeId × Value → H} {W : World} {base : Nat} {held : Bool} {a : Option Addr} {len cap : Nat} {x : DataW H} {ps : List MemPlace} {ts : List TypeId} {ds : List (DataW H)} {j : Nat}
    (hs : (DataW.weightsEach Try.prog ts ds).all (· ≤ reachBytes) = true) (hj : ts[j]? = some 66) (hd : ds[j]? = some x)
    (h : DataW.Trod enc Try.prog W base (fun _ => true) held 66 (.slice a len cap) x ps) : ∃ l, Ints W a len l := by
  obtain ⟨l, e, hC, hc, hok, hf, hm⟩ := YtclkcipakncjkaaOp.slice_arg hs hj hd Try.underlying66 (by kernel_rfl) (YtclkcipakncjkaaOp.Opens.int Try.underlying3) h
  have hb : Try.prog.bytesOf 3 = 8 := by kernel_rfl
  rw [hb] at hf
  exact ⟨l, e, hC, fun y hy => (i64_wf (hok y hy)).2, by omega⟩
theorem Ints.at_ {W w : World} {A : Option Addr} {n : Nat} {l : List Int} (h : Ints W A n l) (hb : Below W.heap.size W w) {j : Nat} (hj : j < l.length) : ∃ (ad : Addr) (x : Int), A = some ad ∧ x ≤ 9223372036854775807 ∧ w.cell? (ad.add j) = some (.int .i64 x) := by
  obtain ⟨ad, e, h0⟩ := Kd.at_int (Kd.C_below h.C hb) (j : Int) (by omega) (by omega)
  rw [Int.toNat_natCast] at h0
  refine ⟨ad, _, e, ?_, h0⟩
  show rd l (j : Int) ≤ _
  have : rd l (j : Int) = l[j] := by unfold rd; rw [Int.toNat_natCast, List.getD_eq_getElem?_getD, List.getElem?_eq_getElem hj]; rfl
  rw [this]
  exact h.hi _ (List.getElem_mem hj)
end Go.Proofs.Ytclkcipakncjkaa.Kv
/- KvlogAgain: the walk. -/
namespace Go.Proofs.Ytclkcipakncjkaa.Kv
open Go Go.RowKit Go.Proofs.YtclkcipakncjkaaW.PrintWords Go.Proofs.YtclkcipakncjkaaW.PrintLast Go.Proofs.YtclkcipakncjkaaW.PrintMore Go.Proofs.YtclkcipakncjkaaMy Go.Proofs.Ytclkcipakncjkaa Go.Proofs.YtclkcipakncjkaaPw Go.Proofs.Ytclkcipakncjkaa.PAll Go.Proofs.Ytclkcipakncjkaa.Dk
set_option linter.unusedVariables false
set_option linter.unusedSimpArgs false
section
variable {n : ByteArray} {m k z : Int} {T : Nat} {d : DS} {rs0 rs : List ByteArray} {l : List E}
theorem DC.quiet (h : DC n m T k d rs0 rs l) (nm : Nm n) (hm : 1 ≤ m) (hf : d.fuse = 0) (kind : Int) (key val : ByteArray) (N : Int) (hT : T + costC kind key val ≤ 500000) (hz : 0 ≤ z) : ∃ y d' rs0' rs' l' z', doesS d n m l kind key val N = (y, d', l') ∧ doesR l m z kind key val N 1048576 = (y, l', z') ∧ 0 ≤ z' ∧ z' ≤ z + 500000 ∧ DC n m (T + costC kind key val) (k + 3) d' rs0' rs' l' ∧ d'.fuse = 0 := by
  obtain ⟨y, z', h1, h2, h3, h4, _, d', h5⟩ := h.call (z := z) nm hm kind key val N hT hz
  rcases h5 with ⟨c1, c2, c3, c4⟩ | ⟨c1, _⟩
  · exact ⟨y, d', _, _, _, z', c1, h1, h2, h3, c3, c4 hf⟩
  · exact absurd hf c1
theorem DC.sync (h : DC n m T k d rs0 rs l) (nm : Nm n) (hm : 1 ≤ m) (hf : d.fuse = 0) (hT : T ≤ 500000) : ∃ d', syncE d n = (0, d') ∧ DC n m T (k + 3) d' (rs0 ++ rs) [] l ∧ d'.fuse = 0 := by
  obtain ⟨d', hc⟩ := run_armed (p := .sync) h.live h.f nm h.lf.fit (fun rs2 e => nomatch e) (fun e he => nomatch he) (by have := (h.bud.all h.f.list).1; show (0 : Int) + _ ≤ _; omega)
  rcases hc with ⟨c1, c2, c3, c4, c5⟩ | ⟨c1, _⟩
  · refine ⟨d', ?_, ⟨c3, c4, by show Bud ((rs0 ++ rs) ++ []) T; rw [List.append_nil]; exact h.bud, h.lf⟩, c5 hf⟩
    have c1 : ((syncE d n).1, (syncE d n).2, l) = (0, d', l) := c1
    have e1 : (syncE d n).1 = 0 := congrArg (fun x : Int × DS × List E => x.1) c1
    have e2 : (syncE d n).2 = d' := congrArg (fun x : Int × DS × List E => x.2.1) c1
    rw [← e1, ← e2]
  · exact absurd hf c1
theorem plan_put_safe (rs0 rs : List ByteArray) (l : List E) (m : Int) (key val : ByteArray) (N : Int) : safeP rs0 rs l (planOf l m 0 key val N) = rs0 := by
  unfold planOf
  rw [if_pos rfl]
  split
  · rfl
  · split <;> rfl
theorem DC.put (h : DC n m T k d rs0 rs l) (nm : Nm n) (hm : 1 ≤ m) (hf : d.fuse = 0) (key val : ByteArray) (hT : T + costC 0 key val ≤ 500000) : ∃ y d' rs' l', putE d n m l key val = (y, d', l') ∧ DC n m (T + costC 0 key val) (k + 3) d' rs0 rs' l' ∧ d'.fuse = 0 := by
  obtain ⟨y, z', h1, h2, h3, h4, _, d', h5⟩ := h.call (z := 0) nm hm 0 key val 0 hT (Int.le_refl _)
  rcases h5 with ⟨c1, c2, c3, c4⟩ | ⟨c1, _⟩
  · rw [plan_put_safe] at c3
    exact ⟨y, d', _, _, c1, c3, c4 hf⟩
  · exact absurd hf c1
end
def oneMore : ByteArray := ⟨#[111, 110, 101, 32, 109, 111, 114, 101]⟩
/-- The device between two openings. -/
structure AG (n : ByteArray) (rs : List ByteArray) (k : Int) (d : DS) : Prop where
  tf : TF d n rs 1048576
  up : d.Up k
  down : d.down = true
  fuse : d.fuse = 0
section
variable {n : ByteArray} {rs : List ByteArray} {k x keep : Int} {torn : Bool} {d : DS}
theorem off_fuse (d : DS) (h : d.fuse = 0) (keep : Int) (torn : Bool) : (d.off keep torn).fuse = 0 := by
  unfold DS.off
  split
  · exact h
  · rfl
theorem AG.next (h : AG n rs k d) (nm : Nm n) (x keep : Int) (torn : Bool) (hx : x ≤ 9223372036854775807) : ∃ er d1, OpenP (d.on.arm x keep torn) n rs er d1 ∧ (er = 0 ∨ er = 7) ∧ (d.on.arm x keep torn).Up k ∧ (d1.arm 0 0 false).Up (k + 2) ∧ AG n rs (k + 2) ((d1.arm 0 0 false).off keep torn) := by
  have u1 : (d.on.arm x keep torn).Up k := h.up.on.arm x keep torn hx
  obtain ⟨er, d1, a1, a2, a3, a4, a5, a6, a7⟩ := open_plain (h.tf.on.arm x keep torn) u1 nm (by decide) rfl
  have u2 : (d1.arm 0 0 false).Up (k + 2) := a3.arm 0 0 false (by decide)
  exact ⟨er, d1, a1, a2, u1, u2, ⟨(a4.arm 0 0 false).off keep torn, u2.off keep torn, off_down _ _ _, off_fuse _ rfl _ _⟩⟩
theorem AG.last (h : AG n rs k d) (nm : Nm n) : ∃ d1, OpenP d.on n rs 0 d1 ∧ d.on.Up k := by
  obtain ⟨er, d1, a1, a2, a3, a4, a5, a6, a7⟩ := open_plain h.tf.on h.up.on nm (by decide) rfl
  have := (a7 h.fuse).1
  subst this
  exact ⟨d1, a1, h.up.on⟩
end
section
variable {w : World} {A A2 : Option Addr} {n c n2 c2 : Nat} {sc : List C5} {fs : List Int} {m kp : Int} {tn : Bool}
set_option maxHeartbeats 16000000 in
set_option maxRecDepth 100000 in
theorem kg_1 (hg : ∀ w', Below w.heap.size w w' → Calls Try.prog 15 #[.slice A n c] w' fun e w2 => e = .returned (.bool true) ∧ Below w'.heap.size w' w2)  : Calls Try.prog 8 #[.int .i64 m, .slice A n c, .slice A2 n2 c2, .int .i64 kp, .bool tn] w fun e w' => e = .returned (.bool true) ∧ Below w.heap.size w w' := by
  have HGr := Aside0.mk hg
  clear hg 
  go_enter Try.func8, Try.ntmps8
  go_wp2_with (first
    | (go_at_call 9; refine (alive_Q w).mono ?_; rintro e w1 ⟨rfl, hb⟩; have HA := Aside0.mk hb; clear hb)
    | (go_at_call 15; refine (HGr.out _ HA.out).mono ?_; rintro e w2 ⟨rfl, hb⟩; have HA2 := Aside0.mk (HA.out.trans (hb.mono HA.out.size)); clear hb HA))
  go_ret
  exact ⟨rfl, HA2.out⟩
set_option maxHeartbeats 16000000 in
set_option maxRecDepth 100000 in
theorem kg_2 (hg : ∀ w', Below w.heap.size w w' → Calls Try.prog 15 #[.slice A n c] w' fun e w2 => e = .returned (.bool false) ∧ Below w'.heap.size w' w2) (h : m < 1) : Calls Try.prog 8 #[.int .i64 m, .slice A n c, .slice A2 n2 c2, .int .i64 kp, .bool tn] w fun e w' => e = .returned (.bool true) ∧ Below w.heap.size w w' := by
  have HGr := Aside0.mk hg
  have b1 : decide (m < 1) = true := decide_eq_true h
  clear hg h
  go_enter Try.func8, Try.ntmps8
  go_wp2_with (first
    | (go_at_call 9; refine (alive_Q w).mono ?_; rintro e w1 ⟨rfl, hb⟩; have HA := Aside0.mk hb; clear hb)
    | (go_at_call 15; refine (HGr.out _ HA.out).mono ?_; rintro e w2 ⟨rfl, hb⟩; have HA2 := Aside0.mk (HA.out.trans (hb.mono HA.out.size)); clear hb HA))
  go_ret
  exact ⟨rfl, HA2.out⟩
set_option maxHeartbeats 16000000 in
set_option maxRecDepth 100000 in
theorem kg_3 (hg : ∀ w', Below w.heap.size w w' → Calls Try.prog 15 #[.slice A n c] w' fun e w2 => e = .returned (.bool false) ∧ Below w'.heap.size w' w2) (h0 : 1 ≤ m) (h : 100 < m) : Calls Try.prog 8 #[.int .i64 m, .slice A n c, .slice A2 n2 c2, .int .i64 kp, .bool tn] w fun e w' => e = .returned (.bool true) ∧ Below w.heap.size w w' := by
  have HGr := Aside0.mk hg
  have b1 : decide (m < 1) = false := decide_eq_false (by omega)
  have b2 : decide ((100 : Int) < m) = true := decide_eq_true h
  clear hg h0 h
  go_enter Try.func8, Try.ntmps8
  go_wp2_with (first
    | (go_at_call 9; refine (alive_Q w).mono ?_; rintro e w1 ⟨rfl, hb⟩; have HA := Aside0.mk hb; clear hb)
    | (go_at_call 15; refine (HGr.out _ HA.out).mono ?_; rintro e w2 ⟨rfl, hb⟩; have HA2 := Aside0.mk (HA.out.trans (hb.mono HA.out.size)); clear hb HA))
  go_ret
  exact ⟨rfl, HA2.out⟩
set_option maxHeartbeats 16000000 in
set_option maxRecDepth 100000 in
theorem kg_4 (hg : ∀ w', Below w.heap.size w w' → Calls Try.prog 15 #[.slice A n c] w' fun e w2 => e = .returned (.bool false) ∧ Below w'.heap.size w' w2) (h0 : 1 ≤ m) (h1 : m ≤ 100) (h : 20 < n2) : Calls Try.prog 8 #[.int .i64 m, .slice A n c, .slice A2 n2 c2, .int .i64 kp, .bool tn] w fun e w' => e = .returned (.bool true) ∧ Below w.heap.size w w' := by
  have HGr := Aside0.mk hg
  have b1 : decide (m < 1) = false := decide_eq_false (by omega)
  have b2 : decide ((100 : Int) < m) = false := decide_eq_false (by omega)
  have b3 : decide ((20 : Int) < (n2 : Int)) = true := decide_eq_true (by omega)
  have b4 : decide (20 < n2) = true := decide_eq_true h
  clear hg h0 h1 h
  go_enter Try.func8, Try.ntmps8
  go_wp2_with (first
    | (go_at_call 9; refine (alive_Q w).mono ?_; rintro e w1 ⟨rfl, hb⟩; have HA := Aside0.mk hb; clear hb)
    | (go_at_call 15; refine (HGr.out _ HA.out).mono ?_; rintro e w2 ⟨rfl, hb⟩; have HA2 := Aside0.mk (HA.out.trans (hb.mono HA.out.size)); clear hb HA))
  go_ret
  exact ⟨rfl, HA2.out⟩
set_option maxHeartbeats 16000000 in
set_option maxRecDepth 100000 in
theorem kg_main (hs : Script w A n c sc) (hi : Ints w A2 n2 fs) (hg : ∀ w', Below w.heap.size w w' → Calls Try.prog 15 #[.slice A n c] w' fun e w2 => e = .returned (.bool false) ∧ Below w'.heap.size w' w2) (hgr : tot sc ≤ 4096 ∧ sc.length ≤ 60) (h0 : 1 ≤ m) (h1 : m ≤ 100) (h2 : n2 ≤ 20) : Calls Try.prog 8 #[.int .i64 m, .slice A n c, .slice A2 n2 c2, .int .i64 kp, .bool tn] w fun e w' => e = .returned (.bool true) ∧ Below w.heap.size w w' := by
  have hu := Try.underlying42
  have hu2 := Try.underlying40
  have HGr := Aside0.mk hg
  have HSc := Aside0.mk hs
  have HIn := Aside0.mk hi
  have HGt := Aside0.mk hgr
  have HNl := Aside0.mk hs.len
  have HNl2 := Aside0.mk hi.len
  have H60 := Aside0.mk (show n ≤ 60 from by rw [hs.len]; exact hgr.2)
  have H20 := Aside0.mk h2
  have HM := Aside0.mk (And.intro h0 h1)
  have b1 : decide (m < 1) = false := decide_eq_false (by omega)
  have b2 : decide ((100 : Int) < m) = false := decide_eq_false (by omega)
  have b3 : decide ((20 : Int) < (n2 : Int)) = false := decide_eq_false (by omega)
  have b4 : decide (20 < n2) = false := decide_eq_false (by omega)
  clear hg h0 h1 h2 hs hi hgr
  go_enter Try.func8, Try.ntmps8
  go_wp2_with (first
    | (go_at_call 9; refine (alive_Q w).mono ?_; rintro e w1 ⟨rfl, hb⟩; have HA := Aside0.mk hb; clear hb)
    | (go_at_call 15; refine (HGr.out _ HA.out).mono ?_; rintro e w2 ⟨rfl, hb⟩; have HA2 := Aside0.mk (HA.out.trans (hb.mono HA.out.size)); clear hb HA)
    | (go_at_call 11; refine (New_D w2 1048576).mono ?_; rintro e w3 ⟨gd, S0, rfl, hd, hb⟩; have HD0 := Aside0.mk (Dev.mk (B := w.heap.size) hd.at_ (fun j hj => Nat.le_trans HA2.out.size (hd.lo j hj)) hd.hi); have HB0 := Aside0.mk (HA2.out.trans (hb.mono HA2.out.size)); clear hd hb HA2)
    | (go_at_call 10; refine (Open_new HD0.out HB0.out.size (by have := HM.out; omega)).mono ?_; rintro e w4 ⟨rfl, S1, S2, hk, hs⟩; have HK := Aside0.mk hk; have HB1 := Aside0.mk (HB0.out.trans (hs.only.toBelow HD0.out.lo HB0.out.size)); have hbx := blk_new w4 (.cells #[.int .i64 m, .slice none 0 0, .int .i64 0] 40 (0, 0)); have hba := below_alloc (Below.refl w4.heap.size w4) (.cells #[.int .i64 m, .slice none 0 0, .int .i64 0] 40 (0, 0)); have HKM := Aside0.mk (KDM.make hk hba hbx (Nat.le_refl _)); have HB2 := Aside0.mk (HB1.out.trans (hba.mono HB1.out.size)); clear hk hs HD0 HB0 hbx hba HK HB1))
  go_loopw [52] (fun i wr => ∃ (j : Nat) (S1 S2 : Nat → Prop) (d : DS) (rs0 rs : List ByteArray) (l : List E) (z : Int), j ≤ n ∧ i = .int .i64 (j : Int) ∧ Aside0 (KDM S1 S2 (At1 w4.heap.size) w.heap.size wr gd w3.heap.size w4.heap.size d kN m l m l z) ∧ Aside0 (DC kN m (costL (sc.take j)) (3 * (j : Int)) d rs0 rs l ∧ d.fuse = 0 ∧ 0 ≤ z ∧ z ≤ 500000 * (j : Int)) ∧ Aside0 (Below w.heap.size w wr)) (fun i _ => n - (intOf i).toNat)
  case atStart => exact ⟨0, S1, S2, _, [], [], [], 0, Nat.zero_le _, rfl, HKM, ⟨DC.new kN HM.out.1, rfl, Int.le_refl _, by omega⟩, HB2⟩
  case round =>
    obtain ⟨j, S1a, S2a, d, rs0, rs, l, z, hj, rfl, HD, HI, HB⟩ := hrel
    clear HKM HB2
    by_cases hlt : j < n
    · have kb : decide ((j : Int) < (n : Int)) = true := decide_eq_true (Int.ofNat_lt.2 hlt)
      have kbn : decide (j < n) = true := decide_eq_true hlt
      obtain ⟨kind, key, val, N, fuse, keep, torn, hr⟩ := CRow.get (show j < sc.length from by rw [← HNl.out]; exact hlt)
      have HR := Aside0.mk hr
      have HSz := Aside0.mk (show key.size + val.size ≤ 274877906944 from by have := hr.tot; have := HGt.out; omega)
      have HCo := Aside0.mk (show costL (sc.take j) + costC kind key val ≤ 500000 from by rw [← hr.cost]; have := costL_12 HGt.out (j + 1); omega)
      obtain ⟨ad, eA, y0, y1, y2, y3, y4, y5, y6⟩ := HSc.out.cells HB.out hr
      subst eA
      clear hr
      have HFi := Aside0.mk (HI.out.1.fine (z := z) kN_nm (by have := HM.out; omega) (by have := H60.out; omega) (by have := HI.out.2.2; have := H60.out; omega))
      obtain ⟨er, d', rs0', rs', l', z', hdS, hdR, hz1, hz2, hi2, hf2⟩ := HI.out.1.quiet (z := z) kN_nm HM.out.1 HI.out.2.1 kind key val N HCo.out HI.out.2.2.1
      have HdS := Aside0.mk hdS
      have HdR := Aside0.mk hdR
      have HI2 := Aside0.mk (show DC kN m (costL (sc.take (j + 1))) (3 * (((j + 1 : Nat)) : Int)) d' rs0' rs' l' ∧ d'.fuse = 0 ∧ 0 ≤ z' ∧ z' ≤ 500000 * (((j + 1 : Nat)) : Int) from ⟨by rw [HR.out.cost, show (3 * (((j + 1 : Nat)) : Int)) = 3 * (j : Int) + 3 by omega]; exact hi2, hf2, hz1, by have := HI.out.2.2.2; omega⟩)
      clear hdS hdR hi2 hf2 hz1 hz2
      go_wp2_with (first
        | ((with_reducible refine gate_dst (N := 16) rfl ?_); refine box_event ?hg (N := 16) ?hd (cs := #[.int .i64 0, .string (⟨#[]⟩ : ByteArray), .string (⟨#[]⟩ : ByteArray), .int .i64 0, .int .i64 0, .int .i64 0, .bool false]) (t := 42) ?hr ?_; (case hd => rfl); (case hg => rfl); (case hr => first | (go_simp; done) | (go_simp; rfl)); intro gb hg wq hbox hb; have HGb := Aside0.mk (Nat.le_of_eq hg.symm); have BX := Aside0.mk (box_seven (W := wr) hbox (Nat.le_of_eq hg.symm) hb (.int .i64 kind) (.string key) (.string val) (.int .i64 N) (.int .i64 fuse) (.int .i64 keep) (.bool torn)); have q0 : wq.cell? ⟨gb, 0, none⟩ = some (.int .i64 0) := (blk_cell hbox 0).trans rfl; have r0 := blk_frozen hbox 0; have q1 : wq.cell? ⟨gb, 1, none⟩ = some (.string (⟨#[]⟩ : ByteArray)) := (blk_cell hbox 1).trans rfl; have r1 := blk_frozen hbox 1; have q2 : wq.cell? ⟨gb, 2, none⟩ = some (.string (⟨#[]⟩ : ByteArray)) := (blk_cell hbox 2).trans rfl; have r2 := blk_frozen hbox 2; have q3 : wq.cell? ⟨gb, 3, none⟩ = some (.int .i64 0) := (blk_cell hbox 3).trans rfl; have r3 := blk_frozen hbox 3; have q4 : wq.cell? ⟨gb, 4, none⟩ = some (.int .i64 0) := (blk_cell hbox 4).trans rfl; have r4 := blk_frozen hbox 4; have q5 : wq.cell? ⟨gb, 5, none⟩ = some (.int .i64 0) := (blk_cell hbox 5).trans rfl; have r5 := blk_frozen hbox 5; have q6 : wq.cell? ⟨gb, 6, none⟩ = some (.bool false) := (blk_cell hbox 6).trans rfl; have r6 := blk_frozen hbox 6; clear hbox hb hg)
        | (go_at_call 16; generalize hch : (((((((wq.setCell ⟨gb, 0, none⟩ (.int .i64 kind)).setCell ⟨gb, 1, none⟩ (.string key)).setCell ⟨gb, 2, none⟩ (.string val)).setCell ⟨gb, 3, none⟩ (.int .i64 N)).setCell ⟨gb, 4, none⟩ (.int .i64 fuse)).setCell ⟨gb, 5, none⟩ (.int .i64 keep)).setCell ⟨gb, 6, none⟩ (.bool torn)) = w4' at BX ⊢; clear hch; have HD5 := Aside0.mk (HD.out.below BX.out.2); have HB5 := Aside0.mk (HB.out.trans (BX.out.2.mono HB.out.size)); clear BX HD HB; refine (does_D HD5.out HFi.out HSz.out HdS.out HdR.out).mono ?_; rintro e w7 ⟨rfl, S1b, S2b, hk7, hs7⟩; have HB7 := Aside0.mk (HB5.out.trans (hs7.only.toBelow (fun k hk => HD5.out.loA k hk) HB5.out.size)); have HD7 := Aside0.mk hk7; clear hk7 hs7 HD5 HB5))
      go_roundw
      case rel => exact ⟨j + 1, _, _, d', rs0', rs', l', z', hlt, vE hlt (by have := H60.out; omega), HD7, HI2, HB7⟩
      case measure => exact mE hlt (by have := H60.out; omega)
    · have kb : decide ((j : Int) < (n : Int)) = false := decide_eq_false (fun h => hlt (Int.ofNat_lt.1 h))
      have kbn : decide (j < n) = false := decide_eq_false hlt
      have hT := costL_12 HGt.out j
      obtain ⟨d1, hsy, hc1, hf1⟩ := HI.out.1.sync kN_nm HM.out.1 HI.out.2.1 (by omega)
      obtain ⟨yp, d2, rsB, l2, hpu, hc2, hf2⟩ := hc1.put kN_nm HM.out.1 hf1 oneMore oneT (by show _ + (79 + 2 * 8 + 1) ≤ 500000; omega)
      obtain ⟨rsA, hrsA⟩ : ∃ rsA, rsA = rs0 ++ rs := ⟨_, rfl⟩
      have HLA := Aside0.mk (show stepAll [] rsA = l from by rw [hrsA]; exact HI.out.1.f.list)
      have HGd := Aside0.mk (show ∀ r ∈ rsA, Good r from by rw [hrsA]; exact HI.out.1.f.good)
      have HAG := Aside0.mk (show AG kN rsA 200 (d2.off 5 tn) from ⟨by rw [hrsA]; exact off_few hc2 (by decide) tn, (hc2.live.up.off 5 tn).mono (by have := H60.out; omega), off_down _ _ _, off_fuse _ hf2 _ _⟩)
      have HU0 := Aside0.mk (show d.Up 200 from HI.out.1.live.up.mono (by have := H60.out; omega))
      have HU1 := Aside0.mk (show d1.Up 200 from hc1.live.up.mono (by have := H60.out; omega))
      have HU2 := Aside0.mk (show d2.Up 200 from hc2.live.up.mono (by have := H60.out; omega))
      have HSy := Aside0.mk hsy
      have HPu := Aside0.mk hpu
      have HKn := Aside0.mk HI.out.1.lf.kn
      have HSh := Aside0.mk HI.out.1.lf.fit.short
      have HLl := Aside0.mk (show l.length ≤ 100 from by have := HI.out.1.lf.len; have := HM.out; omega)
      have HLn := Aside0.mk (show l.length ≤ 1048576 from by have := HLl.out; omega)
      clear hT hsy hc1 hf1 hpu hc2 hf2 hrsA HI
      go_wp2_with (first
        | (go_at_call 21; refine (Sync_K HD.out.kd HU0.out (by decide)).mono ?_; rw [HSy.out]; rintro e w5 ⟨rfl, S1b, S2b, hk, hs⟩; have HB5 := Aside0.mk (HB.out.trans (hs.only.toBelow (fun k hk => HD.out.loU k (.inl hk)) HB.out.size)); have HD5 := Aside0.mk (HD.out.devK hk hs).1; clear hk hs HD HB)
        | (go_at_call 13; refine (Put_K (key := oneMore) (val := oneT) HD5.out.kd HU1.out (by decide) (by have := HLl.out; omega) (by have := HM.out; omega) HSh.out (by decide)).mono ?_; rw [HPu.out]; rintro e w6 ⟨rfl, S1c, S2c, hk, hs⟩; have HB6 := Aside0.mk (HB5.out.trans (hs.only.toBelow (fun k hk => HD5.out.loU k (.inl hk)) HB5.out.size)); have HD6 := Aside0.mk (HD5.out.devK hk hs).1.dms; clear hk hs HD5 HB5)
        | (go_at_call 29; have tk := HD6; clear tk; refine (Off_D (keep := 5) (torn := tn) HD6.out.dev HD6.out.size HU2.out rfl).mono ?_; rintro e w7 ⟨S1w7, rfl, hd, hs⟩; have HB7 := Aside0.mk (HB6.out.trans (hs.only.toBelow HD6.out.dev.lo HB6.out.size)); have HD7 := Aside0.mk (HD6.out.step hd hs); clear hd hs HD6 HB6))
      clear HU0 HU1 HU2 HSy HPu
      go_loopw [77] (fun i wr => ∃ (a : Nat) (S1 : Nat → Prop) (d : DS), a ≤ n2 ∧ i = .int .i64 (a : Int) ∧ Aside0 (DMs S1 (At1 w4.heap.size) w.heap.size wr gd w4.heap.size d m l z) ∧ Aside0 (AG kN rsA (200 + 2 * (a : Int)) d) ∧ Aside0 (Below w.heap.size w wr)) (fun i _ => n2 - (intOf i).toNat)
      case atStart => exact ⟨0, _, _, Nat.zero_le _, rfl, HD7, HAG, HB7⟩
      case round =>
        obtain ⟨a, S1d, d, ha, rfl, HD, HI, HB⟩ := hrel
        clear HD7 HB7 HAG
        by_cases hl2 : a < n2
        · have kb2 : decide ((a : Int) < (n2 : Int)) = true := decide_eq_true (Int.ofNat_lt.2 hl2)
          have kbn2 : decide (a < n2) = true := decide_eq_true hl2
          obtain ⟨ad2, x, eA2, hx, y0⟩ := HIn.out.at_ HB.out (show a < fs.length from by rw [← HNl2.out]; exact hl2)
          subst eA2
          obtain ⟨er, dO, hO, her, hu1, hu2, hag⟩ := HI.out.next kN_nm x kp tn hx
          have HO := Aside0.mk hO
          have HU1 := Aside0.mk hu1
          have HU2 := Aside0.mk hu2
          have HAG := Aside0.mk (show AG kN rsA (200 + 2 * (((a + 1 : Nat)) : Int)) ((dO.arm 0 0 false).off kp tn) from by rw [show 200 + 2 * (((a + 1 : Nat)) : Int) = 200 + 2 * (a : Int) + 2 by omega]; exact hag)
          clear hx hO hu1 hu2 hag HI
          rcases her with rfl | rfl
          · go_wp2_with (first
              | (go_at_call 30; have tk := HD; clear tk; refine (On_D HD.out.dev HD.out.size).mono ?_; rintro e w1 ⟨S1w1, rfl, hd, hs⟩; have HB1 := Aside0.mk (HB.out.trans (hs.only.toBelow HD.out.dev.lo HB.out.size)); have HD1 := Aside0.mk (HD.out.step hd hs); clear hd hs HD HB)
              | (go_at_call 27; have tk := HD1; clear tk; refine (Arm_D (j := x) (keep := kp) (torn := tn) HD1.out.dev HD1.out.size).mono ?_; rintro e w2 ⟨S1w2, rfl, hd, hs⟩; have HB2 := Aside0.mk (HB1.out.trans (hs.only.toBelow HD1.out.dev.lo HB1.out.size)); have HD2 := Aside0.mk (HD1.out.step hd hs); clear hd hs HD1 HB1)
              | (go_at_call 10; refine (Open_P0 HD2.out.dev HD2.out.size HU1.out (by have := H20.out; omega) kN_nm (by have := HM.out; omega) HGd.out HO.out).mono ?_; rintro e w3 ⟨rfl, S1e, S2e, hk, hs⟩; rw [HLA.out] at hk; have HB3 := Aside0.mk (HB2.out.trans (hs.only.toBelow HD2.out.dev.lo HB2.out.size)); have HD3 := Aside0.mk (HD2.out.open_ hk hs); clear hk hs HD2 HB2)
              | (go_at_call 27; have tk := HD3; clear tk; refine (Arm_D (j := 0) (keep := 0) (torn := false) HD3.out.kd.dev HD3.out.kd.size).mono ?_; rintro e w4b ⟨S1w4b, rfl, hd, hs⟩; have HB4 := Aside0.mk (HB3.out.trans (hs.only.toBelow HD3.out.kd.dev.lo HB3.out.size)); have HD4 := Aside0.mk (HD3.out.devS hd hs); obtain ⟨A8, c8, q8, hq8, hc8, hC8, z8⟩ := HD4.out.cell1; have HQ := Aside0.mk hq8; have HC := Aside0.mk hC8; have HCc := Aside0.mk hc8; clear hq8 hc8 hC8; clear hd hs HD3 HB3)
              | (go_at_call 17; refine (has_Q HD4.out.kd.st HKn.out HQ.out HC.out HCc.out HLn.out HLn.out).mono ?_; rintro e w5b ⟨rfl, hb⟩; rw [decide_eq_true rfl]; have HD5 := Aside0.mk (HD4.out.below hb); have HB5 := Aside0.mk (HB4.out.trans (hb.mono HB4.out.size)); clear hb HD4 HB4 HQ HC HCc)
              | (go_at_call 29; have tk := HD5; clear tk; refine (Off_D (keep := kp) (torn := tn) HD5.out.kd.dev HD5.out.kd.size HU2.out rfl).mono ?_; rintro e w6b ⟨S1w6b, rfl, hd, hs⟩; have HB6 := Aside0.mk (HB5.out.trans (hs.only.toBelow HD5.out.kd.dev.lo HB5.out.size)); have HD6 := Aside0.mk (HD5.out.devS hd hs); clear hd hs HD5 HB5))
            go_roundw
            case rel => exact ⟨a + 1, _, _, hl2, vE hl2 (by have := H20.out; omega), ⟨HD6.out.dms⟩, HAG, HB6⟩
            case measure => exact mE hl2 (by have := H20.out; omega)
          · go_wp2_with (first
              | (go_at_call 30; have tk := HD; clear tk; refine (On_D HD.out.dev HD.out.size).mono ?_; rintro e w1 ⟨S1w1, rfl, hd, hs⟩; have HB1 := Aside0.mk (HB.out.trans (hs.only.toBelow HD.out.dev.lo HB.out.size)); have HD1 := Aside0.mk (HD.out.step hd hs); clear hd hs HD HB)
              | (go_at_call 27; have tk := HD1; clear tk; refine (Arm_D (j := x) (keep := kp) (torn := tn) HD1.out.dev HD1.out.size).mono ?_; rintro e w2 ⟨S1w2, rfl, hd, hs⟩; have HB2 := Aside0.mk (HB1.out.trans (hs.only.toBelow HD1.out.dev.lo HB1.out.size)); have HD2 := Aside0.mk (HD1.out.step hd hs); clear hd hs HD1 HB1)
              | (go_at_call 10; refine (Open_P7 HD2.out.dev HD2.out.size HU1.out (by have := H20.out; omega) kN_nm (by have := HM.out; omega) HGd.out HO.out).mono ?_; rintro e w3 ⟨rfl, S1e, hd, hs⟩; have HB3 := Aside0.mk (HB2.out.trans (hs.only.toBelow HD2.out.dev.lo HB2.out.size)); have HD3 := Aside0.mk (HD2.out.step hd hs); clear hd hs HD2 HB2)
              | (go_at_call 27; have tk := HD3; clear tk; refine (Arm_D (j := 0) (keep := 0) (torn := false) HD3.out.dev HD3.out.size).mono ?_; rintro e w4b ⟨S1w4b, rfl, hd, hs⟩; have HB4 := Aside0.mk (HB3.out.trans (hs.only.toBelow HD3.out.dev.lo HB3.out.size)); have HD4 := Aside0.mk (HD3.out.step hd hs); clear hd hs HD3 HB3)
              | (go_at_call 29; have tk := HD4; clear tk; refine (Off_D (keep := kp) (torn := tn) HD4.out.dev HD4.out.size HU2.out rfl).mono ?_; rintro e w6b ⟨S1w6b, rfl, hd, hs⟩; have HB6 := Aside0.mk (HB4.out.trans (hs.only.toBelow HD4.out.dev.lo HB4.out.size)); have HD6 := Aside0.mk (HD4.out.step hd hs); clear hd hs HD4 HB4))
            go_roundw
            case rel => exact ⟨a + 1, _, _, hl2, vE hl2 (by have := H20.out; omega), HD6, HAG, HB6⟩
            case measure => exact mE hl2 (by have := H20.out; omega)
        · have kb2 : decide ((a : Int) < (n2 : Int)) = false := decide_eq_false (fun h => hl2 (Int.ofNat_lt.1 h))
          have kbn2 : decide (a < n2) = false := decide_eq_false hl2
          obtain ⟨dO, hO, hu1⟩ := HI.out.last kN_nm
          have HO := Aside0.mk hO
          have HU1 := Aside0.mk hu1
          clear hO hu1 HI
          go_wp2_with (first
            | (go_at_call 30; have tk := HD; clear tk; refine (On_D HD.out.dev HD.out.size).mono ?_; rintro e w1 ⟨S1w1, rfl, hd, hs⟩; have HB1 := Aside0.mk (HB.out.trans (hs.only.toBelow HD.out.dev.lo HB.out.size)); have HD1 := Aside0.mk (HD.out.step hd hs); clear hd hs HD HB)
            | (go_at_call 10; refine (Open_P0 HD1.out.dev HD1.out.size HU1.out (by have := H20.out; omega) kN_nm (by have := HM.out; omega) HGd.out HO.out).mono ?_; rintro e w3 ⟨rfl, S1e, S2e, hk, hs⟩; rw [HLA.out] at hk; have HB3 := Aside0.mk (HB1.out.trans (hs.only.toBelow HD1.out.dev.lo HB1.out.size)); have HD3 := Aside0.mk (HD1.out.open_ hk hs); obtain ⟨A8, c8, q8, hq8, hc8, hC8, z8⟩ := HD3.out.cell1; have HQ := Aside0.mk hq8; have HC := Aside0.mk hC8; have HCc := Aside0.mk hc8; clear hq8 hc8 hC8; clear hk hs HD1 HB1)
            | (go_at_call 17; refine (has_Q HD3.out.kd.st HKn.out HQ.out HC.out HCc.out HLn.out HLn.out).mono ?_; rintro e w5b ⟨rfl, hb⟩; rw [decide_eq_true rfl]; have HD5 := Aside0.mk (HD3.out.below hb); have HB5 := Aside0.mk (HB3.out.trans (hb.mono HB3.out.size)); clear hb HD3 HB3 HQ HC HCc))
          go_ret
          exact ⟨rfl, HB5.out⟩
theorem Again_Q (hs : Script w A n c sc) (hi : Ints w A2 n2 fs) : Calls Try.prog 8 #[.int .i64 m, .slice A n c, .slice A2 n2 c2, .int .i64 kp, .bool tn] w fun e w' => e = .returned (.bool true) ∧ Below w.heap.size w w' := by
  obtain ⟨r, hr, hg⟩ := great_R w hs
  cases r with
  | true => exact kg_1 hg
  | false =>
    by_cases h0 : m < 1
    · exact kg_2 hg h0
    by_cases h1 : 100 < m
    · exact kg_3 hg (by omega) h1
    by_cases h2 : 20 < n2
    · exact kg_4 hg (by omega) (by omega) h2
    exact kg_main hs hi hg (hr rfl) (by omega) (by omega) (by omega)
end
end Go.Proofs.Ytclkcipakncjkaa.Kv
