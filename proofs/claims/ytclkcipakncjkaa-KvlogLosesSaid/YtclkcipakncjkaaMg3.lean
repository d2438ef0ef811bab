/- Joined texts of this claim, in build order. -/
import Derived.Test.YtclkcipakncjkaaMg2
import Derived.Test.YtclkcipakncjkaaMg1
import Derived.Test.YtclkcipakncjkaaOp
import Derived.ArgAppend
namespace Go.Proofs.Ytclkcipakncjkaa.Kv
open Go Go.RowKit Go.Proofs.YtclkcipakncjkaaW.PrintWords Go.Proofs.YtclkcipakncjkaaW.PrintLast Go.Proofs.YtclkcipakncjkaaW.PrintMore Go.Proofs.YtclkcipakncjkaaMy Go.Proofs.Ytclkcipakncjkaa Go.Proofs.YtclkcipakncjkaaPw Go.Proofs.Ytclkcipakncjkaa.PAll Go.Proofs.Ytclkcipakncjkaa.Dk
set_option linter.unusedVariables false
set_option linter.unusedSimpArgs false
theorem findF_putF (l : List Fl) (f : Fl) (s : ByteArray) : findF (putF l f) s = if f.name = s then some f else findF l s := by
  induction l with
  | nil =>
    unfold putF findF
    by_cases c : f.name = s
    · rw [if_pos c, List.find?_cons_of_pos (by simp [c])]
    · rw [if_neg c, List.find?_cons_of_neg (by simp [c])]
  | cons x r ih =>
    unfold putF
    by_cases e : x.name = f.name
    · rw [if_pos e]
      unfold findF
      by_cases c : f.name = s
      · rw [if_pos c, List.find?_cons_of_pos (by simp [c])]
      · rw [if_neg c, List.find?_cons_of_neg (by simp [c]), List.find?_cons_of_neg (by simp [e, c])]
    · rw [if_neg e]
      unfold findF at ih ⊢
      by_cases c : x.name = s
      · rw [List.find?_cons_of_pos (by simp [c]), List.find?_cons_of_pos (by simp [c]), if_neg (fun h => e (by rw [c, h]))]
      · rw [List.find?_cons_of_neg (by simp [c]), List.find?_cons_of_neg (by simp [c])]
        exact ih
theorem findF_delF (l : List Fl) (s t : ByteArray) : findF (delF l s) t = if t = s then none else findF l t := by
  unfold findF delF
  by_cases c : t = s
  · rw [if_pos c, List.find?_eq_none]
    intro f hf
    have := of_decide_eq_true (List.mem_filter.1 hf).2
    simp [c, this]
  · rw [if_neg c, List.find?_filter]
    congr 1
    funext f
    by_cases e : f.name = t
    · simp [e, c]
    · simp [e]
theorem findF_lose (l : List Fl) (keep : Int) (torn : Bool) (s : ByteArray) : findF (l.map (lose1 keep torn)) s = (findF l s).map (lose1 keep torn) := by
  unfold findF
  rw [List.find?_map]
  rfl
def lenF (l : List Fl) (s : ByteArray) : Nat := ((findF l s).map fun f => f.b.length).getD 0
theorem lenF_none {l : List Fl} {s : ByteArray} (h : findF l s = none) : lenF l s = 0 := by unfold lenF; rw [h]; rfl
theorem lenF_some {l : List Fl} {s : ByteArray} {f : Fl} (h : findF l s = some f) : lenF l s = f.b.length := by unfold lenF; rw [h]; rfl
theorem lenF_cons (x : Fl) (r : List Fl) (s : ByteArray) : lenF (x :: r) s = if x.name = s then x.b.length else lenF r s := by
  unfold lenF findF
  by_cases c : x.name = s
  · rw [if_pos c, List.find?_cons_of_pos (by simp [c])]; rfl
  · rw [if_neg c, List.find?_cons_of_neg (by simp [c])]
theorem sizes_cons (x : Fl) (r : List Fl) : Dk.sizes (x :: r) = (x.b.length : Int) + Dk.sizes r := by
  unfold Dk.sizes
  rw [List.map_cons, List.sum_cons]
theorem sizes_putF (l : List Fl) (f : Fl) : Dk.sizes (putF l f) = Dk.sizes l - (lenF l f.name : Int) + (f.b.length : Int) := by
  induction l with
  | nil =>
    show Dk.sizes [f] = Dk.sizes [] - _ + _
    rw [sizes_cons]
    unfold lenF findF Dk.sizes
    simp
  | cons x r ih =>
    unfold putF
    rw [lenF_cons]
    by_cases e : x.name = f.name
    · rw [if_pos e, if_pos e, sizes_cons, sizes_cons]
      omega
    · rw [if_neg e, if_neg e, sizes_cons, sizes_cons, ih]
      omega
theorem sizes_delF {l : List Fl} (h : Once l) (s : ByteArray) : Dk.sizes (delF l s) = Dk.sizes l - (lenF l s : Int) := by
  induction l with
  | nil => rfl
  | cons x r ih =>
    unfold Once at h
    rw [List.map_cons, List.nodup_cons] at h
    have ih := ih h.2
    rw [lenF_cons, sizes_cons]
    by_cases e : x.name = s
    · rw [if_pos e]
      have h0 : lenF r s = 0 := lenF_none (by
        unfold findF
        rw [List.find?_eq_none]
        intro f hf
        simp only [decide_eq_true_eq]
        intro e2
        exact h.1 (List.mem_map.2 ⟨f, hf, by rw [e, e2]⟩))
      have hd : delF (x :: r) s = delF r s := by
        unfold delF
        rw [List.filter_cons, if_neg (by simp [e])]
      rw [hd, ih, h0]
      omega
    · rw [if_neg e]
      have hd : delF (x :: r) s = x :: delF r s := by
        unfold delF
        rw [List.filter_cons, if_pos (by simp [e])]
      rw [hd, sizes_cons, ih]
      omega
theorem sizes_nonneg (l : List Fl) : 0 ≤ Dk.sizes l := by
  induction l with
  | nil => exact Int.le_refl _
  | cons x r ih => rw [sizes_cons]; omega
theorem lenF_le (l : List Fl) (s : ByteArray) : (lenF l s : Int) ≤ Dk.sizes l := by
  induction l with
  | nil => exact Int.le_refl _
  | cons x r ih =>
    have := sizes_nonneg r
    rw [lenF_cons, sizes_cons]
    split <;> omega
theorem fileOr_name (d : DS) (s : ByteArray) : (d.fileOr s).name = s := by
  unfold DS.fileOr
  cases h : findF d.files s with
  | none => rfl
  | some f => exact (findF_some h).2
theorem fileOr_len (d : DS) (s : ByteArray) : (d.fileOr s).b.length = lenF d.files s := by
  unfold DS.fileOr lenF
  cases h : findF d.files s with
  | none => rfl
  | some f => rfl
structure Quiet (d : DS) (R : Int) : Prop where
  down : d.down = false
  fuse : d.fuse = 0
  room : d.room = R
  once : Once d.files
  le : Dk.sizes d.files ≤ R
section
variable {d : DS} {R : Int} {s t : ByteArray} {f : Fl}
theorem Quiet.new (h : 0 ≤ R ∧ R ≤ 1048576) : Quiet (new R) R := ⟨rfl, rfl, by show min (max R 0) 1048576 = R; omega, List.nodup_nil, by show (0 : Int) ≤ R; exact h.1⟩
theorem Quiet.ready (h : Quiet d R) (hs : nameOk s = true) : d.ready s = 0 := by
  unfold DS.ready
  rw [h.down, if_neg (by decide), if_pos hs]
theorem Quiet.goes (h : Quiet d R) : d.goes = false := by
  unfold DS.goes
  rw [h.fuse]
  rfl
theorem Quiet.there_none (h : Quiet d R) (hs : nameOk s = true) (hf : findF d.files s = none) : d.there s = 5 := by
  unfold DS.there
  rw [if_neg (by rw [h.ready hs]; decide), hf, if_neg (by decide)]
theorem Quiet.there_some (h : Quiet d R) (hs : nameOk s = true) (hf : findF d.files s = some f) : d.there s = 0 := by
  unfold DS.there
  rw [if_neg (by rw [h.ready hs]; decide), hf, if_pos (by rfl)]
theorem Quiet.free (h : Quiet d R) : d.free = R - Dk.sizes d.files := by
  unfold DS.free
  rw [h.room]
theorem Quiet.full (h : Quiet d R) (hs : nameOk s = true) {X : List Int} (hX : R - Dk.sizes d.files < (X.length : Int)) : d.append s X = (6, d) := by
  unfold DS.append
  rw [if_neg (fun e => e (h.ready hs)), if_pos (by rw [h.free]; exact hX)]
theorem act_quiet (h : Quiet d R) : d.act.files = d.files ∧ d.act.down = false ∧ d.act.fuse = 0 ∧ d.act.room = R := by
  refine ⟨rfl, h.down, ?_, h.room⟩
  show (if d.fuse = 0 then (0 : Int) else d.fuse - 1) = 0
  rw [if_pos h.fuse]
theorem Quiet.put (h : Quiet d R) (f : Fl) (hle : Dk.sizes d.files - (lenF d.files f.name : Int) + (f.b.length : Int) ≤ R) : Quiet (d.act.put f) R ∧ (∀ t, findF (d.act.put f).files t = if f.name = t then some f else findF d.files t) ∧ Dk.sizes (d.act.put f).files = Dk.sizes d.files - (lenF d.files f.name : Int) + (f.b.length : Int) :=
  ⟨⟨h.down, (act_quiet h).2.2.1, h.room, putF_once h.once f, by show Dk.sizes (putF d.files f) ≤ R; rw [sizes_putF]; exact hle⟩, fun t => findF_putF d.files f t, sizes_putF d.files f⟩
theorem Quiet.append (h : Quiet d R) (hs : nameOk s = true) {X : List Int} (hX : ¬ R - Dk.sizes d.files < (X.length : Int)) : ∃ d', d.append s X = (0, d') ∧ Quiet d' R ∧ (∀ t, findF d'.files t = if s = t then some ⟨s, (d.fileOr s).b ++ X, (d.fileOr s).safe⟩ else findF d.files t) ∧ Dk.sizes d'.files = Dk.sizes d.files + (X.length : Int) := by
  have hn := fileOr_name d s
  have hl := fileOr_len d s
  obtain ⟨h1, h2, h3⟩ := h.put ⟨s, (d.fileOr s).b ++ X, (d.fileOr s).safe⟩ (by
    show Dk.sizes d.files - (lenF d.files s : Int) + (((d.fileOr s).b ++ X).length : Int) ≤ R
    rw [List.length_append, hl]
    omega)
  refine ⟨_, ?_, h1, h2, ?_⟩
  · unfold DS.append
    rw [if_neg (fun e => e (h.ready hs)), if_neg (by rw [h.free]; exact hX)]
    simp only [h.goes, Bool.false_eq_true, if_false]
    show (0, d.act.put { d.fileOr s with b := (d.fileOr s).b ++ X }) = _
    rw [show ({ d.fileOr s with b := (d.fileOr s).b ++ X } : Fl) = ⟨(d.fileOr s).name, (d.fileOr s).b ++ X, (d.fileOr s).safe⟩ from rfl, hn]
  · rw [h3]
    show Dk.sizes d.files - (lenF d.files s : Int) + (((d.fileOr s).b ++ X).length : Int) = _
    rw [List.length_append, hl]
    omega
theorem Quiet.sync_none (h : Quiet d R) (hs : nameOk s = true) (hf : findF d.files s = none) : d.sync s = (5, d) := by
  unfold DS.sync
  rw [if_pos (by rw [h.there_none hs hf]; decide), h.there_none hs hf]
theorem fileOr_findF (hf : findF d.files s = some f) : d.fileOr s = f := by
  unfold DS.fileOr
  rw [hf]
  rfl
theorem Quiet.sync (h : Quiet d R) (hs : nameOk s = true) (hf : findF d.files s = some f) : ∃ d', d.sync s = (0, d') ∧ Quiet d' R ∧ (∀ t, findF d'.files t = if s = t then some ⟨s, f.b, f.b.length⟩ else findF d.files t) ∧ Dk.sizes d'.files = Dk.sizes d.files := by
  have hl := lenF_some hf
  have hn := (findF_some hf).2
  obtain ⟨h1, h2, h3⟩ := h.put ⟨s, f.b, f.b.length⟩ (by
    show Dk.sizes d.files - (lenF d.files s : Int) + (f.b.length : Int) ≤ R
    have := h.le
    omega)
  refine ⟨_, ?_, h1, h2, ?_⟩
  · unfold DS.sync
    rw [if_neg (fun e => e (h.there_some hs hf)), fileOr_findF hf]
    simp only [h.goes, Bool.false_eq_true, if_false]
    rw [hn]
  · rw [h3]
    show Dk.sizes d.files - (lenF d.files s : Int) + (f.b.length : Int) = _
    omega
theorem Quiet.rename (h : Quiet d R) (hs : nameOk s = true) (ht : nameOk t = true) (hne : s ≠ t) (hf : findF d.files s = some f) : ∃ d', d.rename s t = (0, d') ∧ Quiet d' R ∧ (∀ u, findF d'.files u = if t = u then some ⟨t, f.b, f.safe⟩ else if u = s then none else findF d.files u) ∧ Dk.sizes d'.files = Dk.sizes d.files - (lenF d.files t : Int) := by
  have hl := lenF_some hf
  have hfo : d.act.fileOr s = f := fileOr_findF hf
  have hsz : Dk.sizes (putF (delF d.files s) ⟨t, f.b, f.safe⟩) = Dk.sizes d.files - (lenF d.files t : Int) := by
    rw [sizes_putF, sizes_delF h.once]
    have h0 : lenF (delF d.files s) t = lenF d.files t := by
      unfold lenF
      rw [findF_delF, if_neg (fun e => hne e.symm)]
    show _ - (lenF (delF d.files s) t : Int) + _ = _
    rw [h0]
    show Dk.sizes d.files - (lenF d.files s : Int) - _ + (f.b.length : Int) = _
    omega
  refine ⟨(d.act.drop s).put ⟨t, f.b, f.safe⟩, ?_, ⟨h.down, (act_quiet h).2.2.1, h.room, putF_once (delF_once h.once s) _, ?_⟩, fun u => ?_, hsz⟩
  · unfold DS.rename DS.fall
    rw [if_neg (fun e => e (h.there_some hs hf)), if_neg (by rw [ht]; decide), h.goes, if_neg (by decide)]
    show (0, (d.act.drop s).put ⟨t, (d.act.fileOr s).b, (d.act.fileOr s).safe⟩) = _
    rw [hfo]
  · show Dk.sizes (putF (delF d.files s) ⟨t, f.b, f.safe⟩) ≤ R
    rw [hsz]
    have := h.le
    omega
  · show findF (putF (delF d.files s) ⟨t, f.b, f.safe⟩) u = _
    rw [findF_putF, findF_delF]
theorem Quiet.read_none (h : Quiet d R) (hs : nameOk s = true) (hf : findF d.files s = none) : d.read s = ([], 5) := by
  unfold DS.read
  rw [if_pos (by rw [h.there_none hs hf]; decide), h.there_none hs hf]
end
structure Nm (n : ByteArray) : Prop where
  ok : nameOk n = true
  dok : nameOk (draftN n) = true
  ne : n ≠ draftN n
  nn : n ≠ ⟨#[]⟩
  sz : n.size ≤ 28
inductive Plan where
  | ret (e : Int)
  | wr (rs : List ByteArray)
  | sync
  | comp
def planOf (l : List E) (m kind : Int) (key val : ByteArray) (N : Int) : Plan :=
  if kind = 0 then (if 65536 < (recP key val).size then .ret 3 else if getE l key = some val then .ret 0 else .wr (putRecs l m key val))
  else if kind = 1 then (if N < 0 then .ret 1 else if min N.toNat l.length = 0 then .ret 0 else .wr (gones l (min N.toNat l.length)))
  else if kind = 2 then .sync else if kind = 3 then .comp else .ret 0
def runS (d : DS) (n : ByteArray) (l : List E) : Plan → Int × DS × List E
  | .ret e => (e, d, l)
  | .wr rs => writeE d n l rs
  | .sync => ((syncE d n).1, (syncE d n).2, l)
  | .comp => ((compactE d n l).1, (compactE d n l).2, l)
def runR (l : List E) (z free : Int) : Plan → Int × List E × Int
  | .ret e => (e, l, z)
  | .wr rs => writeR l z rs free
  | .sync => (0, l, z)
  | .comp => ((compactR l z free).1, l, (compactR l z free).2)
theorem doesS_run (d : DS) (n : ByteArray) (m : Int) (l : List E) (kind : Int) (key val : ByteArray) (N : Int) : doesS d n m l kind key val N = runS d n l (planOf l m kind key val N) := by
  unfold doesS planOf putE evictE
  repeat' (first | rfl | split)
theorem doesR_run (l : List E) (m z kind : Int) (key val : ByteArray) (N free : Int) : doesR l m z kind key val N free = runR l z free (planOf l m kind key val N) := by
  unfold doesR planOf putR evictR
  repeat' (first | rfl | split)
def needP (l : List E) : Plan → Int
  | .wr rs => (Fr.putB rs).length
  | .comp => (Fr.putB (allRecs l)).length
  | _ => 0
theorem putB_append (a b : List ByteArray) : Fr.putB (a ++ b) = Fr.putB a ++ Fr.putB b := by
  unfold Fr.putB
  rw [List.filter_append, List.flatMap_append]
structure StF (d : DS) (n : ByteArray) (rs : List ByteArray) (l : List E) : Prop where
  file : (findF d.files n = none ∧ rs = []) ∨ ∃ sf, findF d.files n = some ⟨n, Fr.putB rs, sf⟩
  draft : findF d.files (draftN n) = none
  good : ∀ r ∈ rs, Good r
  list : stepAll [] rs = l
theorem stepAll_append (l : List E) (a b : List ByteArray) : stepAll l (a ++ b) = stepAll (stepAll l a) b := by
  unfold stepAll
  rw [List.foldl_append]
theorem stepAll_all : ∀ (l acc : List E), Fit l → KN (acc ++ l) → stepAll acc (allRecs l) = acc ++ l
  | [], acc, _, _ => by simp [allRecs, stepAll]
  | e :: l, acc, hf, hk => by
    have h1 : stepE acc (recP e.f0 e.f1) = acc ++ [e] := by
      unfold stepE
      rw [doneE_recP acc (by have := hf e (List.mem_cons_self ..); omega), Option.getD_some, dropE_no]
      rw [getE_none_iff]
      intro x hx e2
      unfold KN at hk
      rw [List.map_append, List.nodup_append] at hk
      exact hk.2.2 x.f0 (List.mem_map.2 ⟨x, hx, rfl⟩) e.f0 (List.mem_map.2 ⟨e, List.mem_cons_self .., rfl⟩) e2
    have h2 := stepAll_all l (acc ++ [e]) (fun x hx => hf x (List.mem_cons_of_mem _ hx)) (by rw [List.append_assoc]; exact hk)
    show stepAll (stepE acc (recP e.f0 e.f1)) (allRecs l) = _
    rw [h1, h2, List.append_assoc]
    rfl
section
variable {d : DS} {R m z : Int} {n : ByteArray} {rs rs0 : List ByteArray} {l : List E}
theorem StF.new (n : ByteArray) : StF (new R) n [] [] := ⟨.inl ⟨rfl, rfl⟩, rfl, (fun r h => nomatch h), rfl⟩
theorem StF.fileB (f : StF d n rs l) : (d.fileOr n).b = Fr.putB rs := by
  rcases f.file with ⟨h, rfl⟩ | ⟨sf, h⟩
  · unfold DS.fileOr
    rw [h]
    rfl
  · rw [fileOr_findF h]
theorem StF.len (f : StF d n rs l) : lenF d.files n = (Fr.putB rs).length := by rw [← fileOr_len, f.fileB]
theorem StF.kn (f : StF d n rs l) : KN l := by rw [← f.list]; exact KN.nil.steps f.good
theorem StF.other {d' : DS} (f : StF d n rs l) (h : ∀ t, t = n ∨ t = draftN n → findF d'.files t = findF d.files t) : StF d' n rs l := ⟨by rw [h n (.inl rfl)]; exact f.file, by rw [h _ (.inr rfl)]; exact f.draft, f.good, f.list⟩
theorem wr_q (h : Quiet d R) (f : StF d n rs0 l) (nm : Nm n) (hg : ∀ r ∈ rs, Good r) (hX : ¬ R - Dk.sizes d.files < ((Fr.putB rs).length : Int)) : ∃ d', writeE d n l rs = (0, d', stepAll l rs) ∧ Quiet d' R ∧ StF d' n (rs0 ++ rs) (stepAll l rs) ∧ Dk.sizes d'.files = Dk.sizes d.files + ((Fr.putB rs).length : Int) ∧ ∀ t, t ≠ n → findF d'.files t = findF d.files t := by
  obtain ⟨d', h1, h2, h3, h4⟩ := h.append nm.ok hX
  refine ⟨d', ?_, h2, ⟨.inr ⟨(d.fileOr n).safe, ?_⟩, ?_, ?_, ?_⟩, h4, fun t ht => ?_⟩
  · unfold writeE
    rw [h1, if_pos rfl]
  · rw [h3, if_pos rfl, f.fileB, putB_append]
  · rw [h3, if_neg nm.ne]
    exact f.draft
  · intro r hr
    rcases List.mem_append.1 hr with hr | hr
    · exact f.good r hr
    · exact hg r hr
  · rw [stepAll_append, f.list]
  · rw [h3, if_neg (fun e => ht e.symm)]
theorem wr_full (h : Quiet d R) (nm : Nm n) (hX : R - Dk.sizes d.files < ((Fr.putB rs).length : Int)) : writeE d n l rs = (6, d, l) := by
  have h1 := h.full nm.ok hX
  unfold writeE
  rw [h1, if_neg (by show ¬ (6 : Int) = 0; decide)]
theorem sync_q (h : Quiet d R) (f : StF d n rs0 l) (nm : Nm n) : ∃ d', syncE d n = (0, d') ∧ Quiet d' R ∧ StF d' n rs0 l ∧ Dk.sizes d'.files = Dk.sizes d.files ∧ (∀ t, t ≠ n → findF d'.files t = findF d.files t) ∧ (∀ x, findF d'.files n = some x → x.safe = x.b.length) := by
  rcases f.file with ⟨h0, h1⟩ | ⟨sf, h0⟩
  · refine ⟨d, ?_, h, f, rfl, fun t _ => rfl, fun x hx => ?_⟩
    · unfold syncE
      rw [h.sync_none nm.ok h0, if_pos rfl]
    · rw [h0] at hx; cases hx
  · obtain ⟨d', h1, h2, h3, h4⟩ := h.sync nm.ok h0
    refine ⟨d', ?_, h2, ⟨.inr ⟨_, by rw [h3, if_pos rfl]⟩, by rw [h3, if_neg nm.ne]; exact f.draft, f.good, f.list⟩, h4, fun t ht => by rw [h3, if_neg (fun e => ht e.symm)], fun x hx => ?_⟩
    · unfold syncE
      rw [h1, if_neg (by show ¬ (0 : Int) = 5; decide)]
    · rw [h3, if_pos rfl] at hx
      injection hx with hx
      subst hx
      rfl
theorem comp_full (h : Quiet d R) (nm : Nm n) (hX : R - Dk.sizes d.files < ((Fr.putB (allRecs l)).length : Int)) : compactE d n l = (6, d) := by
  have h1 := h.full nm.dok hX
  unfold compactE
  rw [h1, if_pos (by show (6 : Int) ≠ 0; decide)]
theorem comp_q (h : Quiet d R) (f : StF d n rs0 l) (nm : Nm n) (hft : Fit l) (hX : ¬ R - Dk.sizes d.files < ((Fr.putB (allRecs l)).length : Int)) : ∃ d', compactE d n l = (0, d') ∧ Quiet d' R ∧ StF d' n (allRecs l) l ∧ Dk.sizes d'.files = Dk.sizes d.files - ((Fr.putB rs0).length : Int) + ((Fr.putB (allRecs l)).length : Int) ∧ (∀ t, t ≠ n → t ≠ draftN n → findF d'.files t = findF d.files t) ∧ (∀ x, findF d'.files n = some x → x.safe = x.b.length) := by
  obtain ⟨d1, a1, a2, a3, a4⟩ := h.append nm.dok hX
  have hb : (d.fileOr (draftN n)).b = [] := by unfold DS.fileOr; rw [f.draft]; rfl
  have f1 : findF d1.files (draftN n) = some ⟨draftN n, Fr.putB (allRecs l), (d.fileOr (draftN n)).safe⟩ := by rw [a3, if_pos rfl, hb, List.nil_append]
  obtain ⟨d2, b1, b2, b3, b4⟩ := a2.sync nm.dok f1
  have f2 : findF d2.files (draftN n) = some ⟨draftN n, Fr.putB (allRecs l), (Fr.putB (allRecs l)).length⟩ := by rw [b3, if_pos rfl]
  obtain ⟨d3, c1, c2, c3, c4⟩ := b2.rename nm.dok nm.ok (fun e => nm.ne e.symm) f2
  have hl2 : lenF d2.files n = (Fr.putB rs0).length := by
    unfold lenF
    rw [b3, if_neg (fun e => nm.ne e.symm), a3, if_neg (fun e => nm.ne e.symm)]
    exact f.len
  refine ⟨d3, ?_, c2, ⟨.inr ⟨_, by rw [c3, if_pos rfl]⟩, by rw [c3, if_neg nm.ne, if_pos rfl], Good.all hft, ?_⟩, ?_, fun t ht hd => ?_, fun x hx => ?_⟩
  · unfold compactE
    rw [a1, if_neg (by simp), b1, if_neg (by simp), c1]
  · have := stepAll_all l [] hft (by rw [List.nil_append]; exact f.kn)
    rw [List.nil_append] at this
    exact this
  · rw [c4, b4, a4, hl2]
    omega
  · rw [c3, if_neg (fun e => ht e.symm), if_neg hd, b3, if_neg (fun e => hd e.symm), a3, if_neg (fun e => hd e.symm)]
  · rw [c3, if_pos rfl] at hx
    injection hx with hx
    subst hx
    rfl
theorem run_quiet (h : Quiet d R) (f : StF d n rs0 l) (nm : Nm n) (hft : Fit l) {p : Plan} (hg : ∀ rs, p = .wr rs → ∀ r ∈ rs, Good r) (hz : z = ((Fr.putB rs0).length : Int)) :
    ∃ d' rs', runS d n l p = ((runR l z (R - Dk.sizes d.files) p).1, d', (runR l z (R - Dk.sizes d.files) p).2.1) ∧ Quiet d' R ∧ StF d' n rs' (runR l z (R - Dk.sizes d.files) p).2.1 ∧ (runR l z (R - Dk.sizes d.files) p).2.2 = ((Fr.putB rs').length : Int) ∧ Dk.sizes d'.files - ((Fr.putB rs').length : Int) = Dk.sizes d.files - ((Fr.putB rs0).length : Int) ∧ (∀ t, t ≠ n → t ≠ draftN n → findF d'.files t = findF d.files t) := by
  cases p with
  | ret e => exact ⟨d, rs0, rfl, h, f, hz, rfl, fun _ _ _ => rfl⟩
  | wr rs =>
    by_cases c : R - Dk.sizes d.files < ((Fr.putB rs).length : Int)
    · have e1 : runR l z (R - Dk.sizes d.files) (.wr rs) = (6, l, z) := by
        show writeR l z rs _ = _
        unfold writeR
        rw [if_pos c]
      rw [e1]
      exact ⟨d, rs0, wr_full h nm c, h, f, hz, rfl, fun _ _ _ => rfl⟩
    · have e1 : runR l z (R - Dk.sizes d.files) (.wr rs) = (0, stepAll l rs, z + ((Fr.putB rs).length : Int)) := by
        show writeR l z rs _ = _
        unfold writeR
        rw [if_neg c]
      rw [e1]
      obtain ⟨d', h1, h2, h3, h4, h5⟩ := wr_q h f nm (hg rs rfl) c
      refine ⟨d', rs0 ++ rs, h1, h2, h3, ?_, ?_, fun t ht _ => h5 t ht⟩
      · show z + ((Fr.putB rs).length : Int) = _
        rw [putB_append, List.length_append, hz]
        omega
      · rw [h4, putB_append, List.length_append]
        omega
  | sync =>
    obtain ⟨d', h1, h2, h3, h4, h5, _⟩ := sync_q h f nm
    refine ⟨d', rs0, ?_, h2, h3, hz, by rw [h4], fun t ht _ => h5 t ht⟩
    show ((syncE d n).1, (syncE d n).2, l) = _
    rw [h1]
    rfl
  | comp =>
    by_cases c : R - Dk.sizes d.files < ((Fr.putB (allRecs l)).length : Int)
    · have e1 : runR l z (R - Dk.sizes d.files) .comp = (6, l, z) := by
        show ((compactR l z _).1, l, (compactR l z _).2) = _
        unfold compactR
        rw [if_pos c]
      rw [e1]
      refine ⟨d, rs0, ?_, h, f, hz, rfl, fun _ _ _ => rfl⟩
      show ((compactE d n l).1, (compactE d n l).2, l) = _
      rw [comp_full h nm c]
    · have e1 : runR l z (R - Dk.sizes d.files) .comp = (0, l, ((Fr.putB (allRecs l)).length : Int)) := by
        show ((compactR l z _).1, l, (compactR l z _).2) = _
        unfold compactR
        rw [if_neg c]
      rw [e1]
      obtain ⟨d', h1, h2, h3, h4, h5, _⟩ := comp_q h f nm hft c
      refine ⟨d', allRecs l, ?_, h2, h3, rfl, ?_, h5⟩
      · show ((compactE d n l).1, (compactE d n l).2, l) = _
        rw [h1]
      · rw [h4]
        omega
theorem plan_good {kind N : Int} {key val : ByteArray} (hft : Fit l) : ∀ rs, planOf l m kind key val N = .wr rs → ∀ r ∈ rs, Good r := by
  intro rs e
  unfold planOf at e
  split at e
  · split at e
    · cases e
    · rename_i c
      split at e
      · cases e
      · injection e with e
        subst e
        exact Good.puts hft.short (Nat.not_lt.1 c)
  · split at e
    · split at e
      · cases e
      · split at e
        · cases e
        · injection e with e
          subst e
          exact Good.gones hft.short _
    · split at e
      · cases e
      · split at e
        · cases e
        · cases e
structure LF (l : List E) (m : Int) : Prop where
  kn : KN l
  fit : Fit l
  len : (l.length : Int) ≤ m
theorem LF.nil (hm : 1 ≤ m) : LF [] m := ⟨KN.nil, (fun e he => nomatch he), by simp only [List.length_nil]; omega⟩
theorem stepAll_gones2 {l : List E} (hs : Short l) (j : Nat) (hj : j ≤ l.length) : stepAll l (gones l j) = l.drop j := stepAll_gones l hs j hj
def listP (l : List E) : Plan → List E
  | .wr rs => stepAll l rs
  | _ => l
theorem LF.plan (h : LF l m) (hm : 1 ≤ m) (kind : Int) (key val : ByteArray) (N : Int) : LF (listP l (planOf l m kind key val N)) m := by
  have hg := plan_good (m := m) (kind := kind) (key := key) (val := val) (N := N) h.fit
  have hid : ∀ e, LF (listP l (.ret e)) m := fun _ => h
  unfold planOf at hg ⊢
  by_cases c0 : kind = 0
  · rw [if_pos c0] at hg ⊢
    by_cases c1 : 65536 < (recP key val).size
    · rw [if_pos c1]; exact h
    rw [if_neg c1] at hg ⊢
    by_cases c2 : getE l key = some val
    · rw [if_pos c2]; exact h
    rw [if_neg c2] at hg ⊢
    show LF (stepAll l (putRecs l m key val)) m
    have e := stepAll_put h.fit.short hm (Nat.not_lt.1 c1 : (recP key val).size ≤ 65536)
    refine ⟨h.kn.steps (hg _ rfl), ?_, ?_⟩
    · rw [e]
      intro x hx
      rcases putL_mem hx with hx | rfl
      · exact h.fit x hx
      · exact Nat.not_lt.1 c1
    · rw [e]
      exact putL_len hm h.len
  rw [if_neg c0] at hg ⊢
  by_cases c1 : kind = 1
  · rw [if_pos c1] at hg ⊢
    by_cases c2 : N < 0
    · rw [if_pos c2]; exact h
    rw [if_neg c2] at hg ⊢
    by_cases c3 : min N.toNat l.length = 0
    · rw [if_pos c3]; exact h
    rw [if_neg c3] at hg ⊢
    show LF (stepAll l (gones l _)) m
    rw [stepAll_gones2 h.fit.short _ (Nat.min_le_right _ _)]
    refine ⟨h.kn.suffix _, fun x hx => h.fit x (List.mem_of_mem_drop hx), ?_⟩
    rw [List.length_drop]
    have := h.len
    omega
  rw [if_neg c1]
  split
  · exact h
  · split
    · exact h
    · exact h
theorem runR_list (l : List E) (z free : Int) (p : Plan) : (runR l z free p).2.1 = l ∨ (runR l z free p).2.1 = listP l p := by
  cases p with
  | wr rs =>
    show (writeR l z rs free).2.1 = l ∨ (writeR l z rs free).2.1 = stepAll l rs
    unfold writeR
    split
    · exact .inl rfl
    · exact .inr rfl
  | _ => exact .inl rfl
theorem LF.run (h : LF l m) (hm : 1 ≤ m) (kind : Int) (key val : ByteArray) (N free : Int) : LF (doesR l m z kind key val N free).2.1 m := by
  rw [doesR_run]
  rcases runR_list l z free (planOf l m kind key val N) with e | e
  · rw [e]; exact h
  · rw [e]; exact h.plan hm kind key val N
end
def kN : ByteArray := ⟨#[107]⟩
structure One (d : DS) (n : ByteArray) (R : Int) (c : Nat) : Prop where
  down : d.down = false
  fuse : d.fuse = 0
  room : d.room = R
  file : d.files = [] ∨ ∃ b s, d.files = [⟨n, b, s⟩] ∧ b.length ≤ c
theorem One.new_ (n : ByteArray) {R : Int} (h : 0 ≤ R ∧ R ≤ 1048576) : One (new R) n R 0 := ⟨rfl, rfl, by show min (max R 0) 1048576 = R; omega, .inl rfl⟩
theorem One.append {d : DS} {n : ByteArray} {R : Int} {c : Nat} (h : One d n R c) (hn : nameOk n = true) {X : List Int} (hX : (c + X.length : Nat) ≤ R) : (d.append n X).1 = 0 ∧ One (d.append n X).2 n R (c + X.length) := by
  have hr : d.ready n = 0 := by
    unfold DS.ready
    rw [h.down, if_neg (by decide), if_pos hn]
  have hg : d.goes = false := by
    unfold DS.goes
    rw [h.fuse]
    rfl
  have hfree : ¬ (X.length : Int) > d.free := by
    unfold DS.free
    rw [h.room]
    rcases h.file with e | ⟨b, s, e, hb⟩
    · rw [e]
      show ¬ (X.length : Int) > R - 0
      omega
    · rw [e]
      show ¬ (X.length : Int) > R - ((b.length : Int) + 0)
      omega
  unfold DS.append
  rw [if_neg (fun h => h hr), if_neg hfree]
  simp only [hg]
  refine ⟨rfl, h.down, ?_, h.room, .inr ?_⟩
  · show (if d.fuse = 0 then (0 : Int) else d.fuse - 1) = 0
    rw [if_pos h.fuse]
  · rcases h.file with e | ⟨b, s, e, hb⟩
    · refine ⟨X, 0, ?_, by omega⟩
      show putF d.files _ = _
      unfold DS.fileOr findF
      rw [e]
      rfl
    · refine ⟨b ++ X, s, ?_, by rw [List.length_append]; omega⟩
      show putF d.files _ = _
      have hf : d.fileOr n = ⟨n, b, s⟩ := by
        unfold DS.fileOr findF
        rw [e, List.find?_cons_of_pos (by simp)]
        rfl
      rw [hf, e]
      unfold putF
      rw [if_pos rfl]
theorem gones_bytes {l : List E} {c : Nat} (h : ∀ e ∈ l, e.f0.size ≤ c) : ∀ r ∈ gones l 1, r.size ≤ 28 + c := by
  intro r hr
  obtain ⟨x, hx, rfl⟩ := List.mem_map.1 hr
  obtain ⟨y, hy, rfl⟩ := List.mem_map.1 hx
  rw [recG_size]
  have := h y (List.mem_of_mem_take hy)
  omega
theorem sizes_append (a b : List ByteArray) : Fr.sizes (a ++ b) = Fr.sizes a + Fr.sizes b := by
  induction a with
  | nil => simp [Fr.sizes]
  | cons x a ih => simp only [List.cons_append, Fr.sizes, ih]; omega
theorem putRecs_bytes {l : List E} {m : Int} {k u : ByteArray} {c : Nat} (hl : (l.length : Int) ≤ m) (hm : 1 ≤ m) (h : ∀ e ∈ l, e.f0.size ≤ c) (hc : c ≤ 65501) (hok : (recP k u).size ≤ 65536) : (Fr.putB (putRecs l m k u)).length ≤ 79 + c + k.size + u.size := by
  have hg := Good.of_put (m := m) hok (fun e he => Nat.le_trans (h e he) hc)
  rw [Fr.putB_length (fun s hs => (hg s hs).size)]
  unfold putRecs
  split
  · simp only [List.nil_append, List.length_singleton, Fr.sizes, recP_size]
    omega
  · have hov : over l m = 0 ∨ over l m = 1 := by unfold over; omega
    rcases hov with e | e
    · rw [e]
      show 8 * ([] ++ [recP k u] : List ByteArray).length + Fr.sizes ([] ++ [recP k u]) ≤ _
      simp only [List.nil_append, List.length_singleton, Fr.sizes, recP_size]
      omega
    · rw [e, List.length_append, sizes_append, List.length_singleton, gones_length]
      have h1 := sizes_le (gones_bytes h)
      rw [gones_length] at h1
      simp only [Fr.sizes, recP_size]
      have h2 : min 1 l.length ≤ 1 := Nat.min_le_left _ _
      have h3 : min 1 l.length * (28 + c) ≤ 1 * (28 + c) := Nat.mul_le_mul_right _ h2
      omega
theorem putE_ok {d : DS} {n : ByteArray} {R : Int} {c q : Nat} {m : Int} {l : List E} {k u : ByteArray} (h : One d n R c) (hn : nameOk n = true) (hl : (l.length : Int) ≤ m) (hm : 1 ≤ m) (hk : ∀ e ∈ l, e.f0.size ≤ q) (hq : q ≤ 65501) (hok : (recP k u).size ≤ 65536) (hX : (c + (79 + q + k.size + u.size) : Nat) ≤ R) {j : Int} (hu : d.Up j) :
    ∃ d', putE d n m l k u = (0, d', if getE l k = some u then l else putL l m k u) ∧ One d' n R (c + (79 + q + k.size + u.size)) ∧ d'.Up (j + 1) := by
  have hb := putRecs_bytes hl hm hk hq hok
  have hsh : Short l := fun e he => Nat.le_trans (hk e he) hq
  unfold putE
  rw [if_neg (by omega)]
  by_cases e : getE l k = some u
  · rw [if_pos e, if_pos e]
    refine ⟨d, rfl, ⟨h.down, h.fuse, h.room, ?_⟩, hu.more⟩
    rcases h.file with e | ⟨b, s, e, hb⟩
    · exact .inl e
    · exact .inr ⟨b, s, e, by omega⟩
  · rw [if_neg e, if_neg e]
    obtain ⟨h1, h2⟩ := h.append hn (X := Fr.putB (putRecs l m k u)) (by omega)
    unfold writeE
    rw [if_pos h1, stepAll_put hsh hm hok, h1]
    refine ⟨_, rfl, ⟨h2.down, h2.fuse, h2.room, ?_⟩, hu.append n (fun x hx => by have := Fr.byt_putB _ x hx; omega)⟩
    rcases h2.file with e | ⟨b, s, e, hb⟩
    · exact .inl e
    · exact .inr ⟨b, s, e, by omega⟩
theorem kN_ok : nameOk kN = true := by kernel_rfl
theorem new_rem {R : Int} : (new R).remove (draftN kN) = (5, new R) := by
  have ht : (new R).there (draftN kN) = 5 := by
    unfold DS.there
    rw [if_neg (by show ¬ (new R).ready (draftN kN) ≠ 0; unfold DS.ready; rw [if_neg (by show ¬ (false = true); decide), if_pos (by kernel_rfl)]; decide)]
    rfl
  unfold DS.remove
  rw [if_pos (by rw [ht]; decide), ht]
theorem new_read {R : Int} : (new R).read kN = ([], 5) := by
  have ht : (new R).there kN = 5 := by
    unfold DS.there
    rw [if_neg (by show ¬ (new R).ready kN ≠ 0; unfold DS.ready; rw [if_neg (by show ¬ (false = true); decide), if_pos kN_ok]; decide)]
    rfl
  unfold DS.read
  rw [if_pos (by rw [ht]; decide), ht]
theorem Open_new {w W : World} {S : Nat → Prop} {gd : Nat} {R m : Int} (h : Dev S w.heap.size W gd (new R)) (hB : w.heap.size ≤ W.heap.size) (hm : 1 ≤ m ∧ m ≤ 4096) : Calls Try.prog 10 #[.pointer (some ⟨gd, 0, none⟩), .string kN, .int .i64 m] W fun e W' => e = .returned (.tuple #[.pointer (some ⟨W.heap.size, 0, none⟩), .int .i64 0]) ∧ ∃ S1' S2', KD S1' S2' w.heap.size W' gd W.heap.size (new R) kN m [] ∧ Step S W (U S1' S2') W' :=
  Open_none h hB (DS.Up.new R) (by decide) ⟨by intro e; exact absurd (congrArg ByteArray.size e) (by decide), by decide⟩ hm (.inr rfl) new_rem new_read
def aT : ByteArray := ⟨#[97]⟩
def bT : ByteArray := ⟨#[98]⟩
def oneT : ByteArray := ⟨#[49]⟩
def twoT : ByteArray := ⟨#[50]⟩
theorem al1 : ∃ d', putE (new 1000) kN 1 [] aT oneT = (0, d', [⟨aT, oneT⟩]) ∧ One d' kN 1000 82 ∧ d'.Up 1 := by
  obtain ⟨d', h1, h2, h3⟩ := putE_ok (d := new 1000) (n := kN) (R := 1000) (c := 0) (q := 1) (m := 1) (l := []) (k := aT) (u := oneT) (One.new_ kN (by decide)) kN_ok (by decide) (by decide) (fun e he => by cases he) (by decide) (by rw [recP_size]; decide) (by decide) (DS.Up.new 1000)
  rw [if_neg (by intro e; cases e)] at h1
  exact ⟨d', h1, h2, h3⟩
theorem al2 {d : DS} (h : One d kN 1000 82) (hu : d.Up 1) : ∃ d', putE d kN 1 [⟨aT, oneT⟩] bT twoT = (0, d', [⟨bT, twoT⟩]) ∧ d'.Up 2 := by
  obtain ⟨d', h1, h2, h3⟩ := putE_ok (q := 1) (m := 1) (l := [⟨aT, oneT⟩]) (k := bT) (u := twoT) h kN_ok (by decide) (by decide) (fun e he => by rcases List.mem_singleton.1 he with rfl; decide) (by decide) (by rw [recP_size]; decide) (by decide) hu
  have hg : getE [⟨aT, oneT⟩] bT = none := by kernel_rfl
  rw [hg, if_neg (by intro e; cases e)] at h1
  exact ⟨d', h1, h3⟩
theorem al3 : getE [(⟨bT, twoT⟩ : E)] aT = none := by kernel_rfl
theorem al4 : getE [(⟨bT, twoT⟩ : E)] bT = some twoT := by kernel_rfl
theorem getK {S1 S2 : Nat → Prop} {B : Nat} {W : World} {gd g : Nat} {d : DS} {n : ByteArray} {m : Int} {l : List E} (h : KD S1 S2 B W gd g d n m l) (s : ByteArray) (hl : l.length ≤ 1048576) : Calls Try.prog 12 #[.pointer (some ⟨g, 0, none⟩), .string s] W fun e w' => e = .returned (.tuple #[.string ((getE l s).getD ⟨#[]⟩), .bool (getE l s).isSome]) ∧ Below W.heap.size W w' := by
  obtain ⟨v, hv⟩ := h.st.at_
  exact Get_Q hv s hl
set_option maxHeartbeats 4000000 in
set_option maxRecDepth 100000 in
theorem alive_Q (w : World) : Calls Try.prog 9 #[] w fun e w' => e = .returned (.bool true) ∧ Below w.heap.size w w' := by
  obtain ⟨d1, e1, ho1, u1⟩ := al1
  obtain ⟨d2, e2, u2⟩ := al2 ho1 u1
  have E1 := Aside0.mk e1
  have E2 := Aside0.mk e2
  have U1 := Aside0.mk u1
  clear e1 e2 u1 u2 ho1
  go_enter Try.func9, Try.ntmps9
  go_wp2_with (first
    | (go_at_call 11; refine (New_D w 1000).mono ?_; rintro e w1 ⟨gd, S0, rfl, hd, hb⟩; have HD := Aside0.mk hd; have HB := Aside0.mk hb; clear hd hb)
    | (go_at_call 10; refine (Open_new HD.out HB.out.size (by decide)).mono ?_; rintro e w2 ⟨rfl, S1, S2, hk, hs⟩; have HK := Aside0.mk hk; have HB2 := Aside0.mk (HB.out.trans (hs.only.toBelow HD.out.lo HB.out.size)); clear hk hs HD HB)
    | (go_at_call 13; refine (Put_K HK.out (DS.Up.new 1000) (by decide) (by decide) (by decide) (fun e he => by cases he) (key := aT) (val := oneT) (by decide)).mono ?_; rintro e w3 ⟨rfl, S1a, S2a, hk, hs⟩; rw [E1.out] at hk ⊢; have HK2 := Aside0.mk hk; have HB3 := Aside0.mk (HB2.out.trans (hs.only.toBelow (fun j hj => hj.elim (HK.out.dev.lo j) (HK.out.st.lo j)) HB2.out.size)); clear hk hs HK HB2)
    | (go_at_call 13; refine (Put_K HK2.out U1.out (by decide) (by decide) (by decide) (fun e he => by rcases List.mem_singleton.1 he with rfl; decide) (key := bT) (val := twoT) (by decide)).mono ?_; rintro e w4 ⟨rfl, S1b, S2b, hk, hs⟩; rw [E2.out] at hk ⊢; have HK3 := Aside0.mk hk; have HB4 := Aside0.mk (HB3.out.trans (hs.only.toBelow (fun j hj => hj.elim (HK2.out.dev.lo j) (HK2.out.st.lo j)) HB3.out.size)); clear hk hs HK2 HB3)
    | (go_at_call 12; refine (getK HK3.out aT (by decide)).mono ?_; rintro e w5 ⟨rfl, hb⟩; rw [al3]; have HK4 := Aside0.mk (HK3.out.below hb); have HB5 := Aside0.mk (HB4.out.trans (hb.mono HB4.out.size)); clear hb HK3 HB4)
    | (go_at_call 12; refine (getK HK4.out bT (by decide)).mono ?_; rintro e w6 ⟨rfl, hb⟩; rw [al4]; have HB6 := Aside0.mk (HB5.out.trans (hb.mono HB5.out.size)); clear hb HK4 HB5))
  go_ret
  exact ⟨by first | rfl | (simp; done) | (simp; rw [ba_toList]; rfl), HB6.out⟩
abbrev C5 : Type := S42
abbrev kC5 : Kd C5 := k42
instance : Inhabited C5 := ⟨z42⟩
theorem i64_wf {n : Int} (h : (Lit.int .i64 n).wf = true) : -9223372036854775808 ≤ n ∧ n ≤ 9223372036854775807 := by
  simp only [Lit.wf, IntKind.min, IntKind.max, IntKind.signed, IntKind.bits, Bool.and_eq_true] at h
  simp at h
  omega
structure Script (W : World) (A : Option Addr) (n c : Nat) (l : List C5) : Prop where
  len : n = l.length
  C : Kd.C kC5 W A l.length l
  cap : l.length ≤ c
  few : l.length ≤ 140737488351232
  hi : ∀ x ∈ l, x.f4 ≤ 9223372036854775807
  s1 : ∀ x ∈ l, x.f1.size ≤ 140737488351232
  s2 : ∀ x ∈ l, x.f2.size ≤ 140737488351232
theorem call_opens {H : Type} {enc : TypeId × Value → H} {W : World} {base : Nat} {held : Bool} : YtclkcipakncjkaaOp.Opens enc Try.prog W base held 42 kC5
    (fun x => (Lit.int .i64 x.f0).wf = true ∧ x.f1.size ≤ maxLen ∧ x.f2.size ≤ maxLen ∧ (Lit.int .i64 x.f3).wf = true ∧ (Lit.int .i64 x.f4).wf = true ∧ (Lit.int .i64 x.f5).wf = true ∧ True)
    (fun x => [] ++ ([x.f1.size] ++ ([x.f2.size] ++ ([] ++ ([] ++ ([] ++ [])))))) := by
  have h := YtclkcipakncjkaaOp.Opens.struct (enc := enc) (W := W) (base := base) (held := held) Try.underlying42 (by kernel_rfl) (.cons rfl (by kernel_rfl) (.int Try.underlying3) (.cons rfl (by kernel_rfl) (.string Try.underlying9) (.cons rfl (by kernel_rfl) (.string Try.underlying9) (.cons rfl (by kernel_rfl) (.int Try.underlying3)
    (.cons rfl (by kernel_rfl) (.int Try.underlying3) (.cons rfl (by kernel_rfl) (.int Try.underlying3) (.one rfl (by kernel_rfl) (.bool Try.underlying4))))))))
  exact YtclkcipakncjkaaOp.Opens.iso (fun x : C5 => (x.f0, x.f1, x.f2, x.f3, x.f4, x.f5, x.f6)) (fun p => ⟨p.1, p.2.1, p.2.2.1, p.2.2.2.1, p.2.2.2.2.1, p.2.2.2.2.2.1, p.2.2.2.2.2.2⟩) (fun _ => rfl) h
theorem script_arg {H : Type} {enc : TypeId × Value → H} {W : World} {base : Nat} {held : Bool} {a : Option Addr} {len cap : Nat} {x : DataW H} {ps : List MemPlace} {ts : List TypeId} {ds : List (DataW H)} {j : Nat}
    (hs : (DataW.weightsEach Try.prog ts ds).all (· ≤ reachBytes) = true) (hj : ts[j]? = some 35) (hd : ds[j]? = some x)
    (h : DataW.Trod enc Try.prog W base (fun _ => true) held 35 (.slice a len cap) x ps) : ∃ l, Script W a len cap l := by
  obtain ⟨l, e, hC, hc, hok, hf, hm⟩ := YtclkcipakncjkaaOp.slice_arg hs hj hd Try.underlying35 (by kernel_rfl) call_opens h
  have hb : Try.prog.bytesOf 42 = 72 := by kernel_rfl
  rw [hb] at hf
  refine ⟨l, e, hC, hc, by omega, fun y hy => ?_, fun y hy => hm y hy _ ?_, fun y hy => hm y hy _ ?_⟩
  · exact (i64_wf (hok y hy).2.2.2.2.1).2
  · simp
  · simp
def tot : List C5 → Nat
  | [] => 0
  | x :: l => x.f1.size + x.f2.size + tot l
theorem gq1 {a b : Nat} (h1 : a ≤ 140737488351232) (h2 : b ≤ 140737488351232) : wrap64 ((a : Int) + (b : Int)) = ((a + b : Nat) : Int) := by rw [w64 (by omega) (by omega)]; omega
theorem gq2 {n a : Nat} (h1 : n ≤ 4096) (h2 : a ≤ 281474976702464) : wrap64 ((n : Int) + (a : Int)) = ((n + a : Nat) : Int) := by rw [w64 (by omega) (by omega)]; omega
theorem great_l0 (l : List C5) (h1 : ∀ x ∈ l, x.f1.size ≤ 140737488351232) (h2 : ∀ x ∈ l, x.f2.size ≤ 140737488351232) (hl : l.length ≤ 140737488351232) :
    ∀ (k i n : Nat), i ≤ l.length → l.length - i < k → n ≤ 4096 →
      ∃ r, seichelaw05_great.l0 k l (n : Int) l (l.length : Int) (i : Int) = some r ∧ (r = false → n + tot (l.drop i) ≤ 4096 ∧ l.length ≤ 60)
  | 0, i, n, _, hk, _ => absurd hk (Nat.not_lt_zero _)
  | k + 1, i, n, hi, hk, hn => by
    unfold seichelaw05_great.l0
    by_cases c : i < l.length
    · have hr : rd_T42 l (i : Int) = l[i]'c := by unfold rd_T42; rw [Int.toNat_natCast, List.getD_eq_getElem?_getD, List.getElem?_eq_getElem c]; rfl
      have hm : l[i]'c ∈ l := List.getElem_mem c
      rw [if_pos (by omega), if_pos (by omega), if_pos (by omega), hr, List.drop_eq_getElem_cons c]
      have e1 := h1 _ hm
      have e2 := h2 _ hm
      simp only [tot]
      obtain ⟨x, hxe⟩ : ∃ x, x = l[i]'c := ⟨_, rfl⟩
      rw [← hxe] at e1 e2 ⊢
      rw [gq1 e1 e2, gq2 hn (by omega)]
      by_cases c2 : ((n + (x.f1.size + x.f2.size) : Nat) : Int) > 4096
      · rw [if_pos c2]
        exact ⟨true, rfl, fun h => nomatch h⟩
      · rw [if_neg c2, w64 (x := (i : Int) + 1) (by omega) (by omega)]
        obtain ⟨r, hr1, hr2⟩ := great_l0 l h1 h2 hl k (i + 1) (n + (x.f1.size + x.f2.size)) c (by omega) (by omega)
        refine ⟨r, hr1, fun h => ?_⟩
        have := hr2 h
        omega
    · rw [if_neg (by omega)]
      refine ⟨_, rfl, fun h => ?_⟩
      have h3 := of_decide_eq_false h
      rw [List.drop_of_length_le (by omega)]
      simp only [tot]
      omega
theorem Script.at_ {W w : World} {A : Option Addr} {n c : Nat} {l : List C5} (h : Script W A n c l) (hb : Below W.heap.size W w) {j : Nat} (hj : j < l.length) : ∃ ad : Addr, A = some ad ∧ w.cell? (ad.add (j * 7)) = some (.int .i64 (l[j]).f0) ∧ w.cell? ⟨(ad.add (j * 7)).block, (ad.add (j * 7)).off + 1, none⟩ = some (.string (l[j]).f1) ∧ w.cell? ⟨(ad.add (j * 7)).block, (ad.add (j * 7)).off + 2, none⟩ = some (.string (l[j]).f2) ∧ w.cell? ⟨(ad.add (j * 7)).block, (ad.add (j * 7)).off + 3, none⟩ = some (.int .i64 (l[j]).f3) ∧ w.cell? ⟨(ad.add (j * 7)).block, (ad.add (j * 7)).off + 4, none⟩ = some (.int .i64 (l[j]).f4) ∧ w.cell? ⟨(ad.add (j * 7)).block, (ad.add (j * 7)).off + 5, none⟩ = some (.int .i64 (l[j]).f5) ∧ w.cell? ⟨(ad.add (j * 7)).block, (ad.add (j * 7)).off + 6, none⟩ = some (.bool (l[j]).f6) := by
  obtain ⟨ad, e, h0⟩ := at_T42 (Kd.C_below h.C hb) (j : Int) (by omega) (by omega)
  rw [show rd_T42 l (j : Int) = l[j] by unfold rd_T42; rw [Int.toNat_natCast, List.getD_eq_getElem?_getD, List.getElem?_eq_getElem hj]; rfl, Int.toNat_natCast] at h0
  exact ⟨ad, e, h0⟩
theorem kN_nm : Nm kN := ⟨by kernel_rfl, by kernel_rfl, fun e => absurd (congrArg ByteArray.size e) (by decide), fun e => absurd (congrArg ByteArray.size e) (by decide), by decide⟩
theorem doesS_up {d : DS} {k : Int} (u : d.Up k) (n : ByteArray) (m : Int) (l : List E) (kind : Int) (key val : ByteArray) (N : Int) : (doesS d n m l kind key val N).2.1.Up (k + 3) := by
  have hb : ∀ rs : List ByteArray, ∀ x ∈ Fr.putB rs, 0 ≤ x ∧ x ≤ 255 := fun rs x hx => by have := Fr.byt_putB rs x hx; omega
  have h0 : d.Up (k + 3) := u.mono (by omega)
  have hw : ∀ rs, (writeE d n l rs).2.1.Up (k + 3) := fun rs => (u.append n (hb rs)).mono (by omega)
  rw [doesS_run]
  cases planOf l m kind key val N with
  | ret e => exact h0
  | wr rs => exact hw rs
  | sync => exact (u.sync n).mono (by omega)
  | comp =>
    show (compactE d n l).2.Up (k + 3)
    unfold compactE
    split
    · exact (u.append _ (hb _)).mono (by omega)
    · split
      · exact ((u.append _ (hb _)).sync _).mono (by omega)
      · exact (((u.append _ (hb _)).sync _).rename _ _).mono (by omega)
theorem box_seven {W W6 : World} {gb : Nat} {u0 u1 u2 u3 u4 u5 u6 : Value} (h : W6.heap[gb]? = some (.cells #[u0, u1, u2, u3, u4, u5, u6] 42 (0, 0))) (hg : W.heap.size ≤ gb) (hb : Below W.heap.size W W6) (v0 v1 v2 v3 v4 v5 v6 : Value) :
    (((((((W6.setCell ⟨gb, 0, none⟩ v0).setCell ⟨gb, 1, none⟩ v1).setCell ⟨gb, 2, none⟩ v2).setCell ⟨gb, 3, none⟩ v3).setCell ⟨gb, 4, none⟩ v4).setCell ⟨gb, 5, none⟩ v5).setCell ⟨gb, 6, none⟩ v6).heap[gb]? = some (.cells #[v0, v1, v2, v3, v4, v5, v6] 42 (0, 0)) ∧ Below W.heap.size W (((((((W6.setCell ⟨gb, 0, none⟩ v0).setCell ⟨gb, 1, none⟩ v1).setCell ⟨gb, 2, none⟩ v2).setCell ⟨gb, 3, none⟩ v3).setCell ⟨gb, 4, none⟩ v4).setCell ⟨gb, 5, none⟩ v5).setCell ⟨gb, 6, none⟩ v6) := by
  refine ⟨?_, below_set (below_set (below_set (below_set (below_set (below_set (below_set hb hg) hg) hg) hg) hg) hg) hg⟩
  rw [blk_set (blk_set (blk_set (blk_set (blk_set (blk_set (blk_set h 0 v0) 1 v1) 2 v2) 3 v3) 4 v4) 5 v5) 6 v6]
  simp only [List.setIfInBounds_toArray, List.set_cons_zero, List.set_cons_succ]
section
variable {w : World} {m : Int} {gd : Nat} {s t : ByteArray}
set_option maxHeartbeats 4000000
set_option maxRecDepth 100000
end
structure DI (R m k : Int) (d : DS) (l : List E) (z : Int) : Prop where
  q : Quiet d R
  f : ∃ rs, StF d kN rs l ∧ z = ((Fr.putB rs).length : Int)
  sz : Dk.sizes d.files = z
  lf : LF l m
  up : d.Up k
theorem tot_le {l : List C5} {x : C5} (h : x ∈ l) : x.f1.size + x.f2.size ≤ tot l := by
  induction l with
  | nil => cases h
  | cons y r ih =>
    simp only [tot]
    rcases List.mem_cons.1 h with rfl | h
    · omega
    · have := ih h
      omega
section
variable {R m k z : Int} {d : DS} {l : List E}
theorem DI.new (hR : 0 ≤ R ∧ R ≤ 1048576) (hm : 1 ≤ m) : DI R m 0 (Dk.new R) [] 0 := ⟨Quiet.new hR, ⟨[], StF.new kN, rfl⟩, rfl, LF.nil hm, DS.Up.new R⟩
theorem DI.z0 (h : DI R m k d l z) : 0 ≤ z ∧ z ≤ R := by
  have h1 := h.q.le
  have h2 := sizes_nonneg d.files
  rw [h.sz] at h1 h2
  exact ⟨h2, h1⟩
theorem DI.fine (h : DI R m k d l z) (hR : R ≤ 1048576) (hm : 1 ≤ m ∧ m ≤ 4096) (hk : k < 4611686018427380000) : Fine d kN m l z k := ⟨h.up, hk, h.lf.kn, h.lf.fit, by have := h.lf.len; omega, hm, by decide, by have := h.z0; omega⟩
theorem DI.next (h : DI R m k d l z) (hm : 1 ≤ m) (kind : Int) (key val : ByteArray) (N : Int) : ∃ er d' l' z', doesS d kN m l kind key val N = (er, d', l') ∧ doesR l m z kind key val N (R - z) = (er, l', z') ∧ DI R m (k + 3) d' l' z' := by
  obtain ⟨rs, f, hz⟩ := h.f
  obtain ⟨d', rs', h1, h2, h3, h4, h5, h6⟩ := run_quiet (z := z) h.q f kN_nm h.lf.fit (plan_good (m := m) (kind := kind) (key := key) (val := val) (N := N) h.lf.fit) hz
  rw [h.sz] at h1 h3 h4 h5
  rw [← doesS_run, ← doesR_run] at h1
  rw [← doesR_run] at h3 h4
  have hu := doesS_up h.up kN m l kind key val N
  rw [h1] at hu
  have hlf : LF (doesR l m z kind key val N (R - z)).2.1 m := h.lf.run hm kind key val N _
  obtain ⟨er, l', z', hR⟩ : ∃ er l' z', doesR l m z kind key val N (R - z) = (er, l', z') := ⟨_, _, _, rfl⟩
  rw [hR] at h1 h3 h4 hlf
  refine ⟨er, d', l', z', h1, hR, h2, ⟨rs', h3, h4⟩, ?_, hlf, hu⟩
  have h4 : z' = ((Fr.putB rs').length : Int) := h4
  rw [h4]
  omega
theorem DI.draft (h : DI R m k d l z) : d.read (draftN kN) = ([], 5) := by
  obtain ⟨rs, f, _⟩ := h.f
  exact h.q.read_none kN_nm.dok f.draft
theorem DI.free (h : DI R m k d l z) : d.free = R - z := by rw [h.q.free, h.sz]
end
section
variable {S1 S2 S3 S1' S2' : Nat → Prop} {B : Nat} {W W' : World} {gd g g' gm : Nat} {d d' : DS} {n : ByteArray} {m mm z k x y free kind N fuse keep : Int} {torn : Bool} {l l' ml ml' : List E} {z' : Int} {key val : ByteArray}
theorem does_D (h : KDM S1 S2 S3 B W gd g gm d n m l m l z) (f : Fine d n m l z k) (hsz : key.size + val.size ≤ 274877906944) (hS : doesS d n m l kind key val N = (x, d', l')) (hR : doesR l m z kind key val N free = (y, ml', z')) : Calls Try.prog 16 #[.pointer (some ⟨g, 0, none⟩), .pointer (some ⟨gm, 0, none⟩), .agg #[.int .i64 kind, .string key, .string val, .int .i64 N, .int .i64 fuse, .int .i64 keep, .bool torn], .int .i64 free] W fun e W' => e = .returned (.tuple #[.int .i64 x, .int .i64 y]) ∧ ∃ S1' S2', KDM S1' S2' S3 B W' gd g gm d' n m l' m ml' z' ∧ Step (U (U S1 S2) (At1 gm)) W (U (U S1' S2') (At1 gm)) W' := by
  have := does_Q (kind := kind) (key := key) (val := val) (N := N) (fuse := fuse) (keep := keep) (torn := torn) (free := free) h f hsz
  rw [hS, hR] at this
  exact this
theorem KDM.open_ (h : KDM S1 S2 S3 B W gd g gm d n m l mm ml z) (hk : KD S1' S2' B W' gd g' d' n m l') (st : Step S1 W (U S1' S2') W') : KDM S1' S2' S3 B W' gd g' gm d' n m l' mm ml z ∧ Step (U (U S1 S2) S3) W (U (U S1' S2') S3) W' := by
  have st2 : Step (U S1 S2) W (U S1' S2') W' := ⟨st.only.mono (fun _ hk => .inl hk), fun k hk => (st.sub k hk).elim (fun h => .inl (.inl h)) .inr⟩
  have h1 : Step (U (U S1 S2) S3) W (U (U S1' S2') S3) W' := Step.left st2
  have h2 : ∀ k, U S1' S2' k → ¬ S3 k := fun k hk h3 => Step.disj st2 (fun k h3 hk => h.dis k hk h3) h.hi k h3 hk
  exact ⟨⟨hk, h.ms.step h1 (st2.only.block gm h.ms.lt (fun hk => h.dis gm hk h.own)) (.inr h.own), h.own, h2, fun k hk => Nat.lt_of_lt_of_le (h.hi k hk) st2.only.size, h.lo⟩, Step.left st2⟩
theorem KDM.make (h : KD S1 S2 B W gd g d n m l) (hb : Below W.heap.size W W') {gm : Nat} (hg : W'.heap[gm]? = some (.cells (mCells mm (.slice none 0 0) 0) 40 (0, 0))) (hl : W.heap.size ≤ gm) : KDM S1 S2 (At1 gm) B W' gd g gm d n m l mm [] 0 := by
  refine ⟨h.below hb, ⟨⟨none, 0, Nat.le_refl _, hg, Kd.F_nil _ _ _⟩, .inr rfl⟩, rfl, fun k hk e => ?_, fun k e => ?_, fun k e => ?_⟩
  · subst e
    exact hk.elim (fun hk => absurd (h.dev.hi _ hk) (Nat.not_lt.2 hl)) (fun hk => absurd (h.st.hi _ hk) (Nat.not_lt.2 hl))
  · subst e
    exact blk_lt hg
  · subst e
    exact Nat.le_trans h.size hl
theorem KDM.cell1 (h : KDM S1 S2 S3 B W gd g gm d n m l mm ml z) : ∃ A c q, q = ml.length ∧ ml.length ≤ c ∧ Kd.C kE W A ml.length ml ∧ W.cell? ⟨gm, 1, none⟩ = some (.slice A q c) := by
  obtain ⟨A, c, hc, hb, he⟩ := h.ms.at_
  exact ⟨A, c, _, rfl, hc, he.C, (blk_cell hb 1).trans rfl⟩
end
theorem great_R (w : World) {W : World} {A : Option Addr} {n c : Nat} {l : List C5} (h : Script W A n c l) : ∃ r, (r = false → tot l ≤ 4096 ∧ l.length ≤ 60) ∧ ∀ w, Below W.heap.size W w → Calls Try.prog 15 #[.slice A n c] w fun e w' => e = .returned (.bool r) ∧ Below w.heap.size w w' := by
  obtain ⟨r, hr1, hr2⟩ := great_l0 l h.s1 h.s2 h.few (l.length + 1) 0 0 (Nat.zero_le _) (by omega) (by omega)
  have hn := h.len
  subst hn
  refine ⟨r, fun h => ?_, fun w hb => ?_⟩
  · have := hr2 h
    rw [List.drop_zero] at this
    omega
  · exact seichelaw05_great.calls (l.length + 1) A c l r w (Kd.C_below h.C hb) h.cap hr1
section
variable {w : World} {A : Option Addr} {n c : Nat} {sc : List C5} {R m : Int}
end
def PL (l : List E) : Nat := (l.map fun e => 36 + e.f0.size).sum
def QL (l : List E) : Nat := (l.map fun e => 79 + 2 * e.f0.size + e.f1.size).sum
theorem PL_append (a b : List E) : PL (a ++ b) = PL a + PL b := by unfold PL; rw [List.map_append, List.sum_append]
theorem QL_append (a b : List E) : QL (a ++ b) = QL a + QL b := by unfold QL; rw [List.map_append, List.sum_append]
theorem PL_split (l : List E) (i : Nat) : PL (l.take i) + PL (l.drop i) = PL l := by rw [← PL_append, List.take_append_drop]
theorem QL_split (l : List E) (i : Nat) : QL (l.take i) + QL (l.drop i) = QL l := by rw [← QL_append, List.take_append_drop]
theorem erase_le (l : List E) (i : Nat) : PL (l.eraseIdx i) ≤ PL l ∧ QL (l.eraseIdx i) ≤ QL l := by
  rw [List.eraseIdx_eq_take_drop_succ, PL_append, QL_append]
  have h1 := PL_split l i
  have h2 := QL_split l i
  have h3 := PL_split (l.drop i) 1
  have h4 := QL_split (l.drop i) 1
  rw [List.drop_drop] at h3 h4
  omega
theorem drop_le (l : List E) (s : ByteArray) : PL (dropE l s) ≤ PL l ∧ QL (dropE l s) ≤ QL l := by
  unfold dropE
  split
  · exact erase_le l _
  · exact ⟨Nat.le_refl _, Nat.le_refl _⟩
theorem gones_size {l : List E} (h : Short l) (j : Nat) : (Fr.putB (gones l j)).length = PL (l.take j) := by
  have hg := Good.gones h j
  have h0 : ∀ l : List E, Fr.sizes ((keysE l).map recG) + 8 * ((keysE l).map recG).length = PL l := by
    intro l
    induction l with
    | nil => rfl
    | cons e r ih =>
      unfold keysE PL at ih ⊢
      simp only [List.map_cons, Fr.sizes, List.length_cons, List.sum_cons, recG_size] at ih ⊢
      omega
  rw [Fr.putB_length (fun r hr => (hg r hr).size)]
  have := h0 (l.take j)
  unfold gones
  omega
theorem all_size {l : List E} (h : Fit l) : (Fr.putB (allRecs l)).length + PL l = QL l := by
  have hg := Good.all h
  have h0 : ∀ l : List E, Fr.sizes (allRecs l) + 8 * (allRecs l).length + PL l = QL l := by
    intro l
    induction l with
    | nil => rfl
    | cons e r ih =>
      unfold allRecs PL QL at ih ⊢
      simp only [List.map_cons, Fr.sizes, List.length_cons, List.sum_cons, recP_size] at ih ⊢
      omega
  rw [Fr.putB_length (fun r hr => (hg r hr).size)]
  have := h0 l
  omega
theorem one_size {k u : ByteArray} (h : (recP k u).size ≤ 65536) : (Fr.putB [recP k u]).length = 43 + k.size + u.size := by
  rw [Fr.putB_length (fun r hr => by rcases List.mem_singleton.1 hr with rfl; exact h)]
  simp only [List.length_singleton, Fr.sizes, recP_size]
  omega
def Bud (rs : List ByteArray) (T : Nat) : Prop := ∀ i, i ≤ rs.length → (Fr.putB (rs.take i)).length + PL (stepAll [] (rs.take i)) ≤ T ∧ QL (stepAll [] (rs.take i)) ≤ T
section
variable {rs : List ByteArray} {l : List E} {T : Nat}
theorem Bud.nil (T : Nat) : Bud [] T := fun i hi => by
  have : i = 0 := Nat.le_zero.1 hi
  subst this
  exact ⟨Nat.zero_le _, Nat.zero_le _⟩
theorem Bud.mono {T' : Nat} (h : Bud rs T) (hT : T ≤ T') : Bud rs T' := fun i hi => ⟨Nat.le_trans (h i hi).1 hT, Nat.le_trans (h i hi).2 hT⟩
theorem Bud.all (h : Bud rs T) (hl : stepAll [] rs = l) : (Fr.putB rs).length + PL l ≤ T ∧ QL l ≤ T := by
  have := h rs.length (Nat.le_refl _)
  rw [List.take_length, hl] at this
  exact this
theorem Bud.take (h : Bud rs T) (j : Nat) : Bud (rs.take j) T := fun i hi => by
  rw [List.length_take] at hi
  rw [List.take_take]
  exact h _ (by omega)
theorem gones_take (l : List E) (j a : Nat) (h : a ≤ j) : (gones l j).take a = gones l a := by
  unfold gones keysE
  rw [← List.map_take, ← List.map_take, List.take_take, Nat.min_eq_left h]
theorem Bud.append {rs2 : List ByteArray} (h : Bud rs T) (h2 : ∀ a, a ≤ rs2.length → (Fr.putB rs).length + (Fr.putB (rs2.take a)).length + PL (stepAll (stepAll [] rs) (rs2.take a)) ≤ T ∧ QL (stepAll (stepAll [] rs) (rs2.take a)) ≤ T) : Bud (rs ++ rs2) T := fun i hi => by
  rcases Nat.le_total i rs.length with c | c
  · rw [List.take_append_of_le_length c]
    exact h i c
  · obtain ⟨a, rfl⟩ : ∃ a, i = rs.length + a := ⟨i - rs.length, by omega⟩
    rw [List.length_append] at hi
    rw [List.take_append, List.take_of_length_le (by omega), putB_append, List.length_append, stepAll_append]
    rw [show rs.length + a - rs.length = a by omega]
    exact h2 a (by omega)
theorem Bud.gones (h : Bud rs T) (hl : stepAll [] rs = l) (hs : Short l) (j : Nat) (hj : j ≤ l.length) : Bud (rs ++ gones l j) T := by
  have ht := h.all hl
  refine h.append (fun a ha => ?_)
  rw [gones_length] at ha
  rw [hl, gones_take l j a (by omega), stepAll_gones2 hs a (by omega), gones_size hs]
  have h1 := PL_split l a
  have h2 := QL_split l a
  omega
theorem Bud.put (h : Bud rs T) (hl : stepAll [] rs = l) {k u : ByteArray} (hok : (recP k u).size ≤ 65536) : Bud (rs ++ [recP k u]) (T + (79 + 2 * k.size + u.size)) := by
  have ht := h.all hl
  refine (h.mono (Nat.le_add_right _ _)).append (fun a ha => ?_)
  rw [hl]
  rw [List.length_singleton] at ha
  rcases Nat.le_one_iff_eq_zero_or_eq_one.1 ha with rfl | rfl
  · show (Fr.putB rs).length + 0 + PL l ≤ _ ∧ QL l ≤ _
    omega
  · show (Fr.putB rs).length + (Fr.putB [recP k u]).length + PL (stepE l (recP k u)) ≤ _ ∧ QL (stepE l (recP k u)) ≤ _
    rw [one_size hok]
    unfold stepE
    rw [doneE_recP l (by omega), Option.getD_some, PL_append, QL_append]
    have h1 := drop_le l k
    have h2 : PL [(⟨k, u⟩ : E)] = 36 + k.size := by unfold PL; simp
    have h3 : QL [(⟨k, u⟩ : E)] = 79 + 2 * k.size + u.size := by unfold QL; simp
    rw [h2, h3]
    omega
theorem Fit.take {l : List E} (h : Fit l) (i : Nat) : Fit (l.take i) := fun e he => h e (List.mem_of_mem_take he)
theorem KN.take {l : List E} (h : KN l) (j : Nat) : KN (l.take j) := by
  unfold KN at h ⊢
  exact List.Nodup.sublist (List.Sublist.map _ (List.take_sublist j l)) h
theorem stepAll_all' {l : List E} (hf : Fit l) (hk : KN l) : stepAll [] (allRecs l) = l := by
  have := stepAll_all l [] hf (by rw [List.nil_append]; exact hk)
  rw [List.nil_append] at this
  exact this
theorem Bud.compact (hf : Fit l) (hk : KN l) (hT : QL l ≤ T) : Bud (allRecs l) T := fun i hi => by
  have e : (allRecs l).take i = allRecs (l.take i) := by unfold allRecs; rw [List.map_take]
  rw [e, stepAll_all' (hf.take i) (hk.take i)]
  have h1 := all_size (hf.take i)
  have h2 := QL_split l i
  omega
end
def costC (kind : Int) (key val : ByteArray) : Nat := if kind = 0 then 79 + 2 * key.size + val.size else 0
def recsP (rs : List ByteArray) (l : List E) : Plan → List ByteArray
  | .wr rs2 => rs ++ rs2
  | .comp => allRecs l
  | _ => rs
theorem Bud.plan {rs : List ByteArray} {l : List E} {T : Nat} {m kind N : Int} {key val : ByteArray} (h : Bud rs T) (hl : stepAll [] rs = l) (hlf : LF l m) : Bud (recsP rs l (planOf l m kind key val N)) (T + costC kind key val) ∧ needP l (planOf l m kind key val N) ≤ ((T + costC kind key val : Nat) : Int) := by
  have h0 := h.mono (Nat.le_add_right T (costC kind key val))
  have hz : (0 : Int) ≤ ((T + costC kind key val : Nat) : Int) := Int.natCast_nonneg _
  have hw : ∀ rs2, Bud (rs ++ rs2) (T + costC kind key val) → ((Fr.putB rs2).length : Int) ≤ ((T + costC kind key val : Nat) : Int) := fun rs2 hb => by
    have := (hb.all rfl).1
    rw [putB_append, List.length_append] at this
    omega
  unfold planOf
  by_cases c0 : kind = 0
  · rw [if_pos c0]
    have hc : costC kind key val = 79 + 2 * key.size + val.size := by unfold costC; rw [if_pos c0]
    by_cases c1 : 65536 < (recP key val).size
    · rw [if_pos c1]; exact ⟨h0, hz⟩
    rw [if_neg c1]
    by_cases c2 : getE l key = some val
    · rw [if_pos c2]; exact ⟨h0, hz⟩
    rw [if_neg c2]
    have hb : Bud (rs ++ putRecs l m key val) (T + costC kind key val) := by
      unfold putRecs
      rw [hc]
      split
      · rw [List.nil_append]
        exact h.put hl (Nat.not_lt.1 c1)
      · rw [← List.append_assoc]
        exact (h.gones hl hlf.fit.short (min (over l m) l.length) (Nat.min_le_right _ _) |> fun hb => by
          have e : Kv.gones l (min (over l m) l.length) = Kv.gones l (over l m) := by
            unfold Kv.gones keysE
            rcases Nat.le_total (over l m) l.length with c | c
            · rw [Nat.min_eq_left c]
            · rw [Nat.min_eq_right c, List.take_of_length_le (Nat.le_refl _), List.take_of_length_le c]
          rw [e] at hb
          exact hb.put rfl (Nat.not_lt.1 c1))
    exact ⟨hb, hw _ hb⟩
  rw [if_neg c0]
  by_cases c1 : kind = 1
  · rw [if_pos c1]
    by_cases c2 : N < 0
    · rw [if_pos c2]; exact ⟨h0, hz⟩
    rw [if_neg c2]
    by_cases c3 : min N.toNat l.length = 0
    · rw [if_pos c3]; exact ⟨h0, hz⟩
    rw [if_neg c3]
    have hb := (h.gones hl hlf.fit.short _ (Nat.min_le_right N.toNat l.length)).mono (Nat.le_add_right T (costC kind key val))
    exact ⟨hb, hw _ hb⟩
  rw [if_neg c1]
  by_cases c2 : kind = 2
  · rw [if_pos c2]; exact ⟨h0, hz⟩
  rw [if_neg c2]
  by_cases c3 : kind = 3
  · rw [if_pos c3]
    have hq := (h0.all hl).2
    have h1 := all_size hlf.fit
    refine ⟨Bud.compact hlf.fit hlf.kn hq, ?_⟩
    show ((Fr.putB (allRecs l)).length : Int) ≤ _
    omega
  rw [if_neg c3]
  exact ⟨h0, hz⟩
def costL : List C5 → Nat
  | [] => 0
  | x :: l => costC x.f0 x.f1 x.f2 + costL l
theorem costL_append (a b : List C5) : costL (a ++ b) = costL a + costL b := by
  induction a with
  | nil => simp [costL]
  | cons x a ih => simp only [List.cons_append, costL, ih]; omega
theorem costL_le (l : List C5) : costL l ≤ 79 * l.length + 2 * tot l := by
  induction l with
  | nil => exact Nat.le_refl _
  | cons x l ih =>
    simp only [costL, tot, List.length_cons]
    have : costC x.f0 x.f1 x.f2 ≤ 79 + 2 * x.f1.size + 2 * x.f2.size := by unfold costC; split <;> omega
    omega
theorem costL_step {l : List C5} {j : Nat} (hj : j < l.length) : costL (l.take (j + 1)) = costL (l.take j) + costC (l[j]).f0 (l[j]).f1 (l[j]).f2 := by
  rw [List.take_succ_eq_append_getElem hj, costL_append]
  simp [costL]
theorem costL_take (l : List C5) (j : Nat) : costL (l.take j) ≤ costL l := by
  have := costL_append (l.take j) (l.drop j)
  rw [List.take_append_drop] at this
  omega
theorem costL_12 {l : List C5} (h : tot l ≤ 4096 ∧ l.length ≤ 60) (j : Nat) : costL (l.take j) ≤ 12932 := by
  have h1 := costL_take l j
  have h2 := costL_le l
  omega
section
variable {d : DS} {R m z free : Int} {n : ByteArray} {rs0 : List ByteArray} {l : List E}
theorem run_room (h : Quiet d R) (f : StF d n rs0 l) (nm : Nm n) (hft : Fit l) {p : Plan} (hg : ∀ rs, p = .wr rs → ∀ r ∈ rs, Good r) (h1 : needP l p ≤ R - Dk.sizes d.files) (h2 : needP l p ≤ free) :
    ∃ er d', runS d n l p = (er, d', listP l p) ∧ runR l ((Fr.putB rs0).length : Int) free p = (er, listP l p, ((Fr.putB (recsP rs0 l p)).length : Int)) ∧ Quiet d' R ∧ StF d' n (recsP rs0 l p) (listP l p) ∧ Dk.sizes d'.files = Dk.sizes d.files - ((Fr.putB rs0).length : Int) + ((Fr.putB (recsP rs0 l p)).length : Int) ∧ (∀ t, t ≠ n → t ≠ draftN n → findF d'.files t = findF d.files t) ∧ (p = .sync ∨ p = .comp → ∀ x, findF d'.files n = some x → x.safe = x.b.length) := by
  cases p with
  | ret e => exact ⟨e, d, rfl, rfl, h, f, by show _ = Dk.sizes d.files - _ + ((Fr.putB rs0).length : Int); omega, fun _ _ _ => rfl, fun e => e.elim (fun e => nomatch e) (fun e => nomatch e)⟩
  | wr rs =>
    have h1 : ((Fr.putB rs).length : Int) ≤ R - Dk.sizes d.files := h1
    have h2 : ((Fr.putB rs).length : Int) ≤ free := h2
    obtain ⟨d', a1, a2, a3, a4, a5⟩ := wr_q h f nm (hg rs rfl) (by omega)
    refine ⟨0, d', a1, ?_, a2, a3, ?_, fun t ht _ => a5 t ht, fun e => e.elim (fun e => nomatch e) (fun e => nomatch e)⟩
    · show writeR l _ rs free = (0, stepAll l rs, ((Fr.putB (rs0 ++ rs)).length : Int))
      unfold writeR
      rw [if_neg (by omega), putB_append, List.length_append, Int.natCast_add]
    · show _ = _ - _ + ((Fr.putB (rs0 ++ rs)).length : Int)
      rw [a4, putB_append, List.length_append]
      omega
  | sync =>
    obtain ⟨d', a1, a2, a3, a4, a5, a6⟩ := sync_q h f nm
    refine ⟨0, d', ?_, rfl, a2, a3, ?_, fun t ht _ => a5 t ht, fun _ => a6⟩
    · show ((syncE d n).1, (syncE d n).2, l) = _
      rw [a1]
      rfl
    · show _ = Dk.sizes d.files - _ + ((Fr.putB rs0).length : Int)
      rw [a4]
      omega
  | comp =>
    have h1 : ((Fr.putB (allRecs l)).length : Int) ≤ R - Dk.sizes d.files := h1
    have h2 : ((Fr.putB (allRecs l)).length : Int) ≤ free := h2
    obtain ⟨d', a1, a2, a3, a4, a5, a6⟩ := comp_q h f nm hft (by omega)
    refine ⟨0, d', ?_, ?_, a2, a3, a4, a5, fun _ => a6⟩
    · show ((compactE d n l).1, (compactE d n l).2, l) = _
      rw [a1]
      rfl
    · show ((compactR l _ free).1, l, (compactR l _ free).2) = (0, l, ((Fr.putB (allRecs l)).length : Int))
      unfold compactR
      rw [if_neg (by omega)]
end
structure Apart (n1 n2 : ByteArray) : Prop where
  a : n2 ≠ n1
  b : n2 ≠ draftN n1
  c : draftN n2 ≠ n1
  d : draftN n2 ≠ draftN n1
theorem Apart.swap {n1 n2 : ByteArray} (h : Apart n1 n2) : Apart n2 n1 := ⟨h.a.symm, h.c.symm, h.b.symm, h.d.symm⟩
structure DA (n1 n2 : ByteArray) (T1 T2 : Nat) (k : Int) (d : DS) (l1 l2 : List E) (z1 z2 : Int) : Prop where
  q : Quiet d 1048576
  f : ∃ rs1 rs2, StF d n1 rs1 l1 ∧ StF d n2 rs2 l2 ∧ Bud rs1 T1 ∧ Bud rs2 T2 ∧ z1 = ((Fr.putB rs1).length : Int) ∧ z2 = ((Fr.putB rs2).length : Int)
  sz : Dk.sizes d.files = z1 + z2
  lf1 : LF l1 20
  lf2 : LF l2 20
  up : d.Up k
section
variable {n1 n2 : ByteArray} {T1 T2 : Nat} {k : Int} {d : DS} {l1 l2 : List E} {z1 z2 : Int}
theorem DA.new (n1 n2 : ByteArray) : DA n1 n2 0 0 0 (Dk.new 1048576) [] [] 0 0 := ⟨Quiet.new (by decide), ⟨[], [], StF.new n1, StF.new n2, Bud.nil 0, Bud.nil 0, rfl, rfl⟩, rfl, LF.nil (by decide), LF.nil (by decide), DS.Up.new 1048576⟩
theorem DA.swap (h : DA n1 n2 T1 T2 k d l1 l2 z1 z2) : DA n2 n1 T2 T1 k d l2 l1 z2 z1 := by
  obtain ⟨rs1, rs2, a, b, c, e, f, g⟩ := h.f
  exact ⟨h.q, ⟨rs2, rs1, b, a, e, c, g, f⟩, by rw [h.sz, Int.add_comm], h.lf2, h.lf1, h.up⟩
theorem DA.mono (h : DA n1 n2 T1 T2 k d l1 l2 z1 z2) {T k' : _} (hT : T1 ≤ T) (hk : k ≤ k') : DA n1 n2 T T2 k' d l1 l2 z1 z2 := by
  obtain ⟨rs1, rs2, a, b, c, e, f, g⟩ := h.f
  exact ⟨h.q, ⟨rs1, rs2, a, b, c.mono hT, e, f, g⟩, h.sz, h.lf1, h.lf2, h.up.mono hk⟩
theorem DA.z (h : DA n1 n2 T1 T2 k d l1 l2 z1 z2) : 0 ≤ z1 ∧ z1 ≤ T1 := by
  obtain ⟨rs1, rs2, a, b, c, e, f, g⟩ := h.f
  have := (c.all a.list).1
  omega
theorem DA.fine (h : DA n1 n2 T1 T2 k d l1 l2 z1 z2) (nm : Nm n1) (hT : T1 ≤ 13000) (hk : k < 4611686018427380000) : Fine d n1 20 l1 z1 k := ⟨h.up, hk, h.lf1.kn, h.lf1.fit, by have := h.lf1.len; omega, by decide, nm.sz, by have := h.z; omega⟩
theorem DA.next (h : DA n1 n2 T1 T2 k d l1 l2 z1 z2) (nm : Nm n1) (hn : Apart n1 n2) (kind : Int) (key val : ByteArray) (N : Int) (hT : T1 + costC kind key val ≤ 13000) (hT2 : T2 ≤ 13000) : ∃ er d' l' z', doesS d n1 20 l1 kind key val N = (er, d', l') ∧ doesR l1 20 z1 kind key val N 1048576 = (er, l', z') ∧ DA n1 n2 (T1 + costC kind key val) T2 (k + 3) d' l' l2 z' z2 := by
  obtain ⟨rs1, rs2, a, b, c, e, f, g⟩ := h.f
  obtain ⟨hb, hnd⟩ := c.plan (m := 20) (kind := kind) (key := key) (val := val) (N := N) a.list h.lf1
  have hz1 := h.z
  have hz2 := h.swap.z
  obtain ⟨er, d', r1, r2, r3, r4, r5, r6, _⟩ := run_room (free := 1048576) h.q a nm h.lf1.fit (plan_good (m := 20) (kind := kind) (key := key) (val := val) (N := N) h.lf1.fit) (by have := h.sz; omega) (by omega)
  rw [← doesS_run] at r1
  rw [← f, ← doesR_run] at r2
  have hu := doesS_up h.up n1 20 l1 kind key val N
  rw [r1] at hu
  refine ⟨er, d', _, _, r1, r2, r3, ⟨_, rs2, r4, b.other (fun t ht => ?_), hb, e, rfl, g⟩, ?_, h.lf1.plan (by decide) kind key val N, h.lf2, hu⟩
  · rcases ht with rfl | rfl
    · exact r6 _ hn.a hn.b
    · exact r6 _ hn.c hn.d
  · rw [r5, h.sz, f]
    omega
end
abbrev Rest (S : Nat → Prop) (p q : Nat) : Nat → Prop := U S (fun k => k = p ∨ k = q)
structure KT (S1 Sa Sb : Nat → Prop) (B : Nat) (W : World) (gd ga gb pa pb : Nat) (d : DS) (n1 n2 : ByteArray) (la lb : List E) (za zb : Int) : Prop where
  a : KDM S1 Sa (Rest Sb pa pb) B W gd ga pa d n1 20 la 20 la za
  sb : KSt Sb B W gb gd n2 20 lb
  mb : MSt (U (U S1 Sa) (Rest Sb pa pb)) W pb 20 lb zb
  ne : pa ≠ pb ∧ ¬ Sb pa ∧ ¬ Sb pb
theorem MSt.congr {S S' : Nat → Prop} {W : World} {gm : Nat} {m z : Int} {l : List E} (h : MSt S W gm m l z) (hS : ∀ k, S k ↔ S' k) : MSt S' W gm m l z := by
  obtain ⟨A, c, hc, h1, h2⟩ := h.at_
  exact ⟨⟨A, c, hc, h1, Kd.F_mono h2 (fun k hk hk2 => hk ((hS k).2 hk2))⟩, (hS gm).1 h.sg⟩
section
variable {S1 Sa Sb S1' Sa' : Nat → Prop} {B : Nat} {W W' : World} {gd ga gb pa pb : Nat} {d d' : DS} {n1 n2 : ByteArray} {la lb la' : List E} {za zb za' : Int}
theorem KT.swap (h : KT S1 Sa Sb B W gd ga gb pa pb d n1 n2 la lb za zb) : KT S1 Sb Sa B W gd gb ga pb pa d n2 n1 lb la zb za := by
  have hs : ∀ k, U (U S1 Sa) (Rest Sb pa pb) k ↔ U (U S1 Sb) (Rest Sa pb pa) k := fun k => by
    constructor
    · rintro ((h | h) | (h | (h | h)))
      · exact .inl (.inl h)
      · exact .inr (.inl h)
      · exact .inl (.inr h)
      · exact .inr (.inr (.inr h))
      · exact .inr (.inr (.inl h))
    · rintro ((h | h) | (h | (h | h)))
      · exact .inl (.inl h)
      · exact .inr (.inl h)
      · exact .inl (.inr h)
      · exact .inr (.inr (.inr h))
      · exact .inr (.inr (.inl h))
  have hpa : ∀ {k}, U S1 Sa k → k ≠ pa := fun hk e => h.a.dis _ hk (.inr (.inl e))
  have hpb : ∀ {k}, U S1 Sa k → k ≠ pb := fun hk e => h.a.dis _ hk (.inr (.inr e))
  refine ⟨⟨⟨h.a.kd.dev, h.sb, fun k h1 h2 => h.a.dis k (.inl h1) (.inl h2), h.a.kd.size⟩, h.mb.congr hs, .inr (.inl rfl), ?_, ?_, ?_⟩, h.a.kd.st, h.a.ms.congr hs, h.ne.1.symm, fun hk => hpb (.inr hk) rfl, fun hk => hpa (.inr hk) rfl⟩
  · rintro k (hk | hk) (h2 | (h2 | h2))
    · exact h.a.kd.dis k hk h2
    · exact hpb (.inl hk) h2
    · exact hpa (.inl hk) h2
    · exact h.a.dis k (.inr h2) (.inl hk)
    · subst h2; exact h.ne.2.2 hk
    · subst h2; exact h.ne.2.1 hk
  · rintro k (hk | (hk | hk))
    · exact h.a.kd.st.hi k hk
    · exact h.a.hi k (.inr (.inr hk))
    · exact h.a.hi k (.inr (.inl hk))
  · rintro k (hk | (hk | hk))
    · exact h.a.kd.st.lo k hk
    · exact h.a.lo k (.inr (.inr hk))
    · exact h.a.lo k (.inr (.inl hk))
theorem KT.below (h : KT S1 Sa Sb B W gd ga gb pa pb d n1 n2 la lb za zb) (hb : Below W.heap.size W W') : KT S1 Sa Sb B W' gd ga gb pa pb d n1 n2 la lb za zb := ⟨h.a.below hb, h.sb.below hb, h.mb.below hb, h.ne⟩
theorem KT.turn (h : KT S1 Sa Sb B W gd ga gb pa pb d n1 n2 la lb za zb) (ha : KDM S1' Sa' (Rest Sb pa pb) B W' gd ga pa d' n1 20 la' 20 la' za') (st : Step (U (U S1 Sa) (At1 pa)) W (U (U S1' Sa') (At1 pa)) W') : KT S1' Sa' Sb B W' gd ga gb pa pb d' n1 n2 la' lb za' zb := by
  refine ⟨ha, h.sb.other st.only ?_, h.mb.step (Step.wide (S3 := Rest Sb pa pb) st (.inr (.inl rfl))) (st.only.block pb h.mb.lt ?_) (.inr (.inr (.inr rfl))), h.ne⟩
  · rintro k hk (h2 | h2)
    · exact h.a.dis k h2 (.inl hk)
    · have : k = pa := h2
      subst this
      exact h.ne.2.1 hk
  · rintro (h2 | h2)
    · exact h.a.dis pb h2 (.inr (.inr rfl))
    · exact h.ne.1 (show pb = pa from h2).symm
end
theorem turnLast_append (a : List Int) {b : List Int} (hb : b ≠ []) : turnLast (a ++ b) = a ++ turnLast b := by
  unfold turnLast
  have hl : 0 < b.length := List.length_pos_iff.2 hb
  rw [List.length_append, show a.length + b.length - 1 = a.length + (b.length - 1) by omega, List.set_append_right _ _ (by omega)]
  congr 1
  rw [show a.length + (b.length - 1) - a.length = b.length - 1 by omega]
  congr 1
  rw [List.getD_eq_getElem?_getD, List.getD_eq_getElem?_getD, List.getElem?_append_right (by omega), show a.length + (b.length - 1) - a.length = b.length - 1 by omega]
theorem turnLast_last (a : List Int) (x : Int) : turnLast (a ++ [x]) = a ++ [255 - x] := by
  rw [turnLast_append a (by simp)]
  rfl
theorem list_last {l : List Int} (h : l ≠ []) : ∃ a x, l = a ++ [x] := ⟨l.dropLast, l.getLast h, (List.dropLast_concat_getLast h).symm⟩
theorem num4_set (l : List Int) (i : Nat) (x : Int) (h : 4 ≤ i) : Fr.num4 (l.set i x) = Fr.num4 l := by
  have h1 : ∀ j, j < 4 → (l.set i x).getD j 0 = l.getD j 0 := fun j hj => by
    rw [List.getD_eq_getElem?_getD, List.getD_eq_getElem?_getD, List.getElem?_set_ne (by omega)]
  unfold Fr.num4
  rw [h1 0 (by omega), h1 1 (by omega), h1 2 (by omega), h1 3 (by omega)]
theorem num4_rec (s r : List Int) (h : s.length ≤ 65536) : Fr.num4 (Fr.recB s ++ r) = s.length := by
  unfold Fr.recB
  rw [List.append_assoc]
  exact Fr.num4_word4 _ _ (by omega) (by omega)
theorem whole_cut {s : List Int} (hs : s.length ≤ 65536) {c : Nat} (hc : c < 8 + s.length) (r : List Int) : Fr.wholeL ((Fr.recB s ++ r).take c) = none ∧ Fr.wholeL (turnLast ((Fr.recB s ++ r).take c)) = none := by
  have hlen : ((Fr.recB s ++ r).take c).length = c := by rw [List.length_take, List.length_append, Fr.recB_length]; omega
  have key : ∀ l : List Int, l.length = c → (8 ≤ c → Fr.num4 l = s.length) → Fr.wholeL l = none := fun l h1 h2 => by
    unfold Fr.wholeL
    by_cases h8 : l.length < 8
    · rw [if_pos h8]
    · rw [if_neg h8, if_pos]
      right
      rw [h2 (by omega), h1]
      omega
  have hn : 8 ≤ c → Fr.num4 ((Fr.recB s ++ r).take c) = s.length := fun h => by rw [Fr.num4_take _ _ (by omega), num4_rec s r hs]
  refine ⟨key _ hlen hn, key _ (by rw [DS.turnLast_len, hlen]) (fun h => ?_)⟩
  unfold turnLast
  rw [num4_set _ _ _ (by rw [hlen]; omega), hn h]
theorem byt_mid {a b : List Int} {x : Int} (h : Byt (a ++ x :: b)) : 0 ≤ x ∧ x < 256 := h x (List.mem_append_right _ (List.mem_cons_self ..))
theorem whole_turned {s : List Int} (hs : s.length ≤ 65536) (hb : Byt s) (hne : s ≠ []) : Fr.wholeL (turnLast (Fr.recB s)) = none := by
  obtain ⟨a, x, rfl⟩ := list_last hne
  have hx := byt_mid hb
  have e1 : Fr.recB (a ++ [x]) = (Fr.word4 (a ++ [x]).length ++ (Fr.word4 (Fr.crc (a ++ [x])) ++ a)) ++ [x] := by
    unfold Fr.recB
    simp only [List.append_assoc]
  rw [e1, turnLast_last]
  have e2 : (Fr.word4 (a ++ [x]).length ++ (Fr.word4 (Fr.crc (a ++ [x])) ++ a)) ++ [255 - x] = Fr.word4 (a ++ [x]).length ++ (Fr.word4 (Fr.crc (a ++ [x])) ++ (a ++ [255 - x])) := by
    simp only [List.append_assoc]
  rw [e2]
  have hl : (a ++ [255 - x]).length = (a ++ [x]).length := by simp
  have h1 : Fr.num4 (Fr.word4 (a ++ [x]).length ++ (Fr.word4 (Fr.crc (a ++ [x])) ++ (a ++ [255 - x]))) = ((a ++ [x]).length : Int) := Fr.num4_word4 _ _ (by omega) (by omega)
  have h2 : Fr.num4 ((Fr.word4 (a ++ [x]).length ++ (Fr.word4 (Fr.crc (a ++ [x])) ++ (a ++ [255 - x]))).drop 4) = Fr.crc (a ++ [x]) := by
    rw [show (Fr.word4 (a ++ [x]).length ++ (Fr.word4 (Fr.crc (a ++ [x])) ++ (a ++ [255 - x]))).drop 4 = Fr.word4 (Fr.crc (a ++ [x])) ++ (a ++ [255 - x]) by simp [Fr.word4]]
    exact Fr.num4_word4 _ _ (Fr.crc_range _).1 (Fr.crc_range _).2
  have h3 : (Fr.word4 (a ++ [x]).length ++ (Fr.word4 (Fr.crc (a ++ [x])) ++ (a ++ [255 - x]))).drop 8 = a ++ [255 - x] := by simp [Fr.word4]
  have h4 : (Fr.word4 (a ++ [x]).length ++ (Fr.word4 (Fr.crc (a ++ [x])) ++ (a ++ [255 - x]))).length = 8 + (a ++ [x]).length := by simp [Fr.word4]; omega
  unfold Fr.wholeL
  rw [h1, h2, h3, h4, if_neg (by omega), if_neg (by omega), Int.toNat_natCast, ← hl, List.take_length, if_neg]
  exact fun e => Fr.crc_one a [] (255 - x) x (by omega) (by omega) hx.1 hx.2 (by omega) e
theorem cut_shape : ∀ (rs : List (List Int)) (c : Nat), (∀ s ∈ rs, s.length ≤ 65536 ∧ Byt s ∧ s ≠ []) → c ≤ (rs.flatMap Fr.recB).length →
    (∃ i t, i ≤ rs.length ∧ (rs.flatMap Fr.recB).take c = (rs.take i).flatMap Fr.recB ++ t ∧ Fr.wholeL t = none ∧ ∀ j, j ≤ rs.length → ((rs.take j).flatMap Fr.recB).length ≤ c → j ≤ i) ∧
    (∃ i t, i ≤ rs.length ∧ turnLast ((rs.flatMap Fr.recB).take c) = (rs.take i).flatMap Fr.recB ++ t ∧ Fr.wholeL t = none ∧ ∀ j, j ≤ rs.length → ((rs.take j).flatMap Fr.recB).length < c → j ≤ i)
  | [], c, _, _ => by
    refine ⟨⟨0, [], Nat.le_refl _, ?_, Fr.wholeL_nil, fun j hj _ => hj⟩, ⟨0, [], Nat.le_refl _, ?_, Fr.wholeL_nil, fun j hj _ => hj⟩⟩
    · simp
    · simp [turnLast]
  | s :: rs, c, h, hc => by
    obtain ⟨hs, hb, hne⟩ := h s (List.mem_cons_self ..)
    have hr : ∀ x ∈ rs, x.length ≤ 65536 ∧ Byt x ∧ x ≠ [] := fun x hx => h x (List.mem_cons_of_mem _ hx)
    have hj0 : ∀ j c', ((((s :: rs).take j).flatMap Fr.recB).length ≤ c' → j = 0 ∨ 8 + s.length ≤ c') := fun j c' hl => by
      cases j with
      | zero => exact .inl rfl
      | succ j =>
        right
        rw [List.take_succ_cons, List.flatMap_cons, List.length_append, Fr.recB_length] at hl
        omega
    rw [List.flatMap_cons, List.length_append, Fr.recB_length] at hc
    rw [List.flatMap_cons]
    by_cases c0 : c < 8 + s.length
    · have hw := whole_cut hs c0 (rs.flatMap Fr.recB)
      refine ⟨⟨0, _, Nat.zero_le _, by rw [List.take_zero, List.flatMap_nil, List.nil_append], hw.1, fun j _ hl => ?_⟩, ⟨0, _, Nat.zero_le _, by rw [List.take_zero, List.flatMap_nil, List.nil_append], hw.2, fun j _ hl => ?_⟩⟩
      · rcases hj0 j c hl with h0 | h0
        · omega
        · omega
      · rcases hj0 j c (Nat.le_of_lt hl) with h0 | h0
        · omega
        · omega
    · have e1 : (Fr.recB s ++ rs.flatMap Fr.recB).take c = Fr.recB s ++ (rs.flatMap Fr.recB).take (c - (8 + s.length)) := by
        rw [List.take_append, Fr.recB_length, List.take_of_length_le (by rw [Fr.recB_length]; omega)]
      obtain ⟨⟨i, t, i1, i2, i3, i4⟩, ⟨i', t', j1, j2, j3, j4⟩⟩ := cut_shape rs (c - (8 + s.length)) hr (by omega)
      refine ⟨⟨i + 1, t, by rw [List.length_cons]; omega, ?_, i3, fun j hj hl => ?_⟩, ?_⟩
      · rw [e1, i2, List.take_succ_cons, List.flatMap_cons, List.append_assoc]
      · cases j with
        | zero => omega
        | succ j =>
          rw [List.take_succ_cons, List.flatMap_cons, List.length_append, Fr.recB_length] at hl
          rw [List.length_cons] at hj
          have := i4 j (by omega) (by omega)
          omega
      · rw [e1]
        by_cases c1 : c = 8 + s.length
        · subst c1
          rw [Nat.sub_self, List.take_zero, List.append_nil]
          refine ⟨0, _, Nat.zero_le _, by rw [List.take_zero, List.flatMap_nil, List.nil_append], whole_turned hs hb hne, fun j _ hl => ?_⟩
          cases j with
          | zero => omega
          | succ j =>
            rw [List.take_succ_cons, List.flatMap_cons, List.length_append, Fr.recB_length] at hl
            omega
        · have hne2 : (rs.flatMap Fr.recB).take (c - (8 + s.length)) ≠ [] := fun e => by
            have := congrArg List.length e
            rw [List.length_take, List.length_nil] at this
            omega
          rw [turnLast_append _ hne2]
          refine ⟨i' + 1, t', by rw [List.length_cons]; omega, ?_, j3, fun j hj hl => ?_⟩
          · rw [j2, List.take_succ_cons, List.flatMap_cons, List.append_assoc]
          · cases j with
            | zero => omega
            | succ j =>
              rw [List.take_succ_cons, List.flatMap_cons, List.length_append, Fr.recB_length] at hl
              rw [List.length_cons] at hj
              have := j4 j (by omega) (by omega)
              omega
theorem Good.full {r : ByteArray} (h : Good r) : (bytesOf r).length ≤ 65536 ∧ Byt (bytesOf r) ∧ bytesOf r ≠ [] := by
  refine ⟨by rw [bytesOf_length]; exact h.size, byt_bytesOf r, fun e => ?_⟩
  have h0 : r.size = 0 := by rw [← bytesOf_length, e]; rfl
  rcases h with ⟨k, u, rfl, _⟩ | ⟨k, rfl, _⟩
  · rw [recP_size] at h0; omega
  · rw [recG_size] at h0; omega
theorem putB_full {rs : List ByteArray} (hg : ∀ r ∈ rs, Good r) : Fr.putB rs = (rs.map bytesOf).flatMap Fr.recB := Fr.putB_short (fun r hr => (hg r hr).size)
theorem putB_full_take {rs : List ByteArray} (hg : ∀ r ∈ rs, Good r) (j : Nat) : Fr.putB (rs.take j) = ((rs.map bytesOf).take j).flatMap Fr.recB := by
  rw [putB_full (fun r hr => hg r (List.mem_of_mem_take hr)), List.map_take]
theorem lose_shape {rs : List ByteArray} (hg : ∀ r ∈ rs, Good r) {f : Fl} (hb : f.b = Fr.putB rs) {j : Nat} (hj : j ≤ rs.length) (hs : f.safe = (Fr.putB (rs.take j)).length) (keep : Int) (torn : Bool) : ∃ i t, j ≤ i ∧ i ≤ rs.length ∧ loseB keep torn f = Fr.putB (rs.take i) ++ t ∧ Fr.wholeL t = none := by
  have hall : ∀ s ∈ rs.map bytesOf, s.length ≤ 65536 ∧ Byt s ∧ s ≠ [] := fun s hs => by
    obtain ⟨r, hr, rfl⟩ := List.mem_map.1 hs
    exact (hg r hr).full
  have hle : f.safe ≤ f.b.length := by
    rw [hs, hb]
    conv => rhs; rw [← List.take_append_drop j rs, putB_append, List.length_append]
    omega
  have hk : f.safe + kept keep f ≤ f.b.length := by unfold kept; omega
  have e1 : f.b = (rs.map bytesOf).flatMap Fr.recB := by rw [hb, putB_full hg]
  have hsj : f.safe = (((rs.map bytesOf).take j).flatMap Fr.recB).length := by rw [hs, putB_full_take hg]
  have hjl : j ≤ (rs.map bytesOf).length := by rw [List.length_map]; exact hj
  obtain ⟨⟨i, t, i1, i2, i3, i4⟩, ⟨i', t', j1, j2, j3, j4⟩⟩ := cut_shape (rs.map bytesOf) (f.safe + kept keep f) hall (by rw [← e1]; exact hk)
  rw [List.length_map] at i1 j1
  unfold loseB
  by_cases c : torn = true ∧ 0 < kept keep f
  · rw [if_pos c, e1, j2, ← putB_full_take hg]
    exact ⟨i', t', j4 j hjl (by rw [← hsj]; omega), j1, rfl, j3⟩
  · rw [if_neg c, e1, i2, ← putB_full_take hg]
    exact ⟨i, t, i4 j hjl (by rw [← hsj]; omega), i1, rfl, i3⟩
theorem lose_safe {f : Fl} (h : f.safe = f.b.length) (keep : Int) (torn : Bool) : lose1 keep torn f = f := by
  have hk : kept keep f = 0 := by unfold kept; omega
  have hb : loseB keep torn f = f.b := by
    unfold loseB
    rw [hk, if_neg (fun e => absurd e.2 (by decide)), h, Nat.add_zero, List.take_length]
  unfold lose1
  rw [hb, ← h]
structure TF (d : DS) (n : ByteArray) (rs : List ByteArray) (R : Int) : Prop where
  room : d.room = R
  file : (findF d.files n = none ∧ rs = []) ∨ ∃ t, Fr.wholeL t = none ∧ findF d.files n = some ⟨n, Fr.putB rs ++ t, (Fr.putB rs ++ t).length⟩
  good : ∀ r ∈ rs, Good r
section
variable {d d' d1 d2 : DS} {n s : ByteArray} {rs : List ByteArray} {R k er m : Int}
theorem TF.same (h : TF d n rs R) (hf : findF d'.files n = findF d.files n) (hr : d'.room = d.room) : TF d' n rs R := ⟨hr.trans h.room, by rw [hf]; exact h.file, h.good⟩
theorem TF.act (h : TF d n rs R) : TF d.act n rs R := h.same rfl rfl
theorem TF.on (h : TF d n rs R) : TF d.on n rs R := h.same rfl rfl
theorem TF.arm (h : TF d n rs R) (j keep : Int) (torn : Bool) : TF (d.arm j keep torn) n rs R := h.same rfl rfl
theorem TF.drop (h : TF d n rs R) (hs : n ≠ s) : TF (d.drop s) n rs R := h.same (by show findF (delF d.files s) n = _; rw [findF_delF, if_neg hs]) rfl
theorem TF.off (h : TF d n rs R) (keep : Int) (torn : Bool) : TF (d.off keep torn) n rs R := by
  unfold DS.off
  split
  · exact h
  · refine ⟨h.room, ?_, h.good⟩
    show (findF (d.files.map (lose1 keep torn)) n = none ∧ rs = []) ∨ ∃ t, Fr.wholeL t = none ∧ findF (d.files.map (lose1 keep torn)) n = _
    rw [findF_lose]
    rcases h.file with ⟨h1, h2⟩ | ⟨t, h1, h2⟩
    · rw [h1]
      exact .inl ⟨rfl, h2⟩
    · rw [h2]
      refine .inr ⟨t, h1, ?_⟩
      show some (lose1 keep torn _) = _
      rw [lose_safe rfl]
theorem off_down (d : DS) (keep : Int) (torn : Bool) : (d.off keep torn).down = true := by
  unfold DS.off
  split
  · assumption
  · rfl
theorem TF.le (h : TF d n rs R) (u : d.Up k) : (lenF d.files n : Int) ≤ R := by
  have h1 := lenF_le d.files n
  have h2 := u.fits
  have h3 := h.room
  omega
theorem TF.cut (h : TF d n rs R) : TF (d.put (cutTo (d.fileOr n) ((Fr.putB rs).length : Int))) n rs R ∧ (∀ x, findF d.files n = some x → findF (d.put (cutTo (d.fileOr n) ((Fr.putB rs).length : Int))).files n = some ⟨n, Fr.putB rs, (Fr.putB rs).length⟩) := by
  have key : ∀ t, findF d.files n = some ⟨n, Fr.putB rs ++ t, (Fr.putB rs ++ t).length⟩ → findF (d.put (cutTo (d.fileOr n) ((Fr.putB rs).length : Int))).files n = some ⟨n, Fr.putB rs, (Fr.putB rs).length⟩ := fun t ht => by
    rw [fileOr_findF ht]
    show findF (putF d.files (cutTo _ _)) n = _
    rw [findF_putF]
    unfold cutTo
    rw [if_pos rfl]
    simp only [Int.toNat_natCast, List.take_left]
    rw [List.length_append, Nat.min_eq_right (Nat.le_add_right _ _)]
  rcases h.file with ⟨h1, h2⟩ | ⟨t, h1, h2⟩
  · refine ⟨⟨h.room, .inr ⟨[], Fr.wholeL_nil, ?_⟩, h.good⟩, fun x hx => by rw [h1] at hx; cases hx⟩
    subst h2
    show findF (putF d.files (cutTo (d.fileOr n) _)) n = _
    have hn : (cutTo (d.fileOr n) (((Fr.putB []).length : Nat) : Int)).name = n := fileOr_name d n
    rw [findF_putF, if_pos hn]
    unfold DS.fileOr cutTo
    rw [h1]
    rfl
  · refine ⟨⟨h.room, .inr ⟨[], Fr.wholeL_nil, ?_⟩, h.good⟩, fun x hx => key t h2⟩
    rw [List.append_nil]
    exact key t h2
end
def OpenP (d : DS) (n : ByteArray) (rs : List ByteArray) (er : Int) (d' : DS) : Prop := ∃ r1 d1, d.remove (draftN n) = (r1, d1) ∧ ((r1 = 7 ∧ er = 7 ∧ d' = d1) ∨ ((r1 = 0 ∨ r1 = 5) ∧ ((d1.read n = ([], 5) ∧ er = 0 ∧ d' = d1 ∧ rs = []) ∨ ∃ t, d1.read n = (Fr.putB rs ++ t, 0) ∧ Fr.wholeL t = none ∧ Byt (Fr.putB rs ++ t) ∧ (Fr.putB rs ++ t).length ≤ 1048576 ∧ ((t = [] ∧ er = 0 ∧ d' = d1) ∨ (t ≠ [] ∧ d1.cut n ((Fr.putB rs).length : Int) = (er, d'))))))
structure Opened (d : DS) (n : ByteArray) (rs : List ByteArray) (R : Int) : Prop where
  down : d.down = false
  room : d.room = R
  file : (findF d.files n = none ∧ rs = []) ∨ findF d.files n = some ⟨n, Fr.putB rs, (Fr.putB rs).length⟩
  draft : findF d.files (draftN n) = none
  good : ∀ r ∈ rs, Good r
section
variable {d d' d1 d2 : DS} {n s : ByteArray} {rs : List ByteArray} {R k er m : Int}
theorem there_none (hd : d.down = false) (hs : nameOk s = true) (hf : findF d.files s = none) : d.there s = 5 := by
  unfold DS.there DS.ready
  rw [hd, if_neg (fun e => e (by rw [if_neg (by decide), if_pos hs])), hf, if_neg (by decide)]
theorem there_some {f : Fl} (hd : d.down = false) (hs : nameOk s = true) (hf : findF d.files s = some f) : d.there s = 0 := by
  unfold DS.there DS.ready
  rw [hd, if_neg (fun e => e (by rw [if_neg (by decide), if_pos hs])), hf, if_pos (by rfl)]
theorem fall_goes (hg : d.goes = true) (done : DS → DS) : d.fall done = (7, (if 0 < d.keep then done d.act else d.act).ends) := by unfold DS.fall; rw [if_pos hg]
theorem fall_not (hg : ¬ d.goes = true) (done : DS → DS) : d.fall done = (0, done d.act) := by unfold DS.fall; rw [if_neg hg]
theorem goes_zero (h : d.fuse = 0) : ¬ d.goes = true := by unfold DS.goes; rw [h]; decide
theorem act_zero (h : d.fuse = 0) : d.act.fuse = 0 := by show (if d.fuse = 0 then (0 : Int) else d.fuse - 1) = 0; rw [if_pos h]
theorem open_plain (h : TF d n rs R) (u : d.Up k) (nm : Nm n) (hR : R ≤ 1048576) (hd : d.down = false) : ∃ er d', OpenP d n rs er d' ∧ (er = 0 ∨ er = 7) ∧ d'.Up (k + 2) ∧ TF d' n rs R ∧ (er = 7 → d'.down = true) ∧ (er = 0 → Opened d' n rs R) ∧ (d.fuse = 0 → er = 0 ∧ d'.fuse = 0) := by
  -- behind the draft's taking out
  have part : ∀ r1 d1, d.remove (draftN n) = (r1, d1) → (r1 = 0 ∨ r1 = 5) → TF d1 n rs R → d1.Up (k + 1) → d1.down = false → findF d1.files (draftN n) = none → (d.fuse = 0 → d1.fuse = 0) → ∃ er d', OpenP d n rs er d' ∧ (er = 0 ∨ er = 7) ∧ d'.Up (k + 2) ∧ TF d' n rs R ∧ (er = 7 → d'.down = true) ∧ (er = 0 → Opened d' n rs R) ∧ (d.fuse = 0 → er = 0 ∧ d'.fuse = 0) := by
    intro r1 d1 e1 hr1 t1 u1 hd1 hdr hfu
    have hlen := t1.le u1
    rcases t1.file with ⟨f1, f2⟩ | ⟨t, f1, f2⟩
    · have hrd : d1.read n = ([], 5) := by
        unfold DS.read
        rw [there_none hd1 nm.ok f1, if_pos (by decide)]
      exact ⟨0, d1, ⟨r1, d1, e1, .inr ⟨hr1, .inl ⟨hrd, rfl, rfl, f2⟩⟩⟩, .inl rfl, u1.mono (by omega), t1, fun e => absurd e (by decide), fun _ => ⟨hd1, t1.room, .inl ⟨f1, f2⟩, hdr, t1.good⟩, fun e => ⟨rfl, hfu e⟩⟩
    · have hrd : d1.read n = (Fr.putB rs ++ t, 0) := by
        unfold DS.read
        rw [there_some hd1 nm.ok f2, if_neg (by decide), fileOr_findF f2]
      have hby : Byt (Fr.putB rs ++ t) := fun x hx => by
        have := u1.bytes _ (findF_some f2).1 x hx
        omega
      have hl : (Fr.putB rs ++ t).length ≤ 1048576 := by
        rw [lenF_some f2] at hlen
        have hlen : ((Fr.putB rs ++ t).length : Int) ≤ R := hlen
        omega
      by_cases ht : t = []
      · subst ht
        exact ⟨0, d1, ⟨r1, d1, e1, .inr ⟨hr1, .inr ⟨[], hrd, f1, hby, hl, .inl ⟨rfl, rfl, rfl⟩⟩⟩⟩, .inl rfl, u1.mono (by omega), t1, fun e => absurd e (by decide), fun _ => ⟨hd1, t1.room, .inr (by rw [List.append_nil] at f2; exact f2), hdr, t1.good⟩, fun e => ⟨rfl, hfu e⟩⟩
      · have u2 := u1.cut n ((Fr.putB rs).length : Int)
        have hc : d1.cut n ((Fr.putB rs).length : Int) = d1.fall fun e => e.put (cutTo (e.fileOr n) ((Fr.putB rs).length : Int)) := by
          unfold DS.cut
          rw [there_some hd1 nm.ok f2, if_neg (by decide), if_neg (by omega)]
        obtain ⟨er, d2, e2⟩ : ∃ er d2, d1.cut n ((Fr.putB rs).length : Int) = (er, d2) := ⟨_, _, rfl⟩
        rw [e2] at u2
        have u2' : d2.Up (k + 2) := u2.mono (by show k + 1 + 1 ≤ k + 2; omega)
        have ho : OpenP d n rs er d2 := ⟨r1, d1, e1, .inr ⟨hr1, .inr ⟨t, hrd, f1, hby, hl, .inr ⟨ht, e2⟩⟩⟩⟩
        rw [hc] at e2
        by_cases hg : d1.goes = true
        · rw [fall_goes hg] at e2
          injection e2 with e3 e4
          subst e3
          subst e4
          refine ⟨7, _, ho, .inr rfl, u2', ?_, fun _ => off_down _ _ _, fun e => absurd e (by decide), fun e => absurd hg (goes_zero (hfu e))⟩
          unfold DS.ends
          split
          · exact (TF.cut t1.act).1.off _ _
          · exact t1.act.off _ _
        · rw [fall_not hg] at e2
          injection e2 with e3 e4
          subst e3
          subst e4
          have hcut := TF.cut t1.act
          refine ⟨0, _, ho, .inl rfl, u2', hcut.1, fun e => absurd e (by decide), fun _ => ⟨hd1, t1.room, .inr (hcut.2 _ f2), ?_, t1.good⟩, fun e => ⟨rfl, act_zero (hfu e)⟩⟩
          show findF (putF d1.files (cutTo (d1.act.fileOr n) _)) (draftN n) = none
          have hnm : (cutTo (d1.act.fileOr n) (((Fr.putB rs).length : Nat) : Int)).name = n := fileOr_name d1.act n
          rw [findF_putF, if_neg (by rw [hnm]; exact nm.ne)]
          exact hdr
  have ur := u.remove (draftN n)
  cases hf : findF d.files (draftN n) with
  | none =>
    have e1 : d.remove (draftN n) = (5, d) := by
      unfold DS.remove
      rw [there_none hd nm.dok hf, if_pos (by decide)]
    exact part 5 d e1 (.inr rfl) h u.more hd hf (fun e => e)
  | some f =>
    have e1 : d.remove (draftN n) = d.fall fun e => e.drop (draftN n) := by
      unfold DS.remove
      rw [there_some hd nm.dok hf, if_neg (by decide)]
    by_cases hg : d.goes = true
    · rw [fall_goes hg] at e1
      rw [e1] at ur
      refine ⟨7, _, ⟨7, _, e1, .inl ⟨rfl, rfl, rfl⟩⟩, .inr rfl, ur.mono (by omega), ?_, fun _ => off_down _ _ _, fun e => absurd e (by decide), fun e => absurd hg (goes_zero e)⟩
      unfold DS.ends
      split
      · exact (h.act.drop nm.ne).off _ _
      · exact h.act.off _ _
    · rw [fall_not hg] at e1
      rw [e1] at ur
      refine part 0 _ e1 (.inl rfl) (h.act.drop nm.ne) ur hd ?_ (fun e => act_zero e)
      show findF (delF d.files (draftN n)) (draftN n) = none
      rw [findF_delF, if_pos rfl]
section
variable {S1 : Nat → Prop} {B : Nat} {W : World} {gd : Nat}
theorem splits_tail {t : List Int} (hg : ∀ r ∈ rs, Good r) (ht : Fr.wholeL t = none) : Fr.Splits (Fr.putB rs ++ t) (rs.map bytesOf) := by
  rw [putB_full hg]
  exact Fr.splits_recs _ (fun s hs => by
    obtain ⟨r, hr, rfl⟩ := List.mem_map.1 hs
    exact (hg r hr).full.1) t ht
theorem Open_P0 (h : Dev S1 B W gd d) (hB : B ≤ W.heap.size) (u : d.Up k) (hk : k < 4611686018427387900) (nm : Nm n) (hm : 1 ≤ m ∧ m ≤ 4096) (hg : ∀ r ∈ rs, Good r) (p : OpenP d n rs 0 d') : Calls Try.prog 10 #[.pointer (some ⟨gd, 0, none⟩), .string n, .int .i64 m] W fun e W' => e = .returned (.tuple #[.pointer (some ⟨W.heap.size, 0, none⟩), .int .i64 0]) ∧ ∃ S1' S2', KD S1' S2' B W' gd W.heap.size d' n m (stepAll [] rs) ∧ Step S1 W (U S1' S2') W' := by
  have hsz : ∀ s ∈ rs, s.size ≤ 65536 := fun s hs => (hg s hs).size
  obtain ⟨r1, d1, e1, ⟨_, e2, _⟩ | ⟨h5, ⟨e2, _, e3, e4⟩ | ⟨t, e2, e3, e4, e5, ⟨e6, _, e7⟩ | ⟨e6, e7⟩⟩⟩⟩ := p
  · exact absurd e2 (by decide)
  · subst e3
    subst e4
    exact Open_none h hB u hk ⟨nm.nn, nm.sz⟩ hm h5 e1 e2
  · subst e6
    subst e7
    have hlen : rs.length ≤ 1048576 := by
      have := Fr.putB_length hsz
      rw [List.append_nil] at e5
      omega
    have := Open_all (rs := rs.map bytesOf) h hB u hk ⟨nm.nn, nm.sz⟩ hm h5 e1 e2 e4 (by omega) (splits_tail hg e3) (by rw [Fr.map_str]; exact hg) (by rw [List.length_map]; exact hlen) (by rw [List.append_nil]; exact Fr.total_put hsz)
    rw [Fr.map_str] at this
    exact this
  · have hlen : rs.length ≤ 1048576 := by
      have := Fr.putB_length hsz
      rw [List.length_append] at e5
      omega
    have hlt : 0 < t.length := List.length_pos_iff.2 e6
    have := Open_some (rs := rs.map bytesOf) h hB u hk ⟨nm.nn, nm.sz⟩ hm h5 e1 e2 e4 (by omega) (splits_tail hg e3) (by rw [Fr.map_str]; exact hg) (by rw [List.length_map]; exact hlen) (by rw [Fr.total_put hsz, List.length_append]; omega) (by rw [Fr.total_put hsz]; exact e7)
    rw [Fr.map_str] at this
    exact this
end
end
def Names (d : DS) (n : ByteArray) : Prop := ∀ f ∈ d.files, f.name = n ∨ f.name = draftN n
structure Live (d : DS) (n : ByteArray) (R k : Int) : Prop where
  up : d.Up k
  down : d.down = false
  room : d.room = R
  names : Names d n
structure Dead (d : DS) (n : ByteArray) (R k : Int) : Prop where
  up : d.Up k
  down : d.down = true
  fuse : d.fuse = 0
  room : d.room = R
  names : Names d n
structure StS (d : DS) (n : ByteArray) (rs0 rs : List ByteArray) (l : List E) : Prop where
  file : (findF d.files n = none ∧ rs0 ++ rs = []) ∨ findF d.files n = some ⟨n, Fr.putB (rs0 ++ rs), (Fr.putB rs0).length⟩
  draft : findF d.files (draftN n) = none
  good : ∀ r ∈ rs0 ++ rs, Good r
  list : stepAll [] (rs0 ++ rs) = l
section
variable {d d' e : DS} {n s : ByteArray} {R k : Int} {rs rs0 : List ByteArray} {l : List E}
theorem Names.put (h : Names d n) {f : Fl} (hf : f.name = n ∨ f.name = draftN n) : ∀ g ∈ putF d.files f, g.name = n ∨ g.name = draftN n := fun g hg => by
  have : ∀ (l : List Fl), (∀ g ∈ l, g.name = n ∨ g.name = draftN n) → ∀ g ∈ putF l f, g.name = n ∨ g.name = draftN n := by
    intro l
    induction l with
    | nil =>
      intro _ g hg
      unfold putF at hg
      rcases List.mem_cons.1 hg with rfl | hg
      · exact hf
      · cases hg
    | cons x r ih =>
      intro hl g hg
      unfold putF at hg
      split at hg
      · rcases List.mem_cons.1 hg with rfl | hg
        · exact hf
        · exact hl g (List.mem_cons_of_mem _ hg)
      · rcases List.mem_cons.1 hg with rfl | hg
        · exact hl _ (List.mem_cons_self ..)
        · exact ih (fun g hg => hl g (List.mem_cons_of_mem _ hg)) g hg
  exact this d.files h g hg
theorem Names.del (h : Names d n) (s : ByteArray) : ∀ g ∈ delF d.files s, g.name = n ∨ g.name = draftN n := fun g hg => h g (List.mem_filter.1 hg).1
theorem Names.off (h : Names d n) (keep : Int) (torn : Bool) : Names (d.off keep torn) n := by
  unfold DS.off
  split
  · exact h
  · intro g hg
    have hg : g ∈ d.files.map (lose1 keep torn) := hg
    obtain ⟨f, hf, rfl⟩ := List.mem_map.1 hg
    exact h f hf
theorem Names.fall (h : Names d n) {done : DS → DS} (hd : ∀ e : DS, e.files = d.files → Names (done e) n) : Names (d.fall done).2 n := by
  unfold DS.fall
  split
  · show Names (if 0 < d.keep then done d.act else d.act).ends n
    unfold DS.ends
    split
    · exact (hd d.act rfl).off _ _
    · exact Names.off (d := d.act) h _ _
  · exact hd d.act rfl
theorem Names.remove (h : Names d n) (s : ByteArray) : Names (d.remove s).2 n := by
  unfold DS.remove
  split
  · exact h
  · exact h.fall (fun e he g hg => by
      have hg : g ∈ delF e.files s := hg
      rw [he] at hg
      exact h.del s g hg)
theorem Names.cut (h : Names d n) (j : Int) : Names (d.cut n j).2 n := by
  unfold DS.cut
  split
  · exact h
  · split
    · exact h
    · exact h.fall (fun e he g hg => by
        have hg : g ∈ putF e.files (cutTo (e.fileOr n) j) := hg
        rw [he] at hg
        exact h.put (f := cutTo (e.fileOr n) j) (.inl (fileOr_name e n)) g hg)
theorem OpenP.names {er : Int} (p : OpenP d n rs er d') (h : Names d n) : Names d' n := by
  obtain ⟨r1, d1, e1, p⟩ := p
  have h1 : Names d1 n := by have := h.remove (draftN n); rw [e1] at this; exact this
  rcases p with ⟨_, _, rfl⟩ | ⟨_, ⟨_, _, rfl, _⟩ | ⟨t, _, _, _, _, ⟨_, _, rfl⟩ | ⟨_, e2⟩⟩⟩
  · exact h1
  · exact h1
  · exact h1
  · have := h1.cut ((Fr.putB rs).length : Int)
    rw [e2] at this
    exact this
theorem Names.sizes (h : Names d n) (ho : Once d.files) (hn : n ≠ draftN n) : Dk.sizes d.files = (lenF d.files n : Int) + (lenF d.files (draftN n) : Int) := by
  have h1 := sizes_delF ho n
  have h2 := sizes_delF (delF_once ho n) (draftN n)
  have h3 : lenF (delF d.files n) (draftN n) = lenF d.files (draftN n) := by
    unfold lenF
    rw [findF_delF, if_neg (fun e => hn e.symm)]
  have h4 : delF (delF d.files n) (draftN n) = [] := by
    rw [List.eq_nil_iff_forall_not_mem]
    intro g hg
    have g1 := List.mem_filter.1 hg
    have g2 := List.mem_filter.1 g1.1
    have e1 := of_decide_eq_true g1.2
    have e2 := of_decide_eq_true g2.2
    rcases h g g2.1 with e | e
    · exact e2 e
    · exact e1 e
  rw [h4, h3] at h2
  have : Dk.sizes [] = 0 := rfl
  omega
theorem StS.len (f : StS d n rs0 rs l) : lenF d.files n = (Fr.putB (rs0 ++ rs)).length := by
  rcases f.file with ⟨h, h2⟩ | h
  · rw [lenF_none h, h2]; rfl
  · rw [lenF_some h]
theorem Live.sizes (h : Live d n R k) (f : StS d n rs0 rs l) (nm : Nm n) : Dk.sizes d.files = ((Fr.putB (rs0 ++ rs)).length : Int) := by
  rw [h.names.sizes h.up.once nm.ne, f.len, lenF_none f.draft]
  simp
theorem StS.fileOr (f : StS d n rs0 rs l) : d.fileOr n = ⟨n, Fr.putB (rs0 ++ rs), (Fr.putB rs0).length⟩ := by
  rcases f.file with ⟨h, h2⟩ | h
  · unfold DS.fileOr
    rw [h, h2]
    have : rs0 = [] := (List.append_eq_nil_iff.1 h2).1
    subst this
    rfl
  · exact fileOr_findF h
theorem StS.other (f : StS d n rs0 rs l) (h1 : findF d'.files n = findF d.files n) (h2 : findF d'.files (draftN n) = none) : StS d' n rs0 rs l := ⟨by rw [h1]; exact f.file, h2, f.good, f.list⟩
theorem ends_dead (u : e.ends.Up k) (hd : e.down = false) (hr : e.room = R) (hn : Names e n) : Dead e.ends n R k := by
  refine ⟨u, off_down _ _ _, ?_, ?_, hn.off _ _⟩
  · unfold DS.ends DS.off
    rw [hd, if_neg (by decide)]
  · unfold DS.ends DS.off
    rw [hd, if_neg (by decide)]
    exact hr
theorem ends_tf {j : Nat} (hd : e.down = false) (hr : e.room = R) (hf : (findF e.files n = none ∧ rs = []) ∨ findF e.files n = some ⟨n, Fr.putB rs, (Fr.putB (rs.take j)).length⟩) (hj : j ≤ rs.length) (hg : ∀ r ∈ rs, Good r) : ∃ i, j ≤ i ∧ i ≤ rs.length ∧ TF e.ends n (rs.take i) R := by
  have e1 : e.ends.files = e.files.map (lose1 e.keep e.torn) := by
    unfold DS.ends DS.off
    rw [hd, if_neg (by decide)]
  have e2 : e.ends.room = R := by
    unfold DS.ends DS.off
    rw [hd, if_neg (by decide)]
    exact hr
  rcases hf with ⟨h1, h2⟩ | h1
  · subst h2
    refine ⟨0, by simpa using hj, Nat.zero_le _, e2, .inl ⟨?_, by simp⟩, fun r hr => by simp at hr⟩
    rw [e1, findF_lose, h1]
    rfl
  · obtain ⟨i, t, i1, i2, i3, i4⟩ := lose_shape hg (f := ⟨n, Fr.putB rs, (Fr.putB (rs.take j)).length⟩) rfl hj rfl e.keep e.torn
    refine ⟨i, i1, i2, e2, .inr ⟨t, i4, ?_⟩, fun r hr => hg r (List.mem_of_mem_take hr)⟩
    rw [e1, findF_lose, h1]
    show some (lose1 e.keep e.torn _) = _
    unfold lose1
    rw [i3]
def erP : Plan → Int
  | .ret e => e
  | _ => 0
def zP (l : List E) (z : Int) : Plan → Int
  | .wr rs => z + ((Fr.putB rs).length : Int)
  | .comp => ((Fr.putB (allRecs l)).length : Int)
  | _ => z
def safeP (rs0 rs : List ByteArray) (l : List E) : Plan → List ByteArray
  | .sync => rs0 ++ rs
  | .comp => allRecs l
  | _ => rs0
def moreP (rs : List ByteArray) : Plan → List ByteArray
  | .wr rs2 => rs ++ rs2
  | .ret _ => rs
  | _ => []
def recsW (rs0 rs : List ByteArray) : Plan → List ByteArray
  | .wr rs2 => rs0 ++ (rs ++ rs2)
  | _ => rs0 ++ rs
def Loss (rs0 rs : List ByteArray) (l : List E) (p : Plan) (rsx : List ByteArray) : Prop := (∃ i, rs0.length ≤ i ∧ i ≤ (recsW rs0 rs p).length ∧ rsx = (recsW rs0 rs p).take i) ∨ (p = .comp ∧ rsx = allRecs l)
theorem runR_room {p : Plan} {z free : Int} (h : needP l p ≤ free) : runR l z free p = (erP p, listP l p, zP l z p) := by
  cases p with
  | ret e => rfl
  | sync => rfl
  | wr rs =>
    have h : ((Fr.putB rs).length : Int) ≤ free := h
    show writeR l z rs free = _
    unfold writeR
    rw [if_neg (by omega)]
    rfl
  | comp =>
    have h : ((Fr.putB (allRecs l)).length : Int) ≤ free := h
    show ((compactR l z free).1, l, (compactR l z free).2) = _
    unfold compactR
    rw [if_neg (by omega)]
    rfl
theorem take_self (a b : List ByteArray) : (a ++ b).take a.length = a := List.take_left
theorem live_free (h : Live d n R k) : d.free = R - Dk.sizes d.files := by unfold DS.free; rw [h.room]
theorem live_ready (h : Live d n R k) (hs : nameOk s = true) : d.ready s = 0 := by
  unfold DS.ready
  rw [h.down, if_neg (by decide), if_pos hs]
theorem byt_putB' (rs : List ByteArray) : ∀ x ∈ Fr.putB rs, 0 ≤ x ∧ x ≤ 255 := fun x hx => by have := Fr.byt_putB rs x hx; omega
theorem live_append (h : Live d n R k) (hs : nameOk s = true) (hsn : s = n ∨ s = draftN n) {X : List Int} (hb : ∀ x ∈ X, 0 ≤ x ∧ x ≤ 255) (hX : (X.length : Int) ≤ R - Dk.sizes d.files) : ∃ d1, (d.append s X = if d.goes = true then (7, d1.ends) else (0, d1)) ∧ d1 = d.act.put ⟨s, (d.fileOr s).b ++ X, (d.fileOr s).safe⟩ ∧ d1.down = false ∧ d1.room = R ∧ Names d1 n ∧ (∀ t, findF d1.files t = if s = t then some ⟨s, (d.fileOr s).b ++ X, (d.fileOr s).safe⟩ else findF d.files t) := by
  have hn := fileOr_name d s
  refine ⟨_, ?_, rfl, h.down, h.room, h.names.put hsn, fun t => findF_putF d.files _ t⟩
  unfold DS.append
  rw [if_neg (fun e => e (live_ready h hs)), if_neg (by rw [live_free h]; omega)]
  have e1 : ({ d.fileOr s with b := (d.fileOr s).b ++ X } : Fl) = ⟨s, (d.fileOr s).b ++ X, (d.fileOr s).safe⟩ := by
    show (⟨(d.fileOr s).name, _, _⟩ : Fl) = _
    rw [hn]
  simp only [e1]
theorem live_sync (h : Live d n R k) (hs : nameOk s = true) (hsn : s = n ∨ s = draftN n) {f : Fl} (hf : findF d.files s = some f) : ∃ d1, (d.sync s = if d.goes = true then (7, d.act.ends) else (0, d1)) ∧ d1 = d.act.put ⟨s, f.b, f.b.length⟩ ∧ d1.down = false ∧ d1.room = R ∧ Names d1 n ∧ (∀ t, findF d1.files t = if s = t then some ⟨s, f.b, f.b.length⟩ else findF d.files t) := by
  have hn := (findF_some hf).2
  refine ⟨_, ?_, rfl, h.down, h.room, h.names.put hsn, fun t => findF_putF d.files _ t⟩
  unfold DS.sync
  rw [there_some h.down hs hf, if_neg (by decide), fileOr_findF hf]
  show (if d.goes = true then (7, d.act.ends) else (0, d.act.put ⟨f.name, f.b, f.b.length⟩)) = _
  rw [hn]
theorem run_armed (h : Live d n R k) (f : StS d n rs0 rs l) (nm : Nm n) (hft : Fit l) {p : Plan} (hg : ∀ rs2, p = .wr rs2 → ∀ r ∈ rs2, Good r) (hret : ∀ e, p = .ret e → e ≠ 7) (h1 : needP l p + ((Fr.putB (rs0 ++ rs)).length : Int) ≤ R) :
    ∃ d', (runS d n l p = (erP p, d', listP l p) ∧ erP p ≠ 7 ∧ Live d' n R (k + 3) ∧ StS d' n (safeP rs0 rs l p) (moreP rs p) (listP l p) ∧ (d.fuse = 0 → d'.fuse = 0)) ∨
      (d.fuse ≠ 0 ∧ runS d n l p = (7, d', l) ∧ Dead d' n R (k + 3) ∧ ∃ rsx, TF d' n rsx R ∧ Loss rs0 rs l p rsx) := by
  have hsz := h.sizes f nm
  have hu3 : ∀ {e : DS}, e.Up (k + 1) → e.Up (k + 3) := fun u => u.mono (by omega)
  have base : (findF d.files n = none ∧ rs0 ++ rs = []) ∨ findF d.files n = some ⟨n, Fr.putB (rs0 ++ rs), (Fr.putB ((rs0 ++ rs).take rs0.length)).length⟩ := by rw [take_self]; exact f.file
  have hlen0 : rs0.length ≤ (rs0 ++ rs).length := by rw [List.length_append]; omega
  cases p with
  | ret e => exact ⟨d, .inl ⟨rfl, hret e rfl, ⟨h.up.mono (by omega), h.down, h.room, h.names⟩, f, fun e => e⟩⟩
  | wr rs2 =>
    have h1 : ((Fr.putB rs2).length : Int) + ((Fr.putB (rs0 ++ rs)).length : Int) ≤ R := h1
    have u1 := h.up.append n (byt_putB' rs2)
    obtain ⟨d1, a1, a0, a2, a3, a4, a5⟩ := live_append h nm.ok (.inl rfl) (byt_putB' rs2) (by rw [hsz]; omega)
    have hf1 : findF d1.files n = some ⟨n, Fr.putB (rs0 ++ (rs ++ rs2)), (Fr.putB rs0).length⟩ := by
      rw [a5, if_pos rfl, f.fileOr, ← putB_append, List.append_assoc]
    have hgood : ∀ r ∈ rs0 ++ (rs ++ rs2), Good r := fun r hr => by
      rw [← List.append_assoc] at hr
      rcases List.mem_append.1 hr with hr | hr
      · exact f.good r hr
      · exact hg rs2 rfl r hr
    have hw : runS d n l (.wr rs2) = ((d.append n (Fr.putB rs2)).1, (d.append n (Fr.putB rs2)).2, if (d.append n (Fr.putB rs2)).1 = 0 then stepAll l rs2 else l) := rfl
    by_cases g : d.goes = true
    · rw [if_pos g] at a1
      rw [a1] at hw u1
      obtain ⟨i, i1, i2, i3⟩ := ends_tf (n := n) (j := rs0.length) a2 a3 (.inr (by rw [hf1, take_self])) (by rw [List.length_append]; omega) hgood
      exact ⟨d1.ends, .inr ⟨fun e => goes_zero e g, by rw [hw, if_neg (by show ¬ (7 : Int) = 0; decide)], ends_dead (hu3 u1) a2 a3 a4, _, i3, .inl ⟨i, i1, i2, rfl⟩⟩⟩
    · rw [if_neg g] at a1
      rw [a1] at hw u1
      refine ⟨d1, .inl ⟨by rw [hw, if_pos rfl]; rfl, by show (0 : Int) ≠ 7; decide, ⟨hu3 u1, a2, a3, a4⟩, ⟨.inr hf1, by rw [a5, if_neg nm.ne]; exact f.draft, hgood, ?_⟩, fun e => by rw [a0]; exact act_zero e⟩⟩
      show stepAll [] (rs0 ++ (rs ++ rs2)) = stepAll l rs2
      rw [← List.append_assoc, stepAll_append, f.list]
  | sync =>
    have u1 := h.up.sync n
    have hw : runS d n l .sync = (if (d.sync n).1 = 5 then 0 else (d.sync n).1, (d.sync n).2, l) := rfl
    rcases f.file with ⟨f1, f2⟩ | f1
    · have e1 : d.sync n = (5, d) := by
        unfold DS.sync
        rw [there_none h.down nm.ok f1, if_pos (by decide)]
      rw [e1] at hw
      exact ⟨d, .inl ⟨by rw [hw]; rfl, by show (0 : Int) ≠ 7; decide, ⟨h.up.mono (by omega), h.down, h.room, h.names⟩, ⟨.inl ⟨f1, by show (rs0 ++ rs) ++ [] = []; rw [f2]; rfl⟩, f.draft, by show ∀ r ∈ (rs0 ++ rs) ++ [], _; rw [List.append_nil]; exact f.good, by show stepAll [] ((rs0 ++ rs) ++ []) = l; rw [List.append_nil]; exact f.list⟩, fun e => e⟩⟩
    · obtain ⟨d1, a1, a0, a2, a3, a4, a5⟩ := live_sync h nm.ok (.inl rfl) f1
      by_cases g : d.goes = true
      · rw [if_pos g] at a1
        rw [a1] at hw u1
        obtain ⟨i, i1, i2, i3⟩ := ends_tf (e := d.act) (n := n) (j := rs0.length) h.down h.room base hlen0 f.good
        exact ⟨d.act.ends, .inr ⟨fun e => goes_zero e g, hw, ends_dead (hu3 u1) h.down h.room h.names, _, i3, .inl ⟨i, i1, i2, rfl⟩⟩⟩
      · rw [if_neg g] at a1
        rw [a1] at hw u1
        exact ⟨d1, .inl ⟨by rw [hw]; rfl, by show (0 : Int) ≠ 7; decide, ⟨hu3 u1, a2, a3, a4⟩, ⟨.inr (by show findF d1.files n = some ⟨n, Fr.putB ((rs0 ++ rs) ++ []), _⟩; rw [a5, if_pos rfl, List.append_nil]; rfl), by rw [a5, if_neg nm.ne]; exact f.draft, by show ∀ r ∈ (rs0 ++ rs) ++ [], _; rw [List.append_nil]; exact f.good, by show stepAll [] ((rs0 ++ rs) ++ []) = l; rw [List.append_nil]; exact f.list⟩, fun e => by rw [a0]; exact act_zero e⟩⟩
  | comp =>
    have h1 : ((Fr.putB (allRecs l)).length : Int) + ((Fr.putB (rs0 ++ rs)).length : Int) ≤ R := h1
    have hw : runS d n l .comp = ((compactE d n l).1, (compactE d n l).2, l) := rfl
    have u1 := h.up.append (draftN n) (byt_putB' (allRecs l))
    obtain ⟨d1, a1, a0, a2, a3, a4, a5⟩ := live_append h nm.dok (.inr rfl) (byt_putB' (allRecs l)) (by rw [hsz]; omega)
    have hb : (d.fileOr (draftN n)).b = [] := by unfold DS.fileOr; rw [f.draft]; rfl
    have f1 : findF d1.files (draftN n) = some ⟨draftN n, Fr.putB (allRecs l), (d.fileOr (draftN n)).safe⟩ := by rw [a5, if_pos rfl, hb, List.nil_append]
    have n1 : findF d1.files n = findF d.files n := by rw [a5, if_neg (fun e => nm.ne e.symm)]
    by_cases g : d.goes = true
    · rw [if_pos g] at a1
      rw [a1] at u1
      have hc : compactE d n l = (7, d1.ends) := by
        unfold compactE
        rw [a1, if_pos (by show (7 : Int) ≠ 0; decide)]
      rw [hc] at hw
      obtain ⟨i, i1, i2, i3⟩ := ends_tf (e := d1) (n := n) (j := rs0.length) a2 a3 (by rw [n1]; exact base) hlen0 f.good
      exact ⟨d1.ends, .inr ⟨fun e => goes_zero e g, hw, ends_dead (hu3 u1) a2 a3 a4, _, i3, .inl ⟨i, i1, i2, rfl⟩⟩⟩
    rw [if_neg g] at a1
    rw [a1] at u1
    have L1 : Live d1 n R (k + 1) := ⟨u1, a2, a3, a4⟩
    have u2 := L1.up.sync (draftN n)
    obtain ⟨d2, b1, b0, b2, b3, b4, b5⟩ := live_sync L1 nm.dok (.inr rfl) f1
    have f2 : findF d2.files (draftN n) = some ⟨draftN n, Fr.putB (allRecs l), (Fr.putB (allRecs l)).length⟩ := by rw [b5, if_pos rfl]
    have n2 : findF d2.files n = findF d.files n := by rw [b5, if_neg (fun e => nm.ne e.symm), n1]
    by_cases g1 : d1.goes = true
    · rw [if_pos g1] at b1
      rw [b1] at u2
      have hc : compactE d n l = (7, d1.act.ends) := by
        unfold compactE
        rw [a1, if_neg (by simp), b1, if_pos (by show (7 : Int) ≠ 0; decide)]
      rw [hc] at hw
      obtain ⟨i, i1, i2, i3⟩ := ends_tf (e := d1.act) (n := n) (j := rs0.length) a2 a3 (by show (findF d1.files n = none ∧ _) ∨ findF d1.files n = _; rw [n1]; exact base) hlen0 f.good
      exact ⟨d1.act.ends, .inr ⟨fun e => goes_zero (by rw [a0]; exact act_zero e) g1, hw, ends_dead (u2.mono (by omega)) a2 a3 a4, _, i3, .inl ⟨i, i1, i2, rfl⟩⟩⟩
    rw [if_neg g1] at b1
    rw [b1] at u2
    have u3 := u2.rename (draftN n) n
    have hren : d2.rename (draftN n) n = d2.fall fun e => (e.drop (draftN n)).put ⟨n, (e.fileOr (draftN n)).b, (e.fileOr (draftN n)).safe⟩ := by
      unfold DS.rename
      rw [there_some b2 nm.dok f2, if_neg (by decide), if_neg (by rw [nm.ok]; decide)]
    have hfo : d2.act.fileOr (draftN n) = ⟨draftN n, Fr.putB (allRecs l), (Fr.putB (allRecs l)).length⟩ := fileOr_findF f2
    have hc : compactE d n l = d2.rename (draftN n) n := by
      unfold compactE
      rw [a1, if_neg (by simp), b1, if_neg (by simp)]
    have hga := Good.all hft
    -- behind the rename
    have r1 : findF ((d2.act.drop (draftN n)).put ⟨n, (d2.act.fileOr (draftN n)).b, (d2.act.fileOr (draftN n)).safe⟩).files n = some ⟨n, Fr.putB (allRecs l), (Fr.putB (allRecs l)).length⟩ := by
      rw [hfo]
      show findF (putF (delF d2.files (draftN n)) _) n = _
      rw [findF_putF, if_pos rfl]
    have r2 : findF ((d2.act.drop (draftN n)).put ⟨n, (d2.act.fileOr (draftN n)).b, (d2.act.fileOr (draftN n)).safe⟩).files (draftN n) = none := by
      show findF (putF (delF d2.files (draftN n)) _) (draftN n) = _
      rw [findF_putF, if_neg nm.ne, findF_delF, if_pos rfl]
    have r3 : Names ((d2.act.drop (draftN n)).put ⟨n, (d2.act.fileOr (draftN n)).b, (d2.act.fileOr (draftN n)).safe⟩) n := Names.put (d := d2.act.drop (draftN n)) (Names.del b4 (draftN n)) (.inl rfl)
    rw [hren] at u3 hc
    by_cases g2 : d2.goes = true
    · rw [fall_goes g2] at u3 hc
      have nz : d.fuse ≠ 0 := fun e => goes_zero (by rw [b0]; exact act_zero (by rw [a0]; exact act_zero e)) g2
      have hw2 : runS d n l .comp = (7, (if 0 < d2.keep then (d2.act.drop (draftN n)).put ⟨n, (d2.act.fileOr (draftN n)).b, (d2.act.fileOr (draftN n)).safe⟩ else d2.act).ends, l) := by rw [hw, hc]
      refine ⟨_, .inr ⟨nz, hw2, ?_⟩⟩
      have u3 : (if 0 < d2.keep then (d2.act.drop (draftN n)).put ⟨n, (d2.act.fileOr (draftN n)).b, (d2.act.fileOr (draftN n)).safe⟩ else d2.act).ends.Up (k + 3) := u3.mono (by omega)
      by_cases hk : 0 < d2.keep
      · rw [if_pos hk] at u3 ⊢
        obtain ⟨i, i1, i2, i3⟩ := ends_tf (n := n) (rs := allRecs l) (j := (allRecs l).length) (e := (d2.act.drop (draftN n)).put ⟨n, (d2.act.fileOr (draftN n)).b, (d2.act.fileOr (draftN n)).safe⟩) b2 b3 (.inr (by rw [List.take_length]; exact r1)) (Nat.le_refl _) hga
        have : i = (allRecs l).length := by omega
        subst this
        rw [List.take_length] at i3
        exact ⟨ends_dead u3 b2 b3 r3, _, i3, .inr ⟨rfl, rfl⟩⟩
      · rw [if_neg hk] at u3 ⊢
        obtain ⟨i, i1, i2, i3⟩ := ends_tf (e := d2.act) (n := n) (j := rs0.length) b2 b3 (by show (findF d2.files n = none ∧ _) ∨ findF d2.files n = _; rw [n2]; exact base) hlen0 f.good
        exact ⟨ends_dead u3 b2 b3 b4, _, i3, .inl ⟨i, i1, i2, rfl⟩⟩
    · rw [fall_not g2] at u3 hc
      refine ⟨(d2.act.drop (draftN n)).put ⟨n, (d2.act.fileOr (draftN n)).b, (d2.act.fileOr (draftN n)).safe⟩, .inl ⟨by rw [hw, hc]; rfl, by show (0 : Int) ≠ 7; decide, ⟨u3.mono (by omega), b2, b3, r3⟩, ⟨.inr (by show _ = some (⟨n, Fr.putB (allRecs l ++ []), _⟩ : Fl); rw [List.append_nil]; exact r1), r2, by show ∀ r ∈ allRecs l ++ [], _; rw [List.append_nil]; exact hga, ?_⟩, fun e => act_zero (by rw [b0]; exact act_zero (by rw [a0]; exact act_zero e))⟩⟩
      show stepAll [] (allRecs l ++ []) = l
      rw [List.append_nil]
      have := stepAll_all l [] hft (by rw [List.nil_append, ← f.list]; exact KN.nil.steps f.good)
      rw [List.nil_append] at this
      exact this
end
def CRow (l : List C5) (j : Nat) (kind : Int) (key val : ByteArray) (N fuse keep : Int) (torn : Bool) : Prop := ∃ hj : j < l.length, l[j] = (⟨kind, key, val, N, fuse, keep, torn⟩ : C5)
section
variable {l : List C5} {j : Nat} {kind N fuse keep : Int} {key val : ByteArray} {torn : Bool}
theorem CRow.get (hj : j < l.length) : ∃ kind key val N fuse keep torn, CRow l j kind key val N fuse keep torn := ⟨_, _, _, _, _, _, _, hj, rfl⟩
theorem CRow.tot (h : CRow l j kind key val N fuse keep torn) : key.size + val.size ≤ tot l := by
  obtain ⟨hj, e⟩ := h
  have := tot_le (List.getElem_mem hj)
  rw [e] at this
  exact this
theorem CRow.cost (h : CRow l j kind key val N fuse keep torn) : costL (l.take (j + 1)) = costL (l.take j) + costC kind key val := by
  obtain ⟨hj, e⟩ := h
  rw [costL_step hj, e]
theorem Script.cells {W w : World} {A : Option Addr} {n c : Nat} (h : Script W A n c l) (hb : Below W.heap.size W w) (hr : CRow l j kind key val N fuse keep torn) : ∃ ad : Addr, A = some ad ∧ w.cell? (ad.add (j * 7)) = some (.int .i64 kind) ∧ w.cell? ⟨(ad.add (j * 7)).block, (ad.add (j * 7)).off + 1, none⟩ = some (.string key) ∧ w.cell? ⟨(ad.add (j * 7)).block, (ad.add (j * 7)).off + 2, none⟩ = some (.string val) ∧ w.cell? ⟨(ad.add (j * 7)).block, (ad.add (j * 7)).off + 3, none⟩ = some (.int .i64 N) ∧ w.cell? ⟨(ad.add (j * 7)).block, (ad.add (j * 7)).off + 4, none⟩ = some (.int .i64 fuse) ∧ w.cell? ⟨(ad.add (j * 7)).block, (ad.add (j * 7)).off + 5, none⟩ = some (.int .i64 keep) ∧ w.cell? ⟨(ad.add (j * 7)).block, (ad.add (j * 7)).off + 6, none⟩ = some (.bool torn) := by
  obtain ⟨hj, e⟩ := hr
  have := h.at_ hb hj
  rw [e] at this
  exact this
end
section
variable {S1 Sa Sb S1' Sa' : Nat → Prop} {B : Nat} {W W' W2 : World} {gd ga gb pa pb : Nat} {d d' : DS} {n1 n2 : ByteArray} {la lb la' : List E} {za zb za' : Int}
theorem KD.second {w : World} (ha : KD S1 Sa B w gd ga d n1 20 la) (hb : KD S1' Sb B W gd gb d' n2 20 lb) (st : Step S1 w (U S1' Sb) W) : KSt Sa B W ga gd n1 20 la ∧ ∀ k, Sa k → ¬ U S1' Sb k :=
  ⟨ha.st.other st.only (fun k hk h => ha.dis k h hk), fun k hk => Step.disj st (fun k hk h => ha.dis k h hk) ha.st.hi k hk⟩
theorem KT.make (hb : KD S1 Sb B W gd gb d n2 20 []) (ha : KSt Sa B W ga gd n1 20 []) (dis : ∀ k, Sa k → ¬ U S1 Sb k) (o : Below W.heap.size W W') (ha2 : W'.heap[pa]? = some (.cells (mCells 20 (.slice none 0 0) 0) 40 (0, 0))) (hb2 : W'.heap[pb]? = some (.cells (mCells 20 (.slice none 0 0) 0) 40 (0, 0))) (la : W.heap.size ≤ pa) (lb : W.heap.size ≤ pb) (ne : pa ≠ pb) : KT S1 Sa Sb B W' gd ga gb pa pb d n1 n2 [] [] 0 0 := by
  have h1 : ∀ {k p}, S1 k → W.heap.size ≤ p → k ≠ p := fun hk hp e => by have := hb.dev.hi _ hk; omega
  have h2 : ∀ {k p}, Sa k → W.heap.size ≤ p → k ≠ p := fun hk hp e => by have := ha.hi _ hk; omega
  have h3 : ∀ {k p}, Sb k → W.heap.size ≤ p → k ≠ p := fun hk hp e => by have := hb.st.hi _ hk; omega
  refine ⟨⟨⟨hb.dev.below o, ha.below o, fun k hk h => dis k h (.inl hk), Nat.le_trans hb.size o.size⟩, ⟨⟨none, 0, Nat.le_refl _, ha2, Kd.F_nil _ _ _⟩, .inr (.inr (.inl rfl))⟩, .inr (.inl rfl), ?_, ?_, ?_⟩, hb.st.below o, ⟨⟨none, 0, Nat.le_refl _, hb2, Kd.F_nil _ _ _⟩, .inr (.inr (.inr rfl))⟩, ne, fun hk => h3 hk la rfl, fun hk => h3 hk lb rfl⟩
  · rintro k (hk | hk) (h | (h | h))
    · exact hb.dis k hk h
    · exact h1 hk la h
    · exact h1 hk lb h
    · exact dis k hk (.inr h)
    · exact h2 hk la h
    · exact h2 hk lb h
  · rintro k (h | (h | h))
    · exact Nat.lt_of_lt_of_le (hb.st.hi k h) o.size
    · rw [h]; exact blk_lt ha2
    · rw [h]; exact blk_lt hb2
  · rintro k (h | (h | h))
    · exact hb.st.lo k h
    · rw [h]; exact Nat.le_trans hb.size la
    · rw [h]; exact Nat.le_trans hb.size lb
end
section
variable {w : World} {A A2 : Option Addr} {n c n2 c2 : Nat} {sc sc2 : List C5}
end
structure DC (n : ByteArray) (m : Int) (T : Nat) (k : Int) (d : DS) (rs0 rs : List ByteArray) (l : List E) : Prop where
  live : Live d n 1048576 k
  f : StS d n rs0 rs l
  bud : Bud (rs0 ++ rs) T
  lf : LF l m
theorem plan_ret7 {l : List E} {m kind N e : Int} {key val : ByteArray} (h : planOf l m kind key val N = .ret e) : e ≠ 7 := by
  unfold planOf at h
  repeat' (first | (injection h with h; subst h; decide) | cases h | split at h)
theorem recsP_eq (rs0 rs : List ByteArray) (l : List E) (p : Plan) : safeP rs0 rs l p ++ moreP rs p = recsP (rs0 ++ rs) l p := by
  cases p with
  | wr rs2 => exact (List.append_assoc ..).symm
  | ret e => rfl
  | sync => exact List.append_nil _
  | comp => exact List.append_nil _
section
variable {n : ByteArray} {m k z : Int} {T : Nat} {d : DS} {rs0 rs : List ByteArray} {l : List E}
theorem DC.new (n : ByteArray) (hm : 1 ≤ m) : DC n m 0 0 (Dk.new 1048576) [] [] [] := ⟨⟨DS.Up.new 1048576, rfl, rfl, (fun f hf => nomatch hf)⟩, ⟨.inl ⟨rfl, rfl⟩, rfl, (fun r h => nomatch h), rfl⟩, Bud.nil 0, LF.nil hm⟩
theorem DC.kn (h : DC n m T k d rs0 rs l) : KN l := h.lf.kn
theorem DC.fine (h : DC n m T k d rs0 rs l) (nm : Nm n) (hm : 1 ≤ m ∧ m ≤ 4096) (hk : k < 4611686018427380000) (hz : 0 ≤ z ∧ z ≤ 1099511627776) : Fine d n m l z k := ⟨h.live.up, hk, h.lf.kn, h.lf.fit, by have := h.lf.len; omega, hm, nm.sz, hz⟩
theorem DC.mono (h : DC n m T k d rs0 rs l) {T' : Nat} {k' : Int} (hT : T ≤ T') (hk : k ≤ k') : DC n m T' k' d rs0 rs l := ⟨⟨h.live.up.mono hk, h.live.down, h.live.room, h.live.names⟩, h.f, h.bud.mono hT, h.lf⟩
theorem DC.call (h : DC n m T k d rs0 rs l) (nm : Nm n) (hm : 1 ≤ m) (kind : Int) (key val : ByteArray) (N : Int) (hT : T + costC kind key val ≤ 500000) (hz : 0 ≤ z) : ∃ y z', doesR l m z kind key val N 1048576 = (y, listP l (planOf l m kind key val N), z') ∧ 0 ≤ z' ∧ z' ≤ z + 500000 ∧ LF (listP l (planOf l m kind key val N)) m ∧ y = erP (planOf l m kind key val N) ∧
    ∃ d', (doesS d n m l kind key val N = (y, d', listP l (planOf l m kind key val N)) ∧ y ≠ 7 ∧ DC n m (T + costC kind key val) (k + 3) d' (safeP rs0 rs l (planOf l m kind key val N)) (moreP rs (planOf l m kind key val N)) (listP l (planOf l m kind key val N)) ∧ (d.fuse = 0 → d'.fuse = 0)) ∨
      (d.fuse ≠ 0 ∧ doesS d n m l kind key val N = (7, d', l) ∧ Dead d' n 1048576 (k + 3) ∧ ∃ rsx, TF d' n rsx 1048576 ∧ Loss rs0 rs l (planOf l m kind key val N) rsx ∧ Bud rsx (T + costC kind key val)) := by
  obtain ⟨hb, hnd⟩ := h.bud.plan (m := m) (kind := kind) (key := key) (val := val) (N := N) h.f.list h.lf
  have hlp := h.lf.plan hm kind key val N
  have hlen := (h.bud.all h.f.list).1
  have hR := runR_room (l := l) (z := z) (free := 1048576) (p := planOf l m kind key val N) (by omega)
  rw [← doesR_run] at hR
  have hzp : 0 ≤ zP l z (planOf l m kind key val N) ∧ zP l z (planOf l m kind key val N) ≤ z + 500000 := by
    have : ∀ p, needP l p ≤ 500000 → 0 ≤ zP l z p ∧ zP l z p ≤ z + 500000 := fun p hp => by
      cases p with
      | ret e => exact ⟨hz, by show z ≤ z + 500000; omega⟩
      | sync => exact ⟨hz, by show z ≤ z + 500000; omega⟩
      | wr rs =>
        have hp : ((Fr.putB rs).length : Int) ≤ 500000 := hp
        show 0 ≤ z + ((Fr.putB rs).length : Int) ∧ z + ((Fr.putB rs).length : Int) ≤ z + 500000
        omega
      | comp =>
        have hp : ((Fr.putB (allRecs l)).length : Int) ≤ 500000 := hp
        show 0 ≤ ((Fr.putB (allRecs l)).length : Int) ∧ ((Fr.putB (allRecs l)).length : Int) ≤ z + 500000
        omega
    exact this _ (by omega)
  refine ⟨_, _, hR, hzp.1, hzp.2, hlp, rfl, ?_⟩
  obtain ⟨d', hc⟩ := run_armed h.live h.f nm h.lf.fit (plan_good (m := m) (kind := kind) (key := key) (val := val) (N := N) h.lf.fit) (fun e he => plan_ret7 he) (by omega)
  refine ⟨d', ?_⟩
  rw [doesS_run]
  rcases hc with ⟨c1, c2, c3, c4, c5⟩ | ⟨c1, c2, c3, rsx, c4, c5⟩
  · exact .inl ⟨c1, c2, ⟨c3, c4, by rw [recsP_eq]; exact hb, hlp⟩, c5⟩
  · refine .inr ⟨c1, c2, c3, rsx, c4, c5, ?_⟩
    rcases c5 with ⟨i, i1, i2, rfl⟩ | ⟨i1, rfl⟩
    · have : Bud (recsW rs0 rs (planOf l m kind key val N)) (T + costC kind key val) := by
        have h0 := h.bud.mono (Nat.le_add_right T (costC kind key val))
        cases hp : planOf l m kind key val N with
        | wr rs2 =>
          rw [hp] at hb
          show Bud (rs0 ++ (rs ++ rs2)) _
          rw [← List.append_assoc]
          exact hb
        | ret e => exact h0
        | sync => exact h0
        | comp => exact h0
      exact this.take i
    · rw [i1] at hb
      exact hb
end
structure DMs (S1 S3 : Nat → Prop) (B : Nat) (W : World) (gd gm : Nat) (d : DS) (mm : Int) (ml : List E) (z : Int) : Prop where
  dev : Dev S1 B W gd d
  ms : MSt (U S1 S3) W gm mm ml z
  own : S3 gm
  dis : ∀ k, S1 k → ¬ S3 k
  hi : ∀ k, S3 k → k < W.heap.size
  lo : ∀ k, S3 k → B ≤ k
  size : B ≤ W.heap.size
section
variable {S1 S2 S3 S1' S2' : Nat → Prop} {B : Nat} {W W' : World} {gd g g' gm : Nat} {d d' : DS} {n : ByteArray} {m mm z : Int} {l l' ml : List E}
theorem MSt.shrink {S S' : Nat → Prop} (h : MSt S W gm mm ml z) (hS : ∀ k, S' k → S k) (hg : S' gm) : MSt S' W gm mm ml z := by
  obtain ⟨A, c, hc, h1, h2⟩ := h.at_
  exact ⟨⟨A, c, hc, h1, Kd.F_mono h2 (fun k hk hk2 => hk (hS k hk2))⟩, hg⟩
theorem DMs.below (h : DMs S1 S3 B W gd gm d mm ml z) (hb : Below W.heap.size W W') : DMs S1 S3 B W' gd gm d mm ml z := ⟨h.dev.below hb, h.ms.below hb, h.own, h.dis, fun k hk => Nat.lt_of_lt_of_le (h.hi k hk) hb.size, h.lo, Nat.le_trans h.size hb.size⟩
theorem DMs.step (h : DMs S1 S3 B W gd gm d mm ml z) (hd : Dev S1' B W' gd d') (st : Step S1 W S1' W') : DMs S1' S3 B W' gd gm d' mm ml z :=
  ⟨hd, h.ms.step (Step.left st) (st.only.block gm h.ms.lt (fun hk => h.dis gm hk h.own)) (.inr h.own), h.own, fun k hk h3 => Step.disj st (fun k h3 hk => h.dis k hk h3) h.hi k h3 hk, fun k hk => Nat.lt_of_lt_of_le (h.hi k hk) st.only.size, h.lo, Nat.le_trans h.size st.only.size⟩
theorem DMs.open_ (h : DMs S1 S3 B W gd gm d mm ml z) (hk : KD S1' S2' B W' gd g' d' n m l') (st : Step S1 W (U S1' S2') W') : KDM S1' S2' S3 B W' gd g' gm d' n m l' mm ml z :=
  ⟨hk, h.ms.step (Step.left st) (st.only.block gm h.ms.lt (fun hk => h.dis gm hk h.own)) (.inr h.own), h.own, fun k hk h3 => Step.disj st (fun k h3 hk => h.dis k hk h3) h.hi k h3 hk, fun k hk => Nat.lt_of_lt_of_le (h.hi k hk) st.only.size, h.lo⟩
theorem KDM.devS (h : KDM S1 S2 S3 B W gd g gm d n m l mm ml z) (hd : Dev S1' B W' gd d') (st : Step S1 W S1' W') : KDM S1' S2 S3 B W' gd g gm d' n m l mm ml z := (h.dev (h.kd.devStep hd st).1 (h.kd.devStep hd st).2).1
theorem DMs.cell1 (h : DMs S1 S3 B W gd gm d mm ml z) : ∃ A c q, q = ml.length ∧ ml.length ≤ c ∧ Kd.C kE W A ml.length ml ∧ W.cell? ⟨gm, 1, none⟩ = some (.slice A q c) := by
  obtain ⟨A, c, hc, hb, he⟩ := h.ms.at_
  exact ⟨A, c, _, rfl, hc, he.C, (blk_cell hb 1).trans rfl⟩
end
structure Ints (W : World) (A : Option Addr) (n : Nat) (l : List Int) : Prop where
  len : n = l.length
  C : Kd.C (Kd.int .i64) W A l.length l
  hi : ∀ x ∈ l, x ≤ 9223372036854775807
  few : l.length ≤ 140737488351232
theorem Ints.at_ {W w : World} {A : Option Addr} {n : Nat} {l : List Int} (h : Ints W A n l) (hb : Below W.heap.size W w) {j : Nat} (hj : j < l.length) : ∃ (ad : Addr) (x : Int), A = some ad ∧ x ≤ 9223372036854775807 ∧ w.cell? (ad.add j) = some (.int .i64 x) := by
  obtain ⟨ad, e, h0⟩ := Kd.at_int (Kd.C_below h.C hb) (j : Int) (by omega) (by omega)
  rw [Int.toNat_natCast] at h0
  refine ⟨ad, _, e, ?_, h0⟩
  show rd l (j : Int) ≤ _
  have : rd l (j : Int) = l[j] := by unfold rd; rw [Int.toNat_natCast, List.getD_eq_getElem?_getD, List.getElem?_eq_getElem hj]; rfl
  rw [this]
  exact h.hi _ (List.getElem_mem hj)
def stepsP (l : List E) (m kind : Int) (key val : ByteArray) (N : Int) : List ByteArray :=
  if kind = 0 then (if 65536 < (recP key val).size then [] else stepsR l m key val) else if kind = 1 then gones l (min N.toNat l.length) else []
def newS (l : List E) (st : List ByteArray) : List (List E) := (List.range st.length).map fun i => stepAll l (st.take (i + 1))
theorem newS_len (l : List E) (st : List ByteArray) : (newS l st).length = st.length := by unfold newS; rw [List.length_map, List.length_range]
theorem newS_get (l : List E) (st : List ByteArray) {a : Nat} (h : a < st.length) : (newS l st)[a]'(by rw [newS_len]; exact h) = stepAll l (st.take (a + 1)) := by
  unfold newS
  rw [List.getElem_map, List.getElem_range]
theorem newS_take (l : List E) (st : List ByteArray) {a : Nat} (h : a < st.length) : (newS l st).take (a + 1) = (newS l st).take a ++ [stepAll l (st.take (a + 1))] := by
  rw [List.take_succ_eq_append_getElem (by rw [newS_len]; exact h), newS_get l st h]
theorem newS_mem (l : List E) (st : List ByteArray) (q : Nat) : stepAll l (st.take q) = l ∨ stepAll l (st.take q) ∈ newS l st := by
  by_cases h : st = []
  · left; subst h; simp [stepAll]
  by_cases h0 : q = 0
  · left; subst h0; simp [stepAll]
  right
  have hl : 0 < st.length := List.length_pos_iff.2 h
  have e : st.take q = st.take (min (q - 1) (st.length - 1) + 1) := by
    rcases Nat.le_total q st.length with c | c
    · rw [show min (q - 1) (st.length - 1) + 1 = q by omega]
    · rw [show min (q - 1) (st.length - 1) + 1 = st.length by omega, List.take_of_length_le c, List.take_length]
  rw [e]
  unfold newS
  exact List.mem_map.2 ⟨_, List.mem_range.2 (by omega), rfl⟩
theorem take_gones (l : List E) (j i : Nat) : (gones l j).take i = gones l (min i j) := by
  unfold gones keysE
  rw [← List.map_take, ← List.map_take, List.take_take]
theorem stepE_step {l : List E} {st : List ByteArray} {a : Nat} (h : a < st.length) : stepAll l (st.take (a + 1)) = stepE (stepAll l (st.take a)) (st[a]) := by
  rw [List.take_succ_eq_append_getElem h, stepAll_append]
  rfl
theorem fit_steps : ∀ (rs : List ByteArray) (l : List E), (∀ r ∈ rs, Good r) → Fit l → Fit (stepAll l rs)
  | [], l, _, h => h
  | r :: rs, l, hg, h => by
    refine fit_steps rs (stepE l r) (fun x hx => hg x (List.mem_cons_of_mem _ hx)) ?_
    have hd : ∀ k, Fit (dropE l k) := fun k e he => h e (by
      unfold dropE at he
      split at he
      · exact List.mem_of_mem_eraseIdx he
      · exact he)
    rcases hg r (List.mem_cons_self ..) with ⟨k, u, rfl, hs⟩ | ⟨k, rfl, hs⟩
    · unfold stepE
      rw [doneE_recP l (by omega), Option.getD_some]
      intro e he
      rcases List.mem_append.1 he with he | he
      · exact hd k e he
      · rw [List.mem_singleton.1 he]; exact hs
    · unfold stepE
      rw [doneE_recG l (by omega), Option.getD_some]
      exact hd k
section
variable {l : List E} {m kind N : Int} {key val : ByteArray} {rs0 rs : List ByteArray}
theorem stepsP_good (hf : Fit l) : ∀ r ∈ stepsP l m kind key val N, Good r := by
  unfold stepsP
  split
  · split
    · intro r hr; cases hr
    · rename_i c
      unfold stepsR
      split
      · intro r hr; cases hr
      · exact Good.puts hf.short (Nat.not_lt.1 c)
  · split
    · exact Good.gones hf.short _
    · intro r hr; cases hr
theorem stepsP_len : (stepsP l m kind key val N).length ≤ l.length + 1 := by
  unfold stepsP
  split
  · split
    · exact Nat.zero_le _
    · unfold stepsR
      split
      · exact Nat.zero_le _
      · exact (putRecs_len2 l m key val).1
  · split
    · rw [gones_length]; omega
    · exact Nat.zero_le _
theorem plan_steps (rs0 rs : List ByteArray) (l : List E) (m kind : Int) (key val : ByteArray) (N : Int) : recsW rs0 rs (planOf l m kind key val N) = rs0 ++ (rs ++ stepsP l m kind key val N) ∧ listP l (planOf l m kind key val N) = stepAll l (stepsP l m kind key val N) ∧
    ((kind = 2 ∧ planOf l m kind key val N = .sync) ∨ (kind = 3 ∧ planOf l m kind key val N = .comp) ∨ (kind ≠ 2 ∧ kind ≠ 3 ∧ safeP rs0 rs l (planOf l m kind key val N) = rs0 ∧ moreP rs (planOf l m kind key val N) = rs ++ stepsP l m kind key val N ∧ planOf l m kind key val N ≠ .comp)) := by
  have hret : ∀ e, stepsP l m kind key val N = [] → kind ≠ 2 → kind ≠ 3 → planOf l m kind key val N = .ret e → recsW rs0 rs (planOf l m kind key val N) = rs0 ++ (rs ++ stepsP l m kind key val N) ∧ listP l (planOf l m kind key val N) = stepAll l (stepsP l m kind key val N) ∧
    ((kind = 2 ∧ planOf l m kind key val N = .sync) ∨ (kind = 3 ∧ planOf l m kind key val N = .comp) ∨ (kind ≠ 2 ∧ kind ≠ 3 ∧ safeP rs0 rs l (planOf l m kind key val N) = rs0 ∧ moreP rs (planOf l m kind key val N) = rs ++ stepsP l m kind key val N ∧ planOf l m kind key val N ≠ .comp)) := by
    intro e h1 h2 h3 h4
    rw [h1, h4, List.append_nil]
    exact ⟨rfl, rfl, .inr (.inr ⟨h2, h3, rfl, rfl, by simp⟩)⟩
  have hwr : kind ≠ 2 → kind ≠ 3 → planOf l m kind key val N = .wr (stepsP l m kind key val N) → recsW rs0 rs (planOf l m kind key val N) = rs0 ++ (rs ++ stepsP l m kind key val N) ∧ listP l (planOf l m kind key val N) = stepAll l (stepsP l m kind key val N) ∧
    ((kind = 2 ∧ planOf l m kind key val N = .sync) ∨ (kind = 3 ∧ planOf l m kind key val N = .comp) ∨ (kind ≠ 2 ∧ kind ≠ 3 ∧ safeP rs0 rs l (planOf l m kind key val N) = rs0 ∧ moreP rs (planOf l m kind key val N) = rs ++ stepsP l m kind key val N ∧ planOf l m kind key val N ≠ .comp)) := by
    intro h2 h3 h4
    rw [h4]
    exact ⟨rfl, rfl, .inr (.inr ⟨h2, h3, rfl, rfl, by simp⟩)⟩
  by_cases c0 : kind = 0
  · have n2 : kind ≠ 2 := by omega
    have n3 : kind ≠ 3 := by omega
    by_cases c1 : 65536 < (recP key val).size
    · exact hret 3 (by unfold stepsP; rw [if_pos c0, if_pos c1]) n2 n3 (by unfold planOf; rw [if_pos c0, if_pos c1])
    by_cases c2 : getE l key = some val
    · exact hret 0 (by unfold stepsP stepsR; rw [if_pos c0, if_neg c1, if_pos c2]) n2 n3 (by unfold planOf; rw [if_pos c0, if_neg c1, if_pos c2])
    · exact hwr n2 n3 (by unfold planOf stepsP stepsR; rw [if_pos c0, if_neg c1, if_neg c2, if_pos c0, if_neg c1, if_neg c2])
  by_cases c1 : kind = 1
  · have n2 : kind ≠ 2 := by omega
    have n3 : kind ≠ 3 := by omega
    have e1 : stepsP l m kind key val N = gones l (min N.toNat l.length) := by unfold stepsP; rw [if_neg c0, if_pos c1]
    by_cases c2 : N < 0
    · exact hret 1 (by rw [e1, show N.toNat = 0 by omega, Nat.zero_min]; rfl) n2 n3 (by unfold planOf; rw [if_neg c0, if_pos c1, if_pos c2])
    by_cases c3 : min N.toNat l.length = 0
    · exact hret 0 (by rw [e1, c3]; rfl) n2 n3 (by unfold planOf; rw [if_neg c0, if_pos c1, if_neg c2, if_pos c3])
    · exact hwr n2 n3 (by rw [e1]; unfold planOf; rw [if_neg c0, if_pos c1, if_neg c2, if_neg c3])
  have e1 : stepsP l m kind key val N = [] := by unfold stepsP; rw [if_neg c0, if_neg c1]
  by_cases c2 : kind = 2
  · have e2 : planOf l m kind key val N = .sync := by unfold planOf; rw [if_neg c0, if_neg c1, if_pos c2]
    rw [e2, e1, List.append_nil]
    exact ⟨rfl, rfl, .inl ⟨c2, rfl⟩⟩
  by_cases c3 : kind = 3
  · have e2 : planOf l m kind key val N = .comp := by unfold planOf; rw [if_neg c0, if_neg c1, if_neg c2, if_pos c3]
    rw [e2, e1, List.append_nil]
    exact ⟨rfl, rfl, .inr (.inl ⟨c3, rfl⟩)⟩
  exact hret 0 e1 c2 c3 (by unfold planOf; rw [if_neg c0, if_neg c1, if_neg c2, if_neg c3])
theorem steps_pre (h : LF l m) (hm : 1 ≤ m) (i : Nat) : ((stepAll l ((stepsP l m kind key val N).take i)).length : Int) ≤ m := by
  have hl := h.len
  have hgn : ∀ j, ((stepAll l (gones l (min j l.length))).length : Int) ≤ m := fun j => by
    rw [stepAll_gones l h.fit.short _ (Nat.min_le_right _ _), List.length_drop]
    omega
  have hgn2 : ∀ j i, ((stepAll l ((gones l j).take i)).length : Int) ≤ m := fun j i => by
    have e : (gones l j).take i = gones l (min (min i j) l.length) := by
      rw [take_gones]
      unfold gones keysE
      rcases Nat.le_total (min i j) l.length with c | c
      · rw [Nat.min_eq_left c]
      · rw [Nat.min_eq_right c, List.take_of_length_le c, List.take_length]
    rw [e]
    exact hgn _
  have hn : ∀ i, ((stepAll l (([] : List ByteArray).take i)).length : Int) ≤ m := fun i => by rw [List.take_nil]; exact hl
  unfold stepsP
  split
  · split
    · exact hn i
    · rename_i c1
      unfold stepsR
      split
      · exact hn i
      · have hall : ((stepAll l (putRecs l m key val)).length : Int) ≤ m := by rw [stepAll_put h.fit.short hm (Nat.not_lt.1 c1)]; exact putL_len hm hl
        unfold putRecs at hall ⊢
        split
        · rename_i hs
          rw [if_pos hs, List.nil_append] at hall
          rw [List.nil_append]
          cases i with
          | zero => exact hl
          | succ i => rw [List.take_of_length_le (by simp)]; exact hall
        · rename_i hs
          rw [if_neg hs] at hall
          rcases Nat.lt_or_ge (gones l (over l m)).length i with c | c
          · rw [List.take_of_length_le (by rw [List.length_append, List.length_singleton]; omega)]
            exact hall
          · rw [List.take_append_of_le_length c]
            exact hgn2 _ _
  · split
    · exact hgn2 _ _
    · exact hn i
end
theorem off_fuse0 (d : DS) (h : d.fuse = 0) (keep : Int) (torn : Bool) : (d.off keep torn).fuse = 0 := by
  unfold DS.off
  split
  · exact h
  · rfl
structure DL (n : ByteArray) (m : Int) (T : Nat) (k : Int) (d : DS) (rs0 rs : List ByteArray) (l : List E) (SS : List (List E)) : Prop where
  dc : DC n m T k d rs0 rs l
  pre : ∀ i, ((stepAll [] (rs0 ++ rs.take i)).length : Int) ≤ m
  mem : ∀ i, stepAll [] (rs0 ++ rs.take i) ∈ SS
  last : ∃ SS0, SS = SS0 ++ [l]
  len : ∀ X ∈ SS, X.length ≤ 1000
section
variable {n : ByteArray} {m k z : Int} {T : Nat} {d : DS} {rs0 rs : List ByteArray} {l : List E} {SS : List (List E)}
theorem DL.mono (h : DL n m T k d rs0 rs l SS) {T' : Nat} {k' : Int} (hT : T ≤ T') (hk : k ≤ k') : DL n m T' k' d rs0 rs l SS := ⟨h.dc.mono hT hk, h.pre, h.mem, h.last, h.len⟩
theorem DL.new (n : ByteArray) (hm : 1 ≤ m) : DL n m 0 0 (Dk.new 1048576) [] [] [] [[]] := ⟨DC.new n hm, fun i => by rw [List.take_nil]; show (0 : Int) ≤ m; omega, fun i => by rw [List.take_nil]; exact List.mem_singleton.2 rfl, ⟨[], rfl⟩, fun X hX => by rw [List.mem_singleton.1 hX]; exact Nat.zero_le _⟩
theorem DC.arm (h : DC n m T k d rs0 rs l) (F K : Int) (t : Bool) (hF : F ≤ 9223372036854775807) : DC n m T k (d.arm F K t) rs0 rs l := ⟨⟨h.live.up.arm F K t hF, h.live.down, h.live.room, h.live.names⟩, ⟨h.f.file, h.f.draft, h.f.good, h.f.list⟩, h.bud, h.lf⟩
theorem DL.arm (h : DL n m T k d rs0 rs l SS) (F K : Int) (t : Bool) (hF : F ≤ 9223372036854775807) : DL n m T k (d.arm F K t) rs0 rs l SS := ⟨h.dc.arm F K t hF, h.pre, h.mem, h.last, h.len⟩
theorem DL.next (h : DL n m T k d rs0 rs l SS) (nm : Nm n) (hm : 1 ≤ m ∧ m ≤ 100) (kind : Int) (key val : ByteArray) (N F K : Int) (t : Bool) (hF : F ≤ 9223372036854775807) (hT : T + costC kind key val ≤ 500000) (hz : 0 ≤ z) : ∃ y z', doesR l m z kind key val N 1048576 = (y, stepAll l (stepsP l m kind key val N), z') ∧ 0 ≤ z' ∧ z' ≤ z + 500000 ∧ LF (stepAll l (stepsP l m kind key val N)) m ∧ ((kind = 2 ∨ kind = 3) → y = 0) ∧
    ∃ d', (doesS (d.arm F K t) n m l kind key val N = (y, d', stepAll l (stepsP l m kind key val N)) ∧ y ≠ 7 ∧ ∃ rs0' rs', DL n m (T + costC kind key val) (k + 3) (d'.arm 0 0 false) rs0' rs' (stepAll l (stepsP l m kind key val N)) (if kind = 2 ∨ kind = 3 then [stepAll l (stepsP l m kind key val N)] else SS ++ newS l (stepsP l m kind key val N))) ∨
      (doesS (d.arm F K t) n m l kind key val N = (7, d', l) ∧ (d'.arm 0 0 false).Up (k + 3) ∧ ((d'.arm 0 0 false).off K t).Up (k + 3) ∧ ((d'.arm 0 0 false).off K t).on.Up (k + 3) ∧ ∃ rsx d3, OpenP ((d'.arm 0 0 false).off K t).on n rsx 0 d3 ∧ (∀ r ∈ rsx, Good r) ∧ stepAll [] rsx ∈ SS ++ newS l (stepsP l m kind key val N) ∧ LF (stepAll [] rsx) m ∧
        DL n m (T + costC kind key val) (k + 5) d3 rsx [] (stepAll [] rsx) [stepAll [] rsx]) := by
  have hgood := stepsP_good (m := m) (kind := kind) (key := key) (val := val) (N := N) h.dc.lf.fit
  have hlen := stepsP_len (l := l) (m := m) (kind := kind) (key := key) (val := val) (N := N)
  have hpre := steps_pre (kind := kind) (key := key) (val := val) (N := N) h.dc.lf hm.1
  obtain ⟨p1, p2, p3⟩ := plan_steps rs0 rs l m kind key val N
  obtain ⟨y, z', a1, a2, a3, a4, a5, d', a6⟩ := (h.dc.arm F K t hF).call (z := z) nm hm.1 kind key val N hT hz
  rw [p2] at a1 a4 a6
  have hlm : l ∈ SS := by obtain ⟨SS0, e⟩ := h.last; rw [e]; exact List.mem_append_right _ (List.mem_singleton.2 rfl)
  -- what some of the records lead to
  have hst : ∀ i, ((stepAll [] (rs0 ++ (rs ++ stepsP l m kind key val N).take i)).length : Int) ≤ m ∧ stepAll [] (rs0 ++ (rs ++ stepsP l m kind key val N).take i) ∈ SS ++ newS l (stepsP l m kind key val N) := by
    intro i
    rcases Nat.le_total i rs.length with c | c
    · rw [List.take_append_of_le_length c]
      exact ⟨h.pre i, List.mem_append_left _ (h.mem i)⟩
    · have e : stepAll [] (rs0 ++ (rs ++ stepsP l m kind key val N).take i) = stepAll l ((stepsP l m kind key val N).take (i - rs.length)) := by
        rw [List.take_append, List.take_of_length_le c, ← List.append_assoc, stepAll_append, h.dc.f.list]
      rw [e]
      refine ⟨hpre _, ?_⟩
      rcases newS_mem l (stepsP l m kind key val N) (i - rs.length) with e2 | e2
      · rw [e2]; exact List.mem_append_left _ hlm
      · exact List.mem_append_right _ e2
  have hnl : ∀ X ∈ SS ++ newS l (stepsP l m kind key val N), X.length ≤ 1000 := fun X hX => by
    rcases List.mem_append.1 hX with hX | hX
    · exact h.len X hX
    · unfold newS at hX
      obtain ⟨i, _, rfl⟩ := List.mem_map.1 hX
      have := hpre (i + 1)
      omega
  have hlast : ∃ SS0, SS ++ newS l (stepsP l m kind key val N) = SS0 ++ [stepAll l (stepsP l m kind key val N)] := by
    by_cases e : stepsP l m kind key val N = []
    · obtain ⟨SS0, e2⟩ := h.last
      rw [e]
      exact ⟨SS0, by rw [e2]; simp [newS, stepAll]⟩
    · have hp : 0 < (stepsP l m kind key val N).length := List.length_pos_iff.2 e
      refine ⟨SS ++ (newS l (stepsP l m kind key val N)).take ((stepsP l m kind key val N).length - 1), ?_⟩
      have := newS_take l (stepsP l m kind key val N) (a := (stepsP l m kind key val N).length - 1) (by omega)
      rw [show (stepsP l m kind key val N).length - 1 + 1 = (stepsP l m kind key val N).length by omega, List.take_length, List.take_of_length_le (by rw [newS_len]; exact Nat.le_refl _)] at this
      rw [List.append_assoc, ← this]
  have hone : ∀ {rs0' : List ByteArray}, stepAll [] (rs0' ++ []) = stepAll l (stepsP l m kind key val N) → DC n m (T + costC kind key val) (k + 3) d' rs0' [] (stepAll l (stepsP l m kind key val N)) → DL n m (T + costC kind key val) (k + 3) (d'.arm 0 0 false) rs0' [] (stepAll l (stepsP l m kind key val N)) [stepAll l (stepsP l m kind key val N)] := fun {rs0'} e hd =>
    ⟨hd.arm 0 0 false (by decide), fun i => by rw [List.take_nil, e]; exact a4.len, fun i => by rw [List.take_nil, e]; exact List.mem_singleton.2 rfl, ⟨[], rfl⟩, fun X hX => by rw [List.mem_singleton.1 hX]; have := a4.len; omega⟩
  refine ⟨y, z', a1, a2, a3, a4, fun hk => ?_, d', ?_⟩
  · rcases p3 with ⟨_, e⟩ | ⟨_, e⟩ | ⟨e1, e2, _⟩
    · rw [a5, e]; rfl
    · rw [a5, e]; rfl
    · exact absurd hk (fun hk => hk.elim e1 e2)
  rcases a6 with ⟨b1, b2, b3, b4⟩ | ⟨_, b1, b3, rsx, b4, b5, b6⟩
  · refine .inl ⟨b1, b2, ?_⟩
    rcases p3 with ⟨e1, e2⟩ | ⟨e1, e2⟩ | ⟨e1, e2, e3, e4, e5⟩
    · rw [e2] at b3
      rw [if_pos (.inl e1)]
      exact ⟨_, _, hone b3.f.list b3⟩
    · rw [e2] at b3
      rw [if_pos (.inr e1)]
      exact ⟨_, _, hone b3.f.list b3⟩
    · rw [e3, e4] at b3
      rw [if_neg (fun hk => hk.elim e1 e2)]
      exact ⟨_, _, b3.arm 0 0 false (by decide), fun i => (hst i).1, fun i => (hst i).2, hlast, hnl⟩
  · right
    have u1 : (d'.arm 0 0 false).Up (k + 3) := b3.up.arm 0 0 false (by decide)
    have u2 : ((d'.arm 0 0 false).off K t).Up (k + 3) := u1.off K t
    have hx : stepAll [] rsx ∈ SS ++ newS l (stepsP l m kind key val N) ∧ ((stepAll [] rsx).length : Int) ≤ m := by
      rcases b5 with ⟨i, i1, i2, rfl⟩ | ⟨i1, rfl⟩
      · rw [p1]
        have e : (rs0 ++ (rs ++ stepsP l m kind key val N)).take i = rs0 ++ (rs ++ stepsP l m kind key val N).take (i - rs0.length) := by
          rw [List.take_append, List.take_of_length_le i1]
        rw [e]
        exact ⟨(hst _).2, (hst _).1⟩
      · rw [stepAll_all' h.dc.lf.fit h.dc.lf.kn]
        exact ⟨List.mem_append_left _ hlm, h.dc.lf.len⟩
    have hlf : LF (stepAll [] rsx) m := ⟨KN.nil.steps b4.good, fit_steps rsx [] b4.good (fun e he => nomatch he), hx.2⟩
    have t2 : TF ((d'.arm 0 0 false).off K t).on n rsx 1048576 := ((b4.arm 0 0 false).off K t).on
    obtain ⟨er, d3, c1, c2, c3, c4, c5, c6, c7⟩ := open_plain t2 u2.on nm (by decide) rfl
    have he := (c7 (off_fuse0 _ rfl K t)).1
    subst he
    have ho := c6 rfl
    have hnames : Names d3 n := c1.names (Names.off (d := d'.arm 0 0 false) b3.names K t)
    refine ⟨b1, u1, u2, u2.on, rsx, d3, c1, b4.good, hx.1, hlf, ⟨⟨⟨c3.mono (by omega), ho.down, ho.room, hnames⟩, ⟨?_, ho.draft, by rw [List.append_nil]; exact b4.good, by rw [List.append_nil]⟩, by rw [List.append_nil]; exact b6, hlf⟩, fun i => by rw [List.take_nil, List.append_nil]; exact hx.2, fun i => by rw [List.take_nil, List.append_nil]; exact List.mem_singleton.2 rfl, ⟨[], rfl⟩, fun X hX => by rw [List.mem_singleton.1 hX]; have := hx.2; omega⟩⟩
    rw [List.append_nil]
    exact ho.file
end
def SV (S : Nat → Prop) (W : World) (v : Value) (X : List E) : Prop := ∃ A c, v = .slice A X.length c ∧ X.length ≤ c ∧ ERow S W A X.length X
structure SRow (S : Nat → Prop) (W : World) (gs o n cap : Nat) (SS : List (List E)) : Prop where
  len : n = SS.length
  blk : ∃ cur, W.heap[gs]? = some (.cells cur 38 (0, 0)) ∧ o + cap ≤ cur.size ∧ n ≤ cap ∧ cap ≤ maxLen ∧ ∀ j (hj : j < SS.length), ∃ v, cur[o + j]? = some v ∧ SV S W v SS[j]
  sg : S gs
section
variable {S S' : Nat → Prop} {W W' : World} {gs o n cap : Nat} {SS : List (List E)} {X : List E} {v : Value}
theorem SV.step (h : SV S W v X) (st : Step S W S' W') : SV S' W' v X := by
  obtain ⟨A, c, e, hc, hr⟩ := h
  exact ⟨A, c, e, hc, hr.step st⟩
theorem SV.one (h : SV S W v X) : v.oneCell' = true := by
  obtain ⟨A, c, rfl, _⟩ := h
  rfl
theorem SV.nil : SV S W (.slice none 0 0) [] := ⟨none, 0, rfl, Nat.le_refl _, Kd.F_nil _ _ _⟩
theorem SRow.step (h : SRow S W gs o n cap SS) (st : Step S W S' W') (hg : W'.heap[gs]? = W.heap[gs]?) (hS : S' gs) : SRow S' W' gs o n cap SS := by
  obtain ⟨cur, h1, h2, h3, h4, h5⟩ := h.blk
  refine ⟨h.len, ⟨cur, hg.trans h1, h2, h3, h4, fun j hj => ?_⟩, hS⟩
  obtain ⟨v, e, hv⟩ := h5 j hj
  exact ⟨v, e, hv.step st⟩
theorem SRow.lt (h : SRow S W gs o n cap SS) : gs < W.heap.size := by
  obtain ⟨cur, h1, _⟩ := h.blk
  exact blk_lt h1
theorem SRow.below (h : SRow S W gs o n cap SS) (hb : Below W.heap.size W W') : SRow S W' gs o n cap SS := h.step ⟨(Only.refl S W).below hb, fun k hk => .inl hk⟩ (hb.block gs h.lt) h.sg
theorem SRow.pos (h : SRow S W gs o n cap SS) : n ≤ cap := by
  obtain ⟨cur, _, _, h3, _⟩ := h.blk
  exact h3
theorem SRow.get (h : SRow S W gs o n cap SS) {j : Nat} (hj : j < SS.length) : ∃ A c, W.cell? ⟨gs, o + j, none⟩ = some (.slice A SS[j].length c) ∧ SS[j].length ≤ c ∧ ERow S W A SS[j].length SS[j] := by
  obtain ⟨cur, h1, h2, h3, h4, h5⟩ := h.blk
  obtain ⟨v, e, A, c, rfl, hc, hr⟩ := h5 j hj
  exact ⟨A, c, (blk_cell h1 (o + j)).trans e, hc, hr⟩
theorem SRow.lit (st : Step S W S' W') (hv : SV S W v X) (hg : W'.heap[gs]? = some (.cells #[v] 38 (0, 0))) (hS : S' gs) : SRow S' W' gs 0 1 1 [X] := by
  refine ⟨rfl, ⟨#[v], hg, Nat.le_refl _, Nat.le_refl _, by decide, fun j hj => ?_⟩, hS⟩
  have : j = 0 := by simpa using hj
  subst this
  exact ⟨v, rfl, hv.step st⟩
theorem SRow.from (h : SRow S W gs o n cap SS) {q : Nat} (hq : q ≤ n) : SRow S W gs (o + q) (n - q) (cap - q) (SS.drop q) := by
  obtain ⟨cur, h1, h2, h3, h4, h5⟩ := h.blk
  have hl := h.len
  refine ⟨by rw [List.length_drop, hl], ⟨cur, h1, by omega, by omega, by omega, fun j hj => ?_⟩, h.sg⟩
  rw [List.length_drop] at hj
  obtain ⟨v, e, hv⟩ := h5 (q + j) (by omega)
  exact ⟨v, by rw [Nat.add_assoc]; exact e, by rw [List.getElem_drop]; exact hv⟩
end
theorem info38 : (Try.prog.info? 38).map (fun i => (i.zero, i.size, i.bytes)) = some (some (.slice none 0 0), 1, 24) := by kernel_rfl
section
variable {F : Nat → Nat → Prop} {W : World} {gs o n cap : Nat} {SS : List (List E)} {X : List E} {v : Value}
theorem run_S_append (hF : ∀ g g' k, F g' k → F g k ∨ k = g') (hFg : ∀ g, F g g) (h : SRow (F gs) W gs o n cap SS) (hv : SV (F gs) W v X) (hl : n + 1 ≤ 1048576) (ty : TypeId) :
    ∃ gs' o' cap' w', (Builtin.append_ #[57, 57] ty #[.slice (some ⟨gs, o, none⟩) n cap, .slice (some ⟨W.heap.size, 0, none⟩) 1 1]).run Try.prog (W.alloc (.cells [v].toArray 38)) = .ok (.slice (some ⟨gs', o', none⟩) (n + 1) cap') w' ∧
      SRow (F gs') w' gs' o' (n + 1) cap' (SS ++ [X]) ∧ Step (F gs) W (F gs') w' ∧ Only (At1 gs) W w' ∧ (gs' = gs ∨ W.heap.size ≤ gs') := by
  obtain ⟨i0, hi, hzz⟩ := Option.map_eq_some_iff.1 info38
  simp only [Prod.mk.injEq] at hzz
  obtain ⟨hz0, hz1, hz2⟩ := hzz
  obtain ⟨cur, h1, h2, h3, h4, h5⟩ := h.blk
  have hlen := h.len
  have hb0 := below_alloc (Below.refl W.heap.size W) (.cells [v].toArray 38 (0, 0))
  have h1' := (hb0.block gs (blk_lt h1)).trans h1
  have hnew := blk_new W (.cells [v].toArray 38 (0, 0))
  have hnews : ∀ j u, [v][j]? = some u → (W.alloc (.cells [v].toArray 38 (0, 0))).cell? ((⟨W.heap.size, 0, none⟩ : Addr).add j) = some u := fun j u hj => by
    have : j = 0 := by
      have := (List.getElem?_eq_some_iff.1 hj).1
      simpa using this
    subst this
    rw [show (⟨W.heap.size, 0, none⟩ : Addr).add 0 = ⟨W.heap.size, 0, none⟩ from by simp [Addr.add]]
    exact (blk_cell hnew 0).trans hj
  have h1c : ∀ u ∈ [v], u.oneCell' = true := fun u hu => by rw [List.mem_singleton.1 hu]; exact hv.one
  by_cases c : n + 1 ≤ cap
  · have hr := run_append_room_cells (P := Try.prog) (W.alloc (.cells [v].toArray 38 (0, 0))) 57 ty 38 i0 Try.underlying57 hi gs o n cap ⟨W.heap.size, 0, none⟩ 1 1 [v] (by rw [hz1]; rfl) hnews h1c c
      (fun j hj => by
        have : j = 0 := by simpa using hj
        subst this
        rw [hz1, blk_cell h1', Array.getElem?_eq_getElem (by omega)]
        rfl) (fun j hj => blk_frozen h1' _)
    rw [hz1, Nat.mul_one] at hr
    have hset : World.setCells (W.alloc (.cells [v].toArray 38 (0, 0))) gs (o + n) [v] = (W.alloc (.cells [v].toArray 38 (0, 0))).setCell ⟨gs, o + n, none⟩ v := rfl
    rw [hset] at hr
    have hon : Only (At1 gs) W ((W.alloc (.cells [v].toArray 38 (0, 0))).setCell ⟨gs, o + n, none⟩ v) := ((Only.refl (At1 gs) W).below hb0).setCell (.inl rfl) v
    have hst : Step (F gs) W (F gs) ((W.alloc (.cells [v].toArray 38 (0, 0))).setCell ⟨gs, o + n, none⟩ v) := ⟨hon.mono (fun k e => by have e : k = gs := e; rw [e]; exact hFg gs), fun k hk => .inl hk⟩
    refine ⟨gs, o, cap, _, hr, ⟨by rw [List.length_append, List.length_singleton, hlen], ⟨cur.setIfInBounds (o + n) v, blk_set h1' (o + n) v, by rw [Array.size_setIfInBounds]; exact h2, c, h4, fun j hj => ?_⟩, hFg gs⟩, hst, hon, .inl rfl⟩
    rw [List.length_append, List.length_singleton] at hj
    by_cases hj2 : j < SS.length
    · obtain ⟨u, e, hu⟩ := h5 j hj2
      refine ⟨u, ?_, by rw [List.getElem_append_left hj2]; exact hu.step hst⟩
      rw [Array.getElem?_setIfInBounds_ne (by omega)]
      exact e
    · have : j = SS.length := by omega
      subst this
      refine ⟨v, ?_, by rw [List.getElem_append_right (Nat.le_refl _)]; simpa using hv.step hst⟩
      rw [hlen, Array.getElem?_setIfInBounds_self_of_lt (by omega)]
  · have hsz1 : cur.toList.length = cur.size := Array.length_toList
    have hol : ((cur.toList.drop o).take n).length = n * 1 := by rw [List.length_take, List.length_drop, hsz1]; omega
    have hget : ∀ j, j < n → ((cur.toList.drop o).take n)[j]? = cur[o + j]? := fun j hj => by
      rw [List.getElem?_take_of_lt hj, List.getElem?_drop, Array.getElem?_toList]
    obtain ⟨v', w', hr, hown, hg⟩ := run_append_arg_grows (P := Try.prog) (W.alloc (.cells [v].toArray 38 (0, 0))) 57 ty 38 i0 (.slice none 0 0) 1 24 Try.underlying57 hi hz0 hz1 hz2 rfl (by decide) ⟨gs, o, none⟩ n cap ((cur.toList.drop o).take n) hol
      (fun j u hj => by
        have hjn : j < n := by have := (List.getElem?_eq_some_iff.1 hj).1; rw [hol] at this; omega
        rw [hget j hjn] at hj
        have ha : (⟨gs, o, none⟩ : Addr).add j = ⟨gs, o + j, none⟩ := by unfold Addr.add; by_cases e : j = 0 <;> simp [e]
        rw [ha]
        exact (blk_cell h1' (o + j)).trans hj) ⟨W.heap.size, 0, none⟩ 1 1 [v] rfl hnews (by omega) (by simp only [maxLen]; omega) (by omega)
    obtain ⟨hxl, hx⟩ := hown
    rcases hx with ⟨_, e0⟩ | ⟨g', cap', cur', rfl, hge, hgb, k1, k2, k3, k4⟩
    · omega
    have hle : W.heap.size ≤ g' := by
      have : W.heap.size ≤ (W.alloc (.cells [v].toArray 38 (0, 0))).heap.size := hb0.size
      omega
    have hon : Only (At1 gs) W w' := ((Only.refl (At1 gs) W).below hb0).grown hg (fun k e => nomatch e)
    have hst : Step (F gs) W (F g') w' := ⟨hon.mono (fun k e => by have e : k = gs := e; rw [e]; exact hFg gs), fun k hk => (hF gs g' k hk).elim .inl (fun e => .inr (by rw [e]; exact hle))⟩
    refine ⟨g', 0, cap', w', hr, ⟨by rw [List.length_append, List.length_singleton, hlen], ⟨cur', hgb, by rw [k3]; omega, k1, k2, fun j hj => ?_⟩, hFg g'⟩, hst, hon, .inr hle⟩
    rw [List.length_append, List.length_singleton] at hj
    have hcj : ∀ u, ((cur.toList.drop o).take n ++ [v])[j]? = some u → cur'[0 + j]? = some u := fun u hu => by
      rw [Nat.zero_add, ← Array.getElem?_toList]
      rw [← k4] at hu
      rw [List.getElem?_take_of_lt (by rw [Nat.mul_one]; omega)] at hu
      exact hu
    by_cases hj2 : j < SS.length
    · obtain ⟨u, e, hu⟩ := h5 j hj2
      refine ⟨u, hcj u ?_, by rw [List.getElem_append_left hj2]; exact hu.step hst⟩
      rw [List.getElem?_append_left (by rw [hol]; omega), hget j (by omega)]
      exact e
    · have : j = SS.length := by omega
      subst this
      refine ⟨v, hcj v ?_, by rw [List.getElem_append_right (Nat.le_refl _)]; simpa using hv.step hst⟩
      rw [List.getElem?_append_right (by rw [hol]; omega), hol, show SS.length - n * 1 = 0 by omega]
      rfl
end
section
variable {ops : Array Oper} {rest : List Oper} {op : Oper} {a : Act} {Q : Exit → Act → World → Prop} {F : Nat → Nat → Prop} {W : World} {gs o n cap : Nat} {SS : List (List E)} {X : List E} {v : Value}
theorem S_append (hgd : op.guard = none) (s x : Operand) (hop : op.op = .call { callee := .builtin .append, args := #[s, x], argTypes := #[57, 57] }) (hF : ∀ g g' k, F g' k → F g k ∨ k = g') (hFg : ∀ g, F g g) (h : SRow (F gs) W gs o n cap SS) (hv : SV (F gs) W v X) (hl : n + 1 ≤ 1048576)
    (hs : a.eval s = .slice (some ⟨gs, o, none⟩) n cap) (hx : a.eval x = .slice (some ⟨W.heap.size, 0, none⟩) 1 1)
    (k : ∀ gs' o' cap' w', SRow (F gs') w' gs' o' (n + 1) cap' (SS ++ [X]) → Step (F gs) W (F gs') w' → Only (At1 gs) W w' → (gs' = gs ∨ W.heap.size ≤ gs') → wpList Try.prog ops Q rest (a.put op.dst (.slice (some ⟨gs', o', none⟩) (n + 1) cap')) w') :
    wpList Try.prog ops Q (op :: rest) a (W.alloc (.cells [v].toArray 38)) := by
  obtain ⟨gs', o', cap', w', hr, h1, h2, h3, h4⟩ := run_S_append hF hFg h hv hl op.type
  refine wpList_plain hgd fun K hK => ?_
  unfold Oper.wp execOp
  simp only [hop, resolve, invoke, builtin, Sem.run_bind, Sem.run_pure, Result.andThen_ok, List.map_toArray, List.map_cons, List.map_nil, hs, hx]
  rw [hr]
  simp only [Result.andThen_ok]
  exact hK _ _ (k gs' o' cap' w' h1 h2 h3 h4)
end
abbrev Sr (gm gs : Nat) : Nat → Prop := fun k => k = gm ∨ k = gs
abbrev UR (S1 S2 : Nat → Prop) (gm gs : Nat) : Nat → Prop := U (U S1 S2) (Sr gm gs)
structure KL (S1 S2 : Nat → Prop) (B : Nat) (W : World) (gd g gm gs o nn cap : Nat) (d : DS) (m : Int) (l ml : List E) (z : Int) (SS : List (List E)) : Prop where
  k : KDM S1 S2 (Sr gm gs) B W gd g gm d kN m l m ml z
  s : SRow (UR S1 S2 gm gs) W gs o nn cap SS
  ne : gm ≠ gs
theorem UR.fam {S1 S2 : Nat → Prop} {gm : Nat} : ∀ g g' k, UR S1 S2 gm g' k → UR S1 S2 gm g k ∨ k = g' := fun g g' k h => by
  rcases h with h | (h | h)
  · exact .inl (.inl h)
  · exact .inl (.inr (.inl h))
  · exact .inr h
theorem UR.own {S1 S2 : Nat → Prop} {gm : Nat} : ∀ g, UR S1 S2 gm g g := fun g => .inr (.inr rfl)
section
variable {S1 S2 S1' S2' : Nat → Prop} {B : Nat} {W W' : World} {gd g g' gm gs gs' o o' nn nn' cap cap' : Nat} {d d' : DS} {m z z' : Int} {l l' ml ml' X : List E} {SS SS' : List (List E)}
theorem KL.gsU (h : KL S1 S2 B W gd g gm gs o nn cap d m l ml z SS) : ¬ U S1 S2 gs := fun hk => h.k.dis gs hk (.inr rfl)
theorem KL.below (h : KL S1 S2 B W gd g gm gs o nn cap d m l ml z SS) (hb : Below W.heap.size W W') : KL S1 S2 B W' gd g gm gs o nn cap d m l ml z SS := ⟨h.k.below hb, h.s.below hb, h.ne⟩
theorem KL.dev (h : KL S1 S2 B W gd g gm gs o nn cap d m l ml z SS) (hd : Dev S1' B W' gd d') (st : Step S1 W S1' W') : KL S1' S2 B W' gd g gm gs o nn cap d' m l ml z SS ∧ Step (UR S1 S2 gm gs) W (UR S1' S2 gm gs) W' := by
  have st2 : Step (UR S1 S2 gm gs) W (UR S1' S2 gm gs) W' := Step.left (Step.left st)
  exact ⟨⟨h.k.devS hd st, h.s.step st2 (st.only.block gs h.s.lt (fun hk => h.gsU (.inl hk))) (UR.own gs), h.ne⟩, st2⟩
theorem KL.does (h : KL S1 S2 B W gd g gm gs o nn cap d m l ml z SS) (hk : KDM S1' S2' (Sr gm gs) B W' gd g gm d' kN m l' m ml' z') (st : Step (U (U S1 S2) (At1 gm)) W (U (U S1' S2') (At1 gm)) W') : KL S1' S2' B W' gd g gm gs o nn cap d' m l' ml' z' SS ∧ Step (UR S1 S2 gm gs) W (UR S1' S2' gm gs) W' := by
  have st2 : Step (UR S1 S2 gm gs) W (UR S1' S2' gm gs) W' := Step.wide (S3 := Sr gm gs) st (.inl rfl)
  exact ⟨⟨hk, h.s.step st2 (st.only.block gs h.s.lt (fun hk => hk.elim h.gsU (fun e => h.ne (show gs = gm from e).symm))) (UR.own gs), h.ne⟩, st2⟩
theorem KL.open_ (h : KL S1 S2 B W gd g gm gs o nn cap d m l ml z SS) (hk : KD S1' S2' B W' gd g' d' kN m l') (st : Step S1 W (U S1' S2') W') : KL S1' S2' B W' gd g' gm gs o nn cap d' m l' ml z SS ∧ Step (UR S1 S2 gm gs) W (UR S1' S2' gm gs) W' := by
  obtain ⟨h1, st2⟩ := h.k.open_ hk st
  exact ⟨⟨h1, h.s.step st2 (st.only.block gs h.s.lt (fun hk => h.gsU (.inl hk))) (UR.own gs), h.ne⟩, st2⟩
theorem KL.grown (h : KL S1 S2 B W gd g gm gs o nn cap d m l ml z SS) (h1 : SRow (UR S1 S2 gm gs') W' gs' o' nn' cap' SS') (st : Step (UR S1 S2 gm gs) W (UR S1 S2 gm gs') W') (ho : Only (At1 gs) W W') (hg : gs' = gs ∨ W.heap.size ≤ gs') : KL S1 S2 B W' gd g gm gs' o' nn' cap' d m l ml z SS' := by
  have hlt : ∀ k, U S1 S2 k → k < W.heap.size := fun k hk => h.k.hiU k (.inl hk)
  have n1 : ∀ k, U S1 S2 k → k ≠ gs' := fun k hk e => by
    rcases hg with e2 | e2
    · rw [e2] at e; rw [e] at hk; exact h.gsU hk
    · have := hlt k hk; omega
  have n2 : gm ≠ gs' := by
    rcases hg with e2 | e2
    · rw [e2]; exact h.ne
    · have := h.k.ms.lt; omega
  refine ⟨⟨⟨h.k.kd.dev.other ho (fun k hk e => h.gsU (.inl (by have e : k = gs := e; rw [← e]; exact hk))), h.k.kd.st.other ho (fun k hk e => h.gsU (.inr (by have e : k = gs := e; rw [← e]; exact hk))), h.k.kd.dis, Nat.le_trans h.k.kd.size ho.size⟩, h.k.ms.step st (ho.block gm h.k.ms.lt (fun e => h.ne e)) (.inr (.inl rfl)), .inl rfl, ?_, ?_, ?_⟩, h1, n2⟩
  · rintro k hk (e | e)
    · exact h.k.dis k hk (.inl e)
    · exact n1 k hk e
  · rintro k (e | e)
    · rw [e]; exact Nat.lt_of_lt_of_le h.k.ms.lt ho.size
    · rw [e]; exact h1.lt
  · rintro k (e | e)
    · rw [e]; exact h.k.lo gm (.inl rfl)
    · rw [e]
      rcases hg with e2 | e2
      · rw [e2]; exact h.k.lo gs (.inr rfl)
      · exact Nat.le_trans h.k.kd.size e2
theorem KL.listed {A : Option Addr} {c : Nat} (h : KL S1 S2 B W gd g gm gs o nn cap d m l ml z SS) (hr : ERow (UR S1 S2 gm gs) W A X.length X) (hc : X.length ≤ c) : KL S1 S2 B (W.setCell ⟨gm, 1, none⟩ (.slice A X.length c)) gd g gm gs o nn cap d m l X z SS ∧ Step (UR S1 S2 gm gs) W (UR S1 S2 gm gs) (W.setCell ⟨gm, 1, none⟩ (.slice A X.length c)) := by
  obtain ⟨A7, c7, hc7, hb7, he7⟩ := h.k.ms.at_
  have hm8 := MSt.listed (S := UR S1 S2 gm gs) hb7 h.k.ms.sg hr hc
  have ho8 := only_set1 (gm := gm) (Only.refl (At1 gm) W) 1 (.slice A X.length c)
  obtain ⟨hk8, hs8⟩ := h.k.ref hm8 ho8
  have st2 : Step (UR S1 S2 gm gs) W (UR S1 S2 gm gs) (W.setCell ⟨gm, 1, none⟩ (.slice A X.length c)) := Step.wide (S3 := Sr gm gs) hs8 (.inl rfl)
  exact ⟨⟨hk8, h.s.step st2 (ho8.block gs h.s.lt (fun e => h.ne (show gs = gm from e).symm)) (UR.own gs), h.ne⟩, st2⟩
theorem KL.lit {v : Value} (h : KL S1 S2 B W gd g gm gs o nn cap d m l ml z SS) (hv : SV (UR S1 S2 gm gs) W v X) : KL S1 S2 B (W.alloc (.cells #[v] 38 (0, 0))) gd g gm W.heap.size 0 1 1 d m l ml z [X] := by
  have hb := below_alloc (Below.refl W.heap.size W) (.cells #[v] 38 (0, 0))
  have st : Step (UR S1 S2 gm gs) W (UR S1 S2 gm W.heap.size) (W.alloc (.cells #[v] 38 (0, 0))) := ⟨(Only.refl _ W).below hb, fun k hk => (UR.fam gs W.heap.size k hk).elim .inl (fun e => .inr (Nat.le_of_eq e.symm))⟩
  exact h.grown (SRow.lit st hv (blk_new W _) (UR.own _)) st ((Only.refl _ W).below hb) (.inr (Nat.le_refl _))
theorem KL.lit2 {v : Value} (h : KL S1 S2 B W gd g gm gs o nn cap d m l ml z SS) (hv : SV (UR S1 S2 gm gs) W v X) (hB : B ≤ W.heap.size) : KL S1 S2 B (W.alloc (.cells #[v] 38 (0, 0))) gd g gm W.heap.size 0 1 1 d m l ml z [X] ∧ Below B W (W.alloc (.cells #[v] 38 (0, 0))) := ⟨h.lit hv, (below_alloc (Below.refl W.heap.size W) _).mono hB⟩
theorem KL.same (h : KL S1 S2 B W gd g gm gs o nn cap d m l X z [X]) (e : l = X) : KL S1 S2 B W gd g gm gs o nn cap d m l l z [l] := by subst e; exact h
theorem KL.first (h : KDM S1 S2 (At1 gm) B W gd g gm d kN m l m ml z) : KL S1 S2 B (W.alloc (.cells #[.slice none 0 0] 38 (0, 0))) gd g gm W.heap.size 0 1 1 d m l ml z [[]] := by
  have hb := below_alloc (Below.refl W.heap.size W) (.cells #[.slice none 0 0] 38 (0, 0))
  have hlt : ∀ k, U S1 S2 k → k < W.heap.size := fun k hk => h.hiU k (.inl hk)
  have st : Step (U (U S1 S2) (At1 gm)) W (UR S1 S2 gm W.heap.size) (W.alloc (.cells #[.slice none 0 0] 38 (0, 0))) := ⟨(Only.refl _ W).below hb, fun k hk => by
    rcases hk with hk | (e | e)
    · exact .inl (.inl hk)
    · exact .inl (.inr e)
    · exact .inr (Nat.le_of_eq e.symm)⟩
  refine ⟨⟨h.kd.below hb, h.ms.step st (hb.block gm h.ms.lt) (.inr (.inl rfl)), .inl rfl, ?_, ?_, ?_⟩, SRow.lit st SV.nil (blk_new W _) (UR.own _), fun e => Nat.lt_irrefl _ (Nat.lt_of_lt_of_le h.ms.lt (Nat.le_of_eq e.symm))⟩
  · rintro k hk (e | e)
    · exact h.dis k hk e
    · have := hlt k hk; omega
  · rintro k (e | e)
    · rw [e]; exact Nat.lt_of_lt_of_le h.ms.lt hb.size
    · rw [e]; exact blk_lt (blk_new W _)
  · rintro k (e | e)
    · rw [e]; exact h.lo gm rfl
    · rw [e]; exact h.kd.size
end
structure Out (S : Nat → Prop) (W : World) (g : Nat) (o : Obj) : Prop where
  blk : W.heap[g]? = some o
  out : ¬ S g
theorem Out.step {S S' : Nat → Prop} {W W' : World} {g : Nat} {o : Obj} (h : Out S W g o) (st : Step S W S' W') : Out S' W' g o :=
  ⟨(st.only.block g (blk_lt h.blk) h.out).trans h.blk, fun hk => (st.sub g hk).elim h.out (fun e => Nat.lt_irrefl _ (Nat.lt_of_lt_of_le (blk_lt h.blk) e))⟩
abbrev callO (kind : Int) (key val : ByteArray) (N F K : Int) (t : Bool) : Obj := .cells #[.int .i64 kind, .string key, .string val, .int .i64 N, .int .i64 F, .int .i64 K, .bool t] 42 (0, 0)
structure Was (S : Nat → Prop) (W : World) (gw : Nat) (m : Int) (l : List E) : Prop where
  at_ : ∃ A c z, l.length ≤ c ∧ Out S W gw (.cells (mCells m (.slice A l.length c) z) 40 (0, 0)) ∧ ERow S W A l.length l
theorem Was.step {S S' : Nat → Prop} {W W' : World} {gw : Nat} {m : Int} {l : List E} (h : Was S W gw m l) (st : Step S W S' W') : Was S' W' gw m l := by
  obtain ⟨A, c, z, hc, h1, h2⟩ := h.at_
  exact ⟨A, c, z, hc, h1.step st, h2.step st⟩
theorem Was.of {S : Nat → Prop} {W W' : World} {gw : Nat} {m z : Int} {l : List E} (hi : ∀ k, S k → k < W.heap.size) (hg : W.heap.size ≤ gw) (h : ∃ A c, l.length ≤ c ∧ W'.heap[gw]? = some (.cells (mCells m (.slice A l.length c) z) 40 (0, 0)) ∧ ERow S W' A l.length l) : Was S W' gw m l := by
  obtain ⟨A, c, hc, h1, h2⟩ := h
  exact ⟨A, c, z, hc, ⟨h1, fun hk => Nat.lt_irrefl _ (Nat.lt_of_lt_of_le (hi gw hk) hg)⟩, h2⟩
theorem Was.cell {S : Nat → Prop} {W : World} {gw : Nat} {m : Int} {l : List E} (h : Was S W gw m l) : ∃ A c q, q = l.length ∧ l.length ≤ c ∧ ERow S W A l.length l ∧ W.cell? ⟨gw, 1, none⟩ = some (.slice A q c) := by
  obtain ⟨A, c, z, hc, h1, h2⟩ := h.at_
  exact ⟨A, c, _, rfl, hc, h2, (blk_cell h1.blk 1).trans rfl⟩
structure KB (S : Nat → Prop) (W : World) (gb gw qs : Nat) (kind : Int) (key val : ByteArray) (N F K : Int) (t : Bool) (m : Int) (l : List E) (As : Option Addr) (st : List ByteArray) : Prop where
  cb : Out S W gb (callO kind key val N F K t)
  ws : Was S W gw m l
  tr : TRow S W As qs st
section
variable {S S' : Nat → Prop} {W W' : World} {gb gw qs : Nat} {kind N F K m : Int} {key val : ByteArray} {t : Bool} {l : List E} {As : Option Addr} {st : List ByteArray}
theorem KB.step (h : KB S W gb gw qs kind key val N F K t m l As st) (hs : Step S W S' W') : KB S' W' gb gw qs kind key val N F K t m l As st := ⟨h.cb.step hs, h.ws.step hs, h.tr.step hs⟩
theorem Out.call (h : Out S W gb (callO kind key val N F K t)) : W.cell? ⟨gb, 0, none⟩ = some (.int .i64 kind) ∧ W.cell? ⟨gb, 1, none⟩ = some (.string key) ∧ W.cell? ⟨gb, 2, none⟩ = some (.string val) ∧ W.cell? ⟨gb, 3, none⟩ = some (.int .i64 N) ∧ W.cell? ⟨gb, 4, none⟩ = some (.int .i64 F) ∧ W.cell? ⟨gb, 5, none⟩ = some (.int .i64 K) ∧ W.cell? ⟨gb, 6, none⟩ = some (.bool t) :=
  ⟨(blk_cell h.blk 0).trans rfl, (blk_cell h.blk 1).trans rfl, (blk_cell h.blk 2).trans rfl, (blk_cell h.blk 3).trans rfl, (blk_cell h.blk 4).trans rfl, (blk_cell h.blk 5).trans rfl, (blk_cell h.blk 6).trans rfl⟩
theorem TRow.nil : TRow S W none 0 [] := Kd.F_nil _ _ _
end
theorem DL.lasts {l : List E} {SS : List (List E)} {st : List ByteArray} (h : ∃ SS0, SS = SS0 ++ [l]) : ∃ SS0, SS ++ newS l st = SS0 ++ [stepAll l st] := by
  by_cases e : st = []
  · obtain ⟨SS0, e2⟩ := h
    subst e
    exact ⟨SS0, by rw [e2]; simp [newS, stepAll]⟩
  · have hp : 0 < st.length := List.length_pos_iff.2 e
    refine ⟨SS ++ (newS l st).take (st.length - 1), ?_⟩
    have := newS_take l st (a := st.length - 1) (by omega)
    rw [show st.length - 1 + 1 = st.length by omega, List.take_length, List.take_of_length_le (by rw [newS_len]; exact Nat.le_refl _)] at this
    rw [List.append_assoc, ← this]
theorem TRow.get {S : Nat → Prop} {W : World} {A : Option Addr} {n : Nat} {st : List ByteArray} (h : TRow S W A n st) {a : Nat} (ha : a < st.length) : ∃ ad : Addr, A = some ad ∧ W.cell? (ad.add a) = some (.string (st[a])) := by
  obtain ⟨ad, e, y⟩ := Kd.at_string h.C (a : Int) (by omega) (by omega)
  rw [Int.toNat_natCast] at y
  refine ⟨ad, e, ?_⟩
  rw [y]
  unfold rdOf
  rw [Int.toNat_natCast, List.getD_eq_getElem?_getD, List.getElem?_eq_getElem ha]
  rfl
theorem CRow.fuse {W : World} {A : Option Addr} {n c j : Nat} {l : List C5} {kind N fuse keep : Int} {key val : ByteArray} {torn : Bool} (h : Script W A n c l) (hr : CRow l j kind key val N fuse keep torn) : fuse ≤ 9223372036854775807 := by
  obtain ⟨hj, e⟩ := hr
  have := h.hi _ (List.getElem_mem hj)
  rw [e] at this
  exact this
theorem set_size (W : World) (a : Addr) (v : Value) : (W.setCell a v).heap.size = W.heap.size := by simp [World.setCell]
theorem cutS (W : World) (gs o nn cap q : Nat) (h1 : nn = q + 1) (h2 : nn ≤ cap) : (Instr.slice 57 (.slice (some ⟨gs, o, none⟩) nn cap) (some (.int .i64 (q : Int))) none none).run Try.prog W = .ok (.slice (some ⟨gs, o + q, none⟩) 1 (cap - q)) W := by
  obtain ⟨i0, hi, hzz⟩ := Option.map_eq_some_iff.1 info38
  simp only [Prod.mk.injEq] at hzz
  have hel : Try.prog.elem 57 = 38 := by simp [Program.elem, Try.underlying57]
  have hu : Try.prog.underlying 57 = some (.slice (Try.prog.elem 57)) := by rw [hel]; exact Try.underlying57
  rw [run_slice_l (P := Try.prog) W 57 (some ⟨gs, o, none⟩) nn cap hu .i64 (q : Int) (Int.natCast_nonneg _) (by omega), hel]
  have hne : ¬ cap = q := by omega
  subst h1
  by_cases e : q = 0
  · subst e
    simp [sizeOf, typeInfo, hi, hzz.2.1, sliced, Result.andThen, Addr.add, hne]
  · simp [sizeOf, typeInfo, hi, hzz.2.1, sliced, Result.andThen, Addr.add, hne, e]
theorem KL.from {S1 S2 : Nat → Prop} {B : Nat} {W : World} {gd g gm gs o nn cap q : Nat} {d : DS} {m z : Int} {l ml X : List E} {SS SS0 : List (List E)} (h : KL S1 S2 B W gd g gm gs o nn cap d m l ml z SS) (hs : SS = SS0 ++ [X]) (hq : nn = q + 1) : KL S1 S2 B W gd g gm gs (o + q) 1 (cap - q) d m l ml z [X] := by
  have h1 := h.s.from (q := q) (by omega)
  have hl := h.s.len
  have hd : SS.drop q = [X] := by
    rw [hs] at hl ⊢
    rw [List.length_append, List.length_singleton] at hl
    rw [List.drop_left' (by omega)]
  rw [hd, show nn - q = 1 by omega] at h1
  exact ⟨h.k, h1, h.ne⟩
theorem DL.round {n : ByteArray} {m k z : Int} {T : Nat} {d : DS} {rs0 rs : List ByteArray} {l : List E} {SS : List (List E)} (h : DL n m T k d rs0 rs l SS) (nm : Nm n) (hm : 1 ≤ m ∧ m ≤ 100) (kind : Int) (key val : ByteArray) (N F K : Int) (t : Bool) (hF : F ≤ 9223372036854775807) (hT : T + costC kind key val ≤ 500000) (hz : 0 ≤ z) :
    ∃ y z' x lx d' st, stepsP l m kind key val N = st ∧ doesR l m z kind key val N 1048576 = (y, stepAll l st, z') ∧ doesS (d.arm F K t) n m l kind key val N = (x, d', lx) ∧ 0 ≤ z' ∧ z' ≤ z + 500000 ∧ LF (stepAll l st) m ∧ (∀ r ∈ st, Good r) ∧ st.length ≤ 101 ∧ (∀ i, (stepAll l (st.take i)).length ≤ 100) ∧ (∃ SS0, SS ++ newS l st = SS0 ++ [stepAll l st]) ∧ d'.Up (k + 3) ∧ (d'.arm 0 0 false).Up (k + 3) ∧
      ((x = y ∧ lx = stepAll l st ∧ y ≠ 7 ∧ ((kind = 2 ∨ kind = 3) → y = 0) ∧ ∃ rs0' rs', DL n m (T + costC kind key val) (k + 3) (d'.arm 0 0 false) rs0' rs' (stepAll l st) (if kind = 2 ∨ kind = 3 then [stepAll l st] else SS ++ newS l st)) ∨
       (x = 7 ∧ lx = l ∧ ((d'.arm 0 0 false).off K t).Up (k + 3) ∧ ((d'.arm 0 0 false).off K t).on.Up (k + 3) ∧ ∃ rsx d3 lw, OpenP ((d'.arm 0 0 false).off K t).on n rsx 0 d3 ∧ (∀ r ∈ rsx, Good r) ∧ stepAll [] rsx = lw ∧ lw ∈ SS ++ newS l st ∧ LF lw m ∧ DL n m (T + costC kind key val) (k + 5) d3 rsx [] lw [lw])) := by
  obtain ⟨y, z', a1, a2, a3, a4, a5, d', a6⟩ := h.next nm hm kind key val N F K t hF hT hz
  have hpre := steps_pre (kind := kind) (key := key) (val := val) (N := N) h.dc.lf hm.1
  have hpre2 : ∀ i, (stepAll l ((stepsP l m kind key val N).take i)).length ≤ 100 := fun i => by have := hpre i; omega
  have hlast : ∃ SS0, SS ++ newS l (stepsP l m kind key val N) = SS0 ++ [stepAll l (stepsP l m kind key val N)] := DL.lasts h.last
  have hl := stepsP_len (l := l) (m := m) (kind := kind) (key := key) (val := val) (N := N)
  have hll := h.dc.lf.len
  have hu : d'.Up (k + 3) := by
    have h0 := doesS_up (h.dc.live.up.arm F K t hF) n m l kind key val N
    rcases a6 with ⟨b1, _⟩ | ⟨b1, _⟩
    · rw [b1] at h0; exact h0
    · rw [b1] at h0; exact h0
  have hu2 : (d'.arm 0 0 false).Up (k + 3) := hu.arm 0 0 false (by decide)
  rcases a6 with ⟨b1, b2, rs0', rs', b3⟩ | ⟨b1, b2, b3, b4, rsx, d3, b5, b6, b7, b8, b9⟩
  · exact ⟨y, z', y, _, d', _, rfl, a1, b1, a2, a3, a4, stepsP_good h.dc.lf.fit, by omega, hpre2, hlast, hu, hu2, .inl ⟨rfl, rfl, b2, a5, rs0', rs', b3⟩⟩
  · exact ⟨y, z', 7, l, d', _, rfl, a1, b1, a2, a3, a4, stepsP_good h.dc.lf.fit, by omega, hpre2, hlast, hu, hu2, .inr ⟨rfl, rfl, b3, b4, rsx, d3, _, b5, b6, rfl, b7, b8, b9⟩⟩
end Go.Proofs.Ytclkcipakncjkaa.Kv
