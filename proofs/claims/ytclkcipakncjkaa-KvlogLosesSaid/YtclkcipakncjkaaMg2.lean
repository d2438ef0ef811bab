/- Joined texts of this claim, in build order. -/
import Derived.Test.YtclkcipakncjkaaMg1
namespace Go.Proofs.Ytclkcipakncjkaa.Kv
open Go Go.RowKit Go.Proofs.YtclkcipakncjkaaW.PrintWords Go.Proofs.YtclkcipakncjkaaW.PrintLast Go.Proofs.YtclkcipakncjkaaW.PrintMore Go.Proofs.YtclkcipakncjkaaMy Go.Proofs.Ytclkcipakncjkaa Go.Proofs.YtclkcipakncjkaaPw Go.Proofs.Ytclkcipakncjkaa.PAll Go.Proofs.Ytclkcipakncjkaa.Dk
attribute [local go_sem] max2_m min2_m max_two min_two
set_option linter.unusedVariables false
set_option linter.unusedSimpArgs false
def evictE (d : DS) (n : ByteArray) (l : List E) (j : Int) : Int × DS × List E :=
  if j < 0 then (1, d, l) else if min j.toNat l.length = 0 then (0, d, l) else writeE d n l (gones l (min j.toNat l.length))
def syncE (d : DS) (n : ByteArray) : Int × DS := (if (d.sync n).1 = 5 then 0 else (d.sync n).1, (d.sync n).2)
def allRecs (l : List E) : List ByteArray := l.map fun e => recP e.f0 e.f1
def compactE (d : DS) (n : ByteArray) (l : List E) : Int × DS :=
  if (d.append (draftN n) (Fr.putB (allRecs l))).1 ≠ 0 then ((d.append (draftN n) (Fr.putB (allRecs l))).1, (d.append (draftN n) (Fr.putB (allRecs l))).2) else
  if ((d.append (draftN n) (Fr.putB (allRecs l))).2.sync (draftN n)).1 ≠ 0 then (((d.append (draftN n) (Fr.putB (allRecs l))).2.sync (draftN n)).1, ((d.append (draftN n) (Fr.putB (allRecs l))).2.sync (draftN n)).2) else
  (((d.append (draftN n) (Fr.putB (allRecs l))).2.sync (draftN n)).2.rename (draftN n) n)
section
variable {S1 S2 : Nat → Prop} {B : Nat} {W : World} {g gd : Nat} {n : ByteArray} {m : Int} {l : List E} {d d' : DS} {k er j : Int}
set_option maxHeartbeats 4000000 in
set_option maxRecDepth 100000 in
theorem Sync_K (h : KD S1 S2 B W gd g d n m l) (u : d.Up k) (hk : k < 4611686018427387904) :
    Calls Try.prog 21 #[.pointer (some ⟨g, 0, none⟩)] W fun e W' => e = .returned (.int .i64 (syncE d n).1) ∧ ∃ S1' S2', KD S1' S2' B W' gd g (syncE d n).2 n m l ∧ Step (U S1 S2) W (U S1' S2') W' := by
  unfold syncE
  obtain ⟨v, hv⟩ := h.st.at_
  have hb0 : Below W.heap.size W W.drew := below_drew1 (Below.refl _ _)
  have z0 : W.drew.cell? ⟨g, 0, none⟩ = some (.pointer (some ⟨gd, 0, none⟩)) := hv.cell 0
  have z1 : W.drew.cell? ⟨g, 1, none⟩ = some (.string n) := hv.cell 1
  have H := Aside0.mk (h.below hb0)
  have HU := Aside0.mk u
  have HK := Aside0.mk hk
  obtain ⟨r, hr⟩ : ∃ r, r = (d.sync n).1 := ⟨_, rfl⟩
  have HSy := Aside0.mk (show d.sync n = (r, (d.sync n).2) from by rw [hr])
  rw [← hr]
  clear h hv u hk hr
  by_cases c : r = 5
  · subst c
    rw [if_pos rfl]
    go_enter Try.func21, Try.ntmps21
    go_wp2
    refine start_ (n := 10) (S := fun w' => w'.cell? ⟨g, 0, none⟩ = some (.pointer (some ⟨gd, 0, none⟩)) ∧ w'.cell? ⟨g, 1, none⟩ = some (.string n)) (ds := [8, 9]) #[false, false, false, false, false, false, false, false, false, false] (by kernel_rfl) rfl rfl ⟨z0, z1⟩ (fun hHeld => ?_)
    refine pure_ (i := 0) (N := some 6) (v := ?_) (a' := ?_) #[true, false, false, false, false, false, false, false, false, false] rfl rfl (by kernel_rfl) (fun _ _ _ h => h) (Or.inl ⟨by rfl, ?_⟩) ?_ ?_
    rotate_left
    · intro w'
      go_simp
      with_reducible rfl
    rotate_left
    · simp only [Act.put, List.setIfInBounds_toArray, List.set_cons_zero, List.set_cons_succ, i64_w, i32_w]
      rfl
    refine pure_ (i := 1) (N := some 7) (v := ?_) (a' := ?_) #[true, true, false, false, false, false, false, false, false, false] rfl rfl (by kernel_rfl) (fun _ _ _ h => h) (Or.inl ⟨by rfl, ?_⟩) ?_ ?_
    rotate_left
    · intro w'
      go_simp
      with_reducible rfl
    rotate_left
    · simp only [Act.put, List.setIfInBounds_toArray, List.set_cons_zero, List.set_cons_succ, i64_w, i32_w]
      rfl
    refine pure_ (i := 2) (N := some 8) (v := ?_) (a' := ?_) #[true, true, true, false, false, false, false, false, false, false] rfl rfl (by kernel_rfl) (fun _ _ _ h => h) (Or.inl ⟨by rfl, ?_⟩) ?_ ?_
    rotate_left
    · intro w'
      go_simp
      with_reducible rfl
    rotate_left
    · simp only [Act.put, List.setIfInBounds_toArray, List.set_cons_zero, List.set_cons_succ, i64_w, i32_w]
      rfl
    refine take_ (i := 3) (N := some 9) (v := ?_) (a' := ?_) #[true, true, true, true, false, false, false, false, false, false] rfl rfl (by kernel_rfl) (fun _ _ _ h => h) (Or.inl ⟨by rfl, ?_⟩) hHeld ?_ ?_
    rotate_left
    · intro w' s0
      obtain ⟨s0, s1⟩ := s0
      go_simp
      with_reducible rfl
    rotate_left
    · simp only [Act.put, List.setIfInBounds_toArray, List.set_cons_zero, List.set_cons_succ, i64_w, i32_w]
      rfl
    refine pure_ (i := 4) (N := some 10) (v := ?_) (a' := ?_) #[true, true, true, true, true, false, false, false, false, false] rfl rfl (by kernel_rfl) (fun _ _ _ h => h) (Or.inl ⟨by rfl, ?_⟩) ?_ ?_
    rotate_left
    · intro w'
      go_simp
      with_reducible rfl
    rotate_left
    · simp only [Act.put, List.setIfInBounds_toArray, List.set_cons_zero, List.set_cons_succ, i64_w, i32_w]
      rfl
    refine pure_ (i := 5) (N := some 11) (v := ?_) (a' := ?_) #[true, true, true, true, true, true, false, false, false, false] rfl rfl (by kernel_rfl) (fun _ _ _ h => h) (Or.inl ⟨by rfl, ?_⟩) ?_ ?_
    rotate_left
    · intro w'
      go_simp
      with_reducible rfl
    rotate_left
    · simp only [Act.put, List.setIfInBounds_toArray, List.set_cons_zero, List.set_cons_succ, i64_w, i32_w]
      rfl
    refine pure_ (i := 6) (N := some 12) (v := ?_) (a' := ?_) #[true, true, true, true, true, true, true, false, false, false] rfl rfl (by kernel_rfl) (fun _ _ _ h => h) (Or.inl ⟨by rfl, ?_⟩) ?_ ?_
    rotate_left
    · intro w'
      go_simp
      with_reducible rfl
    rotate_left
    · simp only [Act.put, List.setIfInBounds_toArray, List.set_cons_zero, List.set_cons_succ, i64_w, i32_w]
      rfl
    refine take_ (i := 7) (N := some 13) (v := ?_) (a' := ?_) #[true, true, true, true, true, true, true, true, false, false] rfl rfl (by kernel_rfl) (fun _ _ _ h => h) (Or.inl ⟨by rfl, ?_⟩) hHeld ?_ ?_
    rotate_left
    · intro w' s0
      obtain ⟨s0, s1⟩ := s0
      go_simp
      with_reducible rfl
    rotate_left
    · simp only [Act.put, List.setIfInBounds_toArray, List.set_cons_zero, List.set_cons_succ, i64_w, i32_w]
      rfl
    refine last_ (i := 8) (N := some 14) #[true, true, true, true, true, true, true, true, true, false] rfl rfl (by kernel_rfl) (by decide) (fun K hK => ?_)
    refine goes_ Try.func47 (by kernel_rfl) rfl #[.pointer (some ⟨gd, 0, none⟩), .string n] (by rfl) rfl rfl (by (try simp only [List.map_toArray, List.map_cons, List.map_nil]); first | done | rfl) ?_
    refine (Sync_D H.out.dev H.out.size HU.out HK.out HSy.out).mono ?_
    rintro e w2 ⟨S1', rfl, hd2, hs2⟩
    refine ⟨_, rfl, ?_⟩
    have H2 := Aside0.mk (H.out.devStep hd2 hs2)
    clear hd2 hs2 hHeld z0 z1 H
    refine hK.out _ _ ?_
    clear hK K
    refine norm_ (a' := ?_) ?_ ?_
    rotate_left
    · show Act.put _ (some 14) _ = _
      simp only [Act.put, List.setIfInBounds_toArray, List.set_cons_zero, List.set_cons_succ, i64_w, i32_w]
      rfl
    refine pure_ (i := 9) (N := some 3) (v := ?_) (a' := ?_) #[true, true, true, true, true, true, true, true, true, true] rfl rfl (by kernel_rfl) (fun _ _ _ h => h) (Or.inl ⟨by rfl, ?_⟩) ?_ ?_
    rotate_left
    · intro w'
      go_simp
      with_reducible rfl
    rotate_left
    · simp only [Act.put, List.setIfInBounds_toArray, List.set_cons_zero, List.set_cons_succ, i64_w, i32_w]
      rfl
    refine done_ (by kernel_rfl) ?_
    go_wp2
    go_ret
    exact ⟨rfl, S1', S2, H2.out.1, Step.after H2.out.2 (below_drew1 (Below.refl _ _))⟩
  · rw [if_neg c]
    have eb : (r != 5) = true := bne_iff_ne.mpr c
    clear c
    go_enter Try.func21, Try.ntmps21
    go_wp2
    refine start_ (n := 10) (S := fun w' => w'.cell? ⟨g, 0, none⟩ = some (.pointer (some ⟨gd, 0, none⟩)) ∧ w'.cell? ⟨g, 1, none⟩ = some (.string n)) (ds := [8, 9]) #[false, false, false, false, false, false, false, false, false, false] (by kernel_rfl) rfl rfl ⟨z0, z1⟩ (fun hHeld => ?_)
    refine pure_ (i := 0) (N := some 6) (v := ?_) (a' := ?_) #[true, false, false, false, false, false, false, false, false, false] rfl rfl (by kernel_rfl) (fun _ _ _ h => h) (Or.inl ⟨by rfl, ?_⟩) ?_ ?_
    rotate_left
    · intro w'
      go_simp
      with_reducible rfl
    rotate_left
    · simp only [Act.put, List.setIfInBounds_toArray, List.set_cons_zero, List.set_cons_succ, i64_w, i32_w]
      rfl
    refine pure_ (i := 1) (N := some 7) (v := ?_) (a' := ?_) #[true, true, false, false, false, false, false, false, false, false] rfl rfl (by kernel_rfl) (fun _ _ _ h => h) (Or.inl ⟨by rfl, ?_⟩) ?_ ?_
    rotate_left
    · intro w'
      go_simp
      with_reducible rfl
    rotate_left
    · simp only [Act.put, List.setIfInBounds_toArray, List.set_cons_zero, List.set_cons_succ, i64_w, i32_w]
      rfl
    refine pure_ (i := 2) (N := some 8) (v := ?_) (a' := ?_) #[true, true, true, false, false, false, false, false, false, false] rfl rfl (by kernel_rfl) (fun _ _ _ h => h) (Or.inl ⟨by rfl, ?_⟩) ?_ ?_
    rotate_left
    · intro w'
      go_simp
      with_reducible rfl
    rotate_left
    · simp only [Act.put, List.setIfInBounds_toArray, List.set_cons_zero, List.set_cons_succ, i64_w, i32_w]
      rfl
    refine take_ (i := 3) (N := some 9) (v := ?_) (a' := ?_) #[true, true, true, true, false, false, false, false, false, false] rfl rfl (by kernel_rfl) (fun _ _ _ h => h) (Or.inl ⟨by rfl, ?_⟩) hHeld ?_ ?_
    rotate_left
    · intro w' s0
      obtain ⟨s0, s1⟩ := s0
      go_simp
      with_reducible rfl
    rotate_left
    · simp only [Act.put, List.setIfInBounds_toArray, List.set_cons_zero, List.set_cons_succ, i64_w, i32_w]
      rfl
    refine pure_ (i := 4) (N := some 10) (v := ?_) (a' := ?_) #[true, true, true, true, true, false, false, false, false, false] rfl rfl (by kernel_rfl) (fun _ _ _ h => h) (Or.inl ⟨by rfl, ?_⟩) ?_ ?_
    rotate_left
    · intro w'
      go_simp
      with_reducible rfl
    rotate_left
    · simp only [Act.put, List.setIfInBounds_toArray, List.set_cons_zero, List.set_cons_succ, i64_w, i32_w]
      rfl
    refine pure_ (i := 5) (N := some 11) (v := ?_) (a' := ?_) #[true, true, true, true, true, true, false, false, false, false] rfl rfl (by kernel_rfl) (fun _ _ _ h => h) (Or.inl ⟨by rfl, ?_⟩) ?_ ?_
    rotate_left
    · intro w'
      go_simp
      with_reducible rfl
    rotate_left
    · simp only [Act.put, List.setIfInBounds_toArray, List.set_cons_zero, List.set_cons_succ, i64_w, i32_w]
      rfl
    refine pure_ (i := 6) (N := some 12) (v := ?_) (a' := ?_) #[true, true, true, true, true, true, true, false, false, false] rfl rfl (by kernel_rfl) (fun _ _ _ h => h) (Or.inl ⟨by rfl, ?_⟩) ?_ ?_
    rotate_left
    · intro w'
      go_simp
      with_reducible rfl
    rotate_left
    · simp only [Act.put, List.setIfInBounds_toArray, List.set_cons_zero, List.set_cons_succ, i64_w, i32_w]
      rfl
    refine take_ (i := 7) (N := some 13) (v := ?_) (a' := ?_) #[true, true, true, true, true, true, true, true, false, false] rfl rfl (by kernel_rfl) (fun _ _ _ h => h) (Or.inl ⟨by rfl, ?_⟩) hHeld ?_ ?_
    rotate_left
    · intro w' s0
      obtain ⟨s0, s1⟩ := s0
      go_simp
      with_reducible rfl
    rotate_left
    · simp only [Act.put, List.setIfInBounds_toArray, List.set_cons_zero, List.set_cons_succ, i64_w, i32_w]
      rfl
    refine last_ (i := 8) (N := some 14) #[true, true, true, true, true, true, true, true, true, false] rfl rfl (by kernel_rfl) (by decide) (fun K hK => ?_)
    refine goes_ Try.func47 (by kernel_rfl) rfl #[.pointer (some ⟨gd, 0, none⟩), .string n] (by rfl) rfl rfl (by (try simp only [List.map_toArray, List.map_cons, List.map_nil]); first | done | rfl) ?_
    refine (Sync_D H.out.dev H.out.size HU.out HK.out HSy.out).mono ?_
    rintro e w2 ⟨S1', rfl, hd2, hs2⟩
    refine ⟨_, rfl, ?_⟩
    have H2 := Aside0.mk (H.out.devStep hd2 hs2)
    clear hd2 hs2 hHeld z0 z1 H
    refine hK.out _ _ ?_
    clear hK K
    refine norm_ (a' := ?_) ?_ ?_
    rotate_left
    · show Act.put _ (some 14) _ = _
      simp only [Act.put, List.setIfInBounds_toArray, List.set_cons_zero, List.set_cons_succ, i64_w, i32_w]
      rfl
    refine pure_ (i := 9) (N := some 3) (v := ?_) (a' := ?_) #[true, true, true, true, true, true, true, true, true, true] rfl rfl (by kernel_rfl) (fun _ _ _ h => h) (Or.inl ⟨by rfl, ?_⟩) ?_ ?_
    rotate_left
    · intro w'
      go_simp
      with_reducible rfl
    rotate_left
    · simp only [Act.put, List.setIfInBounds_toArray, List.set_cons_zero, List.set_cons_succ, i64_w, i32_w]
      rfl
    refine done_ (by kernel_rfl) ?_
    go_wp2
    go_ret
    exact ⟨rfl, S1', S2, H2.out.1, Step.after H2.out.2 (below_drew1 (Below.refl _ _))⟩
set_option maxHeartbeats 4000000 in
set_option maxRecDepth 100000 in
theorem Evict_ok {q : Nat} (h : KD S1 S2 B W gd g d n m l) (u : d.Up k) (hk : k < 4611686018427387904) (hl : l.length + l.length + 2 ≤ 1048576) (hsh : Short l) (hj : 0 ≤ j) (hq : q = min j.toNat l.length) (hq0 : 0 < q) (hlen : (Fr.putB (gones l q)).length ≤ 4294967296) (ha : d.append n (Fr.putB (gones l q)) = (0, d')) : Calls Try.prog 20 #[.pointer (some ⟨g, 0, none⟩), .int .i64 j] W fun e W' => e = .returned (.int .i64 0) ∧ ∃ S1' S2', KD S1' S2' B W' gd g d' n m (stepAll l (gones l q)) ∧ Step (U S1 S2) W (U S1' S2') W' := by
  have hu := Try.underlying82
  obtain ⟨v, hv⟩ := h.st.at_
  have z3 : W.drew.cell? ⟨g, 3, none⟩ = some v := hv.cell 3
  obtain ⟨A0, c0, ev, hall⟩ := hv.entry
  have hcap : l.length ≤ c0 := by
    obtain ⟨A, c, e1, hc, _⟩ := Kd.R_reads hv.row
    rw [ev] at e1
    injection e1 with _ _ e1
    rw [e1]; exact hc
  subst ev
  have HAll := Aside0.mk hall
  have HSh := Aside0.mk hsh
  have HAp := Aside0.mk ha
  have HPl := Aside0.mk hlen
  have HL := Aside0.mk hl
  have HU := Aside0.mk u
  have HK := Aside0.mk hk
  have H := Aside0.mk h
  have HQ0 := Aside0.mk hq0
  obtain ⟨ln, hln⟩ : ∃ ln, ln = l.length := ⟨_, rfl⟩
  have HLn := Aside0.mk hln
  have HQl := Aside0.mk (show q ≤ l.length from by omega)
  rw [← hln] at z3 hcap
  have hmin : min j (ln : Int) = (q : Int) := by omega
  have p0 : (q : Int) ≤ (c0 : Int) := by omega
  have p1 : q ≤ c0 := by omega
  have p2 : q ≤ ln := by omega
  have jb : decide (j < 0) = false := decide_eq_false (by omega)
  have HDw := Aside0.mk (below_drew1 (Below.refl W.heap.size W))
  clear h u hk hl hsh hj hq hq0 hlen ha hv hall hln
  go_enter Try.func20, Try.ntmps20
  go_wp2_with (first | go_region)
  go_loopw [5, 25] (fun o i wr => ∃ (a : Nat), a ≤ q ∧ i = .int .i64 (a : Int) ∧ Aside0 (Kd.R Kd.string 9 wr W.heap.size (fun _ => True) o (gones l a)) ∧ Aside0 (Below W.heap.size W wr)) (fun _ i _ => q - (intOf i).toNat)
  case atStart => exact ⟨0, Nat.zero_le _, rfl, ⟨Kd.R_nil _ _ _ _ _⟩, HDw⟩
  case round =>
    obtain ⟨a, ha, rfl, HR, HB⟩ := hrel
    by_cases hlt : a < q
    · have kb : decide ((a : Int) < (q : Int)) = true := decide_eq_true (Int.ofNat_lt.2 hlt)
      have kbn : decide (a < q) = true := decide_eq_true hlt
      have hal : a < l.length := Nat.lt_of_lt_of_le hlt HQl.out
      obtain ⟨ad, rfl, y0, y1⟩ := HAll.out a hal
      have a0 := pw_cell_below HB.out y0
      have a1 := pw_cell_below HB.out y1
      have HE := Aside0.mk (gones_step hal)
      have HKs := Aside0.mk (show (l[a]'hal).f0.size ≤ 274877906944 from Nat.le_trans (HSh.out _ (List.getElem_mem hal)) (by decide))
      clear y0 y1
      obtain ⟨s, hs⟩ : ∃ s, s = (l[a]'hal).f0 := ⟨_, rfl⟩
      obtain ⟨t, ht⟩ : ∃ t, t = (l[a]'hal).f1 := ⟨_, rfl⟩
      rw [← hs] at a0 HE HKs
      rw [← ht] at a1
      clear hs ht
      go_wp2_with (first
        | ((with_reducible refine gate_dst (N := 7) rfl ?_); refine box_event ?hg (N := 7) ?hd (cs := #[.string (⟨#[]⟩ : ByteArray), .string (⟨#[]⟩ : ByteArray)]) (t := 82) ?hr ?_; (case hd => rfl); (case hg => rfl); (case hr => first | (go_simp; done) | (go_simp; rfl)); intro gb hg wq hbox hb; have BX := Aside0.mk (box_pair (W := wr) hbox (Nat.le_of_eq hg.symm) hb (.string s) (.string t)); have qa : wq.cell? ⟨gb, 0, none⟩ = some (.string (⟨#[]⟩ : ByteArray)) := (blk_cell hbox 0).trans rfl; have qb : wq.cell? ⟨gb, 1, none⟩ = some (.string (⟨#[]⟩ : ByteArray)) := (blk_cell hbox 1).trans rfl; have ra := blk_frozen hbox 0; have rb := blk_frozen hbox 1; clear hbox hb hg)
        | (go_at_call 38; refine (gone_Q _ s HKs.out).mono ?_; rintro e w5 ⟨rfl, hb⟩; replace hb := BX.out.2.trans (hb.mono BX.out.2.size); have HB5 := Aside0.mk (HB.out.trans (hb.mono HB.out.size)); have HR5 := Aside0.mk (Kd.R_below HR.out hb); clear hb BX)
        | ((with_reducible refine gate_builtin (b := .append) (xs := #[.tmp 29, .tmp 33]) rfl ?_); (try (refine gate_guard (by rfl) ?_; dsimp only)); at_builtin; refine Kd.R_append Kd.string (w0 := W) W.heap.size rfl (.tmp 29) (.tmp 33) 22 9 (.string ⟨#[]⟩) 16 rfl Try.underlying22 infoS rfl (by decide) (by decide) u5 (gones l a) (recG s) [.string (recG s)] (fun _ => True) (fun _ => False) rfl rfl rfl (fun _ h => h.elim) (fun _ _ => trivial) HR5.out HB5.out HB5.out.size (gones_len l a (by have := HL.out; omega)) ?_; intro v1 w6 hr5 hb5 hg5 hat5; have HR6 := Aside0.mk hr5; have HB6 := Aside0.mk hb5; clear hr5 hb5 hg5 hat5))
      go_roundw
      case rel => exact ⟨a + 1, hlt, vE hlt (by have := HL.out; have := HQl.out; omega), ⟨by rw [HE.out]; exact HR6.out⟩, HB6⟩
      case measure => exact mE hlt (by have := HL.out; have := HQl.out; omega)
    · have kb : decide ((a : Int) < (q : Int)) = false := decide_eq_false (fun h => hlt (Int.ofNat_lt.1 h))
      have kbn : decide (a < q) = false := decide_eq_false hlt
      have ea : a = q := Nat.le_antisymm ha (Nat.le_of_not_lt hlt)
      subst ea
      have hr8 := HR.out
      obtain ⟨A8, c8, e8⟩ := Kd.R_slice hr8
      have hgl : (gones l a).length = a := by rw [gones_length]; have := HQl.out; omega
      rw [hgl] at e8
      rw [e8] at hr8
      have hC8 := R_strs8 hr8
      have HR8 := Aside0.mk hr8
      have HT8 := Aside0.mk (TRow.of (S := U S1 S2) hr8 (fun i hi => hi.elim (H.out.dev.hi i) (H.out.st.hi i)))
      subst e8
      have eq0 : ((a : Int) == 0) = false := beq_eq_false_iff_ne.mpr (by have := HQ0.out; omega)
      have eq1 : (a == 0) = false := beq_eq_false_iff_ne.mpr (by have := HQ0.out; omega)
      clear hr8 hgl z3 hmin
      go_wp2_with (first
        | (go_at_call 39; refine (write_ok (H.out.below HB.out) HU.out HK.out HT8.out hC8 (fun r hr => by
            obtain ⟨x, hx, rfl⟩ := List.mem_map.1 hr
            obtain ⟨y, hy, rfl⟩ := List.mem_map.1 hx
            exact .inr ⟨_, rfl, by rw [recG_size]; have := HSh.out y (List.mem_of_mem_take hy); omega⟩) HPl.out (by rw [gones_length]; have := HL.out; omega) HAp.out).mono ?_; rintro e w9 ⟨rfl, S1', S2', h9, s9⟩; have H9 := Aside0.mk h9; have HS9 := Aside0.mk (Step.after s9 HB.out); clear h9 s9))
      go_ret
      exact ⟨rfl, S1', S2', H9.out, HS9.out⟩
set_option maxHeartbeats 4000000 in
set_option maxRecDepth 100000 in
theorem Evict_e {q : Nat} (h : KD S1 S2 B W gd g d n m l) (u : d.Up k) (hk : k < 4611686018427387904) (hl : l.length + l.length + 2 ≤ 1048576) (hsh : Short l) (hj : 0 ≤ j) (hq : q = min j.toNat l.length) (hq0 : 0 < q) (hlen : (Fr.putB (gones l q)).length ≤ 4294967296) (ha : d.append n (Fr.putB (gones l q)) = (er, d')) (he : er ≠ 0) : Calls Try.prog 20 #[.pointer (some ⟨g, 0, none⟩), .int .i64 j] W fun e W' => e = .returned (.int .i64 er) ∧ ∃ S1' S2', KD S1' S2' B W' gd g d' n m l ∧ Step (U S1 S2) W (U S1' S2') W' := by
  have hu := Try.underlying82
  obtain ⟨v, hv⟩ := h.st.at_
  have z3 : W.drew.cell? ⟨g, 3, none⟩ = some v := hv.cell 3
  obtain ⟨A0, c0, ev, hall⟩ := hv.entry
  have hcap : l.length ≤ c0 := by
    obtain ⟨A, c, e1, hc, _⟩ := Kd.R_reads hv.row
    rw [ev] at e1
    injection e1 with _ _ e1
    rw [e1]; exact hc
  subst ev
  have HAll := Aside0.mk hall
  have HSh := Aside0.mk hsh
  have HAp := Aside0.mk ha
  have HPl := Aside0.mk hlen
  have HL := Aside0.mk hl
  have HU := Aside0.mk u
  have HK := Aside0.mk hk
  have H := Aside0.mk h
  have HQ0 := Aside0.mk hq0
  obtain ⟨ln, hln⟩ : ∃ ln, ln = l.length := ⟨_, rfl⟩
  have HLn := Aside0.mk hln
  have HQl := Aside0.mk (show q ≤ l.length from by omega)
  rw [← hln] at z3 hcap
  have hmin : min j (ln : Int) = (q : Int) := by omega
  have p0 : (q : Int) ≤ (c0 : Int) := by omega
  have p1 : q ≤ c0 := by omega
  have p2 : q ≤ ln := by omega
  have jb : decide (j < 0) = false := decide_eq_false (by omega)
  have HDw := Aside0.mk (below_drew1 (Below.refl W.heap.size W))
  have HEr := Aside0.mk he
  clear he
  clear h u hk hl hsh hj hq hq0 hlen ha hv hall hln
  go_enter Try.func20, Try.ntmps20
  go_wp2_with (first | go_region)
  go_loopw [5, 25] (fun o i wr => ∃ (a : Nat), a ≤ q ∧ i = .int .i64 (a : Int) ∧ Aside0 (Kd.R Kd.string 9 wr W.heap.size (fun _ => True) o (gones l a)) ∧ Aside0 (Below W.heap.size W wr)) (fun _ i _ => q - (intOf i).toNat)
  case atStart => exact ⟨0, Nat.zero_le _, rfl, ⟨Kd.R_nil _ _ _ _ _⟩, HDw⟩
  case round =>
    obtain ⟨a, ha, rfl, HR, HB⟩ := hrel
    by_cases hlt : a < q
    · have kb : decide ((a : Int) < (q : Int)) = true := decide_eq_true (Int.ofNat_lt.2 hlt)
      have kbn : decide (a < q) = true := decide_eq_true hlt
      have hal : a < l.length := Nat.lt_of_lt_of_le hlt HQl.out
      obtain ⟨ad, rfl, y0, y1⟩ := HAll.out a hal
      have a0 := pw_cell_below HB.out y0
      have a1 := pw_cell_below HB.out y1
      have HE := Aside0.mk (gones_step hal)
      have HKs := Aside0.mk (show (l[a]'hal).f0.size ≤ 274877906944 from Nat.le_trans (HSh.out _ (List.getElem_mem hal)) (by decide))
      clear y0 y1
      obtain ⟨s, hs⟩ : ∃ s, s = (l[a]'hal).f0 := ⟨_, rfl⟩
      obtain ⟨t, ht⟩ : ∃ t, t = (l[a]'hal).f1 := ⟨_, rfl⟩
      rw [← hs] at a0 HE HKs
      rw [← ht] at a1
      clear hs ht
      go_wp2_with (first
        | ((with_reducible refine gate_dst (N := 7) rfl ?_); refine box_event ?hg (N := 7) ?hd (cs := #[.string (⟨#[]⟩ : ByteArray), .string (⟨#[]⟩ : ByteArray)]) (t := 82) ?hr ?_; (case hd => rfl); (case hg => rfl); (case hr => first | (go_simp; done) | (go_simp; rfl)); intro gb hg wq hbox hb; have BX := Aside0.mk (box_pair (W := wr) hbox (Nat.le_of_eq hg.symm) hb (.string s) (.string t)); have qa : wq.cell? ⟨gb, 0, none⟩ = some (.string (⟨#[]⟩ : ByteArray)) := (blk_cell hbox 0).trans rfl; have qb : wq.cell? ⟨gb, 1, none⟩ = some (.string (⟨#[]⟩ : ByteArray)) := (blk_cell hbox 1).trans rfl; have ra := blk_frozen hbox 0; have rb := blk_frozen hbox 1; clear hbox hb hg)
        | (go_at_call 38; refine (gone_Q _ s HKs.out).mono ?_; rintro e w5 ⟨rfl, hb⟩; replace hb := BX.out.2.trans (hb.mono BX.out.2.size); have HB5 := Aside0.mk (HB.out.trans (hb.mono HB.out.size)); have HR5 := Aside0.mk (Kd.R_below HR.out hb); clear hb BX)
        | ((with_reducible refine gate_builtin (b := .append) (xs := #[.tmp 29, .tmp 33]) rfl ?_); (try (refine gate_guard (by rfl) ?_; dsimp only)); at_builtin; refine Kd.R_append Kd.string (w0 := W) W.heap.size rfl (.tmp 29) (.tmp 33) 22 9 (.string ⟨#[]⟩) 16 rfl Try.underlying22 infoS rfl (by decide) (by decide) u5 (gones l a) (recG s) [.string (recG s)] (fun _ => True) (fun _ => False) rfl rfl rfl (fun _ h => h.elim) (fun _ _ => trivial) HR5.out HB5.out HB5.out.size (gones_len l a (by have := HL.out; omega)) ?_; intro v1 w6 hr5 hb5 hg5 hat5; have HR6 := Aside0.mk hr5; have HB6 := Aside0.mk hb5; clear hr5 hb5 hg5 hat5))
      go_roundw
      case rel => exact ⟨a + 1, hlt, vE hlt (by have := HL.out; have := HQl.out; omega), ⟨by rw [HE.out]; exact HR6.out⟩, HB6⟩
      case measure => exact mE hlt (by have := HL.out; have := HQl.out; omega)
    · have kb : decide ((a : Int) < (q : Int)) = false := decide_eq_false (fun h => hlt (Int.ofNat_lt.1 h))
      have kbn : decide (a < q) = false := decide_eq_false hlt
      have ea : a = q := Nat.le_antisymm ha (Nat.le_of_not_lt hlt)
      subst ea
      have hr8 := HR.out
      obtain ⟨A8, c8, e8⟩ := Kd.R_slice hr8
      have hgl : (gones l a).length = a := by rw [gones_length]; have := HQl.out; omega
      rw [hgl] at e8
      rw [e8] at hr8
      have hC8 := R_strs8 hr8
      have HR8 := Aside0.mk hr8
      have HT8 := Aside0.mk (TRow.of (S := U S1 S2) hr8 (fun i hi => hi.elim (H.out.dev.hi i) (H.out.st.hi i)))
      subst e8
      have eq0 : ((a : Int) == 0) = false := beq_eq_false_iff_ne.mpr (by have := HQ0.out; omega)
      have eq1 : (a == 0) = false := beq_eq_false_iff_ne.mpr (by have := HQ0.out; omega)
      clear hr8 hgl z3 hmin
      go_wp2_with (first
        | (go_at_call 39; refine (write_e (H.out.below HB.out) HU.out HK.out HT8.out hC8 (fun r hr => by
            obtain ⟨x, hx, rfl⟩ := List.mem_map.1 hr
            obtain ⟨y, hy, rfl⟩ := List.mem_map.1 hx
            exact .inr ⟨_, rfl, by rw [recG_size]; have := HSh.out y (List.mem_of_mem_take hy); omega⟩) HPl.out (by rw [gones_length]; have := HL.out; omega) HAp.out HEr.out).mono ?_; rintro e w9 ⟨rfl, S1', S2', h9, s9⟩; have H9 := Aside0.mk h9; have HS9 := Aside0.mk (Step.after s9 HB.out); clear h9 s9))
      go_ret
      exact ⟨rfl, S1', S2', H9.out, HS9.out⟩
set_option maxHeartbeats 4000000 in
set_option maxRecDepth 100000 in
theorem Evict_neg (h : KD S1 S2 B W gd g d n m l) (hj : j < 0) : Calls Try.prog 20 #[.pointer (some ⟨g, 0, none⟩), .int .i64 j] W fun e W' => e = .returned (.int .i64 1) ∧ Below W.heap.size W W' := by
  have jb : decide (j < 0) = true := decide_eq_true hj
  clear h hj
  go_enter Try.func20, Try.ntmps20
  go_wp2
  go_ret
  exact ⟨rfl, Below.refl _ _⟩
set_option maxHeartbeats 4000000 in
set_option maxRecDepth 100000 in
theorem Evict_none (h : KD S1 S2 B W gd g d n m l) (hj : 0 ≤ j) (hq : min j.toNat l.length = 0) : Calls Try.prog 20 #[.pointer (some ⟨g, 0, none⟩), .int .i64 j] W fun e W' => e = .returned (.int .i64 0) ∧ Below W.heap.size W W' := by
  obtain ⟨v, hv⟩ := h.st.at_
  have z3 : W.drew.cell? ⟨g, 3, none⟩ = some v := hv.cell 3
  obtain ⟨A0, c0, ev, hall⟩ := hv.entry
  subst ev
  obtain ⟨ln, hln⟩ : ∃ ln, ln = l.length := ⟨_, rfl⟩
  rw [← hln] at z3 hq
  have hmin : min j (ln : Int) = 0 := by omega
  have jb : decide (j < 0) = false := decide_eq_false (by omega)
  clear h hv hall hln hj hq
  go_enter Try.func20, Try.ntmps20
  go_wp2_with (first | go_region)
  go_loopw [5, 25] (fun o i wr => o = .slice none 0 0 ∧ i = .int .i64 0 ∧ wr = W.drew) (fun _ i _ => 0)
  case atStart => exact ⟨rfl, rfl, rfl⟩
  case round =>
    obtain ⟨rfl, rfl, rfl⟩ := hrel
    go_wp2
    go_ret
    exact ⟨rfl, below_drew1 (Below.refl _ _)⟩
theorem allRecs_step {l : List E} {a : Nat} (h : a < l.length) : allRecs (l.take (a + 1)) = allRecs (l.take a) ++ [recP (l[a]'h).f0 (l[a]'h).f1] := by
  unfold allRecs
  rw [List.take_succ_eq_append_getElem h, List.map_append]
  rfl
theorem putB_app (a b : List ByteArray) : Fr.putB (a ++ b) = Fr.putB a ++ Fr.putB b := by
  unfold Fr.putB
  rw [List.filter_append, List.flatMap_append]
theorem lit1 {W : World} {b : Nat} {s : ByteArray} (h : W.cell? ⟨b, 0, none⟩ = some (.string s)) : Kd.C Kd.string W (some ⟨b, 0, none⟩) 1 [s] := by
  refine ⟨rfl, by decide, fun _ => ⟨_, rfl, fun j p hp => ?_⟩⟩
  cases j with
  | succ j => simp at hp
  | zero =>
    simp at hp
    subst hp
    refine ⟨[.string s], rfl, rfl, fun i u hi => ?_⟩
    cases i with
    | succ i => simp at hi
    | zero =>
      simp at hi
      subst hi
      exact h
theorem framePut1 {W w5 : World} {v : Value} {X : List Int} {r : ByteArray} (hR : Kd.R bK 5 w5 W.heap.size (fun _ => True) v X) (hB : Below W.heap.size W w5) (hX : X.length ≤ 549755813888) (hr : Good r) :
    Calls Try.prog 48 #[v, .slice (some ⟨w5.heap.size, 0, none⟩) 1 1] (w5.alloc (.cells #[.string r] 9)) fun e W' => ∃ v', e = .returned v' ∧ Kd.R bK 5 W' W.heap.size (fun _ => True) v' (X ++ Fr.putB [r]) ∧ Below W.heap.size W W' := by
  have hb6 := below_alloc hB (.cells #[.string r] 9)
  have hpl : (Fr.putB [r]).length ≤ 65544 := by
    have := putB_le (rs := [r]) (fun x hx => by rcases List.mem_singleton.1 hx with rfl; exact hr)
    simpa using this
  obtain ⟨K, hK⟩ := Fr.put_ev X [r] (by simp) (by omega)
  have h0 : Kd.R bK 5 (w5.alloc (.cells #[.string r] 9)) W.heap.size (fun k => k < w5.heap.size) v X := Kd.R_alloc (Kd.R_mono (Kd.R_bound hR) (fun k hk => hk.2.2.1)) _
  refine (frame_Put.calls K (fun k => k < w5.heap.size) v X (some ⟨w5.heap.size, 0, none⟩) 1 [r] (X ++ Fr.putB [r]) W _ hb6 h0 (fun W_ hk => ?_) (Nat.le_refl _) (hK K (Nat.le_refl _))).mono ?_
  · refine lit1 ?_
    have hbn := blk_new w5 (.cells #[.string r] 9)
    exact (blk_cell ((hk.2 _ (blk_lt hbn) (Nat.lt_irrefl _)).trans hbn) 0).trans rfl
  · rintro e W' ⟨v', rfl, h1, h2, _⟩
    exact ⟨v', rfl, Kd.R_mono h1 (fun _ _ => trivial), h2⟩
set_option maxHeartbeats 4000000 in
set_option maxRecDepth 100000 in
theorem Compact_1 (h : KD S1 S2 B W gd g d n m l) (u : d.Up k) (hk : k < 4611686018427387000) (hn : n.size ≤ 28) (hl : l.length ≤ 8000) (hgd : ∀ r ∈ allRecs l, Good r) (ha : d.append (draftN n) (Fr.putB (allRecs l)) = (er, d')) (he : er ≠ 0) : Calls Try.prog 22 #[.pointer (some ⟨g, 0, none⟩)] W fun e W' => e = .returned (.int .i64 er) ∧ ∃ S1' S2', KD S1' S2' B W' gd g d' n m l ∧ Step (U S1 S2) W (U S1' S2') W' := by
  have hu := Try.underlying82
  obtain ⟨v, hv⟩ := h.st.at_
  have z3 : W.cell? ⟨g, 3, none⟩ = some v := hv.cell 3
  obtain ⟨A0, c0, ev, hall⟩ := hv.entry
  subst ev
  have HAll := Aside0.mk hall
  have HGd := Aside0.mk hgd
  have HAp := Aside0.mk ha
  have HL := Aside0.mk hl
  have HU := Aside0.mk u
  have HK := Aside0.mk hk
  have HN28 := Aside0.mk hn
  have H := Aside0.mk h
  have eb1 : (er == 0) = false := beq_eq_false_iff_ne.mpr he
  clear he
  obtain ⟨ln, hln⟩ : ∃ ln, ln = l.length := ⟨_, rfl⟩
  have HLn := Aside0.mk hln
  rw [← hln] at z3
  clear h u hk hl hgd hv hall hln hn ha
  go_enter Try.func22, Try.ntmps22
  go_wp2
  go_loopw [3, 14] (fun o i wr => ∃ (a : Nat), a ≤ ln ∧ i = .int .i64 (a : Int) ∧ Aside0 (Kd.R bK 5 wr W.heap.size (fun _ => True) o (Fr.putB (allRecs (l.take a)))) ∧ Aside0 (Below W.heap.size W wr)) (fun _ i _ => ln - (intOf i).toNat)
  case atStart => exact ⟨0, Nat.zero_le _, rfl, ⟨Kd.R_nil _ _ _ _ _⟩, ⟨Below.refl _ _⟩⟩
  case round =>
    obtain ⟨a, ha, rfl, HR, HB⟩ := hrel
    by_cases hlt : a < ln
    · have kb : decide ((a : Int) < (ln : Int)) = true := decide_eq_true (Int.ofNat_lt.2 hlt)
      have kbn : decide (a < ln) = true := decide_eq_true hlt
      have hal : a < l.length := by rw [← HLn.out]; exact hlt
      obtain ⟨ad, rfl, y0, y1⟩ := HAll.out a hal
      have a0 := pw_cell_below HB.out y0
      have a1 := pw_cell_below HB.out y1
      have HE := Aside0.mk (allRecs_step hal)
      have HGr := Aside0.mk (show Good (recP (l[a]'hal).f0 (l[a]'hal).f1) from HGd.out _ (List.mem_map.2 ⟨_, List.getElem_mem hal, rfl⟩))
      clear y0 y1
      obtain ⟨s, hs⟩ : ∃ s, s = (l[a]'hal).f0 := ⟨_, rfl⟩
      obtain ⟨t, ht⟩ : ∃ t, t = (l[a]'hal).f1 := ⟨_, rfl⟩
      rw [← hs] at a0 HE HGr
      rw [← ht] at a1 HE HGr
      have HSz := Aside0.mk (show s.size + t.size ≤ 274877906944 from by have h1 := HGr.out.size; rw [recP_size] at h1; omega)
      have HBl := Aside0.mk (show (Fr.putB (allRecs (l.take a))).length ≤ 549755813888 from by
        have h1 := putB_le (rs := allRecs (l.take a)) (fun r hr => HGd.out r (by
          obtain ⟨y, hy, rfl⟩ := List.mem_map.1 hr
          exact List.mem_map.2 ⟨y, List.mem_of_mem_take hy, rfl⟩))
        have h2 : (allRecs (l.take a)).length ≤ 8000 := by unfold allRecs; rw [List.length_map, List.length_take]; have := HL.out; omega
        have h3 : (allRecs (l.take a)).length * 65544 ≤ 8000 * 65544 := Nat.mul_le_mul_right _ h2
        omega)
      clear hs ht
      go_wp2_with (first
        | ((with_reducible refine gate_dst (N := 5) rfl ?_); refine box_event ?hg (N := 5) ?hd (cs := #[.string (⟨#[]⟩ : ByteArray), .string (⟨#[]⟩ : ByteArray)]) (t := 82) ?hr ?_; (case hd => rfl); (case hg => rfl); (case hr => first | (go_simp; done) | (go_simp; rfl)); intro gb hg wq hbox hb; have BX := Aside0.mk (box_pair (W := wr) hbox (Nat.le_of_eq hg.symm) hb (.string s) (.string t)); have qa : wq.cell? ⟨gb, 0, none⟩ = some (.string (⟨#[]⟩ : ByteArray)) := (blk_cell hbox 0).trans rfl; have qb : wq.cell? ⟨gb, 1, none⟩ = some (.string (⟨#[]⟩ : ByteArray)) := (blk_cell hbox 1).trans rfl; have ra := blk_frozen hbox 0; have rb := blk_frozen hbox 1; clear hbox hb hg)
        | (go_at_call 37; refine (put_Q _ s t HSz.out).mono ?_; rintro e w5 ⟨rfl, hb⟩; replace hb := BX.out.2.trans (hb.mono BX.out.2.size); have HB5 := Aside0.mk (HB.out.trans (hb.mono HB.out.size)); have HR5 := Aside0.mk (Kd.R_below HR.out hb); clear hb BX)
        | (go_at_call 48; refine (framePut1 HR5.out HB5.out HBl.out HGr.out).mono ?_; rintro e w6 ⟨v6, rfl, hr6, hb6⟩; have HR6 := Aside0.mk hr6; have HB6 := Aside0.mk hb6; clear hr6 hb6 HR5 HB5))
      go_roundw
      case rel => exact ⟨a + 1, hlt, vE hlt (by have := HL.out; have := HLn.out; omega), ⟨by rw [HE.out, putB_app]; exact HR6.out⟩, HB6⟩
      case measure => exact mE hlt (by have := HL.out; have := HLn.out; omega)
    · have kb : decide ((a : Int) < (ln : Int)) = false := decide_eq_false (fun h => hlt (Int.ofNat_lt.1 h))
      have kbn : decide (a < ln) = false := decide_eq_false hlt
      have HEa := Aside0.mk (show l.take a = l from by rw [List.take_of_length_le (by have := HLn.out; omega)])
      rw [HEa.out] at HR
      obtain ⟨A8, c8, e8⟩ := Kd.R_slice HR.out
      have hr8 := HR.out
      rw [e8] at hr8
      have HRw := Aside0.mk (Row.of (S := S1) hr8 (fun i hi => H.out.dev.hi i hi))
      have HPl := Aside0.mk (show (Fr.putB (allRecs l)).length ≤ 4294967296 from by
        have h1 := putB_le HGd.out
        have h2 : (allRecs l).length ≤ 8000 := by unfold allRecs; rw [List.length_map]; exact HL.out
        have h3 : (allRecs l).length * 65544 ≤ 8000 * 65544 := Nat.mul_le_mul_right _ h2
        omega)
      have HPb := Aside0.mk (show ∀ x ∈ Fr.putB (allRecs l), 0 ≤ x ∧ x ≤ 255 from fun x hx => by have := Fr.byt_putB (allRecs l) x hx; omega)
      obtain ⟨nb, hnb⟩ : ∃ nb, nb = (Fr.putB (allRecs l)).length := ⟨_, rfl⟩
      rw [← hnb] at e8 HRw HPl
      subst e8
      have H0 := Aside0.mk (H.out.below HB.out)
      clear hr8 z3 H HR hnb
      go_wp2
      obtain ⟨vva, hvva⟩ := H0.out.st.at_
      have z0a : wr.drew.cell? ⟨g, 0, none⟩ = some (.pointer (some ⟨gd, 0, none⟩)) := hvva.cell 0
      have z1a : wr.drew.cell? ⟨g, 1, none⟩ = some (.string n) := hvva.cell 1
      have HHa := Aside0.mk (H0.out.below (below_drew1 (Below.refl _ _)))
      have HDra := Aside0.mk (draft_Q (w := wr.drew) ((hvva).below (below_drew1 (Below.refl _ _))) HN28.out)
      clear hvva H0
      refine start_ (n := 9) (S := fun w' => w'.cell? ⟨g, 0, none⟩ = some (.pointer (some ⟨gd, 0, none⟩)) ∧ w'.cell? ⟨g, 1, none⟩ = some (.string n)) (ds := [7, 8]) #[false, false, false, false, false, false, false, false, false] (by kernel_rfl) rfl rfl ⟨z0a, z1a⟩ (fun hHeld => ?_)
      refine pure_ (i := 0) (N := some 24) (v := ?_) (a' := ?_) #[true, false, false, false, false, false, false, false, false] rfl rfl (by kernel_rfl) (fun _ _ _ h => h) (Or.inl ⟨by rfl, ?_⟩) ?_ ?_
      rotate_left
      · intro w'
        go_simp
        with_reducible rfl
      rotate_left
      · simp only [Act.put, List.setIfInBounds_toArray, List.set_cons_zero, List.set_cons_succ, i64_w, i32_w]
        rfl
      refine pure_ (i := 1) (N := some 25) (v := ?_) (a' := ?_) #[true, true, false, false, false, false, false, false, false] rfl rfl (by kernel_rfl) (fun _ _ _ h => h) (Or.inl ⟨by rfl, ?_⟩) ?_ ?_
      rotate_left
      · intro w'
        go_simp
        with_reducible rfl
      rotate_left
      · simp only [Act.put, List.setIfInBounds_toArray, List.set_cons_zero, List.set_cons_succ, i64_w, i32_w]
        rfl
      refine pure_ (i := 2) (N := some 26) (v := ?_) (a' := ?_) #[true, true, true, false, false, false, false, false, false] rfl rfl (by kernel_rfl) (fun _ _ _ h => h) (Or.inl ⟨by rfl, ?_⟩) ?_ ?_
      rotate_left
      · intro w'
        go_simp
        with_reducible rfl
      rotate_left
      · simp only [Act.put, List.setIfInBounds_toArray, List.set_cons_zero, List.set_cons_succ, i64_w, i32_w]
        rfl
      refine take_ (i := 3) (N := some 27) (v := ?_) (a' := ?_) #[true, true, true, true, false, false, false, false, false] rfl rfl (by kernel_rfl) (fun _ _ _ h => h) (Or.inl ⟨by rfl, ?_⟩) hHeld ?_ ?_
      rotate_left
      · intro w' s0
        obtain ⟨s0, s1⟩ := s0
        go_simp
        with_reducible rfl
      rotate_left
      · simp only [Act.put, List.setIfInBounds_toArray, List.set_cons_zero, List.set_cons_succ, i64_w, i32_w]
        rfl
      refine pure_ (i := 4) (N := some 28) (v := ?_) (a' := ?_) #[true, true, true, true, true, false, false, false, false] rfl rfl (by kernel_rfl) (fun _ _ _ h => h) (Or.inl ⟨by rfl, ?_⟩) ?_ ?_
      rotate_left
      · intro w'
        go_simp
        with_reducible rfl
      rotate_left
      · simp only [Act.put, List.setIfInBounds_toArray, List.set_cons_zero, List.set_cons_succ, i64_w, i32_w]
        rfl
      refine pure_ (i := 6) (N := some 30) (v := ?_) (a' := ?_) #[true, true, true, true, true, false, true, false, false] rfl rfl (by kernel_rfl) (fun _ _ _ h => h) (Or.inl ⟨by rfl, ?_⟩) ?_ ?_
      rotate_left
      · intro w'
        go_simp
        with_reducible rfl
      rotate_left
      · simp only [Act.put, List.setIfInBounds_toArray, List.set_cons_zero, List.set_cons_succ, i64_w, i32_w]
        rfl
      refine one_ (i := 5) (N := some 29) #[true, true, true, true, true, true, true, false, false] rfl rfl (by kernel_rfl) (by decide) (fun K hK => ?_)
      refine goes_ Try.func32 (by kernel_rfl) rfl #[.pointer (some ⟨g, 0, none⟩)] (by rfl) rfl rfl (by (try simp only [List.map_toArray, List.map_cons, List.map_nil]); first | done | rfl) ?_
      refine (HDra.out).mono ?_
      rintro e wda ⟨rfl, hb⟩
      refine ⟨_, rfl, ?_⟩
      have HEa := Aside0.mk (HHa.out.below hb)
      have HBa := Aside0.mk hb
      refine hK.out _ _ ⟨pw_cell_below hb z0a, pw_cell_below hb z1a⟩ (fun hHeld => ?_)
      clear hK K hb HDra HHa
      refine norm_ (a' := ?_) ?_ ?_
      rotate_left
      · show Act.put _ (some 29) _ = _
        simp only [Act.put, List.setIfInBounds_toArray, List.set_cons_zero, List.set_cons_succ, i64_w, i32_w]
        rfl
      refine last_ (i := 7) (N := some 31) #[true, true, true, true, true, true, true, true, false] rfl rfl (by kernel_rfl) (by decide) (fun K hK => ?_)
      refine goes_ Try.func49 (by kernel_rfl) rfl #[.pointer (some ⟨gd, 0, none⟩), .string (n ++ ⟨#[46, 110, 101, 119]⟩), .slice A8 nb c8] (by rfl) rfl rfl (by (try simp only [List.map_toArray, List.map_cons, List.map_nil]); first | done | rfl) ?_
      refine (Append_D HEa.out.dev HEa.out.size HU.out (by have := HK.out; omega) (HRw.out.below ((below_drew1 (Below.refl _ _)).trans HBa.out)) HPl.out HPb.out HAp.out).mono ?_
      rintro e wa ⟨S1a, rfl, hd2, hs2⟩
      refine ⟨_, rfl, ?_⟩
      have Ha := Aside0.mk (HEa.out.devStep hd2 hs2).1
      have SA := Aside0.mk (Step.after (Step.after (HEa.out.devStep hd2 hs2).2 HBa.out) (below_drew1 (Below.refl _ _)))
      clear hd2 hs2 hHeld z0a z1a HEa HBa
      refine hK.out _ _ ?_
      clear hK K
      refine norm_ (a' := ?_) ?_ ?_
      rotate_left
      · show Act.put _ (some 31) _ = _
        simp only [Act.put, List.setIfInBounds_toArray, List.set_cons_zero, List.set_cons_succ, i64_w, i32_w]
        rfl
      refine pure_ (i := 8) (N := some 6) (v := ?_) (a' := ?_) #[true, true, true, true, true, true, true, true, true] rfl rfl (by kernel_rfl) (fun _ _ _ h => h) (Or.inl ⟨by rfl, ?_⟩) ?_ ?_
      rotate_left
      · intro w'
        go_simp
        with_reducible rfl
      rotate_left
      · simp only [Act.put, List.setIfInBounds_toArray, List.set_cons_zero, List.set_cons_succ, i64_w, i32_w]
        rfl
      refine done_ (by kernel_rfl) ?_
      go_wp2
      go_ret
      exact ⟨rfl, S1a, S2, Ha.out, Step.after SA.out HB.out⟩
set_option maxHeartbeats 4000000 in
set_option maxRecDepth 100000 in
theorem Compact_2 (h : KD S1 S2 B W gd g d n m l) (u : d.Up k) (hk : k < 4611686018427387000) (hn : n.size ≤ 28) (hl : l.length ≤ 8000) (hgd : ∀ r ∈ allRecs l, Good r) {d1 : DS} (ha : d.append (draftN n) (Fr.putB (allRecs l)) = (0, d1)) (hs : d1.sync (draftN n) = (er, d')) (he : er ≠ 0) : Calls Try.prog 22 #[.pointer (some ⟨g, 0, none⟩)] W fun e W' => e = .returned (.int .i64 er) ∧ ∃ S1' S2', KD S1' S2' B W' gd g d' n m l ∧ Step (U S1 S2) W (U S1' S2') W' := by
  have hu := Try.underlying82
  obtain ⟨v, hv⟩ := h.st.at_
  have z3 : W.cell? ⟨g, 3, none⟩ = some v := hv.cell 3
  obtain ⟨A0, c0, ev, hall⟩ := hv.entry
  subst ev
  have HAll := Aside0.mk hall
  have HGd := Aside0.mk hgd
  have HAp := Aside0.mk ha
  have HL := Aside0.mk hl
  have HU := Aside0.mk u
  have HK := Aside0.mk hk
  have HN28 := Aside0.mk hn
  have H := Aside0.mk h
  have HSy := Aside0.mk hs
  have HU1 := Aside0.mk (show d1.Up (k + 1) from by have h9 := u.append (draftN n) (xs := Fr.putB (allRecs l)) (fun x hx => by have := Fr.byt_putB _ x hx; omega); rw [ha] at h9; exact h9)
  have eb1 : (er == 0) = false := beq_eq_false_iff_ne.mpr he
  clear he
  obtain ⟨ln, hln⟩ : ∃ ln, ln = l.length := ⟨_, rfl⟩
  have HLn := Aside0.mk hln
  rw [← hln] at z3
  clear h u hk hl hgd hv hall hln hn ha hs
  go_enter Try.func22, Try.ntmps22
  go_wp2
  go_loopw [3, 14] (fun o i wr => ∃ (a : Nat), a ≤ ln ∧ i = .int .i64 (a : Int) ∧ Aside0 (Kd.R bK 5 wr W.heap.size (fun _ => True) o (Fr.putB (allRecs (l.take a)))) ∧ Aside0 (Below W.heap.size W wr)) (fun _ i _ => ln - (intOf i).toNat)
  case atStart => exact ⟨0, Nat.zero_le _, rfl, ⟨Kd.R_nil _ _ _ _ _⟩, ⟨Below.refl _ _⟩⟩
  case round =>
    obtain ⟨a, ha, rfl, HR, HB⟩ := hrel
    by_cases hlt : a < ln
    · have kb : decide ((a : Int) < (ln : Int)) = true := decide_eq_true (Int.ofNat_lt.2 hlt)
      have kbn : decide (a < ln) = true := decide_eq_true hlt
      have hal : a < l.length := by rw [← HLn.out]; exact hlt
      obtain ⟨ad, rfl, y0, y1⟩ := HAll.out a hal
      have a0 := pw_cell_below HB.out y0
      have a1 := pw_cell_below HB.out y1
      have HE := Aside0.mk (allRecs_step hal)
      have HGr := Aside0.mk (show Good (recP (l[a]'hal).f0 (l[a]'hal).f1) from HGd.out _ (List.mem_map.2 ⟨_, List.getElem_mem hal, rfl⟩))
      clear y0 y1
      obtain ⟨s, hs⟩ : ∃ s, s = (l[a]'hal).f0 := ⟨_, rfl⟩
      obtain ⟨t, ht⟩ : ∃ t, t = (l[a]'hal).f1 := ⟨_, rfl⟩
      rw [← hs] at a0 HE HGr
      rw [← ht] at a1 HE HGr
      have HSz := Aside0.mk (show s.size + t.size ≤ 274877906944 from by have h1 := HGr.out.size; rw [recP_size] at h1; omega)
      have HBl := Aside0.mk (show (Fr.putB (allRecs (l.take a))).length ≤ 549755813888 from by
        have h1 := putB_le (rs := allRecs (l.take a)) (fun r hr => HGd.out r (by
          obtain ⟨y, hy, rfl⟩ := List.mem_map.1 hr
          exact List.mem_map.2 ⟨y, List.mem_of_mem_take hy, rfl⟩))
        have h2 : (allRecs (l.take a)).length ≤ 8000 := by unfold allRecs; rw [List.length_map, List.length_take]; have := HL.out; omega
        have h3 : (allRecs (l.take a)).length * 65544 ≤ 8000 * 65544 := Nat.mul_le_mul_right _ h2
        omega)
      clear hs ht
      go_wp2_with (first
        | ((with_reducible refine gate_dst (N := 5) rfl ?_); refine box_event ?hg (N := 5) ?hd (cs := #[.string (⟨#[]⟩ : ByteArray), .string (⟨#[]⟩ : ByteArray)]) (t := 82) ?hr ?_; (case hd => rfl); (case hg => rfl); (case hr => first | (go_simp; done) | (go_simp; rfl)); intro gb hg wq hbox hb; have BX := Aside0.mk (box_pair (W := wr) hbox (Nat.le_of_eq hg.symm) hb (.string s) (.string t)); have qa : wq.cell? ⟨gb, 0, none⟩ = some (.string (⟨#[]⟩ : ByteArray)) := (blk_cell hbox 0).trans rfl; have qb : wq.cell? ⟨gb, 1, none⟩ = some (.string (⟨#[]⟩ : ByteArray)) := (blk_cell hbox 1).trans rfl; have ra := blk_frozen hbox 0; have rb := blk_frozen hbox 1; clear hbox hb hg)
        | (go_at_call 37; refine (put_Q _ s t HSz.out).mono ?_; rintro e w5 ⟨rfl, hb⟩; replace hb := BX.out.2.trans (hb.mono BX.out.2.size); have HB5 := Aside0.mk (HB.out.trans (hb.mono HB.out.size)); have HR5 := Aside0.mk (Kd.R_below HR.out hb); clear hb BX)
        | (go_at_call 48; refine (framePut1 HR5.out HB5.out HBl.out HGr.out).mono ?_; rintro e w6 ⟨v6, rfl, hr6, hb6⟩; have HR6 := Aside0.mk hr6; have HB6 := Aside0.mk hb6; clear hr6 hb6 HR5 HB5))
      go_roundw
      case rel => exact ⟨a + 1, hlt, vE hlt (by have := HL.out; have := HLn.out; omega), ⟨by rw [HE.out, putB_app]; exact HR6.out⟩, HB6⟩
      case measure => exact mE hlt (by have := HL.out; have := HLn.out; omega)
    · have kb : decide ((a : Int) < (ln : Int)) = false := decide_eq_false (fun h => hlt (Int.ofNat_lt.1 h))
      have kbn : decide (a < ln) = false := decide_eq_false hlt
      have HEa := Aside0.mk (show l.take a = l from by rw [List.take_of_length_le (by have := HLn.out; omega)])
      rw [HEa.out] at HR
      obtain ⟨A8, c8, e8⟩ := Kd.R_slice HR.out
      have hr8 := HR.out
      rw [e8] at hr8
      have HRw := Aside0.mk (Row.of (S := S1) hr8 (fun i hi => H.out.dev.hi i hi))
      have HPl := Aside0.mk (show (Fr.putB (allRecs l)).length ≤ 4294967296 from by
        have h1 := putB_le HGd.out
        have h2 : (allRecs l).length ≤ 8000 := by unfold allRecs; rw [List.length_map]; exact HL.out
        have h3 : (allRecs l).length * 65544 ≤ 8000 * 65544 := Nat.mul_le_mul_right _ h2
        omega)
      have HPb := Aside0.mk (show ∀ x ∈ Fr.putB (allRecs l), 0 ≤ x ∧ x ≤ 255 from fun x hx => by have := Fr.byt_putB (allRecs l) x hx; omega)
      obtain ⟨nb, hnb⟩ : ∃ nb, nb = (Fr.putB (allRecs l)).length := ⟨_, rfl⟩
      rw [← hnb] at e8 HRw HPl
      subst e8
      have H0 := Aside0.mk (H.out.below HB.out)
      clear hr8 z3 H HR hnb
      go_wp2
      obtain ⟨vva, hvva⟩ := H0.out.st.at_
      have z0a : wr.drew.cell? ⟨g, 0, none⟩ = some (.pointer (some ⟨gd, 0, none⟩)) := hvva.cell 0
      have z1a : wr.drew.cell? ⟨g, 1, none⟩ = some (.string n) := hvva.cell 1
      have HHa := Aside0.mk (H0.out.below (below_drew1 (Below.refl _ _)))
      have HDra := Aside0.mk (draft_Q (w := wr.drew) ((hvva).below (below_drew1 (Below.refl _ _))) HN28.out)
      clear hvva H0
      refine start_ (n := 9) (S := fun w' => w'.cell? ⟨g, 0, none⟩ = some (.pointer (some ⟨gd, 0, none⟩)) ∧ w'.cell? ⟨g, 1, none⟩ = some (.string n)) (ds := [7, 8]) #[false, false, false, false, false, false, false, false, false] (by kernel_rfl) rfl rfl ⟨z0a, z1a⟩ (fun hHeld => ?_)
      refine pure_ (i := 0) (N := some 24) (v := ?_) (a' := ?_) #[true, false, false, false, false, false, false, false, false] rfl rfl (by kernel_rfl) (fun _ _ _ h => h) (Or.inl ⟨by rfl, ?_⟩) ?_ ?_
      rotate_left
      · intro w'
        go_simp
        with_reducible rfl
      rotate_left
      · simp only [Act.put, List.setIfInBounds_toArray, List.set_cons_zero, List.set_cons_succ, i64_w, i32_w]
        rfl
      refine pure_ (i := 1) (N := some 25) (v := ?_) (a' := ?_) #[true, true, false, false, false, false, false, false, false] rfl rfl (by kernel_rfl) (fun _ _ _ h => h) (Or.inl ⟨by rfl, ?_⟩) ?_ ?_
      rotate_left
      · intro w'
        go_simp
        with_reducible rfl
      rotate_left
      · simp only [Act.put, List.setIfInBounds_toArray, List.set_cons_zero, List.set_cons_succ, i64_w, i32_w]
        rfl
      refine pure_ (i := 2) (N := some 26) (v := ?_) (a' := ?_) #[true, true, true, false, false, false, false, false, false] rfl rfl (by kernel_rfl) (fun _ _ _ h => h) (Or.inl ⟨by rfl, ?_⟩) ?_ ?_
      rotate_left
      · intro w'
        go_simp
        with_reducible rfl
      rotate_left
      · simp only [Act.put, List.setIfInBounds_toArray, List.set_cons_zero, List.set_cons_succ, i64_w, i32_w]
        rfl
      refine take_ (i := 3) (N := some 27) (v := ?_) (a' := ?_) #[true, true, true, true, false, false, false, false, false] rfl rfl (by kernel_rfl) (fun _ _ _ h => h) (Or.inl ⟨by rfl, ?_⟩) hHeld ?_ ?_
      rotate_left
      · intro w' s0
        obtain ⟨s0, s1⟩ := s0
        go_simp
        with_reducible rfl
      rotate_left
      · simp only [Act.put, List.setIfInBounds_toArray, List.set_cons_zero, List.set_cons_succ, i64_w, i32_w]
        rfl
      refine pure_ (i := 4) (N := some 28) (v := ?_) (a' := ?_) #[true, true, true, true, true, false, false, false, false] rfl rfl (by kernel_rfl) (fun _ _ _ h => h) (Or.inl ⟨by rfl, ?_⟩) ?_ ?_
      rotate_left
      · intro w'
        go_simp
        with_reducible rfl
      rotate_left
      · simp only [Act.put, List.setIfInBounds_toArray, List.set_cons_zero, List.set_cons_succ, i64_w, i32_w]
        rfl
      refine pure_ (i := 6) (N := some 30) (v := ?_) (a' := ?_) #[true, true, true, true, true, false, true, false, false] rfl rfl (by kernel_rfl) (fun _ _ _ h => h) (Or.inl ⟨by rfl, ?_⟩) ?_ ?_
      rotate_left
      · intro w'
        go_simp
        with_reducible rfl
      rotate_left
      · simp only [Act.put, List.setIfInBounds_toArray, List.set_cons_zero, List.set_cons_succ, i64_w, i32_w]
        rfl
      refine one_ (i := 5) (N := some 29) #[true, true, true, true, true, true, true, false, false] rfl rfl (by kernel_rfl) (by decide) (fun K hK => ?_)
      refine goes_ Try.func32 (by kernel_rfl) rfl #[.pointer (some ⟨g, 0, none⟩)] (by rfl) rfl rfl (by (try simp only [List.map_toArray, List.map_cons, List.map_nil]); first | done | rfl) ?_
      refine (HDra.out).mono ?_
      rintro e wda ⟨rfl, hb⟩
      refine ⟨_, rfl, ?_⟩
      have HEa := Aside0.mk (HHa.out.below hb)
      have HBa := Aside0.mk hb
      refine hK.out _ _ ⟨pw_cell_below hb z0a, pw_cell_below hb z1a⟩ (fun hHeld => ?_)
      clear hK K hb HDra HHa
      refine norm_ (a' := ?_) ?_ ?_
      rotate_left
      · show Act.put _ (some 29) _ = _
        simp only [Act.put, List.setIfInBounds_toArray, List.set_cons_zero, List.set_cons_succ, i64_w, i32_w]
        rfl
      refine last_ (i := 7) (N := some 31) #[true, true, true, true, true, true, true, true, false] rfl rfl (by kernel_rfl) (by decide) (fun K hK => ?_)
      refine goes_ Try.func49 (by kernel_rfl) rfl #[.pointer (some ⟨gd, 0, none⟩), .string (n ++ ⟨#[46, 110, 101, 119]⟩), .slice A8 nb c8] (by rfl) rfl rfl (by (try simp only [List.map_toArray, List.map_cons, List.map_nil]); first | done | rfl) ?_
      refine (Append_D HEa.out.dev HEa.out.size HU.out (by have := HK.out; omega) (HRw.out.below ((below_drew1 (Below.refl _ _)).trans HBa.out)) HPl.out HPb.out HAp.out).mono ?_
      rintro e wa ⟨S1a, rfl, hd2, hs2⟩
      refine ⟨_, rfl, ?_⟩
      have Ha := Aside0.mk (HEa.out.devStep hd2 hs2).1
      have SA := Aside0.mk (Step.after (Step.after (HEa.out.devStep hd2 hs2).2 HBa.out) (below_drew1 (Below.refl _ _)))
      clear hd2 hs2 hHeld z0a z1a HEa HBa
      refine hK.out _ _ ?_
      clear hK K
      refine norm_ (a' := ?_) ?_ ?_
      rotate_left
      · show Act.put _ (some 31) _ = _
        simp only [Act.put, List.setIfInBounds_toArray, List.set_cons_zero, List.set_cons_succ, i64_w, i32_w]
        rfl
      refine pure_ (i := 8) (N := some 6) (v := ?_) (a' := ?_) #[true, true, true, true, true, true, true, true, true] rfl rfl (by kernel_rfl) (fun _ _ _ h => h) (Or.inl ⟨by rfl, ?_⟩) ?_ ?_
      rotate_left
      · intro w'
        go_simp
        with_reducible rfl
      rotate_left
      · simp only [Act.put, List.setIfInBounds_toArray, List.set_cons_zero, List.set_cons_succ, i64_w, i32_w]
        rfl
      refine done_ (by kernel_rfl) ?_
      go_wp2
      obtain ⟨vvb, hvvb⟩ := Ha.out.st.at_
      have z0b : wa.drew.cell? ⟨g, 0, none⟩ = some (.pointer (some ⟨gd, 0, none⟩)) := hvvb.cell 0
      have z1b : wa.drew.cell? ⟨g, 1, none⟩ = some (.string n) := hvvb.cell 1
      have HHb := Aside0.mk (Ha.out.below (below_drew1 (Below.refl _ _)))
      have HDrb := Aside0.mk (draft_Q (w := wa.drew) ((hvvb).below (below_drew1 (Below.refl _ _))) HN28.out)
      clear hvvb Ha
      refine start_ (n := 8) (S := fun w' => w'.cell? ⟨g, 0, none⟩ = some (.pointer (some ⟨gd, 0, none⟩)) ∧ w'.cell? ⟨g, 1, none⟩ = some (.string n)) (ds := [6, 7]) #[false, false, false, false, false, false, false, false] (by kernel_rfl) rfl rfl ⟨z0b, z1b⟩ (fun hHeld => ?_)
      refine pure_ (i := 0) (N := some 34) (v := ?_) (a' := ?_) #[true, false, false, false, false, false, false, false] rfl rfl (by kernel_rfl) (fun _ _ _ h => h) (Or.inl ⟨by rfl, ?_⟩) ?_ ?_
      rotate_left
      · intro w'
        go_simp
        with_reducible rfl
      rotate_left
      · simp only [Act.put, List.setIfInBounds_toArray, List.set_cons_zero, List.set_cons_succ, i64_w, i32_w]
        rfl
      refine pure_ (i := 1) (N := some 35) (v := ?_) (a' := ?_) #[true, true, false, false, false, false, false, false] rfl rfl (by kernel_rfl) (fun _ _ _ h => h) (Or.inl ⟨by rfl, ?_⟩) ?_ ?_
      rotate_left
      · intro w'
        go_simp
        with_reducible rfl
      rotate_left
      · simp only [Act.put, List.setIfInBounds_toArray, List.set_cons_zero, List.set_cons_succ, i64_w, i32_w]
        rfl
      refine pure_ (i := 2) (N := some 36) (v := ?_) (a' := ?_) #[true, true, true, false, false, false, false, false] rfl rfl (by kernel_rfl) (fun _ _ _ h => h) (Or.inl ⟨by rfl, ?_⟩) ?_ ?_
      rotate_left
      · intro w'
        go_simp
        with_reducible rfl
      rotate_left
      · simp only [Act.put, List.setIfInBounds_toArray, List.set_cons_zero, List.set_cons_succ, i64_w, i32_w]
        rfl
      refine take_ (i := 3) (N := some 37) (v := ?_) (a' := ?_) #[true, true, true, true, false, false, false, false] rfl rfl (by kernel_rfl) (fun _ _ _ h => h) (Or.inl ⟨by rfl, ?_⟩) hHeld ?_ ?_
      rotate_left
      · intro w' s0
        obtain ⟨s0, s1⟩ := s0
        go_simp
        with_reducible rfl
      rotate_left
      · simp only [Act.put, List.setIfInBounds_toArray, List.set_cons_zero, List.set_cons_succ, i64_w, i32_w]
        rfl
      refine pure_ (i := 4) (N := some 38) (v := ?_) (a' := ?_) #[true, true, true, true, true, false, false, false] rfl rfl (by kernel_rfl) (fun _ _ _ h => h) (Or.inl ⟨by rfl, ?_⟩) ?_ ?_
      rotate_left
      · intro w'
        go_simp
        with_reducible rfl
      rotate_left
      · simp only [Act.put, List.setIfInBounds_toArray, List.set_cons_zero, List.set_cons_succ, i64_w, i32_w]
        rfl
      refine one_ (i := 5) (N := some 39) #[true, true, true, true, true, true, false, false] rfl rfl (by kernel_rfl) (by decide) (fun K hK => ?_)
      refine goes_ Try.func32 (by kernel_rfl) rfl #[.pointer (some ⟨g, 0, none⟩)] (by rfl) rfl rfl (by (try simp only [List.map_toArray, List.map_cons, List.map_nil]); first | done | rfl) ?_
      refine (HDrb.out).mono ?_
      rintro e wdb ⟨rfl, hb⟩
      refine ⟨_, rfl, ?_⟩
      have HEb := Aside0.mk (HHb.out.below hb)
      have HBb := Aside0.mk hb
      refine hK.out _ _ ⟨pw_cell_below hb z0b, pw_cell_below hb z1b⟩ (fun hHeld => ?_)
      clear hK K hb HDrb HHb
      refine norm_ (a' := ?_) ?_ ?_
      rotate_left
      · show Act.put _ (some 39) _ = _
        simp only [Act.put, List.setIfInBounds_toArray, List.set_cons_zero, List.set_cons_succ, i64_w, i32_w]
        rfl
      refine last_ (i := 6) (N := some 40) #[true, true, true, true, true, true, true, false] rfl rfl (by kernel_rfl) (by decide) (fun K hK => ?_)
      refine goes_ Try.func47 (by kernel_rfl) rfl #[.pointer (some ⟨gd, 0, none⟩), .string (n ++ ⟨#[46, 110, 101, 119]⟩)] (by rfl) rfl rfl (by (try simp only [List.map_toArray, List.map_cons, List.map_nil]); first | done | rfl) ?_
      refine (Sync_D HEb.out.dev HEb.out.size HU1.out (by have := HK.out; omega) HSy.out).mono ?_
      rintro e wb ⟨S1b, rfl, hd2, hs2⟩
      refine ⟨_, rfl, ?_⟩
      have Hb := Aside0.mk (HEb.out.devStep hd2 hs2).1
      have SB := Aside0.mk (Step.after (Step.after (HEb.out.devStep hd2 hs2).2 HBb.out) (below_drew1 (Below.refl _ _)))
      clear hd2 hs2 hHeld z0b z1b HEb HBb
      refine hK.out _ _ ?_
      clear hK K
      refine norm_ (a' := ?_) ?_ ?_
      rotate_left
      · show Act.put _ (some 40) _ = _
        simp only [Act.put, List.setIfInBounds_toArray, List.set_cons_zero, List.set_cons_succ, i64_w, i32_w]
        rfl
      refine pure_ (i := 7) (N := some 6) (v := ?_) (a' := ?_) #[true, true, true, true, true, true, true, true] rfl rfl (by kernel_rfl) (fun _ _ _ h => h) (Or.inl ⟨by rfl, ?_⟩) ?_ ?_
      rotate_left
      · intro w'
        go_simp
        with_reducible rfl
      rotate_left
      · simp only [Act.put, List.setIfInBounds_toArray, List.set_cons_zero, List.set_cons_succ, i64_w, i32_w]
        rfl
      refine done_ (by kernel_rfl) ?_
      go_wp2
      go_ret
      exact ⟨rfl, S1b, S2, Hb.out, Step.after (Step.trans SA.out SB.out) HB.out⟩
set_option maxHeartbeats 4000000 in
set_option maxRecDepth 100000 in
theorem Compact_3 (h : KD S1 S2 B W gd g d n m l) (u : d.Up k) (hk : k < 4611686018427387000) (hn : n.size ≤ 28) (hl : l.length ≤ 8000) (hgd : ∀ r ∈ allRecs l, Good r) {d1 d2 : DS} (ha : d.append (draftN n) (Fr.putB (allRecs l)) = (0, d1)) (hs : d1.sync (draftN n) = (0, d2)) (hr : d2.rename (draftN n) n = (er, d')) : Calls Try.prog 22 #[.pointer (some ⟨g, 0, none⟩)] W fun e W' => e = .returned (.int .i64 er) ∧ ∃ S1' S2', KD S1' S2' B W' gd g d' n m l ∧ Step (U S1 S2) W (U S1' S2') W' := by
  have hu := Try.underlying82
  obtain ⟨v, hv⟩ := h.st.at_
  have z3 : W.cell? ⟨g, 3, none⟩ = some v := hv.cell 3
  obtain ⟨A0, c0, ev, hall⟩ := hv.entry
  subst ev
  have HAll := Aside0.mk hall
  have HGd := Aside0.mk hgd
  have HAp := Aside0.mk ha
  have HL := Aside0.mk hl
  have HU := Aside0.mk u
  have HK := Aside0.mk hk
  have HN28 := Aside0.mk hn
  have H := Aside0.mk h
  have HSy := Aside0.mk hs
  have HU1 := Aside0.mk (show d1.Up (k + 1) from by have h9 := u.append (draftN n) (xs := Fr.putB (allRecs l)) (fun x hx => by have := Fr.byt_putB _ x hx; omega); rw [ha] at h9; exact h9)
  have HRn := Aside0.mk hr
  have HU2 := Aside0.mk (show d2.Up (k + 1 + 1) from by have h9 := HU1.out.sync (draftN n); rw [hs] at h9; exact h9)
  obtain ⟨ln, hln⟩ : ∃ ln, ln = l.length := ⟨_, rfl⟩
  have HLn := Aside0.mk hln
  rw [← hln] at z3
  clear h u hk hl hgd hv hall hln hn ha hs hr
  go_enter Try.func22, Try.ntmps22
  go_wp2
  go_loopw [3, 14] (fun o i wr => ∃ (a : Nat), a ≤ ln ∧ i = .int .i64 (a : Int) ∧ Aside0 (Kd.R bK 5 wr W.heap.size (fun _ => True) o (Fr.putB (allRecs (l.take a)))) ∧ Aside0 (Below W.heap.size W wr)) (fun _ i _ => ln - (intOf i).toNat)
  case atStart => exact ⟨0, Nat.zero_le _, rfl, ⟨Kd.R_nil _ _ _ _ _⟩, ⟨Below.refl _ _⟩⟩
  case round =>
    obtain ⟨a, ha, rfl, HR, HB⟩ := hrel
    by_cases hlt : a < ln
    · have kb : decide ((a : Int) < (ln : Int)) = true := decide_eq_true (Int.ofNat_lt.2 hlt)
      have kbn : decide (a < ln) = true := decide_eq_true hlt
      have hal : a < l.length := by rw [← HLn.out]; exact hlt
      obtain ⟨ad, rfl, y0, y1⟩ := HAll.out a hal
      have a0 := pw_cell_below HB.out y0
      have a1 := pw_cell_below HB.out y1
      have HE := Aside0.mk (allRecs_step hal)
      have HGr := Aside0.mk (show Good (recP (l[a]'hal).f0 (l[a]'hal).f1) from HGd.out _ (List.mem_map.2 ⟨_, List.getElem_mem hal, rfl⟩))
      clear y0 y1
      obtain ⟨s, hs⟩ : ∃ s, s = (l[a]'hal).f0 := ⟨_, rfl⟩
      obtain ⟨t, ht⟩ : ∃ t, t = (l[a]'hal).f1 := ⟨_, rfl⟩
      rw [← hs] at a0 HE HGr
      rw [← ht] at a1 HE HGr
      have HSz := Aside0.mk (show s.size + t.size ≤ 274877906944 from by have h1 := HGr.out.size; rw [recP_size] at h1; omega)
      have HBl := Aside0.mk (show (Fr.putB (allRecs (l.take a))).length ≤ 549755813888 from by
        have h1 := putB_le (rs := allRecs (l.take a)) (fun r hr => HGd.out r (by
          obtain ⟨y, hy, rfl⟩ := List.mem_map.1 hr
          exact List.mem_map.2 ⟨y, List.mem_of_mem_take hy, rfl⟩))
        have h2 : (allRecs (l.take a)).length ≤ 8000 := by unfold allRecs; rw [List.length_map, List.length_take]; have := HL.out; omega
        have h3 : (allRecs (l.take a)).length * 65544 ≤ 8000 * 65544 := Nat.mul_le_mul_right _ h2
        omega)
      clear hs ht
      go_wp2_with (first
        | ((with_reducible refine gate_dst (N := 5) rfl ?_); refine box_event ?hg (N := 5) ?hd (cs := #[.string (⟨#[]⟩ : ByteArray), .string (⟨#[]⟩ : ByteArray)]) (t := 82) ?hr ?_; (case hd => rfl); (case hg => rfl); (case hr => first | (go_simp; done) | (go_simp; rfl)); intro gb hg wq hbox hb; have BX := Aside0.mk (box_pair (W := wr) hbox (Nat.le_of_eq hg.symm) hb (.string s) (.string t)); have qa : wq.cell? ⟨gb, 0, none⟩ = some (.string (⟨#[]⟩ : ByteArray)) := (blk_cell hbox 0).trans rfl; have qb : wq.cell? ⟨gb, 1, none⟩ = some (.string (⟨#[]⟩ : ByteArray)) := (blk_cell hbox 1).trans rfl; have ra := blk_frozen hbox 0; have rb := blk_frozen hbox 1; clear hbox hb hg)
        | (go_at_call 37; refine (put_Q _ s t HSz.out).mono ?_; rintro e w5 ⟨rfl, hb⟩; replace hb := BX.out.2.trans (hb.mono BX.out.2.size); have HB5 := Aside0.mk (HB.out.trans (hb.mono HB.out.size)); have HR5 := Aside0.mk (Kd.R_below HR.out hb); clear hb BX)
        | (go_at_call 48; refine (framePut1 HR5.out HB5.out HBl.out HGr.out).mono ?_; rintro e w6 ⟨v6, rfl, hr6, hb6⟩; have HR6 := Aside0.mk hr6; have HB6 := Aside0.mk hb6; clear hr6 hb6 HR5 HB5))
      go_roundw
      case rel => exact ⟨a + 1, hlt, vE hlt (by have := HL.out; have := HLn.out; omega), ⟨by rw [HE.out, putB_app]; exact HR6.out⟩, HB6⟩
      case measure => exact mE hlt (by have := HL.out; have := HLn.out; omega)
    · have kb : decide ((a : Int) < (ln : Int)) = false := decide_eq_false (fun h => hlt (Int.ofNat_lt.1 h))
      have kbn : decide (a < ln) = false := decide_eq_false hlt
      have HEa := Aside0.mk (show l.take a = l from by rw [List.take_of_length_le (by have := HLn.out; omega)])
      rw [HEa.out] at HR
      obtain ⟨A8, c8, e8⟩ := Kd.R_slice HR.out
      have hr8 := HR.out
      rw [e8] at hr8
      have HRw := Aside0.mk (Row.of (S := S1) hr8 (fun i hi => H.out.dev.hi i hi))
      have HPl := Aside0.mk (show (Fr.putB (allRecs l)).length ≤ 4294967296 from by
        have h1 := putB_le HGd.out
        have h2 : (allRecs l).length ≤ 8000 := by unfold allRecs; rw [List.length_map]; exact HL.out
        have h3 : (allRecs l).length * 65544 ≤ 8000 * 65544 := Nat.mul_le_mul_right _ h2
        omega)
      have HPb := Aside0.mk (show ∀ x ∈ Fr.putB (allRecs l), 0 ≤ x ∧ x ≤ 255 from fun x hx => by have := Fr.byt_putB (allRecs l) x hx; omega)
      obtain ⟨nb, hnb⟩ : ∃ nb, nb = (Fr.putB (allRecs l)).length := ⟨_, rfl⟩
      rw [← hnb] at e8 HRw HPl
      subst e8
      have H0 := Aside0.mk (H.out.below HB.out)
      clear hr8 z3 H HR hnb
      go_wp2
      obtain ⟨vva, hvva⟩ := H0.out.st.at_
      have z0a : wr.drew.cell? ⟨g, 0, none⟩ = some (.pointer (some ⟨gd, 0, none⟩)) := hvva.cell 0
      have z1a : wr.drew.cell? ⟨g, 1, none⟩ = some (.string n) := hvva.cell 1
      have HHa := Aside0.mk (H0.out.below (below_drew1 (Below.refl _ _)))
      have HDra := Aside0.mk (draft_Q (w := wr.drew) ((hvva).below (below_drew1 (Below.refl _ _))) HN28.out)
      clear hvva H0
      refine start_ (n := 9) (S := fun w' => w'.cell? ⟨g, 0, none⟩ = some (.pointer (some ⟨gd, 0, none⟩)) ∧ w'.cell? ⟨g, 1, none⟩ = some (.string n)) (ds := [7, 8]) #[false, false, false, false, false, false, false, false, false] (by kernel_rfl) rfl rfl ⟨z0a, z1a⟩ (fun hHeld => ?_)
      refine pure_ (i := 0) (N := some 24) (v := ?_) (a' := ?_) #[true, false, false, false, false, false, false, false, false] rfl rfl (by kernel_rfl) (fun _ _ _ h => h) (Or.inl ⟨by rfl, ?_⟩) ?_ ?_
      rotate_left
      · intro w'
        go_simp
        with_reducible rfl
      rotate_left
      · simp only [Act.put, List.setIfInBounds_toArray, List.set_cons_zero, List.set_cons_succ, i64_w, i32_w]
        rfl
      refine pure_ (i := 1) (N := some 25) (v := ?_) (a' := ?_) #[true, true, false, false, false, false, false, false, false] rfl rfl (by kernel_rfl) (fun _ _ _ h => h) (Or.inl ⟨by rfl, ?_⟩) ?_ ?_
      rotate_left
      · intro w'
        go_simp
        with_reducible rfl
      rotate_left
      · simp only [Act.put, List.setIfInBounds_toArray, List.set_cons_zero, List.set_cons_succ, i64_w, i32_w]
        rfl
      refine pure_ (i := 2) (N := some 26) (v := ?_) (a' := ?_) #[true, true, true, false, false, false, false, false, false] rfl rfl (by kernel_rfl) (fun _ _ _ h => h) (Or.inl ⟨by rfl, ?_⟩) ?_ ?_
      rotate_left
      · intro w'
        go_simp
        with_reducible rfl
      rotate_left
      · simp only [Act.put, List.setIfInBounds_toArray, List.set_cons_zero, List.set_cons_succ, i64_w, i32_w]
        rfl
      refine take_ (i := 3) (N := some 27) (v := ?_) (a' := ?_) #[true, true, true, true, false, false, false, false, false] rfl rfl (by kernel_rfl) (fun _ _ _ h => h) (Or.inl ⟨by rfl, ?_⟩) hHeld ?_ ?_
      rotate_left
      · intro w' s0
        obtain ⟨s0, s1⟩ := s0
        go_simp
        with_reducible rfl
      rotate_left
      · simp only [Act.put, List.setIfInBounds_toArray, List.set_cons_zero, List.set_cons_succ, i64_w, i32_w]
        rfl
      refine pure_ (i := 4) (N := some 28) (v := ?_) (a' := ?_) #[true, true, true, true, true, false, false, false, false] rfl rfl (by kernel_rfl) (fun _ _ _ h => h) (Or.inl ⟨by rfl, ?_⟩) ?_ ?_
      rotate_left
      · intro w'
        go_simp
        with_reducible rfl
      rotate_left
      · simp only [Act.put, List.setIfInBounds_toArray, List.set_cons_zero, List.set_cons_succ, i64_w, i32_w]
        rfl
      refine pure_ (i := 6) (N := some 30) (v := ?_) (a' := ?_) #[true, true, true, true, true, false, true, false, false] rfl rfl (by kernel_rfl) (fun _ _ _ h => h) (Or.inl ⟨by rfl, ?_⟩) ?_ ?_
      rotate_left
      · intro w'
        go_simp
        with_reducible rfl
      rotate_left
      · simp only [Act.put, List.setIfInBounds_toArray, List.set_cons_zero, List.set_cons_succ, i64_w, i32_w]
        rfl
      refine one_ (i := 5) (N := some 29) #[true, true, true, true, true, true, true, false, false] rfl rfl (by kernel_rfl) (by decide) (fun K hK => ?_)
      refine goes_ Try.func32 (by kernel_rfl) rfl #[.pointer (some ⟨g, 0, none⟩)] (by rfl) rfl rfl (by (try simp only [List.map_toArray, List.map_cons, List.map_nil]); first | done | rfl) ?_
      refine (HDra.out).mono ?_
      rintro e wda ⟨rfl, hb⟩
      refine ⟨_, rfl, ?_⟩
      have HEa := Aside0.mk (HHa.out.below hb)
      have HBa := Aside0.mk hb
      refine hK.out _ _ ⟨pw_cell_below hb z0a, pw_cell_below hb z1a⟩ (fun hHeld => ?_)
      clear hK K hb HDra HHa
      refine norm_ (a' := ?_) ?_ ?_
      rotate_left
      · show Act.put _ (some 29) _ = _
        simp only [Act.put, List.setIfInBounds_toArray, List.set_cons_zero, List.set_cons_succ, i64_w, i32_w]
        rfl
      refine last_ (i := 7) (N := some 31) #[true, true, true, true, true, true, true, true, false] rfl rfl (by kernel_rfl) (by decide) (fun K hK => ?_)
      refine goes_ Try.func49 (by kernel_rfl) rfl #[.pointer (some ⟨gd, 0, none⟩), .string (n ++ ⟨#[46, 110, 101, 119]⟩), .slice A8 nb c8] (by rfl) rfl rfl (by (try simp only [List.map_toArray, List.map_cons, List.map_nil]); first | done | rfl) ?_
      refine (Append_D HEa.out.dev HEa.out.size HU.out (by have := HK.out; omega) (HRw.out.below ((below_drew1 (Below.refl _ _)).trans HBa.out)) HPl.out HPb.out HAp.out).mono ?_
      rintro e wa ⟨S1a, rfl, hd2, hs2⟩
      refine ⟨_, rfl, ?_⟩
      have Ha := Aside0.mk (HEa.out.devStep hd2 hs2).1
      have SA := Aside0.mk (Step.after (Step.after (HEa.out.devStep hd2 hs2).2 HBa.out) (below_drew1 (Below.refl _ _)))
      clear hd2 hs2 hHeld z0a z1a HEa HBa
      refine hK.out _ _ ?_
      clear hK K
      refine norm_ (a' := ?_) ?_ ?_
      rotate_left
      · show Act.put _ (some 31) _ = _
        simp only [Act.put, List.setIfInBounds_toArray, List.set_cons_zero, List.set_cons_succ, i64_w, i32_w]
        rfl
      refine pure_ (i := 8) (N := some 6) (v := ?_) (a' := ?_) #[true, true, true, true, true, true, true, true, true] rfl rfl (by kernel_rfl) (fun _ _ _ h => h) (Or.inl ⟨by rfl, ?_⟩) ?_ ?_
      rotate_left
      · intro w'
        go_simp
        with_reducible rfl
      rotate_left
      · simp only [Act.put, List.setIfInBounds_toArray, List.set_cons_zero, List.set_cons_succ, i64_w, i32_w]
        rfl
      refine done_ (by kernel_rfl) ?_
      go_wp2
      obtain ⟨vvb, hvvb⟩ := Ha.out.st.at_
      have z0b : wa.drew.cell? ⟨g, 0, none⟩ = some (.pointer (some ⟨gd, 0, none⟩)) := hvvb.cell 0
      have z1b : wa.drew.cell? ⟨g, 1, none⟩ = some (.string n) := hvvb.cell 1
      have HHb := Aside0.mk (Ha.out.below (below_drew1 (Below.refl _ _)))
      have HDrb := Aside0.mk (draft_Q (w := wa.drew) ((hvvb).below (below_drew1 (Below.refl _ _))) HN28.out)
      clear hvvb Ha
      refine start_ (n := 8) (S := fun w' => w'.cell? ⟨g, 0, none⟩ = some (.pointer (some ⟨gd, 0, none⟩)) ∧ w'.cell? ⟨g, 1, none⟩ = some (.string n)) (ds := [6, 7]) #[false, false, false, false, false, false, false, false] (by kernel_rfl) rfl rfl ⟨z0b, z1b⟩ (fun hHeld => ?_)
      refine pure_ (i := 0) (N := some 34) (v := ?_) (a' := ?_) #[true, false, false, false, false, false, false, false] rfl rfl (by kernel_rfl) (fun _ _ _ h => h) (Or.inl ⟨by rfl, ?_⟩) ?_ ?_
      rotate_left
      · intro w'
        go_simp
        with_reducible rfl
      rotate_left
      · simp only [Act.put, List.setIfInBounds_toArray, List.set_cons_zero, List.set_cons_succ, i64_w, i32_w]
        rfl
      refine pure_ (i := 1) (N := some 35) (v := ?_) (a' := ?_) #[true, true, false, false, false, false, false, false] rfl rfl (by kernel_rfl) (fun _ _ _ h => h) (Or.inl ⟨by rfl, ?_⟩) ?_ ?_
      rotate_left
      · intro w'
        go_simp
        with_reducible rfl
      rotate_left
      · simp only [Act.put, List.setIfInBounds_toArray, List.set_cons_zero, List.set_cons_succ, i64_w, i32_w]
        rfl
      refine pure_ (i := 2) (N := some 36) (v := ?_) (a' := ?_) #[true, true, true, false, false, false, false, false] rfl rfl (by kernel_rfl) (fun _ _ _ h => h) (Or.inl ⟨by rfl, ?_⟩) ?_ ?_
      rotate_left
      · intro w'
        go_simp
        with_reducible rfl
      rotate_left
      · simp only [Act.put, List.setIfInBounds_toArray, List.set_cons_zero, List.set_cons_succ, i64_w, i32_w]
        rfl
      refine take_ (i := 3) (N := some 37) (v := ?_) (a' := ?_) #[true, true, true, true, false, false, false, false] rfl rfl (by kernel_rfl) (fun _ _ _ h => h) (Or.inl ⟨by rfl, ?_⟩) hHeld ?_ ?_
      rotate_left
      · intro w' s0
        obtain ⟨s0, s1⟩ := s0
        go_simp
        with_reducible rfl
      rotate_left
      · simp only [Act.put, List.setIfInBounds_toArray, List.set_cons_zero, List.set_cons_succ, i64_w, i32_w]
        rfl
      refine pure_ (i := 4) (N := some 38) (v := ?_) (a' := ?_) #[true, true, true, true, true, false, false, false] rfl rfl (by kernel_rfl) (fun _ _ _ h => h) (Or.inl ⟨by rfl, ?_⟩) ?_ ?_
      rotate_left
      · intro w'
        go_simp
        with_reducible rfl
      rotate_left
      · simp only [Act.put, List.setIfInBounds_toArray, List.set_cons_zero, List.set_cons_succ, i64_w, i32_w]
        rfl
      refine one_ (i := 5) (N := some 39) #[true, true, true, true, true, true, false, false] rfl rfl (by kernel_rfl) (by decide) (fun K hK => ?_)
      refine goes_ Try.func32 (by kernel_rfl) rfl #[.pointer (some ⟨g, 0, none⟩)] (by rfl) rfl rfl (by (try simp only [List.map_toArray, List.map_cons, List.map_nil]); first | done | rfl) ?_
      refine (HDrb.out).mono ?_
      rintro e wdb ⟨rfl, hb⟩
      refine ⟨_, rfl, ?_⟩
      have HEb := Aside0.mk (HHb.out.below hb)
      have HBb := Aside0.mk hb
      refine hK.out _ _ ⟨pw_cell_below hb z0b, pw_cell_below hb z1b⟩ (fun hHeld => ?_)
      clear hK K hb HDrb HHb
      refine norm_ (a' := ?_) ?_ ?_
      rotate_left
      · show Act.put _ (some 39) _ = _
        simp only [Act.put, List.setIfInBounds_toArray, List.set_cons_zero, List.set_cons_succ, i64_w, i32_w]
        rfl
      refine last_ (i := 6) (N := some 40) #[true, true, true, true, true, true, true, false] rfl rfl (by kernel_rfl) (by decide) (fun K hK => ?_)
      refine goes_ Try.func47 (by kernel_rfl) rfl #[.pointer (some ⟨gd, 0, none⟩), .string (n ++ ⟨#[46, 110, 101, 119]⟩)] (by rfl) rfl rfl (by (try simp only [List.map_toArray, List.map_cons, List.map_nil]); first | done | rfl) ?_
      refine (Sync_D HEb.out.dev HEb.out.size HU1.out (by have := HK.out; omega) HSy.out).mono ?_
      rintro e wb ⟨S1b, rfl, hd2, hs2⟩
      refine ⟨_, rfl, ?_⟩
      have Hb := Aside0.mk (HEb.out.devStep hd2 hs2).1
      have SB := Aside0.mk (Step.after (Step.after (HEb.out.devStep hd2 hs2).2 HBb.out) (below_drew1 (Below.refl _ _)))
      clear hd2 hs2 hHeld z0b z1b HEb HBb
      refine hK.out _ _ ?_
      clear hK K
      refine norm_ (a' := ?_) ?_ ?_
      rotate_left
      · show Act.put _ (some 40) _ = _
        simp only [Act.put, List.setIfInBounds_toArray, List.set_cons_zero, List.set_cons_succ, i64_w, i32_w]
        rfl
      refine pure_ (i := 7) (N := some 6) (v := ?_) (a' := ?_) #[true, true, true, true, true, true, true, true] rfl rfl (by kernel_rfl) (fun _ _ _ h => h) (Or.inl ⟨by rfl, ?_⟩) ?_ ?_
      rotate_left
      · intro w'
        go_simp
        with_reducible rfl
      rotate_left
      · simp only [Act.put, List.setIfInBounds_toArray, List.set_cons_zero, List.set_cons_succ, i64_w, i32_w]
        rfl
      refine done_ (by kernel_rfl) ?_
      go_wp2
      obtain ⟨vvc, hvvc⟩ := Hb.out.st.at_
      have z0c : wb.drew.cell? ⟨g, 0, none⟩ = some (.pointer (some ⟨gd, 0, none⟩)) := hvvc.cell 0
      have z1c : wb.drew.cell? ⟨g, 1, none⟩ = some (.string n) := hvvc.cell 1
      have HHc := Aside0.mk (Hb.out.below (below_drew1 (Below.refl _ _)))
      have HDrc := Aside0.mk (draft_Q (w := wb.drew) ((hvvc).below (below_drew1 (Below.refl _ _))) HN28.out)
      clear hvvc Hb
      refine start_ (n := 12) (S := fun w' => w'.cell? ⟨g, 0, none⟩ = some (.pointer (some ⟨gd, 0, none⟩)) ∧ w'.cell? ⟨g, 1, none⟩ = some (.string n)) (ds := [10, 11]) #[false, false, false, false, false, false, false, false, false, false, false, false] (by kernel_rfl) rfl rfl ⟨z0c, z1c⟩ (fun hHeld => ?_)
      refine pure_ (i := 0) (N := some 43) (v := ?_) (a' := ?_) #[true, false, false, false, false, false, false, false, false, false, false, false] rfl rfl (by kernel_rfl) (fun _ _ _ h => h) (Or.inl ⟨by rfl, ?_⟩) ?_ ?_
      rotate_left
      · intro w'
        go_simp
        with_reducible rfl
      rotate_left
      · simp only [Act.put, List.setIfInBounds_toArray, List.set_cons_zero, List.set_cons_succ, i64_w, i32_w]
        rfl
      refine pure_ (i := 1) (N := some 44) (v := ?_) (a' := ?_) #[true, true, false, false, false, false, false, false, false, false, false, false] rfl rfl (by kernel_rfl) (fun _ _ _ h => h) (Or.inl ⟨by rfl, ?_⟩) ?_ ?_
      rotate_left
      · intro w'
        go_simp
        with_reducible rfl
      rotate_left
      · simp only [Act.put, List.setIfInBounds_toArray, List.set_cons_zero, List.set_cons_succ, i64_w, i32_w]
        rfl
      refine pure_ (i := 2) (N := some 45) (v := ?_) (a' := ?_) #[true, true, true, false, false, false, false, false, false, false, false, false] rfl rfl (by kernel_rfl) (fun _ _ _ h => h) (Or.inl ⟨by rfl, ?_⟩) ?_ ?_
      rotate_left
      · intro w'
        go_simp
        with_reducible rfl
      rotate_left
      · simp only [Act.put, List.setIfInBounds_toArray, List.set_cons_zero, List.set_cons_succ, i64_w, i32_w]
        rfl
      refine take_ (i := 3) (N := some 46) (v := ?_) (a' := ?_) #[true, true, true, true, false, false, false, false, false, false, false, false] rfl rfl (by kernel_rfl) (fun _ _ _ h => h) (Or.inl ⟨by rfl, ?_⟩) hHeld ?_ ?_
      rotate_left
      · intro w' s0
        obtain ⟨s0, s1⟩ := s0
        go_simp
        with_reducible rfl
      rotate_left
      · simp only [Act.put, List.setIfInBounds_toArray, List.set_cons_zero, List.set_cons_succ, i64_w, i32_w]
        rfl
      refine pure_ (i := 4) (N := some 47) (v := ?_) (a' := ?_) #[true, true, true, true, true, false, false, false, false, false, false, false] rfl rfl (by kernel_rfl) (fun _ _ _ h => h) (Or.inl ⟨by rfl, ?_⟩) ?_ ?_
      rotate_left
      · intro w'
        go_simp
        with_reducible rfl
      rotate_left
      · simp only [Act.put, List.setIfInBounds_toArray, List.set_cons_zero, List.set_cons_succ, i64_w, i32_w]
        rfl
      refine pure_ (i := 6) (N := some 49) (v := ?_) (a' := ?_) #[true, true, true, true, true, false, true, false, false, false, false, false] rfl rfl (by kernel_rfl) (fun _ _ _ h => h) (Or.inl ⟨by rfl, ?_⟩) ?_ ?_
      rotate_left
      · intro w'
        go_simp
        with_reducible rfl
      rotate_left
      · simp only [Act.put, List.setIfInBounds_toArray, List.set_cons_zero, List.set_cons_succ, i64_w, i32_w]
        rfl
      refine pure_ (i := 7) (N := some 50) (v := ?_) (a' := ?_) #[true, true, true, true, true, false, true, true, false, false, false, false] rfl rfl (by kernel_rfl) (fun _ _ _ h => h) (Or.inl ⟨by rfl, ?_⟩) ?_ ?_
      rotate_left
      · intro w'
        go_simp
        with_reducible rfl
      rotate_left
      · simp only [Act.put, List.setIfInBounds_toArray, List.set_cons_zero, List.set_cons_succ, i64_w, i32_w]
        rfl
      refine pure_ (i := 8) (N := some 51) (v := ?_) (a' := ?_) #[true, true, true, true, true, false, true, true, true, false, false, false] rfl rfl (by kernel_rfl) (fun _ _ _ h => h) (Or.inl ⟨by rfl, ?_⟩) ?_ ?_
      rotate_left
      · intro w'
        go_simp
        with_reducible rfl
      rotate_left
      · simp only [Act.put, List.setIfInBounds_toArray, List.set_cons_zero, List.set_cons_succ, i64_w, i32_w]
        rfl
      refine take_ (i := 9) (N := some 52) (v := ?_) (a' := ?_) #[true, true, true, true, true, false, true, true, true, true, false, false] rfl rfl (by kernel_rfl) (fun _ _ _ h => h) (Or.inl ⟨by rfl, ?_⟩) hHeld ?_ ?_
      rotate_left
      · intro w' s0
        obtain ⟨s0, s1⟩ := s0
        go_simp
        with_reducible rfl
      rotate_left
      · simp only [Act.put, List.setIfInBounds_toArray, List.set_cons_zero, List.set_cons_succ, i64_w, i32_w]
        rfl
      refine one_ (i := 5) (N := some 48) #[true, true, true, true, true, true, true, true, true, true, false, false] rfl rfl (by kernel_rfl) (by decide) (fun K hK => ?_)
      refine goes_ Try.func32 (by kernel_rfl) rfl #[.pointer (some ⟨g, 0, none⟩)] (by rfl) rfl rfl (by (try simp only [List.map_toArray, List.map_cons, List.map_nil]); first | done | rfl) ?_
      refine (HDrc.out).mono ?_
      rintro e wdc ⟨rfl, hb⟩
      refine ⟨_, rfl, ?_⟩
      have HEc := Aside0.mk (HHc.out.below hb)
      have HBc := Aside0.mk hb
      refine hK.out _ _ ⟨pw_cell_below hb z0c, pw_cell_below hb z1c⟩ (fun hHeld => ?_)
      clear hK K hb HDrc HHc
      refine norm_ (a' := ?_) ?_ ?_
      rotate_left
      · show Act.put _ (some 48) _ = _
        simp only [Act.put, List.setIfInBounds_toArray, List.set_cons_zero, List.set_cons_succ, i64_w, i32_w]
        rfl
      refine last_ (i := 10) (N := some 53) #[true, true, true, true, true, true, true, true, true, true, true, false] rfl rfl (by kernel_rfl) (by decide) (fun K hK => ?_)
      refine goes_ Try.func50 (by kernel_rfl) rfl #[.pointer (some ⟨gd, 0, none⟩), .string (n ++ ⟨#[46, 110, 101, 119]⟩), .string n] (by rfl) rfl rfl (by (try simp only [List.map_toArray, List.map_cons, List.map_nil]); first | done | rfl) ?_
      refine (Rename_D HEc.out.dev HEc.out.size HU2.out (by have := HK.out; omega) HRn.out).mono ?_
      rintro e wc ⟨S1c, rfl, hd2, hs2⟩
      refine ⟨_, rfl, ?_⟩
      have Hc := Aside0.mk (HEc.out.devStep hd2 hs2).1
      have SC := Aside0.mk (Step.after (Step.after (HEc.out.devStep hd2 hs2).2 HBc.out) (below_drew1 (Below.refl _ _)))
      clear hd2 hs2 hHeld z0c z1c HEc HBc
      refine hK.out _ _ ?_
      clear hK K
      refine norm_ (a' := ?_) ?_ ?_
      rotate_left
      · show Act.put _ (some 53) _ = _
        simp only [Act.put, List.setIfInBounds_toArray, List.set_cons_zero, List.set_cons_succ, i64_w, i32_w]
        rfl
      refine pure_ (i := 11) (N := some 6) (v := ?_) (a' := ?_) #[true, true, true, true, true, true, true, true, true, true, true, true] rfl rfl (by kernel_rfl) (fun _ _ _ h => h) (Or.inl ⟨by rfl, ?_⟩) ?_ ?_
      rotate_left
      · intro w'
        go_simp
        with_reducible rfl
      rotate_left
      · simp only [Act.put, List.setIfInBounds_toArray, List.set_cons_zero, List.set_cons_succ, i64_w, i32_w]
        rfl
      refine done_ (by kernel_rfl) ?_
      go_wp2
      go_ret
      exact ⟨rfl, S1c, S2, Hc.out, Step.after (Step.trans (Step.trans SA.out SB.out) SC.out) HB.out⟩
theorem Evict_K (h : KD S1 S2 B W gd g d n m l) (u : d.Up k) (hk : k < 4611686018427387904) (hl : l.length ≤ 8000) (hsh : Short l) : Calls Try.prog 20 #[.pointer (some ⟨g, 0, none⟩), .int .i64 j] W fun e W' => e = .returned (.int .i64 (evictE d n l j).1) ∧ ∃ S1' S2', KD S1' S2' B W' gd g (evictE d n l j).2.1 n m (evictE d n l j).2.2 ∧ Step (U S1 S2) W (U S1' S2') W' := by
  unfold evictE
  by_cases c1 : j < 0
  · rw [if_pos c1]
    refine (Evict_neg h c1).mono ?_
    rintro e W' ⟨rfl, hb⟩
    exact ⟨rfl, S1, S2, h.below hb, Step.same hb⟩
  rw [if_neg c1]
  by_cases c2 : min j.toNat l.length = 0
  · rw [if_pos c2]
    refine (Evict_none h (by omega) c2).mono ?_
    rintro e W' ⟨rfl, hb⟩
    exact ⟨rfl, S1, S2, h.below hb, Step.same hb⟩
  rw [if_neg c2]
  have hl2 : l.length + l.length + 2 ≤ 1048576 := by omega
  have hgd : ∀ r ∈ gones l (min j.toNat l.length), Good r := fun r hr => by
    obtain ⟨x, hx, rfl⟩ := List.mem_map.1 hr
    obtain ⟨y, hy, rfl⟩ := List.mem_map.1 hx
    exact .inr ⟨_, rfl, by rw [recG_size]; have := hsh y (List.mem_of_mem_take hy); omega⟩
  have hlen : (Fr.putB (gones l (min j.toNat l.length))).length ≤ 4294967296 := by
    have h1 := putB_le hgd
    have h2 : (gones l (min j.toNat l.length)).length ≤ 8000 := by rw [gones_length]; omega
    have h3 : (gones l (min j.toNat l.length)).length * 65544 ≤ 8000 * 65544 := Nat.mul_le_mul_right _ h2
    omega
  unfold writeE
  have hap : d.append n (Fr.putB (gones l (min j.toNat l.length))) = ((d.append n (Fr.putB (gones l (min j.toNat l.length)))).1, (d.append n (Fr.putB (gones l (min j.toNat l.length)))).2) := rfl
  by_cases c3 : (d.append n (Fr.putB (gones l (min j.toNat l.length)))).1 = 0
  · rw [if_pos c3]
    rw [c3] at hap ⊢
    exact Evict_ok (l := l) h u hk hl2 hsh (by omega) rfl (by omega) hlen hap
  · rw [if_neg c3]
    exact Evict_e (l := l) h u hk hl2 hsh (by omega) rfl (by omega) hlen hap c3
theorem Compact_K (h : KD S1 S2 B W gd g d n m l) (u : d.Up k) (hk : k < 4611686018427387000) (hn : n.size ≤ 28) (hl : l.length ≤ 8000) (hgd : ∀ r ∈ allRecs l, Good r) : Calls Try.prog 22 #[.pointer (some ⟨g, 0, none⟩)] W fun e W' => e = .returned (.int .i64 (compactE d n l).1) ∧ ∃ S1' S2', KD S1' S2' B W' gd g (compactE d n l).2 n m l ∧ Step (U S1 S2) W (U S1' S2') W' := by
  unfold compactE
  obtain ⟨e1, d1, h1⟩ : ∃ e1 d1, d.append (draftN n) (Fr.putB (allRecs l)) = (e1, d1) := ⟨_, _, rfl⟩
  rw [h1]
  simp only
  by_cases c1 : e1 ≠ 0
  · rw [if_pos c1]
    exact Compact_1 h u hk hn hl hgd h1 c1
  rw [if_neg c1]
  have c1 : e1 = 0 := Decidable.of_not_not c1
  subst c1
  obtain ⟨e2, d2, h2⟩ : ∃ e2 d2, d1.sync (draftN n) = (e2, d2) := ⟨_, _, rfl⟩
  rw [h2]
  simp only
  by_cases c2 : e2 ≠ 0
  · rw [if_pos c2]
    exact Compact_2 h u hk hn hl hgd h1 h2 c2
  rw [if_neg c2]
  have c2 : e2 = 0 := Decidable.of_not_not c2
  subst c2
  exact Compact_3 h u hk hn hl hgd h1 h2 rfl
end
end Go.Proofs.Ytclkcipakncjkaa.Kv
namespace Go.Proofs.Ytclkcipakncjkaa.Kv
open Go Go.RowKit Go.Proofs.YtclkcipakncjkaaW.PrintWords Go.Proofs.YtclkcipakncjkaaW.PrintLast Go.Proofs.YtclkcipakncjkaaW.PrintMore Go.Proofs.YtclkcipakncjkaaMy Go.Proofs.Ytclkcipakncjkaa Go.Proofs.YtclkcipakncjkaaPw Go.Proofs.Ytclkcipakncjkaa.PAll Go.Proofs.Ytclkcipakncjkaa.Dk
set_option linter.unusedVariables false
set_option linter.unusedSimpArgs false
abbrev rdE (l : List E) (i : Nat) : E := rd_T54 l (i : Int)
theorem rdE_eq {l : List E} {i : Nat} (h : i < l.length) : rdE l i = l[i] := by
  unfold rdE rd_T54
  rw [Int.toNat_natCast, List.getD_eq_getElem?_getD, List.getElem?_eq_getElem h]
  rfl
theorem toList_eq {a b : ByteArray} : a.toList = b.toList ↔ a = b := ⟨ba_inj, fun h => by rw [h]⟩
def outE (l : List E) (s : ByteArray) : List E := l.filter fun e => decide (e.f0 ≠ s)
theorem outE_le (l : List E) (s : ByteArray) : (outE l s).length ≤ l.length := List.length_filter_le _ _
theorem rdrop_l0 (s : ByteArray) (l : List E) (hl : l.length ≤ 1048576) : ∀ (d i : Nat) (acc : List E), i + d = l.length → acc.length ≤ i →
    Ev (fun k => seicheref05_Drop.l0 k s acc l (l.length : Int) (i : Int)) (acc ++ outE (l.drop i) s)
  | 0, i, acc, hd, _ => Ev.step (fun _ => seicheref05_Drop.l0.eq_2 ..) (ev_neg (by omega) (ev_ret (by rw [List.drop_of_length_le (by omega)]; simp [outE])))
  | d + 1, i, acc, hd, hb => by
    have hil : i < l.length := by omega
    rw [List.drop_eq_getElem_cons hil]
    refine Ev.step (fun _ => seicheref05_Drop.l0.eq_2 ..) (ev_pos (by omega) (ev_pos (by omega) (ev_pos (by omega) ?_)))
    rw [show rd_T54 l (i : Int) = l[i] from rdE_eq hil, w64 (x := (i : Int) + 1) (by omega) (by omega)]
    by_cases c : (l[i]).f0 = s
    · refine ev_pos (by rw [c]) ?_
      have := rdrop_l0 s l hl d (i + 1) acc (by omega) (by omega)
      unfold outE at this ⊢
      rw [List.filter_cons, if_neg (by simp [c])]
      exact this
    · refine ev_neg (fun h => c (ba_inj h)) (ev_pos (by omega) ?_)
      have := rdrop_l0 s l hl d (i + 1) (acc ++ [l[i]]) (by omega) (by rw [List.length_append, List.length_singleton]; omega)
      unfold outE at this ⊢
      rw [List.filter_cons, if_pos (by simp [c])]
      rw [List.append_assoc] at this
      exact this
theorem rdrop_ev (l : List E) (s : ByteArray) (hl : l.length ≤ 1048576) : Ev (fun k => seicheref05_Drop.f k l s) (outE l s) := by
  have := rdrop_l0 s l hl l.length 0 [] (by omega) (Nat.le_refl _)
  rw [List.nil_append, List.drop_zero] at this
  exact this
theorem rput_ev (l : List E) (k u : ByteArray) (hl : l.length ≤ 1048576) : Ev (fun n => seicheref05_Put.f n l k u) (outE l k ++ [⟨k, u⟩]) := by
  refine ev_call (rdrop_ev l k hl) (ev_some (ev_pos ?_ (ev_ret rfl)))
  have := outE_le l k
  rw [List.length_singleton]
  omega
theorem rsplit_join {ps : List ByteArray} (h : 8 + 8 * ps.length + Co.sizes ps ≤ 1048576) : Ev (fun k => seicheref01_Split.f k (strOfNums (Co.joinB ps))) (ps, true) := by
  obtain ⟨q, b, hev, hb, hq⟩ := Co.rsplit_ev (strOfNums (Co.joinB ps)) (by rw [str_len, Co.joinB_length]; omega)
  have e := Co.splitL_join (ps.map bytesOf) (Co.long_bytes (by omega)) (by rw [List.length_map]; omega) []
  rw [List.append_nil] at e
  replace e : Co.splitL (Co.joinL (ps.map bytesOf)) = some (ps.map bytesOf) := e
  have e2 : Co.splitL (bytesOf (strOfNums (Co.joinB ps))) = some (ps.map bytesOf) := by
    rw [bytes_str (Co.byt_joinB ps)]
    exact e
  rw [e2] at hb
  have hq2 := hq _ e2
  rw [Co.map_str] at hq2
  subst hq2
  subst hb
  exact hev
theorem KN.step {l : List E} (hn : KN l) {r : ByteArray} (h : Good r) : KN (stepE l r) := by
  unfold stepE
  rcases h with ⟨k, u, rfl, h⟩ | ⟨k, rfl, h⟩
  · rw [doneE_recP l (by omega), Option.getD_some]
    exact hn.put k u
  · rw [doneE_recG l (by omega), Option.getD_some]
    exact hn.drop k
theorem KN.steps {l : List E} (hn : KN l) {rs : List ByteArray} (h : ∀ r ∈ rs, Good r) : KN (stepAll l rs) := by
  induction rs generalizing l with
  | nil => exact hn
  | cons r rs ih => exact ih (hn.step (h r (List.mem_cons_self ..))) (fun x hx => h x (List.mem_cons_of_mem _ hx))
theorem KN.nil : KN [] := by unfold KN; exact List.nodup_nil
theorem rat_l0 (s : ByteArray) (l : List E) (hl : l.length ≤ 1048576) : ∀ (d i : Nat), i + d = l.length → (∀ j (h : j < l.length), j < i → l[j].f0 ≠ s) →
    Ev (fun k => seicheref05_At.l0 k s l (l.length : Int) (i : Int)) (atE l s)
  | 0, i, hd, hno => Ev.step (fun _ => seicheref05_At.l0.eq_2 ..) (ev_neg (by omega) (ev_ret (by rw [atE_no (fun j hj _ => hno j hj (by omega))])))
  | d + 1, i, hd, hno => by
    have hil : i < l.length := by omega
    refine Ev.step (fun _ => seicheref05_At.l0.eq_2 ..) (ev_pos (by omega) (ev_pos (by omega) (ev_pos (by omega) ?_)))
    rw [show rd_T54 l (i : Int) = l[i] from rdE_eq hil, w64 (x := (i : Int) + 1) (by omega) (by omega)]
    by_cases c : (l[i]).f0 = s
    · exact ev_pos (by rw [c]) (ev_ret (by rw [atE_of hil hno c]))
    · exact ev_neg (fun h => c (ba_inj h)) (rat_l0 s l hl d (i + 1) (by omega) (no_stepE hno c))
theorem rat_ev (l : List E) (s : ByteArray) (hl : l.length ≤ 1048576) : Ev (fun k => seicheref05_At.f k l s) (atE l s) := rat_l0 s l hl l.length 0 (by omega) (fun _ _ h => absurd h (Nat.not_lt_zero _))
theorem rrec_ev (k u : ByteArray) (h : k.size + u.size ≤ 274877906944) : Ev (fun n => seicheref05_Record.f n k u) (recP k u) := by
  refine ev_call (Co.rjoin_ev [putT, k, u] (by simp only [Co.sizes, List.length_cons, List.length_nil]; have : putT.size = 3 := rfl; omega)) (ev_ret rfl)
theorem rgone_ev (k : ByteArray) (h : k.size ≤ 274877906944) : Ev (fun n => seicheref05_Gone.f n k) (recG k) := by
  refine ev_call (Co.rjoin_ev [goneT, k] (by simp only [Co.sizes, List.length_cons, List.length_nil]; have : goneT.size = 4 := rfl; omega)) (ev_ret rfl)
theorem putB_cons {r : ByteArray} (h : r.size ≤ 65536) (rs : List ByteArray) : Fr.putB (r :: rs) = Fr.recB (bytesOf r) ++ Fr.putB rs := by
  unfold Fr.putB
  rw [List.filter_cons, if_pos (by unfold Fr.shortB; exact decide_eq_true h), List.flatMap_cons]
theorem rbytes_l0 (l : List ByteArray) (hg : ∀ r ∈ l, r.size ≤ 65536) (hl : l.length ≤ 1048576) (hT : (Fr.putB l).length ≤ 274877906944) : ∀ (d i : Nat) (n : Nat), i + d = l.length → n + (Fr.putB (l.drop i)).length = (Fr.putB l).length →
    Ev (fun k => seicheref05_Bytes.l0 k (n : Int) l (l.length : Int) (i : Int)) ((Fr.putB l).length : Int)
  | 0, i, n, hd, hn => Ev.step (fun _ => seicheref05_Bytes.l0.eq_2 ..) (ev_neg (by omega) (ev_ret (by
      rw [List.drop_of_length_le (by omega)] at hn
      have : (Fr.putB []).length = 0 := rfl
      omega)))
  | d + 1, i, n, hd, hn => by
    have hil : i < l.length := by omega
    have hr := hg _ (List.getElem_mem hil)
    rw [List.drop_eq_getElem_cons hil, putB_cons hr, List.length_append] at hn
    refine Ev.step (fun _ => seicheref05_Bytes.l0.eq_2 ..) (ev_pos (by omega) (ev_pos (by omega) (ev_pos (by omega) ?_)))
    have er : rdOf ByteArray.empty l (i : Int) = l[i] := by
      unfold rdOf
      rw [Int.toNat_natCast, List.getD_eq_getElem?_getD, List.getElem?_eq_getElem hil]
      rfl
    rw [er]
    refine ev_call (Fr.rbytes_ev (l[i]) (by omega)) ?_
    rw [str_len, w64 (x := (i : Int) + 1) (by omega) (by omega), w64 (by omega) (by omega)]
    have := rbytes_l0 l hg hl hT d (i + 1) (n + (Fr.recB (bytesOf l[i])).length) (by omega) (by omega)
    rw [Int.natCast_add] at this
    exact this
theorem rbytes_ev (l : List ByteArray) (hg : ∀ r ∈ l, r.size ≤ 65536) (hl : l.length ≤ 1048576) (hT : (Fr.putB l).length ≤ 274877906944) : Ev (fun k => seicheref05_Bytes.f k l) ((Fr.putB l).length : Int) :=
  rbytes_l0 l hg hl hT l.length 0 0 (by omega) (by rw [List.drop_zero]; omega)
theorem rkeys_l0 (l : List E) (hl : l.length ≤ 1048576) : ∀ (d i : Nat) (acc : List ByteArray), i + d = l.length → acc.length ≤ i →
    Ev (fun k => seicheref05_Keys.l0 k acc l (l.length : Int) (i : Int)) (acc ++ keysE (l.drop i))
  | 0, i, acc, hd, _ => Ev.step (fun _ => seicheref05_Keys.l0.eq_2 ..) (ev_neg (by omega) (ev_ret (by rw [List.drop_of_length_le (by omega)]; simp [keysE])))
  | d + 1, i, acc, hd, hb => by
    have hil : i < l.length := by omega
    refine Ev.step (fun _ => seicheref05_Keys.l0.eq_2 ..) (ev_pos (by omega) (ev_pos (by omega) (ev_pos (by omega) (ev_pos (by omega) ?_))))
    rw [show rd_T54 l (i : Int) = l[i] from rdE_eq hil, w64 (x := (i : Int) + 1) (by omega) (by omega)]
    have := rkeys_l0 l hl d (i + 1) (acc ++ [(l[i]).f0]) (by omega) (by rw [List.length_append, List.length_singleton]; omega)
    rw [List.append_assoc] at this
    rw [List.drop_eq_getElem_cons hil]
    exact this
theorem rkeys_ev (l : List E) (hl : l.length ≤ 1048576) : Ev (fun k => seicheref05_Keys.f k l) (keysE l) := by
  have := rkeys_l0 l hl l.length 0 [] (by omega) (Nat.le_refl _)
  rw [List.nil_append, List.drop_zero] at this
  exact this
theorem rsame_l0 (a b : List ByteArray) (hab : a.length = b.length) (ha : a.length ≤ 1048576) : ∀ (d i : Nat), i + d = a.length →
    Ev (fun k => seicheref01_Same.l0 k a b (a.length : Int) (i : Int)) (decide (a.drop i = b.drop i))
  | 0, i, hd => Ev.step (fun _ => seicheref01_Same.l0.eq_2 ..) (ev_neg (by omega) (ev_ret (by rw [List.drop_of_length_le (by omega), List.drop_of_length_le (by omega)]; rfl)))
  | d + 1, i, hd => by
    have hia : i < a.length := by omega
    have hib : i < b.length := by omega
    refine Ev.step (fun _ => seicheref01_Same.l0.eq_2 ..) (ev_pos (by omega) (ev_pos (by omega) (ev_pos (by omega) (ev_pos (by omega) ?_))))
    have ea : rdOf ByteArray.empty a (i : Int) = a[i] := by
      unfold rdOf
      rw [Int.toNat_natCast, List.getD_eq_getElem?_getD, List.getElem?_eq_getElem hia]
      rfl
    have eb : rdOf ByteArray.empty b (i : Int) = b[i] := by
      unfold rdOf
      rw [Int.toNat_natCast, List.getD_eq_getElem?_getD, List.getElem?_eq_getElem hib]
      rfl
    rw [ea, eb, w64 (x := (i : Int) + 1) (by omega) (by omega), List.drop_eq_getElem_cons hia, List.drop_eq_getElem_cons hib]
    by_cases c : a[i] = b[i]
    · refine ev_pos (by rw [c]) ?_
      have := rsame_l0 a b hab ha d (i + 1) (by omega)
      rw [show decide (a[i] :: a.drop (i + 1) = b[i] :: b.drop (i + 1)) = decide (a.drop (i + 1) = b.drop (i + 1)) from decide_eq_decide.mpr ⟨fun h => (List.cons.inj h).2, fun h => by rw [c, h]⟩]
      exact this
    · exact ev_neg (fun h => c (ba_inj h)) (ev_ret (decide_eq_false (fun h => c (List.cons.inj h).1)).symm)
theorem rsame_ev (a b : List ByteArray) (ha : a.length ≤ 1048576) : Ev (fun k => seicheref01_Same.f k a b) (decide (a = b)) := by
  by_cases c : a.length = b.length
  · refine ev_pos (by rw [c]) ?_
    have := rsame_l0 a b c ha a.length 0 (by omega)
    rw [List.drop_zero, List.drop_zero] at this
    exact this
  · refine ev_neg (by omega) (ev_ret ?_)
    symm
    exact decide_eq_false (fun h => c (by rw [h]))
abbrev ERow (S : Nat → Prop) (W : World) (A : Option Addr) (n : Nat) (xs : List E) : Prop := Kd.F kE W (fun k => ¬ S k) A n xs
abbrev mCells (m : Int) (v : Value) (z : Int) : Array Value := #[.int .i64 m, v, .int .i64 z]
section
variable {S S' T : Nat → Prop} {W W' w : World} {A : Option Addr} {n : Nat} {xs : List E} {gm : Nat} {m z : Int} {l : List E}
theorem ERow.step (h : ERow S W A n xs) (hs : Step S W S' W') : ERow S' W' A n xs := by
  have h1 := F_only (Kd.F_bound h) hs.only (fun k hk => hk.1)
  exact Kd.F_mono h1 (fun k hk hS => (hs.sub k hS).elim hk.1 (fun h => by have := hk.2; omega))
theorem ERow.below (h : ERow S W A n xs) (hb : Below W.heap.size W W') : ERow S W' A n xs := Kd.F_below h hb
theorem ERow.only (h : ERow S W A n xs) (ho : Only T W W') (hT : ∀ k, T k → S k) : ERow S W' A n xs := Kd.F_step h (fun k hk hlt => ho.block k hlt (fun ht => hk (hT k ht)))
theorem TRow.only {rs : List ByteArray} (h : TRow S W A n rs) (ho : Only T W W') (hT : ∀ k, T k → S k) : TRow S W' A n rs := Kd.F_step h (fun k hk hlt => ho.block k hlt (fun ht => hk (hT k ht)))
theorem ERow.C (h : ERow S W A n xs) : Kd.C kE W A xs.length xs := by
  have hl := Kd.F_len h
  have h1 := Kd.F_now h
  rw [← hl] at h1
  exact h1
theorem R_entF {e base : Nat} {ok ok' : Nat → Prop} {v : Value} (h : Kd.R kE e W base ok v xs) (hok : ∀ k, v.ownBlock = some k → ok k → ok' k) : Kd.R kE e W base ok' v xs := Kd.R_flat (fun h => kE_M.2 (kE_M.1 h)) h hok
theorem R_entC {e base cc : Nat} {ok : Nat → Prop} (h : Kd.R kE e W base ok (.slice A n cc) xs) : n ≤ cc ∧ n = xs.length := by
  obtain ⟨A2, c2, e2, hc, _⟩ := Kd.R_reads h
  injection e2 with _ e3 e4
  rw [e3, e4]
  exact ⟨hc, rfl⟩
theorem ERow.of {cc e base : Nat} {ok : Nat → Prop} (h : Kd.R kE e W base ok (.slice A n cc) xs) (hb : ∀ k, S k → k < base) : ERow S W A n xs := by
  have hb2 := Kd.R_base2 h
  have hn := (R_entC h).2
  have h2 : Kd.R kE e W base (fun k => ¬ S k) (.slice A n cc) xs := R_entF h (fun k hk _ hS => by
    rcases hb2 with h0 | ⟨k2, h3, h4⟩
    · rw [hk] at h0; cases h0
    · rw [hk] at h3
      cases h3
      have := hb k hS
      omega)
  intro W1 hW
  have h3 := (Kd.R_reads' (Kd.R_step h2 (fun k hk hlt => hW k hk hlt))).2.2
  rw [hn]
  exact h3
structure MSt (S : Nat → Prop) (W : World) (gm : Nat) (m : Int) (l : List E) (z : Int) : Prop where
  at_ : ∃ A c, l.length ≤ c ∧ W.heap[gm]? = some (.cells (mCells m (.slice A l.length c) z) 40 (0, 0)) ∧ ERow S W A l.length l
  sg : S gm
theorem MSt.below (h : MSt S W gm m l z) (hb : Below W.heap.size W W') : MSt S W' gm m l z := by
  obtain ⟨A, c, hc, h1, h2⟩ := h.at_
  exact ⟨⟨A, c, hc, (hb.block gm (blk_lt h1)).trans h1, h2.below hb⟩, h.sg⟩
theorem MSt.step (h : MSt S W gm m l z) (hs : Step S W S' W') (hg : W'.heap[gm]? = W.heap[gm]?) (hS : S' gm) : MSt S' W' gm m l z := by
  obtain ⟨A, c, hc, h1, h2⟩ := h.at_
  exact ⟨⟨A, c, hc, hg.trans h1, h2.step hs⟩, hS⟩
theorem MSt.lt (h : MSt S W gm m l z) : gm < W.heap.size := by
  obtain ⟨A, c, hc, h1, h2⟩ := h.at_
  exact blk_lt h1
abbrev At1 (gm : Nat) : Nat → Prop := fun k => k = gm
theorem only_set1 (h : Only (At1 gm) w W) (j : Nat) (u : Value) : Only (At1 gm) w (W.setCell ⟨gm, j, none⟩ u) := h.setCell (.inl (show At1 gm gm from rfl)) u
theorem MSt.listed {v0 : Value} {l2 : List E} {c2 : Nat} {A2 : Option Addr} (hb : W.heap[gm]? = some (.cells (mCells m v0 z) 40 (0, 0))) (hS : S gm) (hr : ERow S W A2 l2.length l2) (hc : l2.length ≤ c2) : MSt S (W.setCell ⟨gm, 1, none⟩ (.slice A2 l2.length c2)) gm m l2 z :=
  ⟨⟨A2, c2, hc, by rw [blk_set hb 1]; rfl, hr.only (T := At1 gm) (only_set1 (Only.refl _ W) _ _) (fun k hk => by subst hk; exact hS)⟩, hS⟩
theorem MSt.sized (h : MSt S W gm m l z) (z2 : Int) : MSt S (W.setCell ⟨gm, 2, none⟩ (.int .i64 z2)) gm m l z2 := by
  obtain ⟨A, c, hc, h1, h2⟩ := h.at_
  exact ⟨⟨A, c, hc, by rw [blk_set h1 2]; rfl, h2.only (T := At1 gm) (only_set1 (Only.refl _ W) _ _) (fun k hk => by subst hk; exact h.sg)⟩, h.sg⟩
end
theorem RSplit_ok (W : World) {ps : List ByteArray} (h : 8 + 8 * ps.length + Co.sizes ps ≤ 1048576) : Calls Try.prog 53 #[.string (strOfNums (Co.joinB ps))] W fun e W' => ∃ A c, e = .returned (.tuple #[.slice A ps.length c, .bool true]) ∧ (∀ j (hj : j < ps.length), ∃ q, A = some ⟨q, 0, none⟩ ∧ W.heap.size ≤ q ∧ W'.cell? ⟨q, j, none⟩ = some (.string ps[j])) ∧ Below W.heap.size W W' := by
  obtain ⟨K, hK⟩ := rsplit_join h
  refine (seicheref01_Split.calls K _ ps true W (hK K (Nat.le_refl _))).mono ?_
  rintro e W' ⟨v, rfl, hr, hb⟩
  obtain ⟨A, c, rfl⟩ := Kd.R_slice hr
  refine ⟨A, c, rfl, fun j hj => ?_, hb⟩
  obtain ⟨inner, ho⟩ := Kd.R_own hr
  rcases ho.2 with ⟨e1, hn⟩ | ⟨q, cap, cur, e1, hbg, hg, hnc, _⟩
  · omega
  · injection e1 with e1
    subst e1
    obtain ⟨a, ea, hcell⟩ := Kd.at_string (Kd.R_reads' hr).2.2 (j : Int) (by omega) (by omega)
    injection ea with ea
    subst ea
    rw [Int.toNat_natCast, Addr.add_lit, Nat.zero_add] at hcell
    refine ⟨q, rfl, hbg, ?_⟩
    rw [hcell]
    unfold rdOf
    rw [Int.toNat_natCast, List.getD_eq_getElem?_getD, List.getElem?_eq_getElem hj]
    rfl
theorem RDrop_Q (W : World) {A : Option Addr} {c n : Nat} {l : List E} (s : ByteArray) (hn : n = l.length) (hC : Kd.C kE W A l.length l) (hc : l.length ≤ c) (hl : l.length ≤ 1048576) : Calls Try.prog 55 #[.slice A n c, .string s] W fun e W' => ∃ v, e = .returned v ∧ Kd.R kE 54 W' W.heap.size (fun _ => True) v (outE l s) ∧ Below W.heap.size W W' := by
  subst hn
  obtain ⟨K, hK⟩ := rdrop_ev l s hl
  exact seicheref05_Drop.calls K A c l s (outE l s) W hC hc (hK K (Nat.le_refl _))
theorem RPut_Q (W : World) {A : Option Addr} {c n : Nat} {l : List E} (k u : ByteArray) (hn : n = l.length) (hC : Kd.C kE W A l.length l) (hc : l.length ≤ c) (hl : l.length ≤ 1048576) : Calls Try.prog 54 #[.slice A n c, .agg #[.string k, .string u]] W fun e W' => ∃ v, e = .returned v ∧ Kd.R kE 54 W' W.heap.size (fun _ => True) v (outE l k ++ [⟨k, u⟩]) ∧ Below W.heap.size W W' := by
  subst hn
  obtain ⟨K, hK⟩ := rput_ev l k u hl
  exact seicheref05_Put.calls K A c l k u _ W hC hc (hK K (Nat.le_refl _))
theorem R_fresh {W : World} {b0 base e : Nat} {v : Value} {xs : List E} (h : Kd.R kE e W base (fun _ => True) v xs) (hb : b0 ≤ base) : Kd.R kE e W b0 (fun _ => True) v xs := Kd.R_lower h hb
section
variable {A : Option Addr} {c : Nat} {l : List E} {k u : ByteArray}
set_option maxHeartbeats 4000000 in
set_option maxRecDepth 100000 in
theorem RDone_put (W : World) (hC : Kd.C kE W A l.length l) (hc : l.length ≤ c) (hs : (recP k u).size ≤ 1048576) (hl : l.length ≤ 1048576) : Calls Try.prog 28 #[.slice A l.length c, .string (recP k u)] W fun e W' => ∃ v, e = .returned (.tuple #[v, .bool true]) ∧ Kd.R kE 54 W' W.heap.size (fun _ => True) v (outE l k ++ [⟨k, u⟩]) ∧ Below W.heap.size W W' := by
  have HSp := Aside0.mk (fun W => RSplit_ok W (ps := [putT, k, u]) (by rw [recP_size] at hs; simp only [Co.sizes, List.length_cons, List.length_nil]; have : putT.size = 3 := rfl; omega))
  have H := Aside0.mk hC
  have HL := Aside0.mk hl
  have HCc := Aside0.mk hc
  obtain ⟨ln, hln⟩ : ∃ ln, ln = l.length := ⟨_, rfl⟩
  have HLn := Aside0.mk hln
  rw [← hln]
  clear hC hl hs hc hln
  go_enter Try.func28, Try.ntmps28
  go_wp2_with (first
    | (go_at_call 53; refine (HSp.out _).mono ?_; rintro e w1 ⟨A1, c1, rfl, hcl, hb⟩; obtain ⟨q, rfl, hq, y0⟩ := hcl 0 (by simp); obtain ⟨q1, e1, _, y1⟩ := hcl 1 (by simp); cases e1; obtain ⟨q2, e2, _, y2⟩ := hcl 2 (by simp); cases e2; have H1 := Aside0.mk (Kd.C_drew (Kd.C_below H.out hb)); have HB := Aside0.mk (below_drew1 hb); change w1.cell? ⟨q, 0, none⟩ = some (.string ⟨#[112, 117, 116]⟩) at y0; change w1.cell? ⟨q, 1, none⟩ = some (.string k) at y1; change w1.cell? ⟨q, 2, none⟩ = some (.string u) at y2; have x1 : w1.drew.cell? ⟨q, 1, none⟩ = some (.string k) := y1; have x2 : w1.drew.cell? ⟨q, 2, none⟩ = some (.string u) := y2; clear hcl hb HSp hq H))
  refine start_ (n := 11) (S := fun w' => w'.cell? ⟨q, 1, none⟩ = some (.string k) ∧ w'.cell? ⟨q, 2, none⟩ = some (.string u)) (ds := [8, 9, 10]) #[false, false, false, false, false, false, false, false, false, false, false] (by kernel_rfl) rfl rfl ⟨x1, x2⟩ (fun hHeld => ?_)
  refine pure_ (i := 0) (N := some 25) (v := ?_) (a' := ?_) #[true, false, false, false, false, false, false, false, false, false, false] rfl rfl (by kernel_rfl) (fun _ _ _ h => h) (Or.inl ⟨by rfl, ?_⟩) ?_ ?_
  rotate_left
  · intro w'
    go_simp
    with_reducible rfl
  rotate_left
  · simp only [Act.put, List.setIfInBounds_toArray, List.set_cons_zero, List.set_cons_succ, i64_w, i32_w]
    rfl
  refine pure_ (i := 1) (N := some 26) (v := ?_) (a' := ?_) #[true, true, false, false, false, false, false, false, false, false, false] rfl rfl (by kernel_rfl) (fun _ _ _ h => h) (Or.inl ⟨by rfl, ?_⟩) ?_ ?_
  rotate_left
  · intro w'
    go_simp
    with_reducible rfl
  rotate_left
  · simp only [Act.put, List.setIfInBounds_toArray, List.set_cons_zero, List.set_cons_succ, i64_w, i32_w]
    rfl
  refine pure_ (i := 2) (N := some 27) (v := ?_) (a' := ?_) #[true, true, true, false, false, false, false, false, false, false, false] rfl rfl (by kernel_rfl) (fun _ _ _ h => h) (Or.inl ⟨by rfl, ?_⟩) ?_ ?_
  rotate_left
  · intro w'
    go_simp
    with_reducible rfl
  rotate_left
  · simp only [Act.put, List.setIfInBounds_toArray, List.set_cons_zero, List.set_cons_succ, i64_w, i32_w]
    rfl
  refine take_ (i := 3) (N := some 28) (v := ?_) (a' := ?_) #[true, true, true, true, false, false, false, false, false, false, false] rfl rfl (by kernel_rfl) (fun _ _ _ h => h) (Or.inl ⟨by rfl, ?_⟩) hHeld ?_ ?_
  rotate_left
  · intro w' s0
    obtain ⟨s0, s1⟩ := s0
    go_simp
    with_reducible rfl
  rotate_left
  · simp only [Act.put, List.setIfInBounds_toArray, List.set_cons_zero, List.set_cons_succ, i64_w, i32_w]
    rfl
  refine pure_ (i := 4) (N := some 29) (v := ?_) (a' := ?_) #[true, true, true, true, true, false, false, false, false, false, false] rfl rfl (by kernel_rfl) (fun _ _ _ h => h) (Or.inl ⟨by rfl, ?_⟩) ?_ ?_
  rotate_left
  · intro w'
    go_simp
    with_reducible rfl
  rotate_left
  · simp only [Act.put, List.setIfInBounds_toArray, List.set_cons_zero, List.set_cons_succ, i64_w, i32_w]
    rfl
  refine pure_ (i := 5) (N := some 30) (v := ?_) (a' := ?_) #[true, true, true, true, true, true, false, false, false, false, false] rfl rfl (by kernel_rfl) (fun _ _ _ h => h) (Or.inl ⟨by rfl, ?_⟩) ?_ ?_
  rotate_left
  · intro w'
    go_simp
    with_reducible rfl
  rotate_left
  · simp only [Act.put, List.setIfInBounds_toArray, List.set_cons_zero, List.set_cons_succ, i64_w, i32_w]
    rfl
  refine take_ (i := 6) (N := some 31) (v := ?_) (a' := ?_) #[true, true, true, true, true, true, true, false, false, false, false] rfl rfl (by kernel_rfl) (fun _ _ _ h => h) (Or.inl ⟨by rfl, ?_⟩) hHeld ?_ ?_
  rotate_left
  · intro w' s0
    obtain ⟨s0, s1⟩ := s0
    go_simp
    with_reducible rfl
  rotate_left
  · simp only [Act.put, List.setIfInBounds_toArray, List.set_cons_zero, List.set_cons_succ, i64_w, i32_w]
    rfl
  refine pure_ (i := 7) (N := some 32) (v := ?_) (a' := ?_) #[true, true, true, true, true, true, true, true, false, false, false] rfl rfl (by kernel_rfl) (fun _ _ _ h => h) (Or.inl ⟨by rfl, ?_⟩) ?_ ?_
  rotate_left
  · intro w'
    go_simp
    with_reducible rfl
  rotate_left
  · simp only [Act.put, List.setIfInBounds_toArray, List.set_cons_zero, List.set_cons_succ, i64_w, i32_w]
    rfl
  refine last_ (i := 8) (N := some 33) #[true, true, true, true, true, true, true, true, true, false, false] rfl rfl (by kernel_rfl) (by decide) (fun K hK => ?_)
  refine goes_ Try.func54 (by kernel_rfl) rfl #[.slice A ln c, .agg #[.string k, .string u]] (by rfl) rfl rfl (by (try simp only [List.map_toArray, List.map_cons, List.map_nil]); first | done | rfl) ?_
  refine (RPut_Q _ k u HLn.out H1.out HCc.out HL.out).mono ?_
  rintro e w2 ⟨v2, rfl, hr2, hb2⟩
  refine ⟨_, rfl, ?_⟩
  have HR2 := Aside0.mk hr2
  have HB2 := Aside0.mk hb2
  clear hr2 hb2 hHeld x1 x2 H1
  refine hK.out _ _ ?_
  clear hK K
  refine norm_ (a' := ?_) ?_ ?_
  rotate_left
  · show Act.put _ (some 33) _ = _
    simp only [Act.put, List.setIfInBounds_toArray, List.set_cons_zero, List.set_cons_succ, i64_w, i32_w]
    rfl
  refine pure_ (i := 9) (N := some 4) (v := ?_) (a' := ?_) #[true, true, true, true, true, true, true, true, true, true, false] rfl rfl (by kernel_rfl) (fun _ _ _ h => h) (Or.inl ⟨by rfl, ?_⟩) ?_ ?_
  rotate_left
  · intro w'
    go_simp
    with_reducible rfl
  rotate_left
  · simp only [Act.put, List.setIfInBounds_toArray, List.set_cons_zero, List.set_cons_succ, i64_w, i32_w]
    rfl
  refine pure_ (i := 10) (N := some 5) (v := ?_) (a' := ?_) #[true, true, true, true, true, true, true, true, true, true, true] rfl rfl (by kernel_rfl) (fun _ _ _ h => h) (Or.inl ⟨by rfl, ?_⟩) ?_ ?_
  rotate_left
  · intro w'
    go_simp
    with_reducible rfl
  rotate_left
  · simp only [Act.put, List.setIfInBounds_toArray, List.set_cons_zero, List.set_cons_succ, i64_w, i32_w]
    rfl
  refine done_ (by kernel_rfl) ?_
  go_wp2
  go_ret2
  exact ⟨v2, rfl, R_fresh HR2.out HB.out.size, HB.out.trans (HB2.out.mono HB.out.size)⟩
set_option maxHeartbeats 4000000 in
set_option maxRecDepth 100000 in
theorem RDone_gone (W : World) (hC : Kd.C kE W A l.length l) (hc : l.length ≤ c) (hs : (recG k).size ≤ 1048576) (hl : l.length ≤ 1048576) : Calls Try.prog 28 #[.slice A l.length c, .string (recG k)] W fun e W' => ∃ v, e = .returned (.tuple #[v, .bool true]) ∧ Kd.R kE 54 W' W.heap.size (fun _ => True) v (outE l k) ∧ Below W.heap.size W W' := by
  have HSp := Aside0.mk (fun W => RSplit_ok W (ps := [goneT, k]) (by rw [recG_size] at hs; simp only [Co.sizes, List.length_cons, List.length_nil]; have : goneT.size = 4 := rfl; omega))
  have H := Aside0.mk hC
  have HL := Aside0.mk hl
  have HCc := Aside0.mk hc
  obtain ⟨ln, hln⟩ : ∃ ln, ln = l.length := ⟨_, rfl⟩
  have HLn := Aside0.mk hln
  rw [← hln]
  clear hC hl hs hc hln
  go_enter Try.func28, Try.ntmps28
  go_wp2_with (first
    | (go_at_call 53; refine (HSp.out _).mono ?_; rintro e w1 ⟨A1, c1, rfl, hcl, hb⟩; obtain ⟨q, rfl, hq, y0⟩ := hcl 0 (by simp); obtain ⟨q1, e1, _, y1⟩ := hcl 1 (by simp); cases e1; have H1 := Aside0.mk (Kd.C_below H.out hb); have HB := Aside0.mk hb; change w1.cell? ⟨q, 0, none⟩ = some (.string ⟨#[103, 111, 110, 101]⟩) at y0; change w1.cell? ⟨q, 1, none⟩ = some (.string k) at y1; clear hcl hb HSp hq H)
    | (go_at_call 55; refine (RDrop_Q _ k HLn.out H1.out HCc.out HL.out).mono ?_; rintro e w2 ⟨v2, rfl, hr2, hb2⟩; have HR2 := Aside0.mk hr2; have HB2 := Aside0.mk hb2; clear hr2 hb2 H1))
  go_ret2
  exact ⟨v2, rfl, R_fresh HR2.out HB.out.size, HB.out.trans (HB2.out.mono HB.out.size)⟩
theorem RDone_Q (W : World) {n : Nat} {r : ByteArray} (hn : n = l.length) (hN : KN l) (hC : Kd.C kE W A l.length l) (hc : l.length ≤ c) (hr : Good r) (hl : l.length ≤ 1048576) : Calls Try.prog 28 #[.slice A n c, .string r] W fun e W' => ∃ A' c' n', e = .returned (.tuple #[.slice A' n' c', .bool true]) ∧ n' = (stepE l r).length ∧ Kd.R kE 54 W' W.heap.size (fun _ => True) (.slice A' n' c') (stepE l r) ∧ Below W.heap.size W W' := by
  subst hn
  unfold stepE
  rcases hr with ⟨k, u, rfl, h⟩ | ⟨k, rfl, h⟩
  · rw [doneE_recP l (by omega), Option.getD_some, dropE_eq hN]
    refine (RDone_put W hC hc (by omega) hl).mono ?_
    rintro e W' ⟨v, rfl, hR, hb⟩
    obtain ⟨A', c', rfl⟩ := Kd.R_slice hR
    exact ⟨A', c', _, rfl, rfl, hR, hb⟩
  · rw [doneE_recG l (by omega), Option.getD_some, dropE_eq hN]
    refine (RDone_gone W hC hc (by omega) hl).mono ?_
    rintro e W' ⟨v, rfl, hR, hb⟩
    obtain ⟨A', c', rfl⟩ := Kd.R_slice hR
    exact ⟨A', c', _, rfl, rfl, hR, hb⟩
end
def writeR (l : List E) (z : Int) (rs : List ByteArray) (free : Int) : Int × List E × Int := if ((Fr.putB rs).length : Int) > free then (6, l, z) else (0, stepAll l rs, z + (Fr.putB rs).length)
section
variable {S T : Nat → Prop} {W : World} {A : Option Addr} {q c : Nat} {gm : Nat} {m z free : Int} {l : List E} {rs : List ByteArray}
theorem RBytes_Q (h : TRow S W A q rs) (hc : q ≤ c) (hg : ∀ r ∈ rs, Good r) (hl : rs.length ≤ 1048576) (hb : (Fr.putB rs).length ≤ 274877906944) : Calls Try.prog 67 #[.slice A q c] W fun e W' => e = .returned (.int .i64 ((Fr.putB rs).length : Int)) ∧ Below W.heap.size W W' := by
  have hq := Kd.F_len h
  have hC := h.C
  subst hq
  obtain ⟨K, hK⟩ := rbytes_ev rs (fun r hr => (hg r hr).size) hl hb
  exact seicheref05_Bytes.calls K A c rs _ W hC hc (hK K (Nat.le_refl _))
set_option maxHeartbeats 4000000 in
set_option maxRecDepth 100000 in
theorem RWrite_full (h : MSt S W gm m l z) (hi : ∀ k, S k → k < W.heap.size) (hr : TRow S W A q rs) (hc : q ≤ c) (hg : ∀ r ∈ rs, Good r) (hN : KN l) (hl : l.length + rs.length ≤ 1048576) (hb : (Fr.putB rs).length ≤ 274877906944) (hz : 0 ≤ z ∧ z ≤ 1099511627776) (hf : free < ((Fr.putB rs).length : Int)) : Calls Try.prog 66 #[.pointer (some ⟨gm, 0, none⟩), .slice A q c, .int .i64 free] W fun e W' => e = .returned (.int .i64 6) ∧ Below W.heap.size W W' := by
  have HBy := Aside0.mk (RBytes_Q hr hc hg (by omega) hb)
  have fb : decide (free < ((Fr.putB rs).length : Int)) = true := decide_eq_true hf
  clear h hi hr hc hg hN hl hb hz hf
  go_enter Try.func66, Try.ntmps66
  go_wp2_with (first
    | (go_at_call 67; refine HBy.out.mono ?_; rintro e w1 ⟨rfl, hb⟩; have HB := Aside0.mk hb; clear hb HBy))
  go_ret
  exact ⟨rfl, HB.out⟩
theorem frozen_below {B : Nat} {w w' : World} {a : Addr} (hb : Below B w w') (h : a.block < B) : w'.frozen? a = w.frozen? a := by
  unfold World.frozen?
  rw [hb.block a.block h]
theorem cell_lt {w : World} {a : Addr} {v : Value} (h : w.cell? a = some v) : a.block < w.heap.size := World.block_lt_of_cell? w a h
set_option maxHeartbeats 4000000 in
set_option maxRecDepth 100000 in
theorem RWrite_ok (h : MSt S W gm m l z) (hi : ∀ k, S k → k < W.heap.size) (hr : TRow S W A q rs) (hc : q ≤ c) (hg : ∀ r ∈ rs, Good r) (hN : KN l) (hl : l.length + rs.length ≤ 1048576) (hb : (Fr.putB rs).length ≤ 274877906944) (hz : 0 ≤ z ∧ z ≤ 1099511627776) (hf : ¬ free < ((Fr.putB rs).length : Int)) : Calls Try.prog 66 #[.pointer (some ⟨gm, 0, none⟩), .slice A q c, .int .i64 free] W fun e W' => e = .returned (.int .i64 0) ∧ MSt S W' gm m (stepAll l rs) (z + ((Fr.putB rs).length : Int)) ∧ Only (At1 gm) W W' := by
  have HBy := Aside0.mk (RBytes_Q hr hc hg (by omega) hb)
  obtain ⟨bn, hbn⟩ : ∃ bn, bn = (Fr.putB rs).length := ⟨_, rfl⟩
  have HBn := Aside0.mk hbn
  have hw : wrap64 (z + (bn : Int)) = z + (bn : Int) := w64 (by omega) (by omega)
  rw [← hbn] at hf HBy
  rw [← hbn]
  have fb : decide (free < (bn : Int)) = false := decide_eq_false hf
  have H := Aside0.mk h
  have HI := Aside0.mk hi
  have HT := Aside0.mk hr
  have HC := Aside0.mk hc
  have HG := Aside0.mk hg
  have HN := Aside0.mk hN
  have HL := Aside0.mk hl
  have HPl := Aside0.mk hb
  have HQ := Aside0.mk (Kd.F_len hr)
  clear h hi hr hc hg hN hl hb hz hf hbn
  go_enter Try.func66, Try.ntmps66
  go_wp2_with (first
    | (go_at_call 67; refine HBy.out.mono ?_; rintro e w1 ⟨rfl, hb⟩; have H1 := Aside0.mk (H.out.below hb); have HT1 := Aside0.mk (TRow.below HT.out hb); have HO1 := Aside0.mk ((Only.refl (At1 gm) W).below hb); clear hb HBy H))
  go_loopw [15] (fun i wr => ∃ (j : Nat), j ≤ q ∧ i = .int .i64 (j : Int) ∧ Aside0 (MSt S wr gm m (stepAll l (rs.take j)) z) ∧ Aside0 (Only (At1 gm) W wr) ∧ Aside0 (TRow S wr A q rs)) (fun i _ => q - (intOf i).toNat)
  case atStart => exact ⟨0, Nat.zero_le _, rfl, H1, HO1, HT1⟩
  case round =>
    obtain ⟨j, hj, rfl, HM, HO, HTr⟩ := hrel
    clear H1 HO1 HT1
    by_cases hlt : j < q
    · have kb : decide ((j : Int) < (q : Int)) = true := decide_eq_true (Int.ofNat_lt.2 hlt)
      have kbn : decide (j < q) = true := decide_eq_true hlt
      have hjr : j < rs.length := by rw [HQ.out]; exact hlt
      obtain ⟨ad, rfl, y0⟩ := Kd.at_string HTr.out.C (j : Int) (by omega) (by omega)
      rw [Int.toNat_natCast] at y0
      obtain ⟨r, hr⟩ : ∃ r, r = rdOf ByteArray.empty rs (j : Int) := ⟨_, rfl⟩
      rw [← hr] at y0
      have er : r = rs[j]'hjr := by
        rw [hr]
        unfold rdOf
        rw [Int.toNat_natCast, List.getD_eq_getElem?_getD, List.getElem?_eq_getElem hjr]
        rfl
      have HGr := Aside0.mk (show Good r from by rw [er]; exact HG.out _ (List.getElem_mem hjr))
      have HSp := Aside0.mk (show stepAll l (rs.take (j + 1)) = stepE (stepAll l (rs.take j)) r from by rw [er]; exact stepAll_take hjr)
      have HNj := Aside0.mk (HN.out.steps (rs := rs.take j) (fun x hx => HG.out x (List.mem_of_mem_take hx)))
      have HLl := Aside0.mk (show (stepAll l (rs.take j)).length ≤ 1048576 from by
        have h1 := stepAll_len (l := l) (rs := rs.take j) (fun x hx => HG.out x (List.mem_of_mem_take hx))
        rw [List.length_take] at h1
        have := HL.out
        omega)
      clear hr er hjr
      obtain ⟨A3, c3, hc3, hb3, he3⟩ := HM.out.at_
      have HE3 := Aside0.mk he3
      have HC3 := Aside0.mk hc3
      have HB3 := Aside0.mk hb3
      obtain ⟨n3, hn3⟩ : ∃ n3, n3 = (stepAll l (rs.take j)).length := ⟨_, rfl⟩
      have HN3 := Aside0.mk hn3
      rw [← hn3] at hb3
      have z1 : wr.cell? ⟨gm, 1, none⟩ = some (.slice A3 n3 c3) := (blk_cell hb3 1).trans rfl
      clear hc3 hb3 he3 hn3
      go_wp2_with (first
        | (go_at_call 28; refine (RDone_Q _ HN3.out HNj.out HE3.out.C HC3.out HGr.out HLl.out).mono ?_; rintro e w3 ⟨A4, c4, n4, rfl, hn4, hR4, hb4⟩; have HN4 := Aside0.mk hn4; have HR4 := Aside0.mk hR4; have HB4 := Aside0.mk hb4; have HB5 := Aside0.mk ((hb4.block gm (blk_lt HB3.out)).trans HB3.out); have z1' := (blk_cell HB5.out 1); have f1 := blk_frozen HB5.out 1; clear hn4 hR4 hb4 z1))
      go_roundw
      case rel =>
        refine ⟨j + 1, hlt, vE hlt (by have := HL.out; have := HQ.out; omega), ?_, ⟨only_set1 (HO.out.below HB4.out) _ _⟩, ⟨TRow.only (TRow.below HTr.out HB4.out) (only_set1 (Only.refl (At1 gm) _) _ _) (fun k hk => by subst hk; exact HM.out.sg)⟩⟩
        rw [HSp.out]
        have hn := HN4.out
        have hR := HR4.out
        subst hn
        exact ⟨MSt.listed HB5.out HM.out.sg (ERow.of hR (fun k hk => Nat.lt_of_lt_of_le (HI.out k hk) HO.out.size)) (R_entC hR).1⟩
      case measure => exact mE hlt (by have := HL.out; have := HQ.out; omega)
    · have ej : j = rs.length := by have := HQ.out; omega
      have kb : decide ((j : Int) < (q : Int)) = false := decide_eq_false (fun h => hlt (Int.ofNat_lt.1 h))
      have kbn : decide (j < q) = false := decide_eq_false hlt
      rw [ej, List.take_length] at HM
      replace HM := Aside0.mk (HM.out.below (below_drew1 (Below.refl _ _)))
      have HOn := Aside0.mk (HO.out.below (below_drew1 (Below.refl _ _)))
      replace HTr := Aside0.mk (TRow.below HTr.out (below_drew1 (Below.refl _ _)))
      obtain ⟨A3, c3, hc3, hb3, he3⟩ := HM.out.at_
      have z2 : wr.drew.cell? ⟨gm, 2, none⟩ = some (.int .i64 z) := (blk_cell hb3 2).trans rfl
      have f2 := blk_frozen hb3 2
      clear hc3 hb3 he3 HO
      go_wp2
      refine start_ (n := 11) (S := fun w' => w'.cell? ⟨gm, 2, none⟩ = some (.int .i64 z) ∧ w'.frozen? ⟨gm, 2, none⟩ = false) (ds := [10]) #[false, false, false, false, false, false, false, false, false, false, false] (by kernel_rfl) rfl rfl ⟨z2, f2⟩ (fun hHeld => ?_)
      refine pure_ (i := 0) (N := some 32) (v := ?_) (a' := ?_) #[true, false, false, false, false, false, false, false, false, false, false] rfl rfl (by kernel_rfl) (fun _ _ _ h => h) (Or.inl ⟨by rfl, ?_⟩) ?_ ?_
      rotate_left
      · intro w'
        go_simp
        with_reducible rfl
      rotate_left
      · simp only [Act.put, List.setIfInBounds_toArray, List.set_cons_zero, List.set_cons_succ, i64_w, i32_w]
        rfl
      refine pure_ (i := 1) (N := some 33) (v := ?_) (a' := ?_) #[true, true, false, false, false, false, false, false, false, false, false] rfl rfl (by kernel_rfl) (fun _ _ _ h => h) (Or.inl ⟨by rfl, ?_⟩) ?_ ?_
      rotate_left
      · intro w'
        go_simp
        with_reducible rfl
      rotate_left
      · simp only [Act.put, List.setIfInBounds_toArray, List.set_cons_zero, List.set_cons_succ, i64_w, i32_w]
        rfl
      refine pure_ (i := 2) (N := some 34) (v := ?_) (a' := ?_) #[true, true, true, false, false, false, false, false, false, false, false] rfl rfl (by kernel_rfl) (fun _ _ _ h => h) (Or.inl ⟨by rfl, ?_⟩) ?_ ?_
      rotate_left
      · intro w'
        go_simp
        with_reducible rfl
      rotate_left
      · simp only [Act.put, List.setIfInBounds_toArray, List.set_cons_zero, List.set_cons_succ, i64_w, i32_w]
        rfl
      refine pure_ (i := 3) (N := some 35) (v := ?_) (a' := ?_) #[true, true, true, true, false, false, false, false, false, false, false] rfl rfl (by kernel_rfl) (fun _ _ _ h => h) (Or.inl ⟨by rfl, ?_⟩) ?_ ?_
      rotate_left
      · intro w'
        go_simp
        with_reducible rfl
      rotate_left
      · simp only [Act.put, List.setIfInBounds_toArray, List.set_cons_zero, List.set_cons_succ, i64_w, i32_w]
        rfl
      refine take_ (i := 4) (N := some 36) (v := ?_) (a' := ?_) #[true, true, true, true, true, false, false, false, false, false, false] rfl rfl (by kernel_rfl) (fun _ _ _ h => h) (Or.inl ⟨by rfl, ?_⟩) hHeld ?_ ?_
      rotate_left
      · intro w' s0
        obtain ⟨s0, s1⟩ := s0
        go_simp
        with_reducible rfl
      rotate_left
      · simp only [Act.put, List.setIfInBounds_toArray, List.set_cons_zero, List.set_cons_succ, i64_w, i32_w]
        rfl
      refine pure_ (i := 5) (N := some 37) (v := ?_) (a' := ?_) #[true, true, true, true, true, true, false, false, false, false, false] rfl rfl (by kernel_rfl) (fun _ _ _ h => h) (Or.inl ⟨by rfl, ?_⟩) ?_ ?_
      rotate_left
      · intro w'
        go_simp
        with_reducible rfl
      rotate_left
      · simp only [Act.put, List.setIfInBounds_toArray, List.set_cons_zero, List.set_cons_succ, i64_w, i32_w]
        rfl
      refine one_ (i := 6) (N := some 38) #[true, true, true, true, true, true, true, false, false, false, false] rfl rfl (by kernel_rfl) (by decide) (fun K hK => ?_)
      refine goes_ Try.func67 (by kernel_rfl) rfl #[.slice A q c] (by rfl) rfl rfl (by (try simp only [List.map_toArray, List.map_cons, List.map_nil]); first | done | rfl) ?_
      refine (RBytes_Q HTr.out HC.out HG.out (by have := HL.out; omega) HPl.out).mono ?_
      rintro e w5 ⟨rfl, hb5⟩
      refine ⟨_, rfl, ?_⟩
      rw [← HBn.out]
      have HM5 := Aside0.mk (HM.out.below hb5)
      have HO5 := Aside0.mk (HOn.out.below hb5)
      refine hK.out _ _ ⟨pw_cell_below hb5 z2, (frozen_below hb5 (cell_lt z2)).trans f2⟩ (fun hHeld => ?_)
      clear hK K hb5
      refine norm_ (a' := ?_) ?_ ?_
      rotate_left
      · show Act.put _ (some 38) _ = _
        simp only [Act.put, List.setIfInBounds_toArray, List.set_cons_zero, List.set_cons_succ, i64_w, i32_w]
        rfl
      refine pure_ (i := 7) (N := some 39) (v := ?_) (a' := ?_) #[true, true, true, true, true, true, true, true, false, false, false] rfl rfl (by kernel_rfl) (fun _ _ _ h => h) (Or.inl ⟨by rfl, ?_⟩) ?_ ?_
      rotate_left
      · intro w'
        go_simp
        with_reducible rfl
      rotate_left
      · simp only [Act.put, List.setIfInBounds_toArray, List.set_cons_zero, List.set_cons_succ, i64_w, i32_w]
        rfl
      refine pure_ (i := 8) (N := some 40) (v := ?_) (a' := ?_) #[true, true, true, true, true, true, true, true, true, false, false] rfl rfl (by kernel_rfl) (fun _ _ _ h => h) (Or.inl ⟨by rfl, ?_⟩) ?_ ?_
      rotate_left
      · intro w'
        go_simp
        with_reducible rfl
      rotate_left
      · simp only [Act.put, List.setIfInBounds_toArray, List.set_cons_zero, List.set_cons_succ, i64_w, i32_w]
        rfl
      refine pure_ (i := 9) (N := some 41) (v := ?_) (a' := ?_) #[true, true, true, true, true, true, true, true, true, true, false] rfl rfl (by kernel_rfl) (fun _ _ _ h => h) (Or.inl ⟨by rfl, ?_⟩) ?_ ?_
      rotate_left
      · intro w'
        go_simp
        with_reducible rfl
      rotate_left
      · simp only [Act.put, List.setIfInBounds_toArray, List.set_cons_zero, List.set_cons_succ, i64_w, i32_w]
        rfl
      obtain ⟨A5, c5, hc5, hb5, he5⟩ := HM5.out.at_
      have z2' : w5.cell? ⟨gm, 2, none⟩ = some (.int .i64 z) := (blk_cell hb5 2).trans rfl
      have f2' := blk_frozen hb5 2
      refine last_ (i := 10) (N := none) #[true, true, true, true, true, true, true, true, true, true, true] rfl rfl (by kernel_rfl) (by decide) (fun K hK => ?_)
      rw [if_pos (by rfl)]
      clear hHeld
      go_simp
      refine hK.out _ _ ?_
      clear hK K
      refine done_ (by kernel_rfl) ?_
      go_wp2
      go_ret
      exact ⟨rfl, HM5.out.sized _, only_set1 HO5.out _ _⟩
theorem RWrite_Q (h : MSt S W gm m l z) (hi : ∀ k, S k → k < W.heap.size) (hr : TRow S W A q rs) (hc : q ≤ c) (hg : ∀ r ∈ rs, Good r) (hN : KN l) (hl : l.length + rs.length ≤ 1048576) (hb : (Fr.putB rs).length ≤ 274877906944) (hz : 0 ≤ z ∧ z ≤ 1099511627776) : Calls Try.prog 66 #[.pointer (some ⟨gm, 0, none⟩), .slice A q c, .int .i64 free] W fun e W' => e = .returned (.int .i64 (writeR l z rs free).1) ∧ MSt S W' gm m (writeR l z rs free).2.1 (writeR l z rs free).2.2 ∧ Only (At1 gm) W W' := by
  unfold writeR
  by_cases hf : free < ((Fr.putB rs).length : Int)
  · rw [if_pos hf]
    refine (RWrite_full h hi hr hc hg hN hl hb hz hf).mono ?_
    rintro e W' ⟨rfl, hb⟩
    exact ⟨rfl, h.below hb, (Only.refl _ _).below hb⟩
  · rw [if_neg hf]
    refine (RWrite_ok h hi hr hc hg hN hl hb hz hf).mono ?_
    rintro e W' ⟨rfl, h1, h2⟩
    exact ⟨rfl, h1, h2⟩
end
def stepsR (l : List E) (m : Int) (k u : ByteArray) : List ByteArray := if getE l k = some u then [] else putRecs l m k u
theorem ERow.cells {S : Nat → Prop} {W : World} {A : Option Addr} {n : Nat} {l : List E} (h : ERow S W A n l) {i : Nat} (hi : i < l.length) : ∃ ad : Addr, A = some ad ∧ W.cell? (ad.add (i * 2)) = some (.string (l[i]).f0) ∧ W.cell? ⟨(ad.add (i * 2)).block, (ad.add (i * 2)).off + 1, none⟩ = some (.string (l[i]).f1) := by
  obtain ⟨ad, e, h0, h1⟩ := at_T54 h.C (i : Int) (by omega) (by omega)
  rw [show rd_T54 l (i : Int) = l[i] from rdE_eq hi, Int.toNat_natCast] at h0 h1
  exact ⟨ad, e, h0, h1⟩
theorem RAt_Q (W : World) {A : Option Addr} {c n : Nat} {l : List E} (s : ByteArray) (hn : n = l.length) (hC : Kd.C kE W A l.length l) (hc : l.length ≤ c) (hl : l.length ≤ 1048576) : Calls Try.prog 52 #[.slice A n c, .string s] W fun e W' => e = .returned (.int .i64 (atE l s)) ∧ Below W.heap.size W W' := by
  subst hn
  obtain ⟨K, hK⟩ := rat_ev l s hl
  exact seicheref05_At.calls K A c l s _ W hC hc (hK K (Nat.le_refl _))
theorem RRec_Q (W : World) (k u : ByteArray) (h : k.size + u.size ≤ 274877906944) : Calls Try.prog 24 #[.agg #[.string k, .string u]] W fun e W' => e = .returned (.string (recP k u)) ∧ Below W.heap.size W W' := by
  obtain ⟨K, hK⟩ := rrec_ev k u h
  exact seicheref05_Record.calls K k u _ W (hK K (Nat.le_refl _))
theorem RGone_Q (W : World) (k : ByteArray) (h : k.size ≤ 274877906944) : Calls Try.prog 26 #[.string k] W fun e W' => e = .returned (.string (recG k)) ∧ Below W.heap.size W W' := by
  obtain ⟨K, hK⟩ := rgone_ev k h
  exact seicheref05_Gone.calls K k _ W (hK K (Nat.le_refl _))
section
variable {S : Nat → Prop} {W : World} {gm : Nat} {m z : Int} {l : List E} {key val : ByteArray}
set_option maxHeartbeats 4000000 in
set_option maxRecDepth 100000 in
theorem RSteps_same (h : MSt S W gm m l z) (hl : l.length ≤ 1048576) (hg : getE l key = some val) : Calls Try.prog 25 #[.pointer (some ⟨gm, 0, none⟩), .agg #[.string key, .string val]] W fun e W' => e = .returned (.slice none 0 0) ∧ Below W.heap.size W W' := by
  obtain ⟨i, hi, hil⟩ := atE_lt (atE_nonneg.2 (by rw [hg]; exact fun e => nomatch e) : 0 ≤ atE l key)
  obtain ⟨hil2, hgi, hgz⟩ := getE_at hi
  have HAt := Aside0.mk hi
  have HIl := Aside0.mk hil
  have ib : decide (0 ≤ (i : Int)) = true := decide_eq_true (Int.natCast_nonneg i)
  rw [hg] at hgi
  injection hgi with hgi
  have HF := Aside0.mk (show (l[i]'HIl.out).f1 = val from hgi.symm)
  have hu := Try.underlying54
  obtain ⟨A, c, hc, hbm, he⟩ := h.at_
  have hb0 : Below W.heap.size W (W.alloc (.cells #[.string key, .string val] 54 (0, 0))).drew := below_drew1 (below_alloc (Below.refl W.heap.size W) _)
  have HB0 := Aside0.mk hb0
  have HE := Aside0.mk (ERow.below he hb0)
  have HCc := Aside0.mk hc
  have HL := Aside0.mk hl
  have hbx : (W.alloc (.cells #[.string key, .string val] 54 (0, 0))).drew.heap[W.heap.size]? = some (.cells #[.string key, .string val] 54 (0, 0)) := blk_new W _
  have HBx := Aside0.mk hbx
  obtain ⟨ln, hln⟩ : ∃ ln, ln = l.length := ⟨_, rfl⟩
  have HLn := Aside0.mk hln
  rw [← hln] at hbm
  have HBm := Aside0.mk ((hb0.block gm (blk_lt hbm)).trans hbm)
  have z1 : (W.alloc (.cells #[.string key, .string val] 54 (0, 0))).drew.cell? ⟨gm, 1, none⟩ = some (.slice A ln c) := (blk_cell HBm.out 1).trans rfl
  have k0 : (W.alloc (.cells #[.string key, .string val] 54 (0, 0))).drew.cell? ⟨W.heap.size, 0, none⟩ = some (.string key) := (blk_cell hbx 0).trans rfl
  have eb : (val.toList == val.toList) = true := beq_self_eq_true _
  clear h hl hg hc hbm he hb0 hbx hln hi hil hil2 hgi hgz
  go_enter Try.func25, Try.ntmps25
  go_wp2
  refine start_ (n := 8) (S := fun w' => w'.cell? ⟨gm, 1, none⟩ = some (.slice A ln c) ∧ w'.cell? ⟨W.heap.size, 0, none⟩ = some (.string key)) (ds := [6, 7]) #[false, false, false, false, false, false, false, false] (by kernel_rfl) rfl rfl ⟨z1, k0⟩ (fun hHeld => ?_)
  refine pure_ (i := 0) (N := some 8) (v := ?_) (a' := ?_) #[true, false, false, false, false, false, false, false] rfl rfl (by kernel_rfl) (fun _ _ _ h => h) (Or.inl ⟨by rfl, ?_⟩) ?_ ?_
  rotate_left
  · intro w'
    go_simp
    with_reducible rfl
  rotate_left
  · simp only [Act.put, List.setIfInBounds_toArray, List.set_cons_zero, List.set_cons_succ, i64_w, i32_w]
    rfl
  refine pure_ (i := 1) (N := some 9) (v := ?_) (a' := ?_) #[true, true, false, false, false, false, false, false] rfl rfl (by kernel_rfl) (fun _ _ _ h => h) (Or.inl ⟨by rfl, ?_⟩) ?_ ?_
  rotate_left
  · intro w'
    go_simp
    with_reducible rfl
  rotate_left
  · simp only [Act.put, List.setIfInBounds_toArray, List.set_cons_zero, List.set_cons_succ, i64_w, i32_w]
    rfl
  refine pure_ (i := 2) (N := some 10) (v := ?_) (a' := ?_) #[true, true, true, false, false, false, false, false] rfl rfl (by kernel_rfl) (fun _ _ _ h => h) (Or.inl ⟨by rfl, ?_⟩) ?_ ?_
  rotate_left
  · intro w'
    go_simp
    with_reducible rfl
  rotate_left
  · simp only [Act.put, List.setIfInBounds_toArray, List.set_cons_zero, List.set_cons_succ, i64_w, i32_w]
    rfl
  refine take_ (i := 3) (N := some 11) (v := ?_) (a' := ?_) #[true, true, true, true, false, false, false, false] rfl rfl (by kernel_rfl) (fun _ _ _ h => h) (Or.inl ⟨by rfl, ?_⟩) hHeld ?_ ?_
  rotate_left
  · intro w' s0
    obtain ⟨s0, s1⟩ := s0
    go_simp
    with_reducible rfl
  rotate_left
  · simp only [Act.put, List.setIfInBounds_toArray, List.set_cons_zero, List.set_cons_succ, i64_w, i32_w]
    rfl
  refine pure_ (i := 4) (N := some 12) (v := ?_) (a' := ?_) #[true, true, true, true, true, false, false, false] rfl rfl (by kernel_rfl) (fun _ _ _ h => h) (Or.inl ⟨by rfl, ?_⟩) ?_ ?_
  rotate_left
  · intro w'
    go_simp
    with_reducible rfl
  rotate_left
  · simp only [Act.put, List.setIfInBounds_toArray, List.set_cons_zero, List.set_cons_succ, i64_w, i32_w]
    rfl
  refine take_ (i := 5) (N := some 13) (v := ?_) (a' := ?_) #[true, true, true, true, true, true, false, false] rfl rfl (by kernel_rfl) (fun _ _ _ h => h) (Or.inl ⟨by rfl, ?_⟩) hHeld ?_ ?_
  rotate_left
  · intro w' s0
    obtain ⟨s0, s1⟩ := s0
    go_simp
    with_reducible rfl
  rotate_left
  · simp only [Act.put, List.setIfInBounds_toArray, List.set_cons_zero, List.set_cons_succ, i64_w, i32_w]
    rfl
  refine last_ (i := 6) (N := some 14) #[true, true, true, true, true, true, true, false] rfl rfl (by kernel_rfl) (by decide) (fun K hK => ?_)
  refine goes_ Try.func52 (by kernel_rfl) rfl #[.slice A ln c, .string key] (by rfl) rfl rfl (by (try simp only [List.map_toArray, List.map_cons, List.map_nil]); first | done | rfl) ?_
  refine (RAt_Q _ key HLn.out HE.out.C HCc.out HL.out).mono ?_
  rintro e w1 ⟨rfl, hb1⟩
  refine ⟨_, rfl, ?_⟩
  rw [HAt.out]
  have HB1 := Aside0.mk (HB0.out.trans (hb1.mono HB0.out.size))
  have bx1 := (hb1.block W.heap.size (blk_lt HBx.out)).trans HBx.out
  have bm1 := (hb1.block gm (blk_lt HBm.out)).trans HBm.out
  have HE1 := Aside0.mk (HE.out.below hb1)
  clear hb1 hHeld z1 k0 HE HB0 HBx HBm
  refine hK.out _ _ ?_
  clear hK K
  refine norm_ (a' := ?_) ?_ ?_
  rotate_left
  · show Act.put _ (some 14) _ = _
    simp only [Act.put, List.setIfInBounds_toArray, List.set_cons_zero, List.set_cons_succ, i64_w, i32_w]
    rfl
  refine pure_ (i := 7) (N := some 5) (v := ?_) (a' := ?_) #[true, true, true, true, true, true, true, true] rfl rfl (by kernel_rfl) (fun _ _ _ h => h) (Or.inl ⟨by rfl, ?_⟩) ?_ ?_
  rotate_left
  · intro w'
    go_simp
    with_reducible rfl
  rotate_left
  · simp only [Act.put, List.setIfInBounds_toArray, List.set_cons_zero, List.set_cons_succ, i64_w, i32_w]
    rfl
  refine done_ (by kernel_rfl) ?_
  have x1 : w1.cell? ⟨gm, 1, none⟩ = some (.slice A ln c) := (blk_cell bm1 1).trans rfl
  have x0 : w1.cell? ⟨gm, 0, none⟩ = some (.int .i64 m) := (blk_cell bm1 0).trans rfl
  have k0 : w1.cell? ⟨W.heap.size, 0, none⟩ = some (.string key) := (blk_cell bx1 0).trans rfl
  have k1 : w1.cell? ⟨W.heap.size, 1, none⟩ = some (.string val) := (blk_cell bx1 1).trans rfl
  obtain ⟨ad, rfl, y0, y1⟩ := HE1.out.cells HIl.out
  have il : i < ln := by rw [HLn.out]; exact HIl.out
  have ilb : decide ((i : Int) < (ln : Int)) = true := decide_eq_true (Int.ofNat_lt.2 il)
  have ilc : decide (i < ln) = true := decide_eq_true il
  have ef : (l[i]'HIl.out).f1 = val := HF.out
  rw [ef] at y1
  clear y0 ef
  go_wp2_with (first | go_region)
  go_ret
  exact ⟨rfl, below_drew1 HB1.out⟩
set_option maxHeartbeats 4000000 in
set_option maxRecDepth 100000 in
theorem RSteps_put {old : ByteArray} (h : MSt S W gm m l z) (hl : l.length ≤ 1048576) (hs : key.size + val.size ≤ 274877906944) (hg : getE l key = some old) (hne : old ≠ val) : Calls Try.prog 25 #[.pointer (some ⟨gm, 0, none⟩), .agg #[.string key, .string val]] W fun e W' => ∃ v, e = .returned v ∧ Kd.R Kd.string 9 W' W.heap.size (fun _ => True) v ([] ++ [recP key val]) ∧ Below W.heap.size W W' := by
  obtain ⟨i, hi, hil⟩ := atE_lt (atE_nonneg.2 (by rw [hg]; exact fun e => nomatch e) : 0 ≤ atE l key)
  obtain ⟨hil2, hgi, hgz⟩ := getE_at hi
  have HAt := Aside0.mk hi
  have HIl := Aside0.mk hil
  have ib : decide (0 ≤ (i : Int)) = true := decide_eq_true (Int.natCast_nonneg i)
  rw [hg] at hgi
  injection hgi with hgi
  have HF := Aside0.mk (show (l[i]'HIl.out).f1 = old from hgi.symm)
  have HSz := Aside0.mk hs
  have hu := Try.underlying54
  obtain ⟨A, c, hc, hbm, he⟩ := h.at_
  have hb0 : Below W.heap.size W (W.alloc (.cells #[.string key, .string val] 54 (0, 0))).drew := below_drew1 (below_alloc (Below.refl W.heap.size W) _)
  have HB0 := Aside0.mk hb0
  have HE := Aside0.mk (ERow.below he hb0)
  have HCc := Aside0.mk hc
  have HL := Aside0.mk hl
  have hbx : (W.alloc (.cells #[.string key, .string val] 54 (0, 0))).drew.heap[W.heap.size]? = some (.cells #[.string key, .string val] 54 (0, 0)) := blk_new W _
  have HBx := Aside0.mk hbx
  obtain ⟨ln, hln⟩ : ∃ ln, ln = l.length := ⟨_, rfl⟩
  have HLn := Aside0.mk hln
  rw [← hln] at hbm
  have HBm := Aside0.mk ((hb0.block gm (blk_lt hbm)).trans hbm)
  have z1 : (W.alloc (.cells #[.string key, .string val] 54 (0, 0))).drew.cell? ⟨gm, 1, none⟩ = some (.slice A ln c) := (blk_cell HBm.out 1).trans rfl
  have k0 : (W.alloc (.cells #[.string key, .string val] 54 (0, 0))).drew.cell? ⟨W.heap.size, 0, none⟩ = some (.string key) := (blk_cell hbx 0).trans rfl
  have eb : (old.toList == val.toList) = false := beq_eq_false_iff_ne.mpr (fun h => hne (ba_inj h))
  have eb2 : ¬ old.toList = val.toList := fun h => hne (ba_inj h)
  have i2b : decide ((i : Int) < 0) = false := decide_eq_false (by omega)
  clear h hl hg hc hbm he hb0 hbx hln hi hil hil2 hgi hgz hs hne
  go_enter Try.func25, Try.ntmps25
  go_wp2
  refine start_ (n := 8) (S := fun w' => w'.cell? ⟨gm, 1, none⟩ = some (.slice A ln c) ∧ w'.cell? ⟨W.heap.size, 0, none⟩ = some (.string key)) (ds := [6, 7]) #[false, false, false, false, false, false, false, false] (by kernel_rfl) rfl rfl ⟨z1, k0⟩ (fun hHeld => ?_)
  refine pure_ (i := 0) (N := some 8) (v := ?_) (a' := ?_) #[true, false, false, false, false, false, false, false] rfl rfl (by kernel_rfl) (fun _ _ _ h => h) (Or.inl ⟨by rfl, ?_⟩) ?_ ?_
  rotate_left
  · intro w'
    go_simp
    with_reducible rfl
  rotate_left
  · simp only [Act.put, List.setIfInBounds_toArray, List.set_cons_zero, List.set_cons_succ, i64_w, i32_w]
    rfl
  refine pure_ (i := 1) (N := some 9) (v := ?_) (a' := ?_) #[true, true, false, false, false, false, false, false] rfl rfl (by kernel_rfl) (fun _ _ _ h => h) (Or.inl ⟨by rfl, ?_⟩) ?_ ?_
  rotate_left
  · intro w'
    go_simp
    with_reducible rfl
  rotate_left
  · simp only [Act.put, List.setIfInBounds_toArray, List.set_cons_zero, List.set_cons_succ, i64_w, i32_w]
    rfl
  refine pure_ (i := 2) (N := some 10) (v := ?_) (a' := ?_) #[true, true, true, false, false, false, false, false] rfl rfl (by kernel_rfl) (fun _ _ _ h => h) (Or.inl ⟨by rfl, ?_⟩) ?_ ?_
  rotate_left
  · intro w'
    go_simp
    with_reducible rfl
  rotate_left
  · simp only [Act.put, List.setIfInBounds_toArray, List.set_cons_zero, List.set_cons_succ, i64_w, i32_w]
    rfl
  refine take_ (i := 3) (N := some 11) (v := ?_) (a' := ?_) #[true, true, true, true, false, false, false, false] rfl rfl (by kernel_rfl) (fun _ _ _ h => h) (Or.inl ⟨by rfl, ?_⟩) hHeld ?_ ?_
  rotate_left
  · intro w' s0
    obtain ⟨s0, s1⟩ := s0
    go_simp
    with_reducible rfl
  rotate_left
  · simp only [Act.put, List.setIfInBounds_toArray, List.set_cons_zero, List.set_cons_succ, i64_w, i32_w]
    rfl
  refine pure_ (i := 4) (N := some 12) (v := ?_) (a' := ?_) #[true, true, true, true, true, false, false, false] rfl rfl (by kernel_rfl) (fun _ _ _ h => h) (Or.inl ⟨by rfl, ?_⟩) ?_ ?_
  rotate_left
  · intro w'
    go_simp
    with_reducible rfl
  rotate_left
  · simp only [Act.put, List.setIfInBounds_toArray, List.set_cons_zero, List.set_cons_succ, i64_w, i32_w]
    rfl
  refine take_ (i := 5) (N := some 13) (v := ?_) (a' := ?_) #[true, true, true, true, true, true, false, false] rfl rfl (by kernel_rfl) (fun _ _ _ h => h) (Or.inl ⟨by rfl, ?_⟩) hHeld ?_ ?_
  rotate_left
  · intro w' s0
    obtain ⟨s0, s1⟩ := s0
    go_simp
    with_reducible rfl
  rotate_left
  · simp only [Act.put, List.setIfInBounds_toArray, List.set_cons_zero, List.set_cons_succ, i64_w, i32_w]
    rfl
  refine last_ (i := 6) (N := some 14) #[true, true, true, true, true, true, true, false] rfl rfl (by kernel_rfl) (by decide) (fun K hK => ?_)
  refine goes_ Try.func52 (by kernel_rfl) rfl #[.slice A ln c, .string key] (by rfl) rfl rfl (by (try simp only [List.map_toArray, List.map_cons, List.map_nil]); first | done | rfl) ?_
  refine (RAt_Q _ key HLn.out HE.out.C HCc.out HL.out).mono ?_
  rintro e w1 ⟨rfl, hb1⟩
  refine ⟨_, rfl, ?_⟩
  rw [HAt.out]
  have HB1 := Aside0.mk (HB0.out.trans (hb1.mono HB0.out.size))
  have bx1 := (hb1.block W.heap.size (blk_lt HBx.out)).trans HBx.out
  have bm1 := (hb1.block gm (blk_lt HBm.out)).trans HBm.out
  have HE1 := Aside0.mk (HE.out.below hb1)
  clear hb1 hHeld z1 k0 HE HB0 HBx HBm
  refine hK.out _ _ ?_
  clear hK K
  refine norm_ (a' := ?_) ?_ ?_
  rotate_left
  · show Act.put _ (some 14) _ = _
    simp only [Act.put, List.setIfInBounds_toArray, List.set_cons_zero, List.set_cons_succ, i64_w, i32_w]
    rfl
  refine pure_ (i := 7) (N := some 5) (v := ?_) (a' := ?_) #[true, true, true, true, true, true, true, true] rfl rfl (by kernel_rfl) (fun _ _ _ h => h) (Or.inl ⟨by rfl, ?_⟩) ?_ ?_
  rotate_left
  · intro w'
    go_simp
    with_reducible rfl
  rotate_left
  · simp only [Act.put, List.setIfInBounds_toArray, List.set_cons_zero, List.set_cons_succ, i64_w, i32_w]
    rfl
  refine done_ (by kernel_rfl) ?_
  have x1 : w1.cell? ⟨gm, 1, none⟩ = some (.slice A ln c) := (blk_cell bm1 1).trans rfl
  have x0 : w1.cell? ⟨gm, 0, none⟩ = some (.int .i64 m) := (blk_cell bm1 0).trans rfl
  have k0 : w1.cell? ⟨W.heap.size, 0, none⟩ = some (.string key) := (blk_cell bx1 0).trans rfl
  have k1 : w1.cell? ⟨W.heap.size, 1, none⟩ = some (.string val) := (blk_cell bx1 1).trans rfl
  obtain ⟨ad, rfl, y0, y1⟩ := HE1.out.cells HIl.out
  have il : i < ln := by rw [HLn.out]; exact HIl.out
  have ilb : decide ((i : Int) < (ln : Int)) = true := decide_eq_true (Int.ofNat_lt.2 il)
  have ilc : decide (i < ln) = true := decide_eq_true il
  have ef : (l[i]'HIl.out).f1 = old := HF.out
  rw [ef] at y1
  clear y0 ef
  have HR : Kd.R Kd.string 9 w1.drew W.heap.size (fun _ => True) (.slice none 0 0) [] := Kd.R_nil _ _ _ _ _
  replace HR := Aside0.mk HR
  have HBd := Aside0.mk (below_drew1 HB1.out)
  go_wp2_with (first
    | go_region
    | (go_at_call 24; refine (RRec_Q _ key val HSz.out).mono ?_; rintro e w7 ⟨rfl, hb⟩; have HB7 := Aside0.mk (HBd.out.trans (hb.mono HBd.out.size)); have HR7 := Aside0.mk (Kd.R_below HR.out hb); clear hb)
    | ((with_reducible refine gate_builtin (b := .append) (xs := #[.tmp 58, .tmp 61]) rfl ?_); (try (refine gate_guard (by rfl) ?_; dsimp only)); at_builtin; refine Kd.R_append Kd.string (w0 := W) W.heap.size rfl (.tmp 58) (.tmp 61) 22 9 (.string ⟨#[]⟩) 16 rfl Try.underlying22 infoS rfl (by decide) (by decide) (.slice none 0 0) [] (recP key val) [.string (recP key val)] (fun _ => True) (fun _ => False) rfl rfl rfl (fun _ h => h.elim) (fun _ _ => trivial) HR7.out HB7.out HB7.out.size (by simp only [List.length_nil]; omega) ?_; intro v1 w8 hr5 hb5 hg5 hat5; have HR8 := Aside0.mk hr5; have HB8 := Aside0.mk hb5; clear hr5 hb5 hg5 hat5))
  go_ret
  exact ⟨_, rfl, HR8.out, HB8.out⟩
set_option maxHeartbeats 4000000 in
set_option maxRecDepth 100000 in
theorem RSteps_new (h : MSt S W gm m l z) (hl : l.length + l.length + 2 ≤ 1048576) (hm : 1 ≤ m ∧ m ≤ 4096) (hsh : Short l) (hs : key.size + val.size ≤ 274877906944) (hg : getE l key = none) : Calls Try.prog 25 #[.pointer (some ⟨gm, 0, none⟩), .agg #[.string key, .string val]] W fun e W' => ∃ v, e = .returned v ∧ Kd.R Kd.string 9 W' W.heap.size (fun _ => True) v (gones l (over l m) ++ [recP key val]) ∧ Below W.heap.size W W' := by
  have hno : ¬ 0 ≤ atE l key := fun h => atE_nonneg.1 h hg
  have HAt : Aside0 (atE l key = -1) := ⟨by
    unfold atE at hno ⊢
    split at hno
    · exact absurd (Int.natCast_nonneg _) hno
    · rfl⟩
  obtain ⟨ov, hov⟩ : ∃ ov, ov = over l m := ⟨_, rfl⟩
  have HOv := Aside0.mk (show ov ≤ l.length ∧ ∀ j : Nat, j < ov ↔ m ≤ (l.length : Int) - (j : Int) from by
    rw [hov]
    unfold over
    exact ⟨by omega, fun j => by omega⟩)
  rw [← hov]
  have HSz := Aside0.mk hs
  have HSh := Aside0.mk hsh
  have HM := Aside0.mk hm
  have HL2 := Aside0.mk hl
  replace hl : l.length ≤ 1048576 := by omega
  have hu := Try.underlying54
  obtain ⟨A, c, hc, hbm, he⟩ := h.at_
  have hb0 : Below W.heap.size W (W.alloc (.cells #[.string key, .string val] 54 (0, 0))).drew := below_drew1 (below_alloc (Below.refl W.heap.size W) _)
  have HB0 := Aside0.mk hb0
  have HE := Aside0.mk (ERow.below he hb0)
  have HCc := Aside0.mk hc
  have HL := Aside0.mk hl
  have hbx : (W.alloc (.cells #[.string key, .string val] 54 (0, 0))).drew.heap[W.heap.size]? = some (.cells #[.string key, .string val] 54 (0, 0)) := blk_new W _
  have HBx := Aside0.mk hbx
  obtain ⟨ln, hln⟩ : ∃ ln, ln = l.length := ⟨_, rfl⟩
  have HLn := Aside0.mk hln
  rw [← hln] at hbm
  have HBm := Aside0.mk ((hb0.block gm (blk_lt hbm)).trans hbm)
  have z1 : (W.alloc (.cells #[.string key, .string val] 54 (0, 0))).drew.cell? ⟨gm, 1, none⟩ = some (.slice A ln c) := (blk_cell HBm.out 1).trans rfl
  have k0 : (W.alloc (.cells #[.string key, .string val] 54 (0, 0))).drew.cell? ⟨W.heap.size, 0, none⟩ = some (.string key) := (blk_cell hbx 0).trans rfl
  have HEW := Aside0.mk he
  have HBW := Aside0.mk hbm
  clear h hl hg hc hbm he hb0 hbx hln hno hs hov hsh hm
  go_enter Try.func25, Try.ntmps25
  go_wp2
  refine start_ (n := 8) (S := fun w' => w'.cell? ⟨gm, 1, none⟩ = some (.slice A ln c) ∧ w'.cell? ⟨W.heap.size, 0, none⟩ = some (.string key)) (ds := [6, 7]) #[false, false, false, false, false, false, false, false] (by kernel_rfl) rfl rfl ⟨z1, k0⟩ (fun hHeld => ?_)
  refine pure_ (i := 0) (N := some 8) (v := ?_) (a' := ?_) #[true, false, false, false, false, false, false, false] rfl rfl (by kernel_rfl) (fun _ _ _ h => h) (Or.inl ⟨by rfl, ?_⟩) ?_ ?_
  rotate_left
  · intro w'
    go_simp
    with_reducible rfl
  rotate_left
  · simp only [Act.put, List.setIfInBounds_toArray, List.set_cons_zero, List.set_cons_succ, i64_w, i32_w]
    rfl
  refine pure_ (i := 1) (N := some 9) (v := ?_) (a' := ?_) #[true, true, false, false, false, false, false, false] rfl rfl (by kernel_rfl) (fun _ _ _ h => h) (Or.inl ⟨by rfl, ?_⟩) ?_ ?_
  rotate_left
  · intro w'
    go_simp
    with_reducible rfl
  rotate_left
  · simp only [Act.put, List.setIfInBounds_toArray, List.set_cons_zero, List.set_cons_succ, i64_w, i32_w]
    rfl
  refine pure_ (i := 2) (N := some 10) (v := ?_) (a' := ?_) #[true, true, true, false, false, false, false, false] rfl rfl (by kernel_rfl) (fun _ _ _ h => h) (Or.inl ⟨by rfl, ?_⟩) ?_ ?_
  rotate_left
  · intro w'
    go_simp
    with_reducible rfl
  rotate_left
  · simp only [Act.put, List.setIfInBounds_toArray, List.set_cons_zero, List.set_cons_succ, i64_w, i32_w]
    rfl
  refine take_ (i := 3) (N := some 11) (v := ?_) (a' := ?_) #[true, true, true, true, false, false, false, false] rfl rfl (by kernel_rfl) (fun _ _ _ h => h) (Or.inl ⟨by rfl, ?_⟩) hHeld ?_ ?_
  rotate_left
  · intro w' s0
    obtain ⟨s0, s1⟩ := s0
    go_simp
    with_reducible rfl
  rotate_left
  · simp only [Act.put, List.setIfInBounds_toArray, List.set_cons_zero, List.set_cons_succ, i64_w, i32_w]
    rfl
  refine pure_ (i := 4) (N := some 12) (v := ?_) (a' := ?_) #[true, true, true, true, true, false, false, false] rfl rfl (by kernel_rfl) (fun _ _ _ h => h) (Or.inl ⟨by rfl, ?_⟩) ?_ ?_
  rotate_left
  · intro w'
    go_simp
    with_reducible rfl
  rotate_left
  · simp only [Act.put, List.setIfInBounds_toArray, List.set_cons_zero, List.set_cons_succ, i64_w, i32_w]
    rfl
  refine take_ (i := 5) (N := some 13) (v := ?_) (a' := ?_) #[true, true, true, true, true, true, false, false] rfl rfl (by kernel_rfl) (fun _ _ _ h => h) (Or.inl ⟨by rfl, ?_⟩) hHeld ?_ ?_
  rotate_left
  · intro w' s0
    obtain ⟨s0, s1⟩ := s0
    go_simp
    with_reducible rfl
  rotate_left
  · simp only [Act.put, List.setIfInBounds_toArray, List.set_cons_zero, List.set_cons_succ, i64_w, i32_w]
    rfl
  refine last_ (i := 6) (N := some 14) #[true, true, true, true, true, true, true, false] rfl rfl (by kernel_rfl) (by decide) (fun K hK => ?_)
  refine goes_ Try.func52 (by kernel_rfl) rfl #[.slice A ln c, .string key] (by rfl) rfl rfl (by (try simp only [List.map_toArray, List.map_cons, List.map_nil]); first | done | rfl) ?_
  refine (RAt_Q _ key HLn.out HE.out.C HCc.out HL.out).mono ?_
  rintro e w1 ⟨rfl, hb1⟩
  refine ⟨_, rfl, ?_⟩
  rw [HAt.out]
  have HB1 := Aside0.mk (HB0.out.trans (hb1.mono HB0.out.size))
  have bx1 := (hb1.block W.heap.size (blk_lt HBx.out)).trans HBx.out
  have bm1 := (hb1.block gm (blk_lt HBm.out)).trans HBm.out
  have HE1 := Aside0.mk (HE.out.below hb1)
  clear hb1 hHeld z1 k0 HE HB0 HBx HBm
  refine hK.out _ _ ?_
  clear hK K
  refine norm_ (a' := ?_) ?_ ?_
  rotate_left
  · show Act.put _ (some 14) _ = _
    simp only [Act.put, List.setIfInBounds_toArray, List.set_cons_zero, List.set_cons_succ, i64_w, i32_w]
    rfl
  refine pure_ (i := 7) (N := some 5) (v := ?_) (a' := ?_) #[true, true, true, true, true, true, true, true] rfl rfl (by kernel_rfl) (fun _ _ _ h => h) (Or.inl ⟨by rfl, ?_⟩) ?_ ?_
  rotate_left
  · intro w'
    go_simp
    with_reducible rfl
  rotate_left
  · simp only [Act.put, List.setIfInBounds_toArray, List.set_cons_zero, List.set_cons_succ, i64_w, i32_w]
    rfl
  refine done_ (by kernel_rfl) ?_
  have x1 : w1.cell? ⟨gm, 1, none⟩ = some (.slice A ln c) := (blk_cell bm1 1).trans rfl
  have x0 : w1.cell? ⟨gm, 0, none⟩ = some (.int .i64 m) := (blk_cell bm1 0).trans rfl
  have k0 : w1.cell? ⟨W.heap.size, 0, none⟩ = some (.string key) := (blk_cell bx1 0).trans rfl
  have k1 : w1.cell? ⟨W.heap.size, 1, none⟩ = some (.string val) := (blk_cell bx1 1).trans rfl
  have HBd := Aside0.mk (below_drew1 HB1.out)
  go_wp2_with (first | go_region)
  go_loopw [6, 7] (fun o i wr => ∃ (j : Nat), j ≤ ov ∧ i = .int .i64 (j : Int) ∧ Aside0 (Kd.R Kd.string 9 wr W.heap.size (fun _ => True) o (gones l j)) ∧ Aside0 (Below W.heap.size W wr) ∧ wr.heap[W.heap.size]? = some (.cells #[.string key, .string val] 54 (0, 0))) (fun _ i _ => 1048576 - (intOf i).toNat)
  case atStart => exact ⟨0, Nat.zero_le _, rfl, ⟨Kd.R_nil _ _ _ _ _⟩, HBd, bx1⟩
  case round =>
    obtain ⟨j, hj, rfl, HR, HB, bx3⟩ := hrel
    clear HBd
    clear x1 x0 k0 k1 bx1 bm1
    have q1 : wr.cell? ⟨gm, 1, none⟩ = some (.slice A ln c) := pw_cell_below HB.out ((blk_cell HBW.out 1).trans rfl)
    have q0 : wr.cell? ⟨gm, 0, none⟩ = some (.int .i64 m) := pw_cell_below HB.out ((blk_cell HBW.out 0).trans rfl)
    have q2 : wr.cell? ⟨W.heap.size, 0, none⟩ = some (.string key) := (blk_cell bx3 0).trans rfl
    have q3 : wr.cell? ⟨W.heap.size, 1, none⟩ = some (.string val) := (blk_cell bx3 1).trans rfl
    have hw1 : wrap64 ((ln : Int) - (j : Int)) = (ln : Int) - (j : Int) := by have := HL.out; have := HOv.out.1; have := HLn.out; exact w64 (by omega) (by omega)
    by_cases hlt : j < ov
    · have kb : decide (m ≤ (ln : Int) - (j : Int)) = true := decide_eq_true (by rw [HLn.out]; exact (HOv.out.2 j).1 hlt)
      have hjl : j < l.length := Nat.lt_of_lt_of_le hlt HOv.out.1
      have hjn : j < ln := by rw [HLn.out]; exact hjl
      have kc : decide ((j : Int) < (ln : Int)) = true := decide_eq_true (Int.ofNat_lt.2 hjn)
      have kcn : decide (j < ln) = true := decide_eq_true hjn
      obtain ⟨ad, rfl, y0, y1⟩ := HEW.out.cells hjl
      have a0 := pw_cell_below HB.out y0
      have HE := Aside0.mk (gones_step hjl)
      have HKs := Aside0.mk (show (l[j]'hjl).f0.size ≤ 274877906944 from Nat.le_trans (HSh.out _ (List.getElem_mem hjl)) (by decide))
      clear y0 y1
      obtain ⟨s, hs⟩ : ∃ s, s = (l[j]'hjl).f0 := ⟨_, rfl⟩
      rw [← hs] at a0 HE HKs
      clear hs
      go_wp2_with (first
        | go_region
        | (go_at_call 26; refine (RGone_Q _ s HKs.out).mono ?_; rintro e w5 ⟨rfl, hb⟩; replace hb := (below_drew1 (Below.refl wr.heap.size wr)).trans hb; have HB5 := Aside0.mk (HB.out.trans (hb.mono HB.out.size)); have HR5 := Aside0.mk (Kd.R_below HR.out hb); have bx5 := (hb.block W.heap.size (blk_lt bx3)).trans bx3; clear hb)
        | ((with_reducible refine gate_builtin (b := .append) (xs := #[.tmp 46, .tmp 56]) rfl ?_); (try (refine gate_guard (by rfl) ?_; dsimp only)); at_builtin; refine Kd.R_append Kd.string (w0 := W) W.heap.size rfl (.tmp 46) (.tmp 56) 22 9 (.string ⟨#[]⟩) 16 rfl Try.underlying22 infoS rfl (by decide) (by decide) u6 (gones l j) (recG s) [.string (recG s)] (fun _ => True) (fun _ => False) rfl rfl rfl (fun _ h => h.elim) (fun _ _ => trivial) HR5.out HB5.out HB5.out.size (gones_len l j (by have := HL.out; omega)) ?_; intro v1 w6 hr5 hb5 hg5 hat5; have bx6 := blk_grown bx5 hg5 (Kd.R_ne HR5.out bx5 (by decide)); have HR6 := Aside0.mk hr5; have HB6 := Aside0.mk hb5; clear hr5 hb5 hg5 hat5))
      go_roundw
      case rel => exact ⟨j + 1, hlt, vE hlt (by have := HL.out; have := HOv.out.1; omega), ⟨by rw [HE.out]; exact HR6.out⟩, HB6, bx6⟩
      case measure => exact m2E hlt (by have := HL.out; have := HOv.out.1; omega)
    · have kb : decide (m ≤ (ln : Int) - (j : Int)) = false := decide_eq_false (fun h => hlt (by rw [HLn.out] at h; exact (HOv.out.2 j).2 h))
      have ej : j = ov := Nat.le_antisymm hj (Nat.le_of_not_lt hlt)
      subst ej
      go_wp2_with (first
        | go_region
        | (go_at_call 24; refine (RRec_Q _ key val HSz.out).mono ?_; rintro e w7 ⟨rfl, hb⟩; replace hb := (below_drew1 (Below.refl wr.heap.size wr)).trans hb; have HB7 := Aside0.mk (HB.out.trans (hb.mono HB.out.size)); have HR7 := Aside0.mk (Kd.R_below HR.out hb); clear hb)
        | ((with_reducible refine gate_builtin (b := .append) (xs := #[.tmp 58, .tmp 61]) rfl ?_); (try (refine gate_guard (by rfl) ?_; dsimp only)); at_builtin; refine Kd.R_append Kd.string (w0 := W) W.heap.size rfl (.tmp 58) (.tmp 61) 22 9 (.string ⟨#[]⟩) 16 rfl Try.underlying22 infoS rfl (by decide) (by decide) u6 (gones l j) (recP key val) [.string (recP key val)] (fun _ => True) (fun _ => False) rfl rfl rfl (fun _ h => h.elim) (fun _ _ => trivial) HR7.out HB7.out HB7.out.size (gones_len l j (by have := HL.out; omega)) ?_; intro v1 w8 hr5 hb5 hg5 hat5; have HR8 := Aside0.mk hr5; have HB8 := Aside0.mk hb5; clear hr5 hb5 hg5 hat5))
      go_ret
      exact ⟨_, rfl, HR8.out, HB8.out⟩
theorem RSteps_Q (h : MSt S W gm m l z) (hl : l.length + l.length + 2 ≤ 1048576) (hm : 1 ≤ m ∧ m ≤ 4096) (hsh : Short l) (hs : key.size + val.size ≤ 274877906944) : Calls Try.prog 25 #[.pointer (some ⟨gm, 0, none⟩), .agg #[.string key, .string val]] W fun e W' => ∃ A n c, e = .returned (.slice A n c) ∧ n = (stepsR l m key val).length ∧ n ≤ c ∧ Kd.R Kd.string 9 W' W.heap.size (fun _ => True) (.slice A n c) (stepsR l m key val) ∧ Below W.heap.size W W' := by
  unfold stepsR
  by_cases hsame : getE l key = some val
  · rw [if_pos hsame]
    refine (RSteps_same h (by omega) hsame).mono ?_
    rintro e W' ⟨rfl, hb⟩
    exact ⟨none, 0, 0, rfl, rfl, Nat.le_refl _, Kd.R_nil _ _ _ _ _, hb⟩
  · rw [if_neg hsame]
    unfold putRecs
    cases hg : getE l key with
    | none =>
      refine (RSteps_new h hl hm hsh hs hg).mono ?_
      rintro e W' ⟨v, rfl, hR, hb⟩
      obtain ⟨A, c, rfl⟩ := Kd.R_slice hR
      exact ⟨A, _, c, rfl, rfl, R_strs8 hR, hR, hb⟩
    | some old =>
      refine (RSteps_put h (by omega) hs hg (fun e => hsame (by rw [hg, e]))).mono ?_
      rintro e W' ⟨v, rfl, hR, hb⟩
      obtain ⟨A, c, rfl⟩ := Kd.R_slice hR
      exact ⟨A, _, c, rfl, rfl, R_strs8 hR, hR, hb⟩
end
def Fit (l : List E) : Prop := ∀ e ∈ l, (recP e.f0 e.f1).size ≤ 65536
theorem Fit.short {l : List E} (h : Fit l) : Short l := fun e he => by have := h e he; rw [recP_size] at this; omega
theorem Good.gones {l : List E} (h : Short l) (j : Nat) : ∀ r ∈ gones l j, Good r := fun r hr => by
  obtain ⟨x, hx, rfl⟩ := List.mem_map.1 hr
  obtain ⟨y, hy, rfl⟩ := List.mem_map.1 hx
  exact .inr ⟨_, rfl, by rw [recG_size]; have := h y (List.mem_of_mem_take hy); omega⟩
theorem Good.puts {l : List E} {m : Int} {k u : ByteArray} (h : Short l) (hk : (recP k u).size ≤ 65536) : ∀ r ∈ putRecs l m k u, Good r := fun r hr => by
  unfold putRecs at hr
  rcases List.mem_append.1 hr with hr | hr
  · split at hr
    · cases hr
    · exact Good.gones h _ r hr
  · rcases List.mem_singleton.1 hr with rfl
    exact .inl ⟨_, _, rfl, hk⟩
theorem Good.all {l : List E} (h : Fit l) : ∀ r ∈ allRecs l, Good r := fun r hr => by
  obtain ⟨x, hx, rfl⟩ := List.mem_map.1 hr
  exact .inl ⟨_, _, rfl, h x hx⟩
def putR (l : List E) (m z : Int) (k u : ByteArray) (free : Int) : Int × List E × Int :=
  if 65536 < (recP k u).size then (3, l, z) else if getE l k = some u then (0, l, z) else writeR l z (putRecs l m k u) free
def evictR (l : List E) (z n free : Int) : Int × List E × Int :=
  if n < 0 then (1, l, z) else if min n.toNat l.length = 0 then (0, l, z) else writeR l z (gones l (min n.toNat l.length)) free
def compactR (l : List E) (z free : Int) : Int × Int := if ((Fr.putB (allRecs l)).length : Int) > free then (6, z) else (0, (Fr.putB (allRecs l)).length)
theorem putRecs_len2 (l : List E) (m : Int) (k u : ByteArray) : (putRecs l m k u).length ≤ l.length + 1 ∧ 0 < (putRecs l m k u).length := by
  unfold putRecs
  rw [List.length_append, List.length_singleton]
  split
  · simp only [List.length_nil]; omega
  · rw [gones_length]; omega
theorem all_step {l : List E} {k : Nat} (hk : k < l.length) : allRecs (l.take (k + 1)) = allRecs (l.take k) ++ [recP (l[k]'hk).f0 (l[k]'hk).f1] := by
  unfold allRecs
  rw [List.take_succ_eq_append_getElem hk, List.map_append]
  rfl
theorem all_len (l : List E) : (allRecs l).length = l.length := List.length_map ..
theorem box_pairE {W W6 : World} {gb : Nat} {u0 u1 : Value} (h : W6.heap[gb]? = some (.cells #[u0, u1] 54 (0, 0))) (hg : W.heap.size ≤ gb) (hb : Below W.heap.size W W6) (v0 v1 : Value) :
    ((W6.setCell ⟨gb, 0, none⟩ v0).setCell ⟨gb, 1, none⟩ v1).heap[gb]? = some (.cells #[v0, v1] 54 (0, 0)) ∧ Below W.heap.size W ((W6.setCell ⟨gb, 0, none⟩ v0).setCell ⟨gb, 1, none⟩ v1) := by
  refine ⟨?_, below_set (below_set hb hg) hg⟩
  rw [blk_set (blk_set h 0 v0) 1 v1]
  simp only [List.setIfInBounds_toArray, List.set_cons_zero, List.set_cons_succ]
section
variable {S : Nat → Prop} {W : World} {gm : Nat} {m z free j : Int} {l : List E} {key val : ByteArray}
set_option maxHeartbeats 4000000 in
set_option maxRecDepth 100000 in
theorem RPut_long (hs : key.size + val.size ≤ 274877906944) (hz : 65536 < (recP key val).size) : Calls Try.prog 40 #[.pointer (some ⟨gm, 0, none⟩), .string key, .string val, .int .i64 free] W fun e W' => e = .returned (.int .i64 3) ∧ Below W.heap.size W W' := by
  have hu := Try.underlying54
  have HSz := Aside0.mk hs
  have HLong := Aside0.mk hz
  clear hs hz
  go_enter Try.func40, Try.ntmps40
  go_wp2_with (first
    | ((with_reducible refine gate_dst (N := 9) rfl ?_); refine box_event ?hg (N := 9) ?hd (cs := #[.string (⟨#[]⟩ : ByteArray), .string (⟨#[]⟩ : ByteArray)]) (t := 54) ?hr ?_; (case hd => rfl); (case hg => rfl); (case hr => first | (go_simp; done) | (go_simp; rfl)); intro gb hg wq hbox hb; have BX := Aside0.mk (box_pairE (W := W) hbox (Nat.le_of_eq hg.symm) hb (.string key) (.string val)); have qa : wq.cell? ⟨gb, 0, none⟩ = some (.string (⟨#[]⟩ : ByteArray)) := (blk_cell hbox 0).trans rfl; have qb : wq.cell? ⟨gb, 1, none⟩ = some (.string (⟨#[]⟩ : ByteArray)) := (blk_cell hbox 1).trans rfl; have ra := blk_frozen hbox 0; have rb := blk_frozen hbox 1; clear hbox hb hg)
    | (go_at_call 24; refine (RRec_Q _ key val HSz.out).mono ?_; rintro e w1 ⟨rfl, hb⟩; have HB1 := Aside0.mk (BX.out.2.trans (hb.mono BX.out.2.size)); have bx1 := (hb.block gb (blk_lt BX.out.1)).trans BX.out.1; have pa : w1.cell? ⟨gb, 0, none⟩ = some (.string key) := (blk_cell bx1 0).trans rfl; have pb : w1.cell? ⟨gb, 1, none⟩ = some (.string val) := (blk_cell bx1 1).trans rfl; obtain ⟨rp, hrp⟩ : ∃ rp, rp = recP key val := ⟨_, rfl⟩; have HRp := Aside0.mk hrp; rw [← hrp]; have hz : decide ((65536 : Int) < (rp.size : Int)) = true := decide_eq_true (by rw [HRp.out]; exact Int.ofNat_lt.2 HLong.out); clear hb hrp BX))
  go_ret
  exact ⟨rfl, HB1.out⟩
set_option maxHeartbeats 4000000 in
set_option maxRecDepth 100000 in
theorem RPut_same (h : MSt S W gm m l z) (hl : l.length + l.length + 2 ≤ 1048576) (hm : 1 ≤ m ∧ m ≤ 4096) (hsh : Short l) (hs : key.size + val.size ≤ 274877906944) (hok : (recP key val).size ≤ 65536) (hg : getE l key = some val) : Calls Try.prog 40 #[.pointer (some ⟨gm, 0, none⟩), .string key, .string val, .int .i64 free] W fun e W' => e = .returned (.int .i64 0) ∧ Below W.heap.size W W' := by
  have hu := Try.underlying54
  have H := Aside0.mk h
  have HSz := Aside0.mk hs
  have HOk := Aside0.mk hok
  have HL := Aside0.mk hl
  have HM := Aside0.mk hm
  have HSh := Aside0.mk hsh
  have HG := Aside0.mk (show stepsR l m key val = [] from by unfold stepsR; rw [if_pos hg])
  clear hs hok h hl hm hsh hg
  go_enter Try.func40, Try.ntmps40
  go_wp2_with (first
    | ((with_reducible refine gate_dst (N := 9) rfl ?_); refine box_event ?hg (N := 9) ?hd (cs := #[.string (⟨#[]⟩ : ByteArray), .string (⟨#[]⟩ : ByteArray)]) (t := 54) ?hr ?_; (case hd => rfl); (case hg => rfl); (case hr => first | (go_simp; done) | (go_simp; rfl)); intro gb hg wq hbox hb; have BX := Aside0.mk (box_pairE (W := W) hbox (Nat.le_of_eq hg.symm) hb (.string key) (.string val)); have qa : wq.cell? ⟨gb, 0, none⟩ = some (.string (⟨#[]⟩ : ByteArray)) := (blk_cell hbox 0).trans rfl; have qb : wq.cell? ⟨gb, 1, none⟩ = some (.string (⟨#[]⟩ : ByteArray)) := (blk_cell hbox 1).trans rfl; have ra := blk_frozen hbox 0; have rb := blk_frozen hbox 1; clear hbox hb hg)
    | (go_at_call 24; refine (RRec_Q _ key val HSz.out).mono ?_; rintro e w1 ⟨rfl, hb⟩; have HB1 := Aside0.mk (BX.out.2.trans (hb.mono BX.out.2.size)); have bx1 := (hb.block gb (blk_lt BX.out.1)).trans BX.out.1; have pa : w1.cell? ⟨gb, 0, none⟩ = some (.string key) := (blk_cell bx1 0).trans rfl; have pb : w1.cell? ⟨gb, 1, none⟩ = some (.string val) := (blk_cell bx1 1).trans rfl; obtain ⟨rp, hrp⟩ : ∃ rp, rp = recP key val := ⟨_, rfl⟩; have HRp := Aside0.mk hrp; rw [← hrp]; have hz : decide ((65536 : Int) < (rp.size : Int)) = false := decide_eq_false (by rw [HRp.out]; exact fun h => Nat.not_lt.2 HOk.out (Int.ofNat_lt.1 h)); clear hb hrp BX)
    | (go_at_call 25; refine (RSteps_Q (H.out.below HB1.out) HL.out HM.out HSh.out HSz.out).mono ?_; rintro e w2 ⟨A2, n2, c2, rfl, hn2, hc2, hR2, hb⟩; rw [HG.out] at hn2; change n2 = 0 at hn2; subst hn2; have HB2 := Aside0.mk (HB1.out.trans (hb.mono HB1.out.size)); clear hc2 hR2 hb))
  go_ret
  exact ⟨rfl, HB2.out⟩
set_option maxHeartbeats 4000000 in
set_option maxRecDepth 100000 in
theorem RPut_puts (h : MSt S W gm m l z) (hi : ∀ k, S k → k < W.heap.size) (hN : KN l) (hl : l.length + l.length + 2 ≤ 1048576) (hm : 1 ≤ m ∧ m ≤ 4096) (hsh : Short l) (hok : (recP key val).size ≤ 65536) (hg : getE l key ≠ some val) (hb : (Fr.putB (putRecs l m key val)).length ≤ 274877906944) (hz : 0 ≤ z ∧ z ≤ 1099511627776) : Calls Try.prog 40 #[.pointer (some ⟨gm, 0, none⟩), .string key, .string val, .int .i64 free] W fun e W' => e = .returned (.int .i64 (writeR l z (putRecs l m key val) free).1) ∧ MSt S W' gm m (writeR l z (putRecs l m key val) free).2.1 (writeR l z (putRecs l m key val) free).2.2 ∧ Only (At1 gm) W W' := by
  have hu := Try.underlying54
  have H := Aside0.mk h
  have HI := Aside0.mk hi
  have HN := Aside0.mk hN
  have HSz := Aside0.mk (show key.size + val.size ≤ 274877906944 from by have := recP_size key val; omega)
  have HOk := Aside0.mk hok
  have HL := Aside0.mk hl
  have HM := Aside0.mk hm
  have HSh := Aside0.mk hsh
  have HBy := Aside0.mk hb
  have HZ := Aside0.mk hz
  have HG := Aside0.mk (show stepsR l m key val = putRecs l m key val from by unfold stepsR; rw [if_neg hg])
  clear hok h hl hm hsh hg hi hN hb hz
  go_enter Try.func40, Try.ntmps40
  go_wp2_with (first
    | ((with_reducible refine gate_dst (N := 9) rfl ?_); refine box_event ?hg (N := 9) ?hd (cs := #[.string (⟨#[]⟩ : ByteArray), .string (⟨#[]⟩ : ByteArray)]) (t := 54) ?hr ?_; (case hd => rfl); (case hg => rfl); (case hr => first | (go_simp; done) | (go_simp; rfl)); intro gb hg wq hbox hb; have BX := Aside0.mk (box_pairE (W := W) hbox (Nat.le_of_eq hg.symm) hb (.string key) (.string val)); have qa : wq.cell? ⟨gb, 0, none⟩ = some (.string (⟨#[]⟩ : ByteArray)) := (blk_cell hbox 0).trans rfl; have qb : wq.cell? ⟨gb, 1, none⟩ = some (.string (⟨#[]⟩ : ByteArray)) := (blk_cell hbox 1).trans rfl; have ra := blk_frozen hbox 0; have rb := blk_frozen hbox 1; clear hbox hb hg)
    | (go_at_call 24; refine (RRec_Q _ key val HSz.out).mono ?_; rintro e w1 ⟨rfl, hb⟩; have HB1 := Aside0.mk (BX.out.2.trans (hb.mono BX.out.2.size)); have bx1 := (hb.block gb (blk_lt BX.out.1)).trans BX.out.1; have pa : w1.cell? ⟨gb, 0, none⟩ = some (.string key) := (blk_cell bx1 0).trans rfl; have pb : w1.cell? ⟨gb, 1, none⟩ = some (.string val) := (blk_cell bx1 1).trans rfl; obtain ⟨rp, hrp⟩ : ∃ rp, rp = recP key val := ⟨_, rfl⟩; have HRp := Aside0.mk hrp; rw [← hrp]; have hz : decide ((65536 : Int) < (rp.size : Int)) = false := decide_eq_false (by rw [HRp.out]; exact fun h => Nat.not_lt.2 HOk.out (Int.ofNat_lt.1 h)); clear hb hrp BX)
    | (go_at_call 25; refine (RSteps_Q (H.out.below HB1.out) HL.out HM.out HSh.out HSz.out).mono ?_; rintro e w2 ⟨A2, n2, c2, rfl, hn2, hc2, hR2, hb⟩; rw [HG.out] at hn2 hR2; have hn0 : 0 < n2 := (by rw [hn2]; exact (putRecs_len2 l m key val).2); have n2b : ((n2 : Int) == 0) = false := beq_eq_false_iff_ne.mpr (by omega); have n2c : (n2 == 0) = false := beq_eq_false_iff_ne.mpr (by omega); have HB2 := Aside0.mk (HB1.out.trans (hb.mono HB1.out.size)); have HT2 := Aside0.mk (TRow.of (S := S) hR2 (fun k hk => Nat.lt_of_lt_of_le (HI.out k hk) HB1.out.size)); have HC2 := Aside0.mk hc2; clear hc2 hR2 hb hn2 hn0)
    | (go_at_call 66; refine (RWrite_Q (H.out.below HB2.out) (fun k hk => Nat.lt_of_lt_of_le (HI.out k hk) HB2.out.size) HT2.out HC2.out (Good.puts HSh.out HOk.out) HN.out (by have := (putRecs_len2 l m key val).1; have := HL.out; omega) HBy.out HZ.out).mono ?_; rintro e w3 ⟨rfl, h3, h4⟩; have H3 := Aside0.mk h3; have HO := Aside0.mk h4; clear h3 h4))
  go_ret
  exact ⟨rfl, H3.out, (((Only.refl (At1 gm) W).below HB2.out).trans HO.out)⟩
theorem RPut_M (h : MSt S W gm m l z) (hi : ∀ k, S k → k < W.heap.size) (hN : KN l) (hl : l.length + l.length + 2 ≤ 1048576) (hm : 1 ≤ m ∧ m ≤ 4096) (hsh : Short l) (hs : key.size + val.size ≤ 274877906944) (hb : (Fr.putB (putRecs l m key val)).length ≤ 274877906944) (hz : 0 ≤ z ∧ z ≤ 1099511627776) : Calls Try.prog 40 #[.pointer (some ⟨gm, 0, none⟩), .string key, .string val, .int .i64 free] W fun e W' => e = .returned (.int .i64 (putR l m z key val free).1) ∧ MSt S W' gm m (putR l m z key val free).2.1 (putR l m z key val free).2.2 ∧ Only (At1 gm) W W' := by
  unfold putR
  by_cases c : 65536 < (recP key val).size
  · rw [if_pos c]
    refine (RPut_long hs c).mono ?_
    rintro e W' ⟨rfl, hb⟩
    exact ⟨rfl, h.below hb, (Only.refl _ _).below hb⟩
  rw [if_neg c]
  by_cases hg : getE l key = some val
  · rw [if_pos hg]
    refine (RPut_same h hl hm hsh hs (Nat.not_lt.1 c) hg).mono ?_
    rintro e W' ⟨rfl, hb⟩
    exact ⟨rfl, h.below hb, (Only.refl _ _).below hb⟩
  · rw [if_neg hg]
    exact RPut_puts h hi hN hl hm hsh (Nat.not_lt.1 c) hg hb hz
set_option maxHeartbeats 4000000 in
set_option maxRecDepth 100000 in
theorem REvict_none {q : Nat} (h : MSt S W gm m l z) (hi : ∀ k, S k → k < W.heap.size) (hN : KN l) (hl : l.length + l.length + 2 ≤ 1048576) (hsh : Short l) (hj : 0 ≤ j) (hq : q = min j.toNat l.length) (hq0 : q = 0) (hb : (Fr.putB (gones l q)).length ≤ 274877906944) (hz : 0 ≤ z ∧ z ≤ 1099511627776) : Calls Try.prog 41 #[.pointer (some ⟨gm, 0, none⟩), .int .i64 j, .int .i64 free] W fun e W' => e = .returned (.int .i64 0) ∧ MSt S W' gm m l z ∧ Only (At1 gm) W W' := by
  have hu := Try.underlying54
  have H := Aside0.mk h
  obtain ⟨A, c, hc, hbm, he⟩ := h.at_
  have HE := Aside0.mk he
  obtain ⟨ln, hln⟩ : ∃ ln, ln = l.length := ⟨_, rfl⟩
  have HLn := Aside0.mk hln
  rw [← hln] at hbm
  have z1 : W.cell? ⟨gm, 1, none⟩ = some (.slice A ln c) := (blk_cell hbm 1).trans rfl
  have HI := Aside0.mk hi
  have HN := Aside0.mk hN
  have HL := Aside0.mk hl
  have HSh := Aside0.mk hsh
  have HBy := Aside0.mk hb
  have HZ := Aside0.mk hz
  have HQ0 := Aside0.mk hq0
  have HQl := Aside0.mk (show q ≤ l.length from by omega)
  have HQj := Aside0.mk (show ∀ a : Nat, a < l.length → (a < q ↔ (a : Int) < j) from fun a ha => by omega)
  have jb : decide (j < 0) = false := decide_eq_false (by omega)
  clear h hi hN hl hsh hj hq hq0 hb hz hc hbm he hln
  go_enter Try.func41, Try.ntmps41
  go_wp2
  go_loopw [7, 17] (fun o i wr => ∃ (a : Nat), a ≤ ln ∧ i = .int .i64 (a : Int) ∧ Aside0 (Kd.R Kd.string 9 wr W.heap.size (fun _ => True) o (gones l (min a q))) ∧ Aside0 (Below W.heap.size W wr)) (fun _ i _ => ln - (intOf i).toNat)
  case atStart => exact ⟨0, Nat.zero_le _, rfl, ⟨by rw [Nat.zero_min]; exact Kd.R_nil _ _ _ _ _⟩, ⟨Below.refl _ _⟩⟩
  case round =>
    obtain ⟨a, ha, rfl, HR, HB⟩ := hrel
    by_cases hlt : a < ln
    · have kb : decide ((a : Int) < (ln : Int)) = true := decide_eq_true (Int.ofNat_lt.2 hlt)
      have kbn : decide (a < ln) = true := decide_eq_true hlt
      have hal : a < l.length := by rw [← HLn.out]; exact hlt
      obtain ⟨ad, rfl, y0, y1⟩ := HE.out.cells hal
      have a0 := pw_cell_below HB.out y0
      have a1 := pw_cell_below HB.out y1
      have HG := Aside0.mk (gones_step hal)
      have HKs := Aside0.mk (show (l[a]'hal).f0.size ≤ 274877906944 from Nat.le_trans (HSh.out _ (List.getElem_mem hal)) (by decide))
      clear y0 y1 z1
      obtain ⟨s, hs⟩ : ∃ s, s = (l[a]'hal).f0 := ⟨_, rfl⟩
      obtain ⟨t, ht⟩ : ∃ t, t = (l[a]'hal).f1 := ⟨_, rfl⟩
      rw [← hs] at a0 HG HKs
      rw [← ht] at a1
      clear hs ht
      by_cases hq : a < q
      · have jb2 : decide ((a : Int) < j) = true := decide_eq_true ((HQj.out a hal).1 hq)
        have em : min a q = a := Nat.min_eq_left (Nat.le_of_lt hq)
        have em1 : min (a + 1) q = a + 1 := Nat.min_eq_left hq
        rw [em] at HR
        have HE1 := Aside0.mk em1
        clear em em1
        go_wp2_with (first
          | ((with_reducible refine gate_dst (N := 9) rfl ?_); refine box_event ?hg (N := 9) ?hd (cs := #[.string (⟨#[]⟩ : ByteArray), .string (⟨#[]⟩ : ByteArray)]) (t := 54) ?hr ?_; (case hd => rfl); (case hg => rfl); (case hr => first | (go_simp; done) | (go_simp; rfl)); intro gb hg wq hbox hb; have BX := Aside0.mk (box_pairE (W := wr) hbox (Nat.le_of_eq hg.symm) hb (.string s) (.string t)); have qa : wq.cell? ⟨gb, 0, none⟩ = some (.string (⟨#[]⟩ : ByteArray)) := (blk_cell hbox 0).trans rfl; have qb : wq.cell? ⟨gb, 1, none⟩ = some (.string (⟨#[]⟩ : ByteArray)) := (blk_cell hbox 1).trans rfl; have ra := blk_frozen hbox 0; have rb := blk_frozen hbox 1; clear hbox hb hg)
          | (go_at_call 26; refine (RGone_Q _ s HKs.out).mono ?_; rintro e w5 ⟨rfl, hb⟩; replace hb := BX.out.2.trans (hb.mono BX.out.2.size); have HB5 := Aside0.mk (HB.out.trans (hb.mono HB.out.size)); have HR5 := Aside0.mk (Kd.R_below HR.out hb); clear hb BX)
          | ((with_reducible refine gate_builtin (b := .append) (xs := #[.tmp 25, .tmp 29]) rfl ?_); (try (refine gate_guard (by rfl) ?_; dsimp only)); at_builtin; refine Kd.R_append Kd.string (w0 := W) W.heap.size rfl (.tmp 25) (.tmp 29) 22 9 (.string ⟨#[]⟩) 16 rfl Try.underlying22 infoS rfl (by decide) (by decide) u7 (gones l a) (recG s) [.string (recG s)] (fun _ => True) (fun _ => False) rfl rfl rfl (fun _ h => h.elim) (fun _ _ => trivial) HR5.out HB5.out HB5.out.size (gones_len l a (by have := HL.out; omega)) ?_; intro v1 w6 hr5 hb5 hg5 hat5; have HR6 := Aside0.mk hr5; have HB6 := Aside0.mk hb5; clear hr5 hb5 hg5 hat5))
        go_roundw
        case rel => exact ⟨a + 1, hlt, vE hlt (by have := HL.out; have := HLn.out; omega), ⟨by rw [HE1.out, HG.out]; exact HR6.out⟩, HB6⟩
        case measure => exact mE hlt (by have := HL.out; have := HLn.out; omega)
      · have jb2 : decide ((a : Int) < j) = false := decide_eq_false (fun h => hq ((HQj.out a hal).2 h))
        have HE1 := Aside0.mk (show min (a + 1) q = min a q from by omega)
        go_wp2_with (first
          | ((with_reducible refine gate_dst (N := 9) rfl ?_); refine box_event ?hg (N := 9) ?hd (cs := #[.string (⟨#[]⟩ : ByteArray), .string (⟨#[]⟩ : ByteArray)]) (t := 54) ?hr ?_; (case hd => rfl); (case hg => rfl); (case hr => first | (go_simp; done) | (go_simp; rfl)); intro gb hg wq hbox hb; have BX := Aside0.mk (box_pairE (W := wr) hbox (Nat.le_of_eq hg.symm) hb (.string s) (.string t)); have qa : wq.cell? ⟨gb, 0, none⟩ = some (.string (⟨#[]⟩ : ByteArray)) := (blk_cell hbox 0).trans rfl; have qb : wq.cell? ⟨gb, 1, none⟩ = some (.string (⟨#[]⟩ : ByteArray)) := (blk_cell hbox 1).trans rfl; have ra := blk_frozen hbox 0; have rb := blk_frozen hbox 1; clear hbox hb hg))
        go_roundw
        case rel => exact ⟨a + 1, hlt, vE hlt (by have := HL.out; have := HLn.out; omega), ⟨by rw [HE1.out]; exact Kd.R_below HR.out BX.out.2⟩, ⟨HB.out.trans (BX.out.2.mono HB.out.size)⟩⟩
        case measure => exact mE hlt (by have := HL.out; have := HLn.out; omega)
    · have kb : decide ((a : Int) < (ln : Int)) = false := decide_eq_false (fun h => hlt (Int.ofNat_lt.1 h))
      have kbn : decide (a < ln) = false := decide_eq_false hlt
      have ea : a = ln := Nat.le_antisymm ha (Nat.le_of_not_lt hlt)
      clear z1
      have g0 : (gones l (min a q)).length = 0 := by rw [HQ0.out, Nat.min_zero]; rfl
      have hr8 := HR.out
      obtain ⟨A8, c8, e8⟩ := Kd.R_slice hr8
      rw [g0] at e8
      subst e8
      clear hr8 g0
      go_wp2
      go_ret
      exact ⟨rfl, H.out.below HB.out, (Only.refl _ _).below HB.out⟩
set_option maxHeartbeats 4000000 in
set_option maxRecDepth 100000 in
theorem REvict_some {q : Nat} (h : MSt S W gm m l z) (hi : ∀ k, S k → k < W.heap.size) (hN : KN l) (hl : l.length + l.length + 2 ≤ 1048576) (hsh : Short l) (hj : 0 ≤ j) (hq : q = min j.toNat l.length) (hq0 : 0 < q) (hb : (Fr.putB (gones l q)).length ≤ 274877906944) (hz : 0 ≤ z ∧ z ≤ 1099511627776) : Calls Try.prog 41 #[.pointer (some ⟨gm, 0, none⟩), .int .i64 j, .int .i64 free] W fun e W' => e = .returned (.int .i64 (writeR l z (gones l q) free).1) ∧ MSt S W' gm m (writeR l z (gones l q) free).2.1 (writeR l z (gones l q) free).2.2 ∧ Only (At1 gm) W W' := by
  have hu := Try.underlying54
  have H := Aside0.mk h
  obtain ⟨A, c, hc, hbm, he⟩ := h.at_
  have HE := Aside0.mk he
  obtain ⟨ln, hln⟩ : ∃ ln, ln = l.length := ⟨_, rfl⟩
  have HLn := Aside0.mk hln
  rw [← hln] at hbm
  have z1 : W.cell? ⟨gm, 1, none⟩ = some (.slice A ln c) := (blk_cell hbm 1).trans rfl
  have HI := Aside0.mk hi
  have HN := Aside0.mk hN
  have HL := Aside0.mk hl
  have HSh := Aside0.mk hsh
  have HBy := Aside0.mk hb
  have HZ := Aside0.mk hz
  have HQ0 := Aside0.mk hq0
  have HQl := Aside0.mk (show q ≤ l.length from by omega)
  have HQj := Aside0.mk (show ∀ a : Nat, a < l.length → (a < q ↔ (a : Int) < j) from fun a ha => by omega)
  have jb : decide (j < 0) = false := decide_eq_false (by omega)
  clear h hi hN hl hsh hj hq hq0 hb hz hc hbm he hln
  go_enter Try.func41, Try.ntmps41
  go_wp2
  go_loopw [7, 17] (fun o i wr => ∃ (a : Nat), a ≤ ln ∧ i = .int .i64 (a : Int) ∧ Aside0 (Kd.R Kd.string 9 wr W.heap.size (fun _ => True) o (gones l (min a q))) ∧ Aside0 (Below W.heap.size W wr)) (fun _ i _ => ln - (intOf i).toNat)
  case atStart => exact ⟨0, Nat.zero_le _, rfl, ⟨by rw [Nat.zero_min]; exact Kd.R_nil _ _ _ _ _⟩, ⟨Below.refl _ _⟩⟩
  case round =>
    obtain ⟨a, ha, rfl, HR, HB⟩ := hrel
    by_cases hlt : a < ln
    · have kb : decide ((a : Int) < (ln : Int)) = true := decide_eq_true (Int.ofNat_lt.2 hlt)
      have kbn : decide (a < ln) = true := decide_eq_true hlt
      have hal : a < l.length := by rw [← HLn.out]; exact hlt
      obtain ⟨ad, rfl, y0, y1⟩ := HE.out.cells hal
      have a0 := pw_cell_below HB.out y0
      have a1 := pw_cell_below HB.out y1
      have HG := Aside0.mk (gones_step hal)
      have HKs := Aside0.mk (show (l[a]'hal).f0.size ≤ 274877906944 from Nat.le_trans (HSh.out _ (List.getElem_mem hal)) (by decide))
      clear y0 y1 z1
      obtain ⟨s, hs⟩ : ∃ s, s = (l[a]'hal).f0 := ⟨_, rfl⟩
      obtain ⟨t, ht⟩ : ∃ t, t = (l[a]'hal).f1 := ⟨_, rfl⟩
      rw [← hs] at a0 HG HKs
      rw [← ht] at a1
      clear hs ht
      by_cases hq : a < q
      · have jb2 : decide ((a : Int) < j) = true := decide_eq_true ((HQj.out a hal).1 hq)
        have em : min a q = a := Nat.min_eq_left (Nat.le_of_lt hq)
        have em1 : min (a + 1) q = a + 1 := Nat.min_eq_left hq
        rw [em] at HR
        have HE1 := Aside0.mk em1
        clear em em1
        go_wp2_with (first
          | ((with_reducible refine gate_dst (N := 9) rfl ?_); refine box_event ?hg (N := 9) ?hd (cs := #[.string (⟨#[]⟩ : ByteArray), .string (⟨#[]⟩ : ByteArray)]) (t := 54) ?hr ?_; (case hd => rfl); (case hg => rfl); (case hr => first | (go_simp; done) | (go_simp; rfl)); intro gb hg wq hbox hb; have BX := Aside0.mk (box_pairE (W := wr) hbox (Nat.le_of_eq hg.symm) hb (.string s) (.string t)); have qa : wq.cell? ⟨gb, 0, none⟩ = some (.string (⟨#[]⟩ : ByteArray)) := (blk_cell hbox 0).trans rfl; have qb : wq.cell? ⟨gb, 1, none⟩ = some (.string (⟨#[]⟩ : ByteArray)) := (blk_cell hbox 1).trans rfl; have ra := blk_frozen hbox 0; have rb := blk_frozen hbox 1; clear hbox hb hg)
          | (go_at_call 26; refine (RGone_Q _ s HKs.out).mono ?_; rintro e w5 ⟨rfl, hb⟩; replace hb := BX.out.2.trans (hb.mono BX.out.2.size); have HB5 := Aside0.mk (HB.out.trans (hb.mono HB.out.size)); have HR5 := Aside0.mk (Kd.R_below HR.out hb); clear hb BX)
          | ((with_reducible refine gate_builtin (b := .append) (xs := #[.tmp 25, .tmp 29]) rfl ?_); (try (refine gate_guard (by rfl) ?_; dsimp only)); at_builtin; refine Kd.R_append Kd.string (w0 := W) W.heap.size rfl (.tmp 25) (.tmp 29) 22 9 (.string ⟨#[]⟩) 16 rfl Try.underlying22 infoS rfl (by decide) (by decide) u7 (gones l a) (recG s) [.string (recG s)] (fun _ => True) (fun _ => False) rfl rfl rfl (fun _ h => h.elim) (fun _ _ => trivial) HR5.out HB5.out HB5.out.size (gones_len l a (by have := HL.out; omega)) ?_; intro v1 w6 hr5 hb5 hg5 hat5; have HR6 := Aside0.mk hr5; have HB6 := Aside0.mk hb5; clear hr5 hb5 hg5 hat5))
        go_roundw
        case rel => exact ⟨a + 1, hlt, vE hlt (by have := HL.out; have := HLn.out; omega), ⟨by rw [HE1.out, HG.out]; exact HR6.out⟩, HB6⟩
        case measure => exact mE hlt (by have := HL.out; have := HLn.out; omega)
      · have jb2 : decide ((a : Int) < j) = false := decide_eq_false (fun h => hq ((HQj.out a hal).2 h))
        have HE1 := Aside0.mk (show min (a + 1) q = min a q from by omega)
        go_wp2_with (first
          | ((with_reducible refine gate_dst (N := 9) rfl ?_); refine box_event ?hg (N := 9) ?hd (cs := #[.string (⟨#[]⟩ : ByteArray), .string (⟨#[]⟩ : ByteArray)]) (t := 54) ?hr ?_; (case hd => rfl); (case hg => rfl); (case hr => first | (go_simp; done) | (go_simp; rfl)); intro gb hg wq hbox hb; have BX := Aside0.mk (box_pairE (W := wr) hbox (Nat.le_of_eq hg.symm) hb (.string s) (.string t)); have qa : wq.cell? ⟨gb, 0, none⟩ = some (.string (⟨#[]⟩ : ByteArray)) := (blk_cell hbox 0).trans rfl; have qb : wq.cell? ⟨gb, 1, none⟩ = some (.string (⟨#[]⟩ : ByteArray)) := (blk_cell hbox 1).trans rfl; have ra := blk_frozen hbox 0; have rb := blk_frozen hbox 1; clear hbox hb hg))
        go_roundw
        case rel => exact ⟨a + 1, hlt, vE hlt (by have := HL.out; have := HLn.out; omega), ⟨by rw [HE1.out]; exact Kd.R_below HR.out BX.out.2⟩, ⟨HB.out.trans (BX.out.2.mono HB.out.size)⟩⟩
        case measure => exact mE hlt (by have := HL.out; have := HLn.out; omega)
    · have kb : decide ((a : Int) < (ln : Int)) = false := decide_eq_false (fun h => hlt (Int.ofNat_lt.1 h))
      have kbn : decide (a < ln) = false := decide_eq_false hlt
      have ea : a = ln := Nat.le_antisymm ha (Nat.le_of_not_lt hlt)
      clear z1
      have eg : min a q = q := by have := HQl.out; have := HLn.out; omega
      have hr8 := HR.out
      rw [eg] at hr8
      obtain ⟨A8, c8, e8⟩ := Kd.R_slice hr8
      have hgl : (gones l q).length = q := by rw [gones_length]; have := HQl.out; omega
      rw [hgl] at e8
      rw [e8] at hr8
      have hC8 := R_strs8 hr8
      have HR8 := Aside0.mk hr8
      have HT8 := Aside0.mk (TRow.of (S := S) hr8 (fun i hi => HI.out i hi))
      subst e8
      have eq0 : ((q : Int) == 0) = false := beq_eq_false_iff_ne.mpr (by have := HQ0.out; omega)
      have eq1 : (q == 0) = false := beq_eq_false_iff_ne.mpr (by have := HQ0.out; omega)
      clear hr8 hgl eg HR
      go_wp2_with (first
        | (go_at_call 66; refine (RWrite_Q (H.out.below HB.out) (fun k hk => Nat.lt_of_lt_of_le (HI.out k hk) HB.out.size) HT8.out hC8 (Good.gones HSh.out q) HN.out (by rw [gones_length]; have := HL.out; omega) HBy.out HZ.out).mono ?_; rintro e w3 ⟨rfl, h3, h4⟩; have H3 := Aside0.mk h3; have HO := Aside0.mk h4; clear h3 h4))
      go_ret
      exact ⟨rfl, H3.out, (((Only.refl (At1 gm) W).below HB.out).trans HO.out)⟩
set_option maxHeartbeats 4000000 in
set_option maxRecDepth 100000 in
theorem REvict_neg (hj : j < 0) : Calls Try.prog 41 #[.pointer (some ⟨gm, 0, none⟩), .int .i64 j, .int .i64 free] W fun e W' => e = .returned (.int .i64 1) ∧ Below W.heap.size W W' := by
  have jb : decide (j < 0) = true := decide_eq_true hj
  clear hj
  go_enter Try.func41, Try.ntmps41
  go_wp2
  go_ret
  exact ⟨rfl, Below.refl _ _⟩
theorem REvict_M (h : MSt S W gm m l z) (hi : ∀ k, S k → k < W.heap.size) (hN : KN l) (hl : l.length + l.length + 2 ≤ 1048576) (hsh : Short l) (hb : (Fr.putB (gones l (min j.toNat l.length))).length ≤ 274877906944) (hz : 0 ≤ z ∧ z ≤ 1099511627776) : Calls Try.prog 41 #[.pointer (some ⟨gm, 0, none⟩), .int .i64 j, .int .i64 free] W fun e W' => e = .returned (.int .i64 (evictR l z j free).1) ∧ MSt S W' gm m (evictR l z j free).2.1 (evictR l z j free).2.2 ∧ Only (At1 gm) W W' := by
  unfold evictR
  by_cases c : j < 0
  · rw [if_pos c]
    refine (REvict_neg c).mono ?_
    rintro e W' ⟨rfl, hb⟩
    exact ⟨rfl, h.below hb, (Only.refl _ _).below hb⟩
  rw [if_neg c]
  by_cases c0 : min j.toNat l.length = 0
  · rw [if_pos c0]
    exact REvict_none h hi hN hl hsh (by omega) rfl c0 hb hz
  · rw [if_neg c0]
    exact REvict_some h hi hN hl hsh (by omega) rfl (by omega) hb hz
set_option maxHeartbeats 4000000 in
set_option maxRecDepth 100000 in
theorem RCompact_full (h : MSt S W gm m l z) (hi : ∀ k, S k → k < W.heap.size) (hl : l.length + l.length + 2 ≤ 1048576) (hft : Fit l) (hb : (Fr.putB (allRecs l)).length ≤ 274877906944) (hf : free < ((Fr.putB (allRecs l)).length : Int)) : Calls Try.prog 42 #[.pointer (some ⟨gm, 0, none⟩), .int .i64 free] W fun e W' => e = .returned (.int .i64 6) ∧ Below W.heap.size W W' := by
  have hu := Try.underlying54
  have H := Aside0.mk h
  obtain ⟨A, c, hc, hbm, he⟩ := h.at_
  have HE := Aside0.mk he
  obtain ⟨ln, hln⟩ : ∃ ln, ln = l.length := ⟨_, rfl⟩
  have HLn := Aside0.mk hln
  rw [← hln] at hbm
  have z1 : W.cell? ⟨gm, 1, none⟩ = some (.slice A ln c) := (blk_cell hbm 1).trans rfl
  have HI := Aside0.mk hi
  have HL := Aside0.mk hl
  have HFt := Aside0.mk hft
  have HGd := Aside0.mk (Good.all hft)
  have HBy := Aside0.mk hb
  obtain ⟨bn, hbn⟩ : ∃ bn, bn = (Fr.putB (allRecs l)).length := ⟨_, rfl⟩
  have HBn := Aside0.mk hbn
  rw [← hbn] at hf
  have fb : decide (free < (bn : Int)) = true := decide_eq_true hf
  clear h hi hl hft hb hc hbm he hln hf hbn
  go_enter Try.func42, Try.ntmps42
  go_wp2
  go_loopw [5, 13] (fun o i wr => ∃ (a : Nat), a ≤ ln ∧ i = .int .i64 (a : Int) ∧ Aside0 (Kd.R Kd.string 9 wr W.heap.size (fun _ => True) o (allRecs (l.take a))) ∧ Aside0 (Below W.heap.size W wr)) (fun _ i _ => ln - (intOf i).toNat)
  case atStart => exact ⟨0, Nat.zero_le _, rfl, ⟨Kd.R_nil _ _ _ _ _⟩, ⟨Below.refl _ _⟩⟩
  case round =>
    obtain ⟨a, ha, rfl, HR, HB⟩ := hrel
    by_cases hlt : a < ln
    · have kb : decide ((a : Int) < (ln : Int)) = true := decide_eq_true (Int.ofNat_lt.2 hlt)
      have kbn : decide (a < ln) = true := decide_eq_true hlt
      have hal : a < l.length := by rw [← HLn.out]; exact hlt
      obtain ⟨ad, rfl, y0, y1⟩ := HE.out.cells hal
      have a0 := pw_cell_below HB.out y0
      have a1 := pw_cell_below HB.out y1
      have HG := Aside0.mk (all_step hal)
      have HKs := Aside0.mk (show (l[a]'hal).f0.size + (l[a]'hal).f1.size ≤ 274877906944 from by have := HFt.out _ (List.getElem_mem hal); rw [recP_size] at this; omega)
      have HLe := Aside0.mk (show ((allRecs (l.take a)).length + 1) * 16 ≤ 140737488355328 from by rw [all_len, List.length_take]; have := HL.out; omega)
      clear y0 y1 z1
      obtain ⟨s, hs⟩ : ∃ s, s = (l[a]'hal).f0 := ⟨_, rfl⟩
      obtain ⟨t, ht⟩ : ∃ t, t = (l[a]'hal).f1 := ⟨_, rfl⟩
      rw [← hs] at a0 HG HKs
      rw [← ht] at a1 HG HKs
      clear hs ht
      go_wp2_with (first
        | ((with_reducible refine gate_dst (N := 7) rfl ?_); refine box_event ?hg (N := 7) ?hd (cs := #[.string (⟨#[]⟩ : ByteArray), .string (⟨#[]⟩ : ByteArray)]) (t := 54) ?hr ?_; (case hd => rfl); (case hg => rfl); (case hr => first | (go_simp; done) | (go_simp; rfl)); intro gb hg wq hbox hb; have BX := Aside0.mk (box_pairE (W := wr) hbox (Nat.le_of_eq hg.symm) hb (.string s) (.string t)); have qa : wq.cell? ⟨gb, 0, none⟩ = some (.string (⟨#[]⟩ : ByteArray)) := (blk_cell hbox 0).trans rfl; have qb : wq.cell? ⟨gb, 1, none⟩ = some (.string (⟨#[]⟩ : ByteArray)) := (blk_cell hbox 1).trans rfl; have ra := blk_frozen hbox 0; have rb := blk_frozen hbox 1; clear hbox hb hg)
        | (go_at_call 24; refine (RRec_Q _ s t HKs.out).mono ?_; rintro e w5 ⟨rfl, hb⟩; replace hb := BX.out.2.trans (hb.mono BX.out.2.size); have HB5 := Aside0.mk (HB.out.trans (hb.mono HB.out.size)); have HR5 := Aside0.mk (Kd.R_below HR.out hb); clear hb BX)
        | ((with_reducible refine gate_builtin (b := .append) (xs := #[.tmp 17, .tmp 20]) rfl ?_); (try (refine gate_guard (by rfl) ?_; dsimp only)); at_builtin; refine Kd.R_append Kd.string (w0 := W) W.heap.size rfl (.tmp 17) (.tmp 20) 22 9 (.string ⟨#[]⟩) 16 rfl Try.underlying22 infoS rfl (by decide) (by decide) u5 (allRecs (l.take a)) (recP s t) [.string (recP s t)] (fun _ => True) (fun _ => False) rfl rfl rfl (fun _ h => h.elim) (fun _ _ => trivial) HR5.out HB5.out HB5.out.size HLe.out ?_; intro v1 w6 hr5 hb5 hg5 hat5; have HR6 := Aside0.mk hr5; have HB6 := Aside0.mk hb5; clear hr5 hb5 hg5 hat5))
      go_roundw
      case rel => exact ⟨a + 1, hlt, vE hlt (by have := HL.out; have := HLn.out; omega), ⟨by rw [HG.out]; exact HR6.out⟩, HB6⟩
      case measure => exact mE hlt (by have := HL.out; have := HLn.out; omega)
    · have kb : decide ((a : Int) < (ln : Int)) = false := decide_eq_false (fun h => hlt (Int.ofNat_lt.1 h))
      have kbn : decide (a < ln) = false := decide_eq_false hlt
      have ea : a = l.length := by have := HLn.out; omega
      have hr8 := HR.out
      rw [ea, List.take_length] at hr8
      obtain ⟨A8, c8, e8⟩ := Kd.R_slice hr8
      rw [all_len] at e8
      rw [e8] at hr8
      have hC8 := R_strs8 hr8
      have HT8 := Aside0.mk (TRow.of (S := S) hr8 (fun i hi => HI.out i hi))
      subst e8
      obtain ⟨n8, hn8⟩ : ∃ n8, n8 = l.length := ⟨_, rfl⟩
      rw [← hn8] at hC8 HT8
      rw [← hn8]
      clear hr8 HR ea hn8 z1
      go_wp2_with (first
        | (go_at_call 67; refine (RBytes_Q (TRow.below HT8.out (by first | exact Below.refl _ _ | exact HQ9.out)) hC8 HGd.out (by rw [all_len]; have := HL.out; omega) HBy.out).mono ?_; rintro e w9 ⟨rfl, hb⟩; rw [← HBn.out]; first | (have HQ10 := Aside0.mk (HQ9.out.trans (hb.mono HQ9.out.size)); have HB10 := Aside0.mk (HB.out.trans (HQ10.out.mono HB.out.size)); have HM10 := Aside0.mk (H.out.below HB10.out); obtain ⟨A5, c5, hc5, hb5, he5⟩ := HM10.out.at_; have z2 := (blk_cell hb5 2); have f2 := blk_frozen hb5 2; clear hb hc5 he5 hb5) | (have HQ9 := Aside0.mk hb; clear hb)))
      go_ret
      exact ⟨rfl, HB.out.trans (HQ9.out.mono HB.out.size)⟩
set_option maxHeartbeats 4000000 in
set_option maxRecDepth 100000 in
theorem RCompact_ok (h : MSt S W gm m l z) (hi : ∀ k, S k → k < W.heap.size) (hl : l.length + l.length + 2 ≤ 1048576) (hft : Fit l) (hb : (Fr.putB (allRecs l)).length ≤ 274877906944) (hf : ¬ free < ((Fr.putB (allRecs l)).length : Int)) : Calls Try.prog 42 #[.pointer (some ⟨gm, 0, none⟩), .int .i64 free] W fun e W' => e = .returned (.int .i64 0) ∧ MSt S W' gm m l ((Fr.putB (allRecs l)).length : Int) ∧ Only (At1 gm) W W' := by
  have hu := Try.underlying54
  have H := Aside0.mk h
  obtain ⟨A, c, hc, hbm, he⟩ := h.at_
  have HE := Aside0.mk he
  obtain ⟨ln, hln⟩ : ∃ ln, ln = l.length := ⟨_, rfl⟩
  have HLn := Aside0.mk hln
  rw [← hln] at hbm
  have z1 : W.cell? ⟨gm, 1, none⟩ = some (.slice A ln c) := (blk_cell hbm 1).trans rfl
  have HI := Aside0.mk hi
  have HL := Aside0.mk hl
  have HFt := Aside0.mk hft
  have HGd := Aside0.mk (Good.all hft)
  have HBy := Aside0.mk hb
  obtain ⟨bn, hbn⟩ : ∃ bn, bn = (Fr.putB (allRecs l)).length := ⟨_, rfl⟩
  have HBn := Aside0.mk hbn
  rw [← hbn] at hf
  rw [← hbn]
  have fb : decide (free < (bn : Int)) = false := decide_eq_false hf
  clear h hi hl hft hb hc hbm he hln hf hbn
  go_enter Try.func42, Try.ntmps42
  go_wp2
  go_loopw [5, 13] (fun o i wr => ∃ (a : Nat), a ≤ ln ∧ i = .int .i64 (a : Int) ∧ Aside0 (Kd.R Kd.string 9 wr W.heap.size (fun _ => True) o (allRecs (l.take a))) ∧ Aside0 (Below W.heap.size W wr)) (fun _ i _ => ln - (intOf i).toNat)
  case atStart => exact ⟨0, Nat.zero_le _, rfl, ⟨Kd.R_nil _ _ _ _ _⟩, ⟨Below.refl _ _⟩⟩
  case round =>
    obtain ⟨a, ha, rfl, HR, HB⟩ := hrel
    by_cases hlt : a < ln
    · have kb : decide ((a : Int) < (ln : Int)) = true := decide_eq_true (Int.ofNat_lt.2 hlt)
      have kbn : decide (a < ln) = true := decide_eq_true hlt
      have hal : a < l.length := by rw [← HLn.out]; exact hlt
      obtain ⟨ad, rfl, y0, y1⟩ := HE.out.cells hal
      have a0 := pw_cell_below HB.out y0
      have a1 := pw_cell_below HB.out y1
      have HG := Aside0.mk (all_step hal)
      have HKs := Aside0.mk (show (l[a]'hal).f0.size + (l[a]'hal).f1.size ≤ 274877906944 from by have := HFt.out _ (List.getElem_mem hal); rw [recP_size] at this; omega)
      have HLe := Aside0.mk (show ((allRecs (l.take a)).length + 1) * 16 ≤ 140737488355328 from by rw [all_len, List.length_take]; have := HL.out; omega)
      clear y0 y1 z1
      obtain ⟨s, hs⟩ : ∃ s, s = (l[a]'hal).f0 := ⟨_, rfl⟩
      obtain ⟨t, ht⟩ : ∃ t, t = (l[a]'hal).f1 := ⟨_, rfl⟩
      rw [← hs] at a0 HG HKs
      rw [← ht] at a1 HG HKs
      clear hs ht
      go_wp2_with (first
        | ((with_reducible refine gate_dst (N := 7) rfl ?_); refine box_event ?hg (N := 7) ?hd (cs := #[.string (⟨#[]⟩ : ByteArray), .string (⟨#[]⟩ : ByteArray)]) (t := 54) ?hr ?_; (case hd => rfl); (case hg => rfl); (case hr => first | (go_simp; done) | (go_simp; rfl)); intro gb hg wq hbox hb; have BX := Aside0.mk (box_pairE (W := wr) hbox (Nat.le_of_eq hg.symm) hb (.string s) (.string t)); have qa : wq.cell? ⟨gb, 0, none⟩ = some (.string (⟨#[]⟩ : ByteArray)) := (blk_cell hbox 0).trans rfl; have qb : wq.cell? ⟨gb, 1, none⟩ = some (.string (⟨#[]⟩ : ByteArray)) := (blk_cell hbox 1).trans rfl; have ra := blk_frozen hbox 0; have rb := blk_frozen hbox 1; clear hbox hb hg)
        | (go_at_call 24; refine (RRec_Q _ s t HKs.out).mono ?_; rintro e w5 ⟨rfl, hb⟩; replace hb := BX.out.2.trans (hb.mono BX.out.2.size); have HB5 := Aside0.mk (HB.out.trans (hb.mono HB.out.size)); have HR5 := Aside0.mk (Kd.R_below HR.out hb); clear hb BX)
        | ((with_reducible refine gate_builtin (b := .append) (xs := #[.tmp 17, .tmp 20]) rfl ?_); (try (refine gate_guard (by rfl) ?_; dsimp only)); at_builtin; refine Kd.R_append Kd.string (w0 := W) W.heap.size rfl (.tmp 17) (.tmp 20) 22 9 (.string ⟨#[]⟩) 16 rfl Try.underlying22 infoS rfl (by decide) (by decide) u5 (allRecs (l.take a)) (recP s t) [.string (recP s t)] (fun _ => True) (fun _ => False) rfl rfl rfl (fun _ h => h.elim) (fun _ _ => trivial) HR5.out HB5.out HB5.out.size HLe.out ?_; intro v1 w6 hr5 hb5 hg5 hat5; have HR6 := Aside0.mk hr5; have HB6 := Aside0.mk hb5; clear hr5 hb5 hg5 hat5))
      go_roundw
      case rel => exact ⟨a + 1, hlt, vE hlt (by have := HL.out; have := HLn.out; omega), ⟨by rw [HG.out]; exact HR6.out⟩, HB6⟩
      case measure => exact mE hlt (by have := HL.out; have := HLn.out; omega)
    · have kb : decide ((a : Int) < (ln : Int)) = false := decide_eq_false (fun h => hlt (Int.ofNat_lt.1 h))
      have kbn : decide (a < ln) = false := decide_eq_false hlt
      have ea : a = l.length := by have := HLn.out; omega
      have hr8 := HR.out
      rw [ea, List.take_length] at hr8
      obtain ⟨A8, c8, e8⟩ := Kd.R_slice hr8
      rw [all_len] at e8
      rw [e8] at hr8
      have hC8 := R_strs8 hr8
      have HT8 := Aside0.mk (TRow.of (S := S) hr8 (fun i hi => HI.out i hi))
      subst e8
      obtain ⟨n8, hn8⟩ : ∃ n8, n8 = l.length := ⟨_, rfl⟩
      rw [← hn8] at hC8 HT8
      rw [← hn8]
      clear hr8 HR ea hn8 z1
      go_wp2_with (first
        | (go_at_call 67; refine (RBytes_Q (TRow.below HT8.out (by first | exact Below.refl _ _ | exact HQ9.out)) hC8 HGd.out (by rw [all_len]; have := HL.out; omega) HBy.out).mono ?_; rintro e w9 ⟨rfl, hb⟩; rw [← HBn.out]; first | (have HQ10 := Aside0.mk (HQ9.out.trans (hb.mono HQ9.out.size)); have HB10 := Aside0.mk (HB.out.trans (HQ10.out.mono HB.out.size)); have HM10 := Aside0.mk (H.out.below HB10.out); obtain ⟨A5, c5, hc5, hb5, he5⟩ := HM10.out.at_; have z2 := (blk_cell hb5 2); have f2 := blk_frozen hb5 2; clear hb hc5 he5 hb5) | (have HQ9 := Aside0.mk hb; clear hb)))
      go_ret
      exact ⟨rfl, HM10.out.sized _, only_set1 ((Only.refl (At1 gm) W).below HB10.out) _ _⟩
theorem RCompact_M (h : MSt S W gm m l z) (hi : ∀ k, S k → k < W.heap.size) (hl : l.length + l.length + 2 ≤ 1048576) (hft : Fit l) (hb : (Fr.putB (allRecs l)).length ≤ 274877906944) : Calls Try.prog 42 #[.pointer (some ⟨gm, 0, none⟩), .int .i64 free] W fun e W' => e = .returned (.int .i64 (compactR l z free).1) ∧ MSt S W' gm m l (compactR l z free).2 ∧ Only (At1 gm) W W' := by
  unfold compactR
  by_cases c : free < ((Fr.putB (allRecs l)).length : Int)
  · rw [if_pos c]
    refine (RCompact_full h hi hl hft hb c).mono ?_
    rintro e W' ⟨rfl, hb⟩
    exact ⟨rfl, h.below hb, (Only.refl _ _).below hb⟩
  · rw [if_neg c]
    exact RCompact_ok h hi hl hft hb c
end
structure KDM (S1 S2 S3 : Nat → Prop) (B : Nat) (W : World) (gd g gm : Nat) (d : DS) (n : ByteArray) (m : Int) (l : List E) (mm : Int) (ml : List E) (z : Int) : Prop where
  kd : KD S1 S2 B W gd g d n m l
  ms : MSt (U (U S1 S2) S3) W gm mm ml z
  own : S3 gm
  dis : ∀ k, U S1 S2 k → ¬ S3 k
  hi : ∀ k, S3 k → k < W.heap.size
  lo : ∀ k, S3 k → B ≤ k
section
variable {S1 S2 S3 S1' S2' T : Nat → Prop} {B : Nat} {W W' : World} {gd g gm : Nat} {d d' : DS} {n : ByteArray} {m mm z z' : Int} {l l' ml ml' : List E}
theorem KDM.hiU (h : KDM S1 S2 S3 B W gd g gm d n m l mm ml z) : ∀ k, U (U S1 S2) S3 k → k < W.heap.size := fun k hk => hk.elim (fun hk => hk.elim (h.kd.dev.hi k) (h.kd.st.hi k)) (h.hi k)
theorem KDM.loU (h : KDM S1 S2 S3 B W gd g gm d n m l mm ml z) : ∀ k, U (U S1 S2) S3 k → B ≤ k := fun k hk => hk.elim (fun hk => hk.elim (h.kd.dev.lo k) (h.kd.st.lo k)) (h.lo k)
theorem KDM.below (h : KDM S1 S2 S3 B W gd g gm d n m l mm ml z) (hb : Below W.heap.size W W') : KDM S1 S2 S3 B W' gd g gm d n m l mm ml z := ⟨h.kd.below hb, h.ms.below hb, h.own, h.dis, fun k hk => Nat.lt_of_lt_of_le (h.hi k hk) hb.size, h.lo⟩
theorem KDM.dev (h : KDM S1 S2 S3 B W gd g gm d n m l mm ml z) (hk : KD S1' S2' B W' gd g d' n m l') (st : Step (U S1 S2) W (U S1' S2') W') : KDM S1' S2' S3 B W' gd g gm d' n m l' mm ml z ∧ Step (U (U S1 S2) (At1 gm)) W (U (U S1' S2') (At1 gm)) W' := by
  have h1 : Step (U (U S1 S2) S3) W (U (U S1' S2') S3) W' := Step.left st
  have h2 : ∀ k, U S1' S2' k → ¬ S3 k := fun k hk h3 => Step.disj st (fun k h3 hk => h.dis k hk h3) h.hi k h3 hk
  exact ⟨⟨hk, h.ms.step h1 (st.only.block gm h.ms.lt (fun hk => h.dis gm hk h.own)) (.inr h.own), h.own, h2, fun k hk => Nat.lt_of_lt_of_le (h.hi k hk) st.only.size, h.lo⟩, Step.left st⟩
theorem Step.wide {P P' : Nat → Prop} (h : Step (U P (At1 gm)) W (U P' (At1 gm)) W') (ho : S3 gm) : Step (U P S3) W (U P' S3) W' :=
  ⟨h.only.mono (fun k hk => hk.elim .inl (fun e => .inr (by have e : k = gm := e; rw [e]; exact ho))), fun k hk => hk.elim (fun hk => (h.sub k (.inl hk)).elim (fun h => .inl (h.elim .inl (fun e => .inr (by have e : k = gm := e; rw [e]; exact ho)))) .inr) (fun hk => .inl (.inr hk))⟩
theorem KDM.hiA (h : KDM S1 S2 S3 B W gd g gm d n m l mm ml z) : ∀ k, U (U S1 S2) (At1 gm) k → k < W.heap.size := fun k hk => hk.elim (fun hk => h.hiU k (.inl hk)) (fun e => by have e : k = gm := e; rw [e]; exact h.ms.lt)
theorem KDM.ref (h : KDM S1 S2 S3 B W gd g gm d n m l mm ml z) (hm : MSt (U (U S1 S2) S3) W' gm mm ml' z') (ho : Only (At1 gm) W W') : KDM S1 S2 S3 B W' gd g gm d n m l mm ml' z' ∧ Step (U (U S1 S2) (At1 gm)) W (U (U S1 S2) (At1 gm)) W' := by
  have hg1 : ∀ k, S1 k → ¬ At1 gm k := fun k hk e => by subst e; exact h.dis _ (.inl hk) h.own
  have hg2 : ∀ k, S2 k → ¬ At1 gm k := fun k hk e => by subst e; exact h.dis _ (.inr hk) h.own
  exact ⟨⟨⟨h.kd.dev.other ho hg1, h.kd.st.other ho hg2, h.kd.dis, Nat.le_trans h.kd.size ho.size⟩, hm, h.own, h.dis, fun k hk => Nat.lt_of_lt_of_le (h.hi k hk) ho.size, h.lo⟩, ⟨ho.mono (fun k e => .inr e), fun _ hk => .inl hk⟩⟩
end
instance : DecidableEq E := fun a b => decidable_of_iff (a.f0 = b.f0 ∧ a.f1 = b.f1) ⟨fun h => by obtain ⟨a0, a1⟩ := a; obtain ⟨b0, b1⟩ := b; obtain ⟨h0, h1⟩ := h; cases h0; cases h1; rfl, fun h => by rw [h]; exact ⟨rfl, rfl⟩⟩
theorem getE_mem {l : List E} (hN : KN l) {e : E} (he : e ∈ l) : getE l e.f0 = some e.f1 := by
  unfold getE
  induction l with
  | nil => cases he
  | cons x r ih =>
    rw [List.find?_cons]
    unfold KN at hN
    rw [List.map_cons, List.nodup_cons] at hN
    rcases List.mem_cons.1 he with rfl | he
    · simp
    · have hne : x.f0 ≠ e.f0 := fun h => hN.1 (by rw [h]; exact List.mem_map.2 ⟨e, he, rfl⟩)
      rw [decide_eq_false hne]
      exact ih hN.2 he
theorem has_eq {l l2 : List E} (hN : KN l) (hk : keysE l = keysE l2) (hv : ∀ i (hi : i < l2.length), getE l (l2[i]).f0 = some (l2[i]).f1) : l = l2 := by
  have hlen : l.length = l2.length := by
    have := congrArg List.length hk
    unfold keysE at this
    rwa [List.length_map, List.length_map] at this
  refine List.ext_getElem hlen (fun i h1 h2 => ?_)
  have hki : (l[i]).f0 = (l2[i]).f0 := by
    have h3 : (keysE l)[i]'(by unfold keysE; rw [List.length_map]; exact h1) = (keysE l2)[i]'(by unfold keysE; rw [List.length_map]; exact h2) := by simp only [hk]
    unfold keysE at h3
    rwa [List.getElem_map, List.getElem_map] at h3
  have h4 := hv i h2
  rw [← hki, getE_mem hN (List.getElem_mem h1)] at h4
  injection h4 with h4
  show (⟨(l[i]).f0, (l[i]).f1⟩ : E) = ⟨(l2[i]).f0, (l2[i]).f1⟩
  rw [hki, h4]
theorem RKeys_Q (W : World) {A : Option Addr} {c n : Nat} {l : List E} (hn : n = l.length) (hC : Kd.C kE W A l.length l) (hc : l.length ≤ c) (hl : l.length ≤ 1048576) : Calls Try.prog 44 #[.slice A n c] W fun e W' => ∃ A' c', e = .returned (.slice A' (keysE l).length c') ∧ (keysE l).length ≤ c' ∧ Kd.C Kd.string W' A' (keysE l).length (keysE l) ∧ Below W.heap.size W W' := by
  subst hn
  obtain ⟨K, hK⟩ := rkeys_ev l hl
  refine (seicheref05_Keys.calls K A c l _ W hC hc (hK K (Nat.le_refl _))).mono ?_
  rintro e W' ⟨v, rfl, hR, hb⟩
  obtain ⟨A', c', rfl⟩ := Kd.R_slice hR
  exact ⟨A', c', rfl, R_strs8 hR, (Kd.R_reads' hR).2.2, hb⟩
theorem RSame_Q (W : World) {A1 A2 : Option Addr} {c1 c2 : Nat} {a b : List ByteArray} (h1 : Kd.C Kd.string W A1 a.length a) (hc1 : a.length ≤ c1) (h2 : Kd.C Kd.string W A2 b.length b) (hc2 : b.length ≤ c2) (ha : a.length ≤ 1048576) : Calls Try.prog 43 #[.slice A1 a.length c1, .slice A2 b.length c2] W fun e W' => e = .returned (.bool (decide (a = b))) ∧ Below W.heap.size W W' := by
  obtain ⟨K, hK⟩ := rsame_ev a b ha
  refine (seicheref01_Same.calls K A1 c1 a A2 c2 b _ W h1 hc1 h2 hc2 (hK K (Nat.le_refl _))).mono ?_
  rintro e W' ⟨rfl, hd⟩
  exact ⟨rfl, hd.below⟩
theorem at_ent {W : World} {A : Option Addr} {l : List E} (h : Kd.C kE W A l.length l) {i : Nat} (hi : i < l.length) : ∃ ad : Addr, A = some ad ∧ W.cell? (ad.add (i * 2)) = some (.string (l[i]).f0) ∧ W.cell? ⟨(ad.add (i * 2)).block, (ad.add (i * 2)).off + 1, none⟩ = some (.string (l[i]).f1) := by
  obtain ⟨ad, e, h0, h1⟩ := at_T54 h (i : Int) (by omega) (by omega)
  rw [show rd_T54 l (i : Int) = l[i] from rdE_eq hi, Int.toNat_natCast] at h0 h1
  exact ⟨ad, e, h0, h1⟩
theorem has_step {l l2 : List E} {a : Nat} (h : ∀ i (hi : i < l2.length), i < a → getE l (l2[i]).f0 = some (l2[i]).f1) (ha : a < l2.length) (h1 : getE l (l2[a]).f0 = some (l2[a]).f1) : ∀ i (hi : i < l2.length), i < a + 1 → getE l (l2[i]).f0 = some (l2[i]).f1 := fun i hi h2 => by
  rcases Nat.lt_or_ge i a with h3 | h3
  · exact h i hi h3
  · have : i = a := by omega
    subst this
    exact h1
theorem box_three {W W6 : World} {gb : Nat} {u0 u1 u2 : Value} (h : W6.heap[gb]? = some (.cells #[u0, u1, u2] 40 (0, 0))) (hg : W.heap.size ≤ gb) (hb : Below W.heap.size W W6) (v0 v1 v2 : Value) :
    (((W6.setCell ⟨gb, 0, none⟩ v0).setCell ⟨gb, 1, none⟩ v1).setCell ⟨gb, 2, none⟩ v2).heap[gb]? = some (.cells #[v0, v1, v2] 40 (0, 0)) ∧ Below W.heap.size W (((W6.setCell ⟨gb, 0, none⟩ v0).setCell ⟨gb, 1, none⟩ v1).setCell ⟨gb, 2, none⟩ v2) := by
  refine ⟨?_, below_set (below_set (below_set hb hg) hg) hg⟩
  rw [blk_set (blk_set (blk_set h 0 v0) 1 v1) 2 v2]
  simp only [List.setIfInBounds_toArray, List.set_cons_zero, List.set_cons_succ]
section
variable {S : Nat → Prop} {B : Nat} {W : World} {gd g gm : Nat} {n : ByteArray} {m z : Int} {l l2 : List E} {A : Option Addr} {c q : Nat}
theorem getS {g gd : Nat} (h : KSt S B W g gd n m l) (s : ByteArray) (hl : l.length ≤ 1048576) : Calls Try.prog 12 #[.pointer (some ⟨g, 0, none⟩), .string s] W fun e w' => e = .returned (.tuple #[.string ((getE l s).getD ⟨#[]⟩), .bool (getE l s).isSome]) ∧ Below W.heap.size W w' := by
  obtain ⟨v, hv⟩ := h.at_
  exact Get_Q hv s hl
set_option maxHeartbeats 4000000 in
set_option maxRecDepth 100000 in
theorem has_keys (h : KSt S B W g gd n m l) (hN : KN l) (hq : q = l2.length) (hC : Kd.C kE W A l2.length l2) (hc : l2.length ≤ c) (hl : l.length ≤ 1048576) (hl2 : l2.length ≤ 1048576) (hk : keysE l ≠ keysE l2) : Calls Try.prog 17 #[.pointer (some ⟨g, 0, none⟩), .slice A q c] W fun e W' => e = .returned (.bool false) ∧ Below W.heap.size W W' := by
  have hu := Try.underlying54
  obtain ⟨v, hv⟩ := h.at_
  have HK := Aside0.mk (Keys_Q hv hl)
  have H := Aside0.mk h
  have HC := Aside0.mk hC
  have HCc := Aside0.mk hc
  have HL := Aside0.mk hl
  have HL2 := Aside0.mk hl2
  have HQ := Aside0.mk hq
  have HN := Aside0.mk hN
  have kd : decide (keysE l = keysE l2) = false := decide_eq_false hk
  have HKd := Aside0.mk kd
  clear h hN hq hC hc hl hl2 hk kd hv
  go_enter Try.func17, Try.ntmps17
  go_wp2_with (first
    | (go_at_call 14; refine HK.out.mono ?_; rintro e w1 ⟨v1, rfl, hR, hb⟩; obtain ⟨A1, c1, rfl⟩ := Kd.R_slice hR; have HR1 := Aside0.mk (Kd.R_reads' hR).2.2; have HC1 := Aside0.mk (R_strs8 hR); have HB1 := Aside0.mk hb; clear hR hb HK)
    | (go_at_call 44; refine (RKeys_Q _ HQ.out (Kd.C_below HC.out HB1.out) HCc.out HL2.out).mono ?_; rintro e w2 ⟨A2, c2, rfl, hc2, hC2, hb⟩; have HR2 := Aside0.mk hC2; have HC2 := Aside0.mk hc2; have HR1b := Aside0.mk (Kd.C_below HR1.out hb); have HB2 := Aside0.mk (HB1.out.trans (hb.mono HB1.out.size)); clear hc2 hC2 hb HR1 HB1)
    | (go_at_call 43; go_loud (refine (RSame_Q _ HR1b.out HC1.out HR2.out HC2.out (by unfold keysE; rw [List.length_map]; exact HL.out)).mono ?_; rintro e w3 ⟨rfl, hb⟩; rw [HKd.out]; have HB3 := Aside0.mk (HB2.out.trans (hb.mono HB2.out.size)); clear hb HB2 HR1b HC1 HR2 HC2)))
  go_ret
  exact ⟨rfl, HB3.out⟩
set_option maxHeartbeats 4000000 in
set_option maxRecDepth 100000 in
theorem has_vals (h : KSt S B W g gd n m l) (hN : KN l) (hq : q = l2.length) (hC : Kd.C kE W A l2.length l2) (hc : l2.length ≤ c) (hl : l.length ≤ 1048576) (hl2 : l2.length ≤ 1048576) (hk : keysE l = keysE l2) : Calls Try.prog 17 #[.pointer (some ⟨g, 0, none⟩), .slice A q c] W fun e W' => e = .returned (.bool (decide (l = l2))) ∧ Below W.heap.size W W' := by
  have hu := Try.underlying54
  obtain ⟨v, hv⟩ := h.at_
  have HK := Aside0.mk (Keys_Q hv hl)
  have H := Aside0.mk h
  have HC := Aside0.mk hC
  have HCc := Aside0.mk hc
  have HL := Aside0.mk hl
  have HL2 := Aside0.mk hl2
  have HQ := Aside0.mk hq
  have HN := Aside0.mk hN
  have kd : decide (keysE l = keysE l2) = true := decide_eq_true hk
  have HKd := Aside0.mk kd
  have HKe := Aside0.mk hk
  obtain ⟨rb, hrb⟩ : ∃ rb, rb = decide (l = l2) := ⟨_, rfl⟩
  have HRb := Aside0.mk hrb
  rw [← hrb]
  clear h hN hq hC hc hl hl2 hk kd hv hrb
  go_enter Try.func17, Try.ntmps17
  go_wp2_with (first
    | (go_at_call 14; refine HK.out.mono ?_; rintro e w1 ⟨v1, rfl, hR, hb⟩; obtain ⟨A1, c1, rfl⟩ := Kd.R_slice hR; have HR1 := Aside0.mk (Kd.R_reads' hR).2.2; have HC1 := Aside0.mk (R_strs8 hR); have HB1 := Aside0.mk hb; clear hR hb HK)
    | (go_at_call 44; refine (RKeys_Q _ HQ.out (Kd.C_below HC.out HB1.out) HCc.out HL2.out).mono ?_; rintro e w2 ⟨A2, c2, rfl, hc2, hC2, hb⟩; have HR2 := Aside0.mk hC2; have HC2 := Aside0.mk hc2; have HR1b := Aside0.mk (Kd.C_below HR1.out hb); have HB2 := Aside0.mk (HB1.out.trans (hb.mono HB1.out.size)); clear hc2 hC2 hb HR1 HB1)
    | (go_at_call 43; go_loud (refine (RSame_Q _ HR1b.out HC1.out HR2.out HC2.out (by unfold keysE; rw [List.length_map]; exact HL.out)).mono ?_; rintro e w3 ⟨rfl, hb⟩; rw [HKd.out]; have HB3 := Aside0.mk (HB2.out.trans (hb.mono HB2.out.size)); clear hb HB2 HR1b HC1 HR2 HC2)))
  go_loopw [17] (fun i wr => ∃ (a : Nat), a ≤ q ∧ i = .int .i64 (a : Int) ∧ Aside0 (∀ i (hi : i < l2.length), i < a → getE l (l2[i]).f0 = some (l2[i]).f1) ∧ Aside0 (Below W.heap.size W wr)) (fun i _ => q - (intOf i).toNat)
  case atStart => exact ⟨0, Nat.zero_le _, rfl, ⟨fun i hi h => absurd h (Nat.not_lt_zero _)⟩, HB3⟩
  case round =>
    obtain ⟨a, ha, rfl, HV, HB⟩ := hrel
    clear HB3
    by_cases hlt : a < q
    · have kb : decide ((a : Int) < (q : Int)) = true := decide_eq_true (Int.ofNat_lt.2 hlt)
      have kbn : decide (a < q) = true := decide_eq_true hlt
      have hal : a < l2.length := by rw [← HQ.out]; exact hlt
      obtain ⟨ad, rfl, y0, y1⟩ := at_ent (Kd.C_below HC.out HB.out) hal
      have a0 := y0
      have a1 := y1
      clear y0 y1
      obtain ⟨s, hs⟩ : ∃ s, s = (l2[a]'hal).f0 := ⟨_, rfl⟩
      obtain ⟨t, ht⟩ : ∃ t, t = (l2[a]'hal).f1 := ⟨_, rfl⟩
      have HS := Aside0.mk hs
      have HT := Aside0.mk ht
      rw [← hs] at a0
      rw [← ht] at a1
      clear hs ht
      cases hg : getE l s with
      | none =>
        have HGt := Aside0.mk hg
        clear hg
        go_wp2_with (first
          | ((with_reducible refine gate_dst (N := 6) rfl ?_); refine box_event ?hg (N := 6) ?hd (cs := #[.string (⟨#[]⟩ : ByteArray), .string (⟨#[]⟩ : ByteArray)]) (t := 54) ?hr ?_; (case hd => rfl); (case hg => rfl); (case hr => first | (go_simp; done) | (go_simp; rfl)); intro gb hg wq hbox hb; have BX := Aside0.mk (box_pairE (W := wr) hbox (Nat.le_of_eq hg.symm) hb (.string s) (.string t)); have qa : wq.cell? ⟨gb, 0, none⟩ = some (.string (⟨#[]⟩ : ByteArray)) := (blk_cell hbox 0).trans rfl; have qb : wq.cell? ⟨gb, 1, none⟩ = some (.string (⟨#[]⟩ : ByteArray)) := (blk_cell hbox 1).trans rfl; have ra := blk_frozen hbox 0; have rb := blk_frozen hbox 1; clear hbox hb hg)
          | (go_at_call 12; refine (getS (H.out.below (HB.out.trans (BX.out.2.mono HB.out.size))) s HL.out).mono ?_; rintro e w5 ⟨rfl, hb⟩; rw [HGt.out]; have HB5 := Aside0.mk (HB.out.trans ((BX.out.2.trans (hb.mono BX.out.2.size)).mono HB.out.size)); have bx5 := (hb.block gb (blk_lt BX.out.1)).trans BX.out.1; have pb : w5.cell? ⟨gb, 1, none⟩ = some (.string t) := (blk_cell bx5 1).trans rfl; clear hb BX))
        go_ret
        have hne : ¬ l = l2 := fun e => by
          have h1 := getE_mem HN.out (e := l2[a]'hal) (by rw [e]; exact List.getElem_mem hal)
          rw [← HS.out, HGt.out] at h1
          cases h1
        exact ⟨by rw [HRb.out, decide_eq_false hne]; rfl, HB5.out⟩
      | some u =>
        have HGt := Aside0.mk hg
        clear hg
        by_cases hut : u = t
        · have ub : (u.toList != t.toList) = false := by rw [hut]; exact bne_self_eq_false _
          have uc : u.toList = t.toList := by rw [hut]
          have HUt := Aside0.mk hut
          clear hut
          go_wp2_with (first
            | ((with_reducible refine gate_dst (N := 6) rfl ?_); refine box_event ?hg (N := 6) ?hd (cs := #[.string (⟨#[]⟩ : ByteArray), .string (⟨#[]⟩ : ByteArray)]) (t := 54) ?hr ?_; (case hd => rfl); (case hg => rfl); (case hr => first | (go_simp; done) | (go_simp; rfl)); intro gb hg wq hbox hb; have BX := Aside0.mk (box_pairE (W := wr) hbox (Nat.le_of_eq hg.symm) hb (.string s) (.string t)); have qa : wq.cell? ⟨gb, 0, none⟩ = some (.string (⟨#[]⟩ : ByteArray)) := (blk_cell hbox 0).trans rfl; have qb : wq.cell? ⟨gb, 1, none⟩ = some (.string (⟨#[]⟩ : ByteArray)) := (blk_cell hbox 1).trans rfl; have ra := blk_frozen hbox 0; have rb := blk_frozen hbox 1; clear hbox hb hg)
            | (go_at_call 12; refine (getS (H.out.below (HB.out.trans (BX.out.2.mono HB.out.size))) s HL.out).mono ?_; rintro e w5 ⟨rfl, hb⟩; rw [HGt.out]; have HB5 := Aside0.mk (HB.out.trans ((BX.out.2.trans (hb.mono BX.out.2.size)).mono HB.out.size)); have bx5 := (hb.block gb (blk_lt BX.out.1)).trans BX.out.1; have pb : w5.cell? ⟨gb, 1, none⟩ = some (.string t) := (blk_cell bx5 1).trans rfl; clear hb BX))
          go_roundw
          case rel => exact ⟨a + 1, hlt, vE hlt (by have := HL2.out; have := HQ.out; omega), ⟨has_step HV.out hal (by rw [← HS.out, ← HT.out, ← HUt.out]; exact HGt.out)⟩, HB5⟩
          case measure => exact mE hlt (by have := HL2.out; have := HQ.out; omega)
        · have ub : (u.toList != t.toList) = true := bne_iff_ne.mpr (fun h => hut (ba_inj h))
          have uc : ¬ u.toList = t.toList := fun h => hut (ba_inj h)
          have ue : (u.toList == t.toList) = false := beq_eq_false_iff_ne.mpr uc
          have HUt := Aside0.mk hut
          clear hut
          go_wp2_with (first
            | ((with_reducible refine gate_dst (N := 6) rfl ?_); refine box_event ?hg (N := 6) ?hd (cs := #[.string (⟨#[]⟩ : ByteArray), .string (⟨#[]⟩ : ByteArray)]) (t := 54) ?hr ?_; (case hd => rfl); (case hg => rfl); (case hr => first | (go_simp; done) | (go_simp; rfl)); intro gb hg wq hbox hb; have BX := Aside0.mk (box_pairE (W := wr) hbox (Nat.le_of_eq hg.symm) hb (.string s) (.string t)); have qa : wq.cell? ⟨gb, 0, none⟩ = some (.string (⟨#[]⟩ : ByteArray)) := (blk_cell hbox 0).trans rfl; have qb : wq.cell? ⟨gb, 1, none⟩ = some (.string (⟨#[]⟩ : ByteArray)) := (blk_cell hbox 1).trans rfl; have ra := blk_frozen hbox 0; have rb := blk_frozen hbox 1; clear hbox hb hg)
            | (go_at_call 12; refine (getS (H.out.below (HB.out.trans (BX.out.2.mono HB.out.size))) s HL.out).mono ?_; rintro e w5 ⟨rfl, hb⟩; rw [HGt.out]; have HB5 := Aside0.mk (HB.out.trans ((BX.out.2.trans (hb.mono BX.out.2.size)).mono HB.out.size)); have bx5 := (hb.block gb (blk_lt BX.out.1)).trans BX.out.1; have pb : w5.cell? ⟨gb, 1, none⟩ = some (.string t) := (blk_cell bx5 1).trans rfl; clear hb BX))
          go_ret
          have hne : ¬ l = l2 := fun e => by
            have h1 := getE_mem HN.out (e := l2[a]'hal) (by rw [e]; exact List.getElem_mem hal)
            rw [← HS.out, HGt.out, ← HT.out] at h1
            injection h1 with h1
            exact HUt.out h1
          exact ⟨by rw [HRb.out, decide_eq_false hne]; rfl, HB5.out⟩
    · have kb : decide ((a : Int) < (q : Int)) = false := decide_eq_false (fun h => hlt (Int.ofNat_lt.1 h))
      have kbn : decide (a < q) = false := decide_eq_false hlt
      go_wp2
      go_ret
      refine ⟨?_, HB.out⟩
      rw [HRb.out, decide_eq_true (has_eq HN.out HKe.out (fun i hi => HV.out i hi (by have := HQ.out; omega)))]
      rfl
theorem has_Q (h : KSt S B W g gd n m l) (hN : KN l) (hq : q = l2.length) (hC : Kd.C kE W A l2.length l2) (hc : l2.length ≤ c) (hl : l.length ≤ 1048576) (hl2 : l2.length ≤ 1048576) : Calls Try.prog 17 #[.pointer (some ⟨g, 0, none⟩), .slice A q c] W fun e W' => e = .returned (.bool (decide (l = l2))) ∧ Below W.heap.size W W' := by
  by_cases hk : keysE l = keysE l2
  · exact has_vals h hN hq hC hc hl hl2 hk
  · rw [decide_eq_false (fun e => hk (by rw [e]))]
    exact has_keys h hN hq hC hc hl hl2 hk
set_option maxHeartbeats 4000000 in
set_option maxRecDepth 100000 in
theorem RCopy_M (h : MSt S W gm m l z) : Calls Try.prog 23 #[.pointer (some ⟨gm, 0, none⟩)] W fun e W' => ∃ g', e = .returned (.pointer (some ⟨g', 0, none⟩)) ∧ W.heap.size ≤ g' ∧ (∃ A c, l.length ≤ c ∧ W'.heap[g']? = some (.cells (mCells m (.slice A l.length c) z) 40 (0, 0)) ∧ ERow S W' A l.length l) ∧ Below W.heap.size W W' := by
  have hu := Try.underlying40
  obtain ⟨A, c, hc, hb, he⟩ := h.at_
  have z0 : W.cell? ⟨gm, 0, none⟩ = some (.int .i64 m) := (blk_cell hb 0).trans rfl
  obtain ⟨ln, hln⟩ : ∃ ln, ln = l.length := ⟨_, rfl⟩
  rw [← hln] at hb
  have HLn := Aside0.mk hln
  have z1 : W.cell? ⟨gm, 1, none⟩ = some (.slice A ln c) := (blk_cell hb 1).trans rfl
  have z2 : W.cell? ⟨gm, 2, none⟩ = some (.int .i64 z) := (blk_cell hb 2).trans rfl
  have HE := Aside0.mk he
  have HC := Aside0.mk hc
  clear h hc hb he hln
  go_enter Try.func23, Try.ntmps23
  go_wp2_with (first
    | ((with_reducible refine gate_dst (N := 3) rfl ?_); refine box_event ?hg (N := 3) ?hd (cs := #[.int .i64 0, .slice none 0 0, .int .i64 0]) (t := 40) ?hr ?_; (case hd => rfl); (case hg => rfl); (case hr => first | (go_simp; done) | (go_simp; rfl)); intro gb hg wq hbox hb; have BX := Aside0.mk (box_three (W := W) hbox (Nat.le_of_eq hg.symm) hb (.int .i64 m) (.slice A ln c) (.int .i64 z)); have HG := Aside0.mk (Nat.le_of_eq hg.symm); have qa : wq.cell? ⟨gb, 0, none⟩ = some (.int .i64 0) := (blk_cell hbox 0).trans rfl; have qb : wq.cell? ⟨gb, 1, none⟩ = some (.slice none 0 0) := (blk_cell hbox 1).trans rfl; have qc : wq.cell? ⟨gb, 2, none⟩ = some (.int .i64 0) := (blk_cell hbox 2).trans rfl; have ra := blk_frozen hbox 0; have rb := blk_frozen hbox 1; have rc := blk_frozen hbox 2; clear hbox hb hg))
  go_ret
  refine ⟨gb, rfl, HG.out, ⟨A, c, HC.out, ?_, ERow.below HE.out BX.out.2⟩, BX.out.2⟩
  rw [← HLn.out]
  exact BX.out.1
end
structure Fine (d : DS) (n : ByteArray) (m : Int) (l : List E) (z k : Int) : Prop where
  up : d.Up k
  k : k < 4611686018427380000
  kn : KN l
  fit : Fit l
  len : l.length ≤ 4096
  m : 1 ≤ m ∧ m ≤ 4096
  nm : n.size ≤ 28
  z : 0 ≤ z ∧ z ≤ 1099511627776
def doesS (d : DS) (n : ByteArray) (m : Int) (l : List E) (kind : Int) (key val : ByteArray) (N : Int) : Int × DS × List E :=
  if kind = 0 then putE d n m l key val else if kind = 1 then evictE d n l N else if kind = 2 then ((syncE d n).1, (syncE d n).2, l) else if kind = 3 then ((compactE d n l).1, (compactE d n l).2, l) else (0, d, l)
def doesR (l : List E) (m z : Int) (kind : Int) (key val : ByteArray) (N free : Int) : Int × List E × Int :=
  if kind = 0 then putR l m z key val free else if kind = 1 then evictR l z N free else if kind = 2 then (0, l, z) else if kind = 3 then ((compactR l z free).1, l, (compactR l z free).2) else (0, l, z)
theorem putG_le {rs : List ByteArray} (h : ∀ r ∈ rs, Good r) : (Fr.putB rs).length ≤ 65544 * rs.length := by
  have h0 : ∀ rs : List ByteArray, (∀ r ∈ rs, Good r) → Fr.sizes rs ≤ 65536 * rs.length := by
    intro rs h
    induction rs with
    | nil => exact Nat.zero_le _
    | cons r rs ih =>
      have h1 := ih (fun x hx => h x (List.mem_cons_of_mem _ hx))
      have h2 := (h r (List.mem_cons_self ..)).size
      simp only [Fr.sizes, List.length_cons]
      omega
  rw [Fr.putB_length (fun r hr => (h r hr).size)]
  have := h0 rs h
  omega
section
variable {S1 S2 S3 : Nat → Prop} {B : Nat} {W : World} {gd g gm : Nat} {d : DS} {n : ByteArray} {m z k free kind N fuse keep : Int} {torn : Bool} {l : List E} {key val : ByteArray}
theorem Fine.puts (f : Fine d n m l z k) (hk : (recP key val).size ≤ 65536) : (Fr.putB (putRecs l m key val)).length ≤ 274877906944 := by
  have h1 := putG_le (Good.puts (m := m) f.fit.short hk)
  have h2 := (putRecs_len2 l m key val).1
  have := f.len
  omega
theorem Fine.gones (f : Fine d n m l z k) (j : Nat) : (Fr.putB (gones l j)).length ≤ 274877906944 := by
  have h1 := putG_le (Good.gones f.fit.short j)
  rw [gones_length] at h1
  have := f.len
  omega
theorem Fine.all (f : Fine d n m l z k) : (Fr.putB (allRecs l)).length ≤ 274877906944 := by
  have h1 := putG_le (Good.all f.fit)
  rw [all_len] at h1
  have := f.len
  omega
theorem RPut_Ma {S : Nat → Prop} {W : World} (h : MSt S W gm m l z) (hi : ∀ k, S k → k < W.heap.size) (f : Fine d n m l z k) (hs : key.size + val.size ≤ 274877906944) : Calls Try.prog 40 #[.pointer (some ⟨gm, 0, none⟩), .string key, .string val, .int .i64 free] W fun e W' => e = .returned (.int .i64 (putR l m z key val free).1) ∧ MSt S W' gm m (putR l m z key val free).2.1 (putR l m z key val free).2.2 ∧ Only (At1 gm) W W' := by
  by_cases c : 65536 < (recP key val).size
  · unfold putR
    rw [if_pos c]
    refine (RPut_long hs c).mono ?_
    rintro e W' ⟨rfl, hb⟩
    exact ⟨rfl, h.below hb, (Only.refl _ _).below hb⟩
  · exact RPut_M h hi f.kn (by have := f.len; omega) f.m f.fit.short hs (f.puts (Nat.not_lt.1 c)) f.z
set_option maxHeartbeats 4000000 in
set_option maxRecDepth 100000 in
theorem does_put (h : KDM S1 S2 S3 B W gd g gm d n m l m l z) (f : Fine d n m l z k) (hsz : key.size + val.size ≤ 274877906944) : Calls Try.prog 16 #[.pointer (some ⟨g, 0, none⟩), .pointer (some ⟨gm, 0, none⟩), .agg #[.int .i64 0, .string key, .string val, .int .i64 N, .int .i64 fuse, .int .i64 keep, .bool torn], .int .i64 free] W fun e W' => e = .returned (.tuple #[.int .i64 (putE d n m l key val).1, .int .i64 (putR l m z key val free).1]) ∧ ∃ S1' S2', KDM S1' S2' S3 B W' gd g gm (putE d n m l key val).2.1 n m (putE d n m l key val).2.2 m (putR l m z key val free).2.1 (putR l m z key val free).2.2 ∧ Step (U (U S1 S2) (At1 gm)) W (U (U S1' S2') (At1 gm)) W' := by
  have hu := Try.underlying42
  have hb0 : Below W.heap.size W (W.alloc (.cells #[.int .i64 0, .string key, .string val, .int .i64 N, .int .i64 fuse, .int .i64 keep, .bool torn] 42 (0, 0))) := below_alloc (Below.refl W.heap.size W) _
  have hbx := blk_new W (.cells #[.int .i64 0, .string key, .string val, .int .i64 N, .int .i64 fuse, .int .i64 keep, .bool torn] 42 (0, 0))
  have HB0 := Aside0.mk hb0
  have H := Aside0.mk h
  have F := Aside0.mk f
  have HNb := Aside0.mk (show ¬ U (U S1 S2) (At1 gm) W.heap.size from fun hk => Nat.lt_irrefl _ (h.hiA _ hk))
  have c0 : (W.alloc (.cells #[.int .i64 0, .string key, .string val, .int .i64 N, .int .i64 fuse, .int .i64 keep, .bool torn] 42 (0, 0))).cell? ⟨W.heap.size, 0, none⟩ = some (.int .i64 0) := (blk_cell hbx 0).trans rfl
  have HD := Aside0.mk (h.below (below_drew1 hb0))
  have HBx := Aside0.mk (show (W.alloc (.cells #[.int .i64 0, .string key, .string val, .int .i64 N, .int .i64 fuse, .int .i64 keep, .bool torn] 42 (0, 0))).drew.heap[W.heap.size]? = some (.cells #[.int .i64 0, .string key, .string val, .int .i64 N, .int .i64 fuse, .int .i64 keep, .bool torn] 42 (0, 0)) from hbx)
  have d1 : (W.alloc (.cells #[.int .i64 0, .string key, .string val, .int .i64 N, .int .i64 fuse, .int .i64 keep, .bool torn] 42 (0, 0))).drew.cell? ⟨W.heap.size, 1, none⟩ = some (.string key) := (blk_cell HBx.out 1).trans rfl
  have d2 : (W.alloc (.cells #[.int .i64 0, .string key, .string val, .int .i64 N, .int .i64 fuse, .int .i64 keep, .bool torn] 42 (0, 0))).drew.cell? ⟨W.heap.size, 2, none⟩ = some (.string val) := (blk_cell HBx.out 2).trans rfl
  have HSz := Aside0.mk hsz
  clear h f hb0 hbx hsz
  go_enter Try.func16, Try.ntmps16
  go_wp2
  refine start_ (n := 15) (S := fun w' => w'.cell? ⟨W.heap.size, 1, none⟩ = some (.string key) ∧ w'.cell? ⟨W.heap.size, 2, none⟩ = some (.string val)) (ds := [12, 13, 14]) #[false, false, false, false, false, false, false, false, false, false, false, false, false, false, false] (by kernel_rfl) rfl rfl ⟨d1, d2⟩ (fun hHeld => ?_)
  refine pure_ (i := 0) (N := some 14) (v := ?_) (a' := ?_) #[true, false, false, false, false, false, false, false, false, false, false, false, false, false, false] rfl rfl (by kernel_rfl) (fun _ _ _ h => h) (Or.inl ⟨by rfl, ?_⟩) ?_ ?_
  rotate_left
  · intro w'
    go_simp
    with_reducible rfl
  rotate_left
  · simp only [Act.put, List.setIfInBounds_toArray, List.set_cons_zero, List.set_cons_succ, i64_w, i32_w]
    rfl
  refine pure_ (i := 1) (N := some 15) (v := ?_) (a' := ?_) #[true, true, false, false, false, false, false, false, false, false, false, false, false, false, false] rfl rfl (by kernel_rfl) (fun _ _ _ h => h) (Or.inl ⟨by rfl, ?_⟩) ?_ ?_
  rotate_left
  · intro w'
    go_simp
    with_reducible rfl
  rotate_left
  · simp only [Act.put, List.setIfInBounds_toArray, List.set_cons_zero, List.set_cons_succ, i64_w, i32_w]
    rfl
  refine take_ (i := 2) (N := some 16) (v := ?_) (a' := ?_) #[true, true, true, false, false, false, false, false, false, false, false, false, false, false, false] rfl rfl (by kernel_rfl) (fun _ _ _ h => h) (Or.inl ⟨by rfl, ?_⟩) hHeld ?_ ?_
  rotate_left
  · intro w' s0
    obtain ⟨s0, s1⟩ := s0
    go_simp
    with_reducible rfl
  rotate_left
  · simp only [Act.put, List.setIfInBounds_toArray, List.set_cons_zero, List.set_cons_succ, i64_w, i32_w]
    rfl
  refine pure_ (i := 3) (N := some 17) (v := ?_) (a' := ?_) #[true, true, true, true, false, false, false, false, false, false, false, false, false, false, false] rfl rfl (by kernel_rfl) (fun _ _ _ h => h) (Or.inl ⟨by rfl, ?_⟩) ?_ ?_
  rotate_left
  · intro w'
    go_simp
    with_reducible rfl
  rotate_left
  · simp only [Act.put, List.setIfInBounds_toArray, List.set_cons_zero, List.set_cons_succ, i64_w, i32_w]
    rfl
  refine take_ (i := 4) (N := some 18) (v := ?_) (a' := ?_) #[true, true, true, true, true, false, false, false, false, false, false, false, false, false, false] rfl rfl (by kernel_rfl) (fun _ _ _ h => h) (Or.inl ⟨by rfl, ?_⟩) hHeld ?_ ?_
  rotate_left
  · intro w' s0
    obtain ⟨s0, s1⟩ := s0
    go_simp
    with_reducible rfl
  rotate_left
  · simp only [Act.put, List.setIfInBounds_toArray, List.set_cons_zero, List.set_cons_succ, i64_w, i32_w]
    rfl
  refine pure_ (i := 6) (N := some 20) (v := ?_) (a' := ?_) #[true, true, true, true, true, false, true, false, false, false, false, false, false, false, false] rfl rfl (by kernel_rfl) (fun _ _ _ h => h) (Or.inl ⟨by rfl, ?_⟩) ?_ ?_
  rotate_left
  · intro w'
    go_simp
    with_reducible rfl
  rotate_left
  · simp only [Act.put, List.setIfInBounds_toArray, List.set_cons_zero, List.set_cons_succ, i64_w, i32_w]
    rfl
  refine pure_ (i := 7) (N := some 21) (v := ?_) (a' := ?_) #[true, true, true, true, true, false, true, true, false, false, false, false, false, false, false] rfl rfl (by kernel_rfl) (fun _ _ _ h => h) (Or.inl ⟨by rfl, ?_⟩) ?_ ?_
  rotate_left
  · intro w'
    go_simp
    with_reducible rfl
  rotate_left
  · simp only [Act.put, List.setIfInBounds_toArray, List.set_cons_zero, List.set_cons_succ, i64_w, i32_w]
    rfl
  refine take_ (i := 8) (N := some 22) (v := ?_) (a' := ?_) #[true, true, true, true, true, false, true, true, true, false, false, false, false, false, false] rfl rfl (by kernel_rfl) (fun _ _ _ h => h) (Or.inl ⟨by rfl, ?_⟩) hHeld ?_ ?_
  rotate_left
  · intro w' s0
    obtain ⟨s0, s1⟩ := s0
    go_simp
    with_reducible rfl
  rotate_left
  · simp only [Act.put, List.setIfInBounds_toArray, List.set_cons_zero, List.set_cons_succ, i64_w, i32_w]
    rfl
  refine pure_ (i := 9) (N := some 23) (v := ?_) (a' := ?_) #[true, true, true, true, true, false, true, true, true, true, false, false, false, false, false] rfl rfl (by kernel_rfl) (fun _ _ _ h => h) (Or.inl ⟨by rfl, ?_⟩) ?_ ?_
  rotate_left
  · intro w'
    go_simp
    with_reducible rfl
  rotate_left
  · simp only [Act.put, List.setIfInBounds_toArray, List.set_cons_zero, List.set_cons_succ, i64_w, i32_w]
    rfl
  refine take_ (i := 10) (N := some 24) (v := ?_) (a' := ?_) #[true, true, true, true, true, false, true, true, true, true, true, false, false, false, false] rfl rfl (by kernel_rfl) (fun _ _ _ h => h) (Or.inl ⟨by rfl, ?_⟩) hHeld ?_ ?_
  rotate_left
  · intro w' s0
    obtain ⟨s0, s1⟩ := s0
    go_simp
    with_reducible rfl
  rotate_left
  · simp only [Act.put, List.setIfInBounds_toArray, List.set_cons_zero, List.set_cons_succ, i64_w, i32_w]
    rfl
  refine pure_ (i := 11) (N := some 25) (v := ?_) (a' := ?_) #[true, true, true, true, true, false, true, true, true, true, true, true, false, false, false] rfl rfl (by kernel_rfl) (fun _ _ _ h => h) (Or.inl ⟨by rfl, ?_⟩) ?_ ?_
  rotate_left
  · intro w'
    go_simp
    with_reducible rfl
  rotate_left
  · simp only [Act.put, List.setIfInBounds_toArray, List.set_cons_zero, List.set_cons_succ, i64_w, i32_w]
    rfl
  refine one_ (i := 5) (N := some 19) #[true, true, true, true, true, true, true, true, true, true, true, true, false, false, false] rfl rfl (by kernel_rfl) (by decide) (fun K hK => ?_)
  refine goes_ Try.func13 (by kernel_rfl) rfl #[.pointer (some ⟨g, 0, none⟩), .string key, .string val] (by rfl) rfl rfl (by (try simp only [List.map_toArray, List.map_cons, List.map_nil]); first | done | rfl) ?_
  refine (Put_K HD.out.kd F.out.up (by have := F.out.k; omega) (by have := F.out.len; omega) F.out.m F.out.fit.short HSz.out).mono ?_
  rintro e w1 ⟨rfl, S1', S2', hk1, hs1⟩
  refine ⟨_, rfl, ?_⟩
  obtain ⟨h1, st1⟩ := HD.out.dev hk1 hs1
  have e1 := st1.only.cell d1 HNb.out
  have e2 := st1.only.cell d2 HNb.out
  have H1 := Aside0.mk h1
  have HS1 := Aside0.mk st1
  have HNb1 := Aside0.mk (show ¬ U (U S1' S2') (At1 gm) W.heap.size from fun hk => (st1.sub _ hk).elim HNb.out (fun h => Nat.lt_irrefl _ (Nat.lt_of_lt_of_le (blk_lt HBx.out) h)))
  refine hK.out _ _ ⟨e1, e2⟩ (fun hHeld => ?_)
  clear hK K hk1 hs1 h1 st1 d1 d2 e1 e2 HD
  refine norm_ (a' := ?_) ?_ ?_
  rotate_left
  · show Act.put _ (some 19) _ = _
    simp only [Act.put, List.setIfInBounds_toArray, List.set_cons_zero, List.set_cons_succ, i64_w, i32_w]
    rfl
  refine last_ (i := 12) (N := some 26) #[true, true, true, true, true, true, true, true, true, true, true, true, true, false, false] rfl rfl (by kernel_rfl) (by decide) (fun K hK => ?_)
  refine goes_ Try.func40 (by kernel_rfl) rfl #[.pointer (some ⟨gm, 0, none⟩), .string key, .string val, .int .i64 free] (by rfl) rfl rfl (by (try simp only [List.map_toArray, List.map_cons, List.map_nil]); first | done | rfl) ?_
  refine (RPut_Ma H1.out.ms H1.out.hiU F.out HSz.out).mono ?_
  rintro e w2 ⟨rfl, hm2, ho2⟩
  refine ⟨_, rfl, ?_⟩
  obtain ⟨h2, st2⟩ := H1.out.ref hm2 ho2
  have H2 := Aside0.mk h2
  have HS2 := Aside0.mk (Step.trans HS1.out st2)
  clear hHeld hm2 ho2 h2 st2 H1 HS1
  refine hK.out _ _ ?_
  clear hK K
  refine norm_ (a' := ?_) ?_ ?_
  rotate_left
  · show Act.put _ (some 26) _ = _
    simp only [Act.put, List.setIfInBounds_toArray, List.set_cons_zero, List.set_cons_succ, i64_w, i32_w]
    rfl
  refine pure_ (i := 13) (N := some 8) (v := ?_) (a' := ?_) #[true, true, true, true, true, true, true, true, true, true, true, true, true, true, false] rfl rfl (by kernel_rfl) (fun _ _ _ h => h) (Or.inl ⟨by rfl, ?_⟩) ?_ ?_
  rotate_left
  · intro w'
    go_simp
    with_reducible rfl
  rotate_left
  · simp only [Act.put, List.setIfInBounds_toArray, List.set_cons_zero, List.set_cons_succ, i64_w, i32_w]
    rfl
  refine pure_ (i := 14) (N := some 9) (v := ?_) (a' := ?_) #[true, true, true, true, true, true, true, true, true, true, true, true, true, true, true] rfl rfl (by kernel_rfl) (fun _ _ _ h => h) (Or.inl ⟨by rfl, ?_⟩) ?_ ?_
  rotate_left
  · intro w'
    go_simp
    with_reducible rfl
  rotate_left
  · simp only [Act.put, List.setIfInBounds_toArray, List.set_cons_zero, List.set_cons_succ, i64_w, i32_w]
    rfl
  refine done_ (by kernel_rfl) ?_
  go_wp2
  go_ret2
  exact ⟨rfl, _, _, H2.out, Step.after HS2.out (below_drew1 HB0.out)⟩
set_option maxHeartbeats 4000000 in
set_option maxRecDepth 100000 in
theorem does_evict (h : KDM S1 S2 S3 B W gd g gm d n m l m l z) (f : Fine d n m l z k) : Calls Try.prog 16 #[.pointer (some ⟨g, 0, none⟩), .pointer (some ⟨gm, 0, none⟩), .agg #[.int .i64 1, .string key, .string val, .int .i64 N, .int .i64 fuse, .int .i64 keep, .bool torn], .int .i64 free] W fun e W' => e = .returned (.tuple #[.int .i64 (evictE d n l N).1, .int .i64 (evictR l z N free).1]) ∧ ∃ S1' S2', KDM S1' S2' S3 B W' gd g gm (evictE d n l N).2.1 n m (evictE d n l N).2.2 m (evictR l z N free).2.1 (evictR l z N free).2.2 ∧ Step (U (U S1 S2) (At1 gm)) W (U (U S1' S2') (At1 gm)) W' := by
  have hu := Try.underlying42
  have hb0 : Below W.heap.size W (W.alloc (.cells #[.int .i64 1, .string key, .string val, .int .i64 N, .int .i64 fuse, .int .i64 keep, .bool torn] 42 (0, 0))) := below_alloc (Below.refl W.heap.size W) _
  have hbx := blk_new W (.cells #[.int .i64 1, .string key, .string val, .int .i64 N, .int .i64 fuse, .int .i64 keep, .bool torn] 42 (0, 0))
  have HB0 := Aside0.mk hb0
  have H := Aside0.mk h
  have F := Aside0.mk f
  have HNb := Aside0.mk (show ¬ U (U S1 S2) (At1 gm) W.heap.size from fun hk => Nat.lt_irrefl _ (h.hiA _ hk))
  have c0 : (W.alloc (.cells #[.int .i64 1, .string key, .string val, .int .i64 N, .int .i64 fuse, .int .i64 keep, .bool torn] 42 (0, 0))).cell? ⟨W.heap.size, 0, none⟩ = some (.int .i64 1) := (blk_cell hbx 0).trans rfl
  have HD := Aside0.mk (h.below (below_drew1 hb0))
  have HBx := Aside0.mk (show (W.alloc (.cells #[.int .i64 1, .string key, .string val, .int .i64 N, .int .i64 fuse, .int .i64 keep, .bool torn] 42 (0, 0))).drew.heap[W.heap.size]? = some (.cells #[.int .i64 1, .string key, .string val, .int .i64 N, .int .i64 fuse, .int .i64 keep, .bool torn] 42 (0, 0)) from hbx)
  have d3 : (W.alloc (.cells #[.int .i64 1, .string key, .string val, .int .i64 N, .int .i64 fuse, .int .i64 keep, .bool torn] 42 (0, 0))).drew.cell? ⟨W.heap.size, 3, none⟩ = some (.int .i64 N) := (blk_cell HBx.out 3).trans rfl
  clear h f hb0 hbx
  go_enter Try.func16, Try.ntmps16
  go_wp2
  refine start_ (n := 11) (S := fun w' => w'.cell? ⟨W.heap.size, 3, none⟩ = some (.int .i64 N)) (ds := [8, 9, 10]) #[false, false, false, false, false, false, false, false, false, false, false] (by kernel_rfl) rfl rfl d3 (fun hHeld => ?_)
  refine pure_ (i := 0) (N := some 29) (v := ?_) (a' := ?_) #[true, false, false, false, false, false, false, false, false, false, false] rfl rfl (by kernel_rfl) (fun _ _ _ h => h) (Or.inl ⟨by rfl, ?_⟩) ?_ ?_
  rotate_left
  · intro w'
    go_simp
    with_reducible rfl
  rotate_left
  · simp only [Act.put, List.setIfInBounds_toArray, List.set_cons_zero, List.set_cons_succ, i64_w, i32_w]
    rfl
  refine pure_ (i := 1) (N := some 30) (v := ?_) (a' := ?_) #[true, true, false, false, false, false, false, false, false, false, false] rfl rfl (by kernel_rfl) (fun _ _ _ h => h) (Or.inl ⟨by rfl, ?_⟩) ?_ ?_
  rotate_left
  · intro w'
    go_simp
    with_reducible rfl
  rotate_left
  · simp only [Act.put, List.setIfInBounds_toArray, List.set_cons_zero, List.set_cons_succ, i64_w, i32_w]
    rfl
  refine take_ (i := 2) (N := some 31) (v := ?_) (a' := ?_) #[true, true, true, false, false, false, false, false, false, false, false] rfl rfl (by kernel_rfl) (fun _ _ _ h => h) (Or.inl ⟨by rfl, ?_⟩) hHeld ?_ ?_
  rotate_left
  · intro w' s0
    go_simp
    with_reducible rfl
  rotate_left
  · simp only [Act.put, List.setIfInBounds_toArray, List.set_cons_zero, List.set_cons_succ, i64_w, i32_w]
    rfl
  refine pure_ (i := 4) (N := some 33) (v := ?_) (a' := ?_) #[true, true, true, false, true, false, false, false, false, false, false] rfl rfl (by kernel_rfl) (fun _ _ _ h => h) (Or.inl ⟨by rfl, ?_⟩) ?_ ?_
  rotate_left
  · intro w'
    go_simp
    with_reducible rfl
  rotate_left
  · simp only [Act.put, List.setIfInBounds_toArray, List.set_cons_zero, List.set_cons_succ, i64_w, i32_w]
    rfl
  refine pure_ (i := 5) (N := some 34) (v := ?_) (a' := ?_) #[true, true, true, false, true, true, false, false, false, false, false] rfl rfl (by kernel_rfl) (fun _ _ _ h => h) (Or.inl ⟨by rfl, ?_⟩) ?_ ?_
  rotate_left
  · intro w'
    go_simp
    with_reducible rfl
  rotate_left
  · simp only [Act.put, List.setIfInBounds_toArray, List.set_cons_zero, List.set_cons_succ, i64_w, i32_w]
    rfl
  refine take_ (i := 6) (N := some 35) (v := ?_) (a' := ?_) #[true, true, true, false, true, true, true, false, false, false, false] rfl rfl (by kernel_rfl) (fun _ _ _ h => h) (Or.inl ⟨by rfl, ?_⟩) hHeld ?_ ?_
  rotate_left
  · intro w' s0
    go_simp
    with_reducible rfl
  rotate_left
  · simp only [Act.put, List.setIfInBounds_toArray, List.set_cons_zero, List.set_cons_succ, i64_w, i32_w]
    rfl
  refine pure_ (i := 7) (N := some 36) (v := ?_) (a' := ?_) #[true, true, true, false, true, true, true, true, false, false, false] rfl rfl (by kernel_rfl) (fun _ _ _ h => h) (Or.inl ⟨by rfl, ?_⟩) ?_ ?_
  rotate_left
  · intro w'
    go_simp
    with_reducible rfl
  rotate_left
  · simp only [Act.put, List.setIfInBounds_toArray, List.set_cons_zero, List.set_cons_succ, i64_w, i32_w]
    rfl
  refine one_ (i := 3) (N := some 32) #[true, true, true, true, true, true, true, true, false, false, false] rfl rfl (by kernel_rfl) (by decide) (fun K hK => ?_)
  refine goes_ Try.func20 (by kernel_rfl) rfl #[.pointer (some ⟨g, 0, none⟩), .int .i64 N] (by rfl) rfl rfl (by (try simp only [List.map_toArray, List.map_cons, List.map_nil]); first | done | rfl) ?_
  refine (Evict_K HD.out.kd F.out.up (by have := F.out.k; omega) (by have := F.out.len; omega) F.out.fit.short).mono ?_
  rintro e w1 ⟨rfl, S1', S2', hk1, hs1⟩
  refine ⟨_, rfl, ?_⟩
  obtain ⟨h1, st1⟩ := HD.out.dev hk1 hs1
  have e3 := st1.only.cell d3 HNb.out
  have H1 := Aside0.mk h1
  have HS1 := Aside0.mk st1
  have HNb1 := Aside0.mk (show ¬ U (U S1' S2') (At1 gm) W.heap.size from fun hk => (st1.sub _ hk).elim HNb.out (fun h => Nat.lt_irrefl _ (Nat.lt_of_lt_of_le (blk_lt HBx.out) h)))
  refine hK.out _ _ e3 (fun hHeld => ?_)
  clear hK K hk1 hs1 h1 st1 d3 e3 HD
  refine norm_ (a' := ?_) ?_ ?_
  rotate_left
  · show Act.put _ (some 32) _ = _
    simp only [Act.put, List.setIfInBounds_toArray, List.set_cons_zero, List.set_cons_succ, i64_w, i32_w]
    rfl
  refine last_ (i := 8) (N := some 37) #[true, true, true, true, true, true, true, true, true, false, false] rfl rfl (by kernel_rfl) (by decide) (fun K hK => ?_)
  refine goes_ Try.func41 (by kernel_rfl) rfl #[.pointer (some ⟨gm, 0, none⟩), .int .i64 N, .int .i64 free] (by rfl) rfl rfl (by (try simp only [List.map_toArray, List.map_cons, List.map_nil]); first | done | rfl) ?_
  refine (REvict_M H1.out.ms H1.out.hiU F.out.kn (by have := F.out.len; omega) F.out.fit.short (F.out.gones _) F.out.z).mono ?_
  rintro e w2 ⟨rfl, hm2, ho2⟩
  refine ⟨_, rfl, ?_⟩
  obtain ⟨h2, st2⟩ := H1.out.ref hm2 ho2
  have H2 := Aside0.mk h2
  have HS2 := Aside0.mk (Step.trans HS1.out st2)
  clear hHeld hm2 ho2 h2 st2 H1 HS1
  refine hK.out _ _ ?_
  clear hK K
  refine norm_ (a' := ?_) ?_ ?_
  rotate_left
  · show Act.put _ (some 37) _ = _
    simp only [Act.put, List.setIfInBounds_toArray, List.set_cons_zero, List.set_cons_succ, i64_w, i32_w]
    rfl
  refine pure_ (i := 9) (N := some 8) (v := ?_) (a' := ?_) #[true, true, true, true, true, true, true, true, true, true, false] rfl rfl (by kernel_rfl) (fun _ _ _ h => h) (Or.inl ⟨by rfl, ?_⟩) ?_ ?_
  rotate_left
  · intro w'
    go_simp
    with_reducible rfl
  rotate_left
  · simp only [Act.put, List.setIfInBounds_toArray, List.set_cons_zero, List.set_cons_succ, i64_w, i32_w]
    rfl
  refine pure_ (i := 10) (N := some 9) (v := ?_) (a' := ?_) #[true, true, true, true, true, true, true, true, true, true, true] rfl rfl (by kernel_rfl) (fun _ _ _ h => h) (Or.inl ⟨by rfl, ?_⟩) ?_ ?_
  rotate_left
  · intro w'
    go_simp
    with_reducible rfl
  rotate_left
  · simp only [Act.put, List.setIfInBounds_toArray, List.set_cons_zero, List.set_cons_succ, i64_w, i32_w]
    rfl
  refine done_ (by kernel_rfl) ?_
  go_wp2
  go_ret2
  exact ⟨rfl, _, _, H2.out, Step.after HS2.out (below_drew1 HB0.out)⟩
set_option maxHeartbeats 4000000 in
set_option maxRecDepth 100000 in
theorem does_sync (h : KDM S1 S2 S3 B W gd g gm d n m l m l z) (f : Fine d n m l z k) : Calls Try.prog 16 #[.pointer (some ⟨g, 0, none⟩), .pointer (some ⟨gm, 0, none⟩), .agg #[.int .i64 2, .string key, .string val, .int .i64 N, .int .i64 fuse, .int .i64 keep, .bool torn], .int .i64 free] W fun e W' => e = .returned (.tuple #[.int .i64 (syncE d n).1, .int .i64 0]) ∧ ∃ S1' S2', KDM S1' S2' S3 B W' gd g gm (syncE d n).2 n m l m l z ∧ Step (U (U S1 S2) (At1 gm)) W (U (U S1' S2') (At1 gm)) W' := by
  have hu := Try.underlying42
  have hb0 : Below W.heap.size W (W.alloc (.cells #[.int .i64 2, .string key, .string val, .int .i64 N, .int .i64 fuse, .int .i64 keep, .bool torn] 42 (0, 0))) := below_alloc (Below.refl W.heap.size W) _
  have hbx := blk_new W (.cells #[.int .i64 2, .string key, .string val, .int .i64 N, .int .i64 fuse, .int .i64 keep, .bool torn] 42 (0, 0))
  have HB0 := Aside0.mk hb0
  have H := Aside0.mk h
  have F := Aside0.mk f
  have HNb := Aside0.mk (show ¬ U (U S1 S2) (At1 gm) W.heap.size from fun hk => Nat.lt_irrefl _ (h.hiA _ hk))
  have c0 : (W.alloc (.cells #[.int .i64 2, .string key, .string val, .int .i64 N, .int .i64 fuse, .int .i64 keep, .bool torn] 42 (0, 0))).cell? ⟨W.heap.size, 0, none⟩ = some (.int .i64 2) := (blk_cell hbx 0).trans rfl
  have HD := Aside0.mk (h.below hb0)
  clear h f hb0 hbx
  go_enter Try.func16, Try.ntmps16
  go_wp2_with (first
    | (go_at_call 21; refine (Sync_K HD.out.kd F.out.up (by have := F.out.k; omega)).mono ?_; rintro e w1 ⟨rfl, S1', S2', hk1, hs1⟩; have H1 := Aside0.mk (HD.out.dev hk1 hs1); clear hk1 hs1 HD))
  go_ret2
  exact ⟨rfl, _, _, H1.out.1, Step.after H1.out.2 HB0.out⟩
set_option maxHeartbeats 4000000 in
set_option maxRecDepth 100000 in
theorem does_compact (h : KDM S1 S2 S3 B W gd g gm d n m l m l z) (f : Fine d n m l z k) : Calls Try.prog 16 #[.pointer (some ⟨g, 0, none⟩), .pointer (some ⟨gm, 0, none⟩), .agg #[.int .i64 3, .string key, .string val, .int .i64 N, .int .i64 fuse, .int .i64 keep, .bool torn], .int .i64 free] W fun e W' => e = .returned (.tuple #[.int .i64 (compactE d n l).1, .int .i64 (compactR l z free).1]) ∧ ∃ S1' S2', KDM S1' S2' S3 B W' gd g gm (compactE d n l).2 n m l m l (compactR l z free).2 ∧ Step (U (U S1 S2) (At1 gm)) W (U (U S1' S2') (At1 gm)) W' := by
  have hu := Try.underlying42
  have hb0 : Below W.heap.size W (W.alloc (.cells #[.int .i64 3, .string key, .string val, .int .i64 N, .int .i64 fuse, .int .i64 keep, .bool torn] 42 (0, 0))) := below_alloc (Below.refl W.heap.size W) _
  have hbx := blk_new W (.cells #[.int .i64 3, .string key, .string val, .int .i64 N, .int .i64 fuse, .int .i64 keep, .bool torn] 42 (0, 0))
  have HB0 := Aside0.mk hb0
  have H := Aside0.mk h
  have F := Aside0.mk f
  have HNb := Aside0.mk (show ¬ U (U S1 S2) (At1 gm) W.heap.size from fun hk => Nat.lt_irrefl _ (h.hiA _ hk))
  have c0 : (W.alloc (.cells #[.int .i64 3, .string key, .string val, .int .i64 N, .int .i64 fuse, .int .i64 keep, .bool torn] 42 (0, 0))).cell? ⟨W.heap.size, 0, none⟩ = some (.int .i64 3) := (blk_cell hbx 0).trans rfl
  have HD := Aside0.mk (h.below hb0)
  clear h f hb0 hbx
  go_enter Try.func16, Try.ntmps16
  go_wp2_with (first
    | (go_at_call 22; refine (Compact_K HD.out.kd F.out.up (by have := F.out.k; omega) F.out.nm (by have := F.out.len; omega) (Good.all F.out.fit)).mono ?_; rintro e w1 ⟨rfl, S1', S2', hk1, hs1⟩; have H1 := Aside0.mk (HD.out.dev hk1 hs1); clear hk1 hs1 HD)
    | (go_at_call 42; refine (RCompact_M H1.out.1.ms H1.out.1.hiU (by have := F.out.len; omega) F.out.fit F.out.all).mono ?_; rintro e w2 ⟨rfl, hm2, ho2⟩; have H2 := Aside0.mk (H1.out.1.ref hm2 ho2); have HS2 := Aside0.mk (Step.trans H1.out.2 H2.out.2); clear hm2 ho2 H1))
  go_ret2
  exact ⟨rfl, _, _, H2.out.1, Step.after HS2.out HB0.out⟩
set_option maxHeartbeats 4000000 in
set_option maxRecDepth 100000 in
theorem does_none (h : KDM S1 S2 S3 B W gd g gm d n m l m l z) (f : Fine d n m l z k) (h0 : kind ≠ 0) (h1 : kind ≠ 1) (h2 : kind ≠ 2) (h3 : kind ≠ 3) : Calls Try.prog 16 #[.pointer (some ⟨g, 0, none⟩), .pointer (some ⟨gm, 0, none⟩), .agg #[.int .i64 kind, .string key, .string val, .int .i64 N, .int .i64 fuse, .int .i64 keep, .bool torn], .int .i64 free] W fun e W' => e = .returned (.tuple #[.int .i64 0, .int .i64 0]) ∧ ∃ S1' S2', KDM S1' S2' S3 B W' gd g gm d n m l m l z ∧ Step (U (U S1 S2) (At1 gm)) W (U (U S1' S2') (At1 gm)) W' := by
  have hu := Try.underlying42
  have hb0 : Below W.heap.size W (W.alloc (.cells #[.int .i64 kind, .string key, .string val, .int .i64 N, .int .i64 fuse, .int .i64 keep, .bool torn] 42 (0, 0))) := below_alloc (Below.refl W.heap.size W) _
  have hbx := blk_new W (.cells #[.int .i64 kind, .string key, .string val, .int .i64 N, .int .i64 fuse, .int .i64 keep, .bool torn] 42 (0, 0))
  have HB0 := Aside0.mk hb0
  have H := Aside0.mk h
  have F := Aside0.mk f
  have HNb := Aside0.mk (show ¬ U (U S1 S2) (At1 gm) W.heap.size from fun hk => Nat.lt_irrefl _ (h.hiA _ hk))
  have c0 : (W.alloc (.cells #[.int .i64 kind, .string key, .string val, .int .i64 N, .int .i64 fuse, .int .i64 keep, .bool torn] 42 (0, 0))).cell? ⟨W.heap.size, 0, none⟩ = some (.int .i64 kind) := (blk_cell hbx 0).trans rfl
  have HD := Aside0.mk (h.below hb0)
  have e0 : (kind == 0) = false := beq_eq_false_iff_ne.mpr h0
  have e1 : (kind == 1) = false := beq_eq_false_iff_ne.mpr h1
  have e2 : (kind == 2) = false := beq_eq_false_iff_ne.mpr h2
  have e3 : (kind == 3) = false := beq_eq_false_iff_ne.mpr h3
  clear h f hb0 hbx h0 h1 h2 h3
  go_enter Try.func16, Try.ntmps16
  go_wp2
  go_ret2
  exact ⟨rfl, S1, S2, HD.out, Step.same HB0.out⟩
theorem does_Q (h : KDM S1 S2 S3 B W gd g gm d n m l m l z) (f : Fine d n m l z k) (hsz : key.size + val.size ≤ 274877906944) : Calls Try.prog 16 #[.pointer (some ⟨g, 0, none⟩), .pointer (some ⟨gm, 0, none⟩), .agg #[.int .i64 kind, .string key, .string val, .int .i64 N, .int .i64 fuse, .int .i64 keep, .bool torn], .int .i64 free] W fun e W' => e = .returned (.tuple #[.int .i64 (doesS d n m l kind key val N).1, .int .i64 (doesR l m z kind key val N free).1]) ∧ ∃ S1' S2', KDM S1' S2' S3 B W' gd g gm (doesS d n m l kind key val N).2.1 n m (doesS d n m l kind key val N).2.2 m (doesR l m z kind key val N free).2.1 (doesR l m z kind key val N free).2.2 ∧ Step (U (U S1 S2) (At1 gm)) W (U (U S1' S2') (At1 gm)) W' := by
  unfold doesS doesR
  by_cases c0 : kind = 0
  · subst c0
    rw [if_pos rfl, if_pos rfl]
    exact does_put h f hsz
  rw [if_neg c0, if_neg c0]
  by_cases c1 : kind = 1
  · subst c1
    rw [if_pos rfl, if_pos rfl]
    exact does_evict h f
  rw [if_neg c1, if_neg c1]
  by_cases c2 : kind = 2
  · subst c2
    rw [if_pos rfl, if_pos rfl]
    exact does_sync h f
  rw [if_neg c2, if_neg c2]
  by_cases c3 : kind = 3
  · subst c3
    rw [if_pos rfl, if_pos rfl]
    exact does_compact h f
  rw [if_neg c3, if_neg c3]
  exact does_none h f c0 c1 c2 c3
end
end Go.Proofs.Ytclkcipakncjkaa.Kv
