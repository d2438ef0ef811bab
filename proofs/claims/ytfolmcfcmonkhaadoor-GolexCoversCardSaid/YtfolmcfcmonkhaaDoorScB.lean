/- The scanner of golex in memory: whether a line feed is a semicolon behind the last token, and the semicolon. -/
import Derived.Test.YtfolmcfcmonkhaaDoorScA
import Derived.Test.YtfolmcfcmonkhaaDoorTabs
namespace Go.Proofs.YtfolmcfcmonkhaaDoor.PAll
open Go Go.RowKit Go.Proofs.YtfolmcfcmonkhaaDoorW.PrintWords Go.Proofs.YtfolmcfcmonkhaaDoorW.PrintLast Go.Proofs.YtfolmcfcmonkhaaDoorW.PrintMore Go.Proofs.YtfolmcfcmonkhaaDoorMy Go.Proofs.YtfolmcfcmonkhaaDoor
set_option linter.unusedVariables false
set_option linter.unusedSimpArgs false
def endsL : List ByteArray := [⟨#[43, 43]⟩, ⟨#[45, 45]⟩, ⟨#[41]⟩, ⟨#[93]⟩, ⟨#[125]⟩]
/-- Whether a line feed is a semicolon behind a token. -/
def endsT (t : S27) : Bool :=
  if t.f0 = 1 then !(Lib.containsS wordsL t.f1) else if t.f0 = 2 then true else if t.f0 = 3 then true else if t.f0 = 4 then true else if t.f0 = 5 then Lib.containsS endsL t.f1 else false
def endsP (T : List S27) : Bool := if T.length = 0 then false else endsT (rd_T27 T ((T.length : Int) - 1))
set_option maxHeartbeats 4000000 in
set_option maxRecDepth 100000 in
theorem scanner_ends.empty_ (g : Nat) (s : ByteArray) (p : Int) (T N : List S27) (w0 w : World) (hI : Sc w0.heap.size w g s p T N) (hz : T.length = 0) :
    Calls Tryd.prog 51 #[.pointer (some ⟨g, 0, none⟩)] w fun e w' => e = .returned (.bool (endsP T)) ∧ Below w.heap.size w w' := by
  obtain ⟨tv, nv, h0, h1, h2, h3⟩ := hI
  obtain ⟨A2, k2, e2⟩ := Kd.R_slice h2
  subst e2
  have c2 : w.cell? ⟨g, 2, none⟩ = some (.slice A2 T.length k2) := (blk_cell h0 2).trans rfl
  rw [hz] at c2
  have he : endsP T = false := by rw [endsP, if_pos hz]
  rw [he]
  go_enter Tryd.func51, Tryd.ntmps51
  go_wp2
  go_ret
  exact ⟨rfl, by first | exact Below.refl _ _ | exact below_drew1 (Below.refl _ _)⟩
set_option maxHeartbeats 4000000 in
set_option maxRecDepth 100000 in
theorem scanner_ends.some_ (g : Nat) (s : ByteArray) (p : Int) (T N : List S27) (w0 w : World) (hT : Tabs w) (hI : Sc w0.heap.size w g s p T N) (hz : T.length ≠ 0) (hl : T.length < 4398046511104) :
    Calls Tryd.prog 51 #[.pointer (some ⟨g, 0, none⟩)] w fun e w' => e = .returned (.bool (endsP T)) ∧ Below w.heap.size w w' := by
  have hu27 := Tryd.underlying27
  obtain ⟨tv, nv, h0, h1, h2, h3⟩ := hI
  obtain ⟨A2, k2, e2⟩ := Kd.R_slice h2
  subst e2
  have c2 : w.cell? ⟨g, 2, none⟩ = some (.slice A2 T.length k2) := (blk_cell h0 2).trans rfl
  obtain ⟨i, hi⟩ : ∃ i : Int, i = (T.length : Int) - 1 := ⟨_, rfl⟩
  obtain ⟨t, ht⟩ : ∃ t, t = rd_T27 T i := ⟨_, rfl⟩
  have he : endsP T = endsT t := by rw [endsP, if_neg hz, ht, hi]
  rw [he]
  have p1 : 0 ≤ i := by omega
  have q1 : i < (T.length : Int) := by omega
  obtain ⟨ad, ea, hx0, hx1, hx2⟩ := at_T27 (Kd.R_reads' h2).2.2 i p1 q1
  subst ea
  rw [← ht] at hx0 hx1 hx2
  replace p1 := eq_true p1
  replace q1 := eq_true q1
  have hwr : wrap64 ((T.length : Int) - 1) = i := by rw [hi]; unfold wrap64; omega
  have z0 : ((T.length : Int) == 0) = false := by simp [hz]
  clear ht hi he
  go_enter Tryd.func51, Tryd.ntmps51
  go_wp2
  replace h0 := blk_drew h0
  replace hx0 := pw_cell_below (below_drew1 (Below.refl _ _)) hx0
  replace hx1 := pw_cell_below (below_drew1 (Below.refl _ _)) hx1
  replace hx2 := pw_cell_below (below_drew1 (Below.refl _ _)) hx2
  have HB := below_drew1 (Below.refl w.heap.size w)
  refine start_ (n := 14) (S := fun w' => w'.cell? ⟨g, 2, none⟩ = some (.slice (some ad) T.length k2) ∧ w'.cell? (ad.add (i.toNat * 3)) = some (.int .i64 t.f0) ∧ w'.cell? ⟨(ad.add (i.toNat * 3)).block, (ad.add (i.toNat * 3)).off + 1, none⟩ = some (.string t.f1) ∧ w'.cell? ⟨(ad.add (i.toNat * 3)).block, (ad.add (i.toNat * 3)).off + 2, none⟩ = some (.int .i64 t.f2)) (ds := [13]) #[false, false, false, false, false, false, false, false, false, false, false, false, false, false] (by kernel_rfl) rfl rfl ⟨(blk_cell h0 2).trans rfl, hx0, hx1, hx2⟩ (fun hHeld => ?_)
  generalize w.drew = wd at h0 hx0 hx1 hx2 HB hHeld ⊢
  refine pure_ (i := 0) (N := some 10) (v := ?_) (a' := ?_) #[true, false, false, false, false, false, false, false, false, false, false, false, false, false] rfl rfl (by kernel_rfl) (fun _ _ _ h => h) (Or.inl ⟨by rfl, ?_⟩) ?_ ?_
  rotate_left
  · intro w'
    go_simp
    with_reducible rfl
  rotate_left
  · simp only [Act.put, List.setIfInBounds_toArray, List.set_cons_zero, List.set_cons_succ, i64_w, i32_w]
    rfl
  refine pure_ (i := 1) (N := some 11) (v := ?_) (a' := ?_) #[true, true, false, false, false, false, false, false, false, false, false, false, false, false] rfl rfl (by kernel_rfl) (fun _ _ _ h => h) (Or.inl ⟨by rfl, ?_⟩) ?_ ?_
  rotate_left
  · intro w'
    go_simp
    with_reducible rfl
  rotate_left
  · simp only [Act.put, List.setIfInBounds_toArray, List.set_cons_zero, List.set_cons_succ, i64_w, i32_w]
    rfl
  refine pure_ (i := 2) (N := some 12) (v := ?_) (a' := ?_) #[true, true, true, false, false, false, false, false, false, false, false, false, false, false] rfl rfl (by kernel_rfl) (fun _ _ _ h => h) (Or.inl ⟨by rfl, ?_⟩) ?_ ?_
  rotate_left
  · intro w'
    go_simp
    with_reducible rfl
  rotate_left
  · simp only [Act.put, List.setIfInBounds_toArray, List.set_cons_zero, List.set_cons_succ, i64_w, i32_w]
    rfl
  refine pure_ (i := 4) (N := some 14) (v := ?_) (a' := ?_) #[true, true, true, false, true, false, false, false, false, false, false, false, false, false] rfl rfl (by kernel_rfl) (fun _ _ _ h => h) (Or.inl ⟨by rfl, ?_⟩) ?_ ?_
  rotate_left
  · intro w'
    go_simp
    with_reducible rfl
  rotate_left
  · simp only [Act.put, List.setIfInBounds_toArray, List.set_cons_zero, List.set_cons_succ, i64_w, i32_w]
    rfl
  refine pure_ (i := 5) (N := some 15) (v := ?_) (a' := ?_) #[true, true, true, false, true, true, false, false, false, false, false, false, false, false] rfl rfl (by kernel_rfl) (fun _ _ _ h => h) (Or.inl ⟨by rfl, ?_⟩) ?_ ?_
  rotate_left
  · intro w'
    go_simp
    with_reducible rfl
  rotate_left
  · simp only [Act.put, List.setIfInBounds_toArray, List.set_cons_zero, List.set_cons_succ, i64_w, i32_w]
    rfl
  refine pure_ (i := 6) (N := some 16) (v := ?_) (a' := ?_) #[true, true, true, false, true, true, true, false, false, false, false, false, false, false] rfl rfl (by kernel_rfl) (fun _ _ _ h => h) (Or.inl ⟨by rfl, ?_⟩) ?_ ?_
  rotate_left
  · intro w'
    go_simp
    with_reducible rfl
  rotate_left
  · simp only [Act.put, List.setIfInBounds_toArray, List.set_cons_zero, List.set_cons_succ, i64_w, i32_w]
    rfl
  refine take_ (i := 3) (N := some 13) (v := ?_) (a' := ?_) #[true, true, true, true, true, true, true, false, false, false, false, false, false, false] rfl rfl (by kernel_rfl) (fun _ _ _ h => h) (Or.inl ⟨by rfl, ?_⟩) hHeld ?_ ?_
  rotate_left
  · rintro w' ⟨s0, s1, s2, s3⟩
    go_simp
    with_reducible rfl
  rotate_left
  · simp only [Act.put, List.setIfInBounds_toArray, List.set_cons_zero, List.set_cons_succ, i64_w, i32_w]
    rfl
  refine take_ (i := 7) (N := some 17) (v := ?_) (a' := ?_) #[true, true, true, true, true, true, true, true, false, false, false, false, false, false] rfl rfl (by kernel_rfl) (fun _ _ _ h => h) (Or.inl ⟨by rfl, ?_⟩) hHeld ?_ ?_
  rotate_left
  · rintro w' ⟨s0, s1, s2, s3⟩
    go_simp
    with_reducible rfl
  rotate_left
  · simp only [Act.put, List.setIfInBounds_toArray, List.set_cons_zero, List.set_cons_succ, i64_w, i32_w]
    rfl
  refine pure_ (i := 8) (N := some 18) (v := ?_) (a' := ?_) #[true, true, true, true, true, true, true, true, true, false, false, false, false, false] rfl rfl (by kernel_rfl) (fun _ _ _ h => h) (Or.inl ⟨by rfl, ?_⟩) ?_ ?_
  rotate_left
  · intro w'
    go_simp
    with_reducible rfl
  rotate_left
  · simp only [Act.put, List.setIfInBounds_toArray, List.set_cons_zero, List.set_cons_succ, i64_w, i32_w]
    rfl
  refine pure_ (i := 9) (N := some 19) (v := ?_) (a' := ?_) #[true, true, true, true, true, true, true, true, true, true, false, false, false, false] rfl rfl (by kernel_rfl) (fun _ _ _ h => h) (Or.inl ⟨by rfl, ?_⟩) ?_ ?_
  rotate_left
  · intro w'
    go_simp
    with_reducible rfl
  rotate_left
  · simp only [Act.put, List.setIfInBounds_toArray, List.set_cons_zero, List.set_cons_succ, i64_w, i32_w]
    rfl
  refine pure_ (i := 10) (N := some 20) (v := ?_) (a' := ?_) #[true, true, true, true, true, true, true, true, true, true, true, false, false, false] rfl rfl (by kernel_rfl) (fun _ _ _ h => h) (Or.inl ⟨by rfl, ?_⟩) ?_ ?_
  rotate_left
  · intro w'
    go_simp
    with_reducible rfl
  rotate_left
  · simp only [Act.put, List.setIfInBounds_toArray, List.set_cons_zero, List.set_cons_succ, i64_w, i32_w]
    rfl
  refine take_ (i := 11) (N := some 21) (v := ?_) (a' := ?_) #[true, true, true, true, true, true, true, true, true, true, true, true, false, false] rfl rfl (by kernel_rfl) (fun _ _ _ h => h) (Or.inl ⟨by rfl, ?_⟩) hHeld ?_ ?_
  rotate_left
  · rintro w' ⟨s0, s1, s2, s3⟩
    go_simp
    with_reducible rfl
  rotate_left
  · simp only [Act.put, List.setIfInBounds_toArray, List.set_cons_zero, List.set_cons_succ, i64_w, i32_w]
    rfl
  refine one_ (i := 12) (N := some 3) #[true, true, true, true, true, true, true, true, true, true, true, true, true, false] rfl rfl (by kernel_rfl) (by decide) (fun K hK => ?_)
  refine value_ (w1 := ?_) (v := ?_) (by rfl) rfl ?_ ?_
  rotate_left 2
  · go_simp
    constructor
    · rfl
    · rfl
  refine hK.out _ _ ⟨(blk_cell (blk_alloc h0 _) 2).trans rfl, pw_cell_below (below_alloc (Below.refl _ _) _) hx0, pw_cell_below (below_alloc (Below.refl _ _) _) hx1, pw_cell_below (below_alloc (Below.refl _ _) _) hx2⟩ (fun hHeld => ?_)
  clear hK K
  refine norm_ (a' := ?_) ?_ ?_
  rotate_left
  · show Act.put _ (some 3) _ = _
    simp only [Act.put, List.setIfInBounds_toArray, List.set_cons_zero, List.set_cons_succ, i64_w, i32_w]
    rfl
  refine last_ (i := 13) (N := none) #[true, true, true, true, true, true, true, true, true, true, true, true, true, true] rfl rfl (by kernel_rfl) (by decide) (fun K hK => ?_)
  refine skip_ (w1 := ?_) (by rfl) rfl ?_ ?_
  rotate_left
  · go_simp
    rfl
  refine hK.out _ _ ?_
  clear hK K
  refine done_ (by kernel_rfl) ?_
  have bk := blk_new wd (.cells #[.int .i64 t.f0, .string t.f1, .int .i64 t.f2] 27 (0, 0))
  have HB1 := below_alloc HB (.cells #[.int .i64 t.f0, .string t.f1, .int .i64 t.f2] 27 (0, 0))
  clear hHeld h0 hx0 hx1 hx2 HB
  generalize wd.alloc (.cells #[.int .i64 t.f0, .string t.f1, .int .i64 t.f2] 27 (0, 0)) = w1 at bk HB1 ⊢
  generalize wd.heap.size = gb at bk ⊢
  have hT1 := hT.below HB1
  obtain ⟨R, o, cap, v1, v2⟩ := hT1.words
  have ct0 : w1.cell? ⟨gb, 0, none⟩ = some (.int .i64 t.f0) := (blk_cell bk 0).trans rfl
  have ct1 : w1.cell? ⟨gb, 1, none⟩ = some (.string t.f1) := (blk_cell bk 1).trans rfl
  by_cases a1 : t.f0 = 1
  · rw [a1] at ct0
    go_wp2_with (first | (go_at_call 23; refine (Tryd.slices_Contains_string R o wordsL.length cap wordsL t.f1 w1 (Nat.le_refl _) (by decide) v2).mono ?_; rintro e w2 ⟨rfl, rfl⟩; simp only [List.take_length]))
    go_ret
    exact ⟨by simp [endsT, *], by first | exact HB1 | exact below_alloc HB1 _⟩
  have b1 : (t.f0 == 1) = false := by simp [a1]
  by_cases a2 : t.f0 = 2
  · rw [a2] at ct0
    go_wp2
    go_ret
    exact ⟨by simp [endsT, *], by first | exact HB1 | exact below_alloc HB1 _⟩
  have b2 : (t.f0 == 2) = false := by simp [a2]
  by_cases a3 : t.f0 = 3
  · rw [a3] at ct0
    go_wp2
    go_ret
    exact ⟨by simp [endsT, *], by first | exact HB1 | exact below_alloc HB1 _⟩
  have b3 : (t.f0 == 3) = false := by simp [a3]
  by_cases a4 : t.f0 = 4
  · rw [a4] at ct0
    go_wp2
    go_ret
    exact ⟨by simp [endsT, *], by first | exact HB1 | exact below_alloc HB1 _⟩
  have b4 : (t.f0 == 4) = false := by simp [a4]
  by_cases a5 : t.f0 = 5
  · rw [a5] at ct0
    have ca : ∀ o, (w1.alloc o).cell? ⟨gb, 1, none⟩ = some (.string t.f1) := fun o => (blk_cell (blk_alloc bk o) 1).trans rfl
    go_wp2_with (first | (go_at_call 23; refine (Tryd.slices_Contains_string w1.heap.size 0 5 5 endsL t.f1 _ (by decide) (by decide) ?_).mono ?_; rotate_left; rintro e w2 ⟨rfl, rfl⟩))
    · go_ret
      refine ⟨?_, below_alloc HB1 _⟩
      have e5 : List.take 5 endsL = endsL := rfl
      rw [e5]
      simp [endsT, a1, a2, a3, a4, a5]
    · intro j hj
      rw [Nat.zero_add, blk_cell (blk_new _ _) j]
      match j, hj with
      | 0, _ => rfl
      | 1, _ => rfl
      | 2, _ => rfl
      | 3, _ => rfl
      | 4, _ => rfl
  have b5 : (t.f0 == 5) = false := by simp [a5]
  go_wp2
  go_ret
  exact ⟨by simp [endsT, *], HB1⟩
theorem scanner_ends.calls (g : Nat) (s : ByteArray) (p : Int) (T N : List S27) (w0 w : World) (hT : Tabs w) (hI : Sc w0.heap.size w g s p T N) (hl : T.length < 4398046511104) :
    Calls Tryd.prog 51 #[.pointer (some ⟨g, 0, none⟩)] w fun e w' => e = .returned (.bool (endsP T)) ∧ Below w.heap.size w w' := by
  by_cases hz : T.length = 0
  · exact scanner_ends.empty_ g s p T N w0 w hI hz
  · exact scanner_ends.some_ g s p T N w0 w hT hI hz hl
/-- The tokens behind a line feed at a place. -/
def feedT (T : List S27) (at_ : Int) : List S27 := if endsP T = true then T ++ [⟨6, (⟨#[]⟩ : ByteArray), at_⟩] else T
set_option maxHeartbeats 4000000 in
set_option maxRecDepth 100000 in
/-- feed: a semicolon, perhaps. -/
theorem scanner_feed.calls (g : Nat) (s : ByteArray) (p : Int) (T N : List S27) (a1 : Int) (w0 w : World) (hT : Tabs w) (hI : Sc w0.heap.size w g s p T N) (hB : Below w0.heap.size w0 w) (hl : T.length < 4398046511104) :
    Calls Tryd.prog 37 #[.pointer (some ⟨g, 0, none⟩), .int .i64 a1] w fun e w' => e = .returned (.tuple #[]) ∧ Sc w0.heap.size w' g s p (feedT T a1) N ∧ Below w0.heap.size w0 w' := by
  have hu27 := Tryd.underlying27
  by_cases hz : endsP T = true
  · have e1 : feedT T a1 = T ++ [⟨6, (⟨#[]⟩ : ByteArray), a1⟩] := by rw [feedT, if_pos hz]
    rw [e1]
    go_enter Tryd.func37, Tryd.ntmps37
    go_wp2_with (first | (go_at_call 51; refine (scanner_ends.calls g s p T N w0 w hT hI hl).mono ?_; rintro e w2 ⟨rfl, hb⟩; have hI2 := hI.below hb; have HB := Aside0.mk (below_step hB hb); rw [hz]; obtain ⟨tv, nv, h0, h1, h2, h3⟩ := hI2; have c2 : w2.cell? ⟨g, 2, none⟩ = some tv := (blk_cell h0 2).trans rfl; obtain ⟨A2, k2, e2⟩ := Kd.R_slice h2; subst e2) | ((with_reducible refine gate_builtin (b := .append) (xs := #[.tmp 10, .tmp 13]) rfl ?_); (try (refine gate_guard (by rfl) ?_; dsimp only)); at_builtin; refine Kd.R_append k27 (w0 := w0) w0.heap.size rfl (.tmp 10) (.tmp 13) 24 27 (.agg #[(.int .i64 0), (.string ⟨#[]⟩), (.int .i64 0)]) 32 rfl Tryd.underlying24 info27 rfl (by decide) (by omega) (.slice A2 T.length k2) T (⟨6, (⟨#[]⟩ : ByteArray), a1⟩ : S27) [.int .i64 6, .string (⟨#[]⟩ : ByteArray), .int .i64 a1] (fun k => some k ≠ (nv : Value).ownBlock) (fun _ => False) rfl rfl ?aP (fun _ hk => hk.elim) ?aF ?aO ?aB ?aS ?aL ?_; (case aP => exact k27_mkM _ _ _ (⟨6, (⟨#[]⟩ : ByteArray), a1⟩ : S27)); (case aB => exact HB.out); (case aF => intro k hk e; have := Kd.R_lt h3 k e.symm; omega); (case aO => exact h2); (case aS => exact below_size HB.out); (case aL => omega); intro v1 w1 ho hb hg hat; obtain ⟨Az, kz, ez⟩ := Kd.R_slice ho; subst ez; simp only [List.length_append, List.length_cons, List.length_nil, Nat.zero_add] at ho hat; have b1 := blk_grown h0 hg (Sc.ne h0 h2); have f1 := blk_frozen b1 2; have d0 : w1.cell? ⟨g, 0, none⟩ = some (.string s) := (blk_cell b1 0).trans rfl; have d1 : w1.cell? ⟨g, 1, none⟩ = some (.int .i64 p) := (blk_cell b1 1).trans rfl; have f1_ := blk_frozen b1 1; have c1 : w1.cell? ⟨g, 2, none⟩ = some (.slice A2 T.length k2) := (blk_cell b1 2).trans rfl))
    refine bodyPost_end (results_none rfl _ _ _) rfl ?_
    exact ⟨rfl, Sc.put_tok h1 h0 h2 h3 ho hg hat, below_set hb h1⟩
  · have hz' := Bool.eq_false_iff.mpr hz
    have e1 : feedT T a1 = T := by rw [feedT, if_neg hz]
    rw [e1]
    go_enter Tryd.func37, Tryd.ntmps37
    go_wp2_with (first | (go_at_call 51; refine (scanner_ends.calls g s p T N w0 w hT hI hl).mono ?_; rintro e w2 ⟨rfl, hb⟩; have hI2 := hI.below hb; have HB := below_step hB hb; rw [hz']))
    refine bodyPost_end (results_none rfl _ _ _) rfl ?_
    exact ⟨rfl, hI2, HB⟩
end Go.Proofs.YtfolmcfcmonkhaaDoor.PAll
