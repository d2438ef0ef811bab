/- The scanner of golex in memory: what it holds, told as a text, a place and two lists; its small methods. -/
import Derived.Test.YtfolmcfcmonkhaaDoorPAllx2
namespace Go.Proofs.YtfolmcfcmonkhaaDoor.PAll
open Go Go.RowKit Go.Proofs.YtfolmcfcmonkhaaDoorW.PrintWords Go.Proofs.YtfolmcfcmonkhaaDoorW.PrintLast Go.Proofs.YtfolmcfcmonkhaaDoorW.PrintMore Go.Proofs.YtfolmcfcmonkhaaDoorMy Go.Proofs.YtfolmcfcmonkhaaDoor
set_option linter.unusedVariables false
set_option linter.unusedSimpArgs false
/-- The scanner at block g: its text, its place, its tokens and its notes (each list in a row of the call's own). -/
def Sc (B : Nat) (W : World) (g : Nat) (s : ByteArray) (p : Int) (T N : List S27) : Prop :=
  ∃ tv nv, W.heap[g]? = some (.cells #[.string s, .int .i64 p, tv, nv] 36 (0, 0)) ∧ B ≤ g ∧ Kd.R k27 27 W B (fun k => some k ≠ nv.ownBlock) tv T ∧ Kd.R k27 27 W B (fun k => some k ≠ tv.ownBlock) nv N
section
variable {B : Nat} {W W1 : World} {g : Nat} {s : ByteArray} {p : Int} {T N : List S27}
theorem Sc.below (h : Sc B W g s p T N) (hb : Below W.heap.size W W1) : Sc B W1 g s p T N := by
  obtain ⟨tv, nv, h0, h1, h2, h3⟩ := h
  exact ⟨tv, nv, blk_below h0 hb, h1, Kd.R_below h2 hb, Kd.R_below h3 hb⟩
/-- The two rows lie in no block of the scanner's own. -/
theorem Sc.ne {tv : Value} {ok : Nat → Prop} {xs : List S27} {cs : Array Value} (h0 : W.heap[g]? = some (.cells cs 36 (0, 0))) (h : Kd.R k27 27 W B ok tv xs) : some g ≠ tv.ownBlock := by
  intro e
  obtain ⟨inner, ho⟩ := Kd.R_own h
  obtain ⟨cells, hc⟩ := own_typed ho g e.symm
  rw [h0] at hc
  simp at hc
/-- One cell of the scanner's own is written. -/
theorem Sc.rows_set {v : Value} {ok : Nat → Prop} {xs : List S27} {cs : Array Value} (h0 : W.heap[g]? = some (.cells cs 36 (0, 0))) (h : Kd.R k27 27 W B ok v xs) (j : Nat) (u : Value) : Kd.R k27 27 (W.setCell ⟨g, j, none⟩ u) B ok v xs :=
  Kd.R_set h h0 (by intro q hq; simp [k27, Kd.iso, Kd.pair, Kd.int, Kd.string, Kd.scalar] at hq; omega) j u
theorem Sc.blk_set {cs : Array Value} {t : TypeId} (h0 : W.heap[g]? = some (.cells cs t (0, 0))) (j : Nat) (u : Value) : (W.setCell ⟨g, j, none⟩ u).heap[g]? = some (.cells (cs.setIfInBounds j u) t (0, 0)) := by
  simp [World.setCell, Array.getElem?_modify, h0]
/-- A token is put behind the tokens, and stored. -/
theorem Sc.put_tok {W1 : World} {tv nv v1 : Value} {x : S27} (hg0 : B ≤ g) (h0 : W.heap[g]? = some (.cells #[.string s, .int .i64 p, tv, nv] 36 (0, 0))) (h2 : Kd.R k27 27 W B (fun k => some k ≠ nv.ownBlock) tv T) (h3 : Kd.R k27 27 W B (fun k => some k ≠ tv.ownBlock) nv N)
    (ho : Kd.R k27 27 W1 B (fun k => some k ≠ nv.ownBlock) v1 (T ++ [x])) (hg : W.grownBy W1 tv.ownBlock) (hat : v1.ownBlock = tv.ownBlock ∨ ∃ b, v1.ownBlock = some b ∧ W.heap.size ≤ b) :
    Sc B (W1.setCell ⟨g, 2, none⟩ v1) g s p (T ++ [x]) N := by
  have b1 : W1.heap[g]? = some (.cells #[.string s, .int .i64 p, tv, nv] 36 (0, 0)) := blk_grown h0 hg (Sc.ne h0 h2)
  have h3' : Kd.R k27 27 W1 B (fun k => some k ≠ v1.ownBlock) nv N := Kd.R_mono (Kd.R_after (ok := fun _ => True) (Kd.R_mono h3 (fun k hk => ⟨trivial, hk⟩)) hg hat) (fun k hk => hk.2)
  refine ⟨v1, nv, Sc.blk_set b1 2 v1, hg0, Sc.rows_set b1 ho 2 v1, Sc.rows_set b1 h3' 2 v1⟩
/-- A comment is put behind the comments, and stored. -/
theorem Sc.put_note {W1 : World} {tv nv v1 : Value} {x : S27} (hg0 : B ≤ g) (h0 : W.heap[g]? = some (.cells #[.string s, .int .i64 p, tv, nv] 36 (0, 0))) (h2 : Kd.R k27 27 W B (fun k => some k ≠ nv.ownBlock) tv T) (h3 : Kd.R k27 27 W B (fun k => some k ≠ tv.ownBlock) nv N)
    (ho : Kd.R k27 27 W1 B (fun k => some k ≠ tv.ownBlock) v1 (N ++ [x])) (hg : W.grownBy W1 nv.ownBlock) (hat : v1.ownBlock = nv.ownBlock ∨ ∃ b, v1.ownBlock = some b ∧ W.heap.size ≤ b) :
    Sc B (W1.setCell ⟨g, 3, none⟩ v1) g s p T (N ++ [x]) := by
  have b1 : W1.heap[g]? = some (.cells #[.string s, .int .i64 p, tv, nv] 36 (0, 0)) := blk_grown h0 hg (Sc.ne h0 h3)
  have h2' : Kd.R k27 27 W1 B (fun k => some k ≠ v1.ownBlock) tv T := Kd.R_mono (Kd.R_after (ok := fun _ => True) (Kd.R_mono h2 (fun k hk => ⟨trivial, hk⟩)) hg hat) (fun k hk => hk.2)
  refine ⟨tv, v1, Sc.blk_set b1 3 v1, hg0, Sc.rows_set b1 h2' 3 v1, Sc.rows_set b1 ho 3 v1⟩
/-- The place is set. -/
theorem Sc.at_set (h : Sc B W g s p T N) (q : Int) : Sc B (W.setCell ⟨g, 1, none⟩ (.int .i64 q)) g s q T N := by
  obtain ⟨tv, nv, h0, h1, h2, h3⟩ := h
  exact ⟨tv, nv, Sc.blk_set h0 1 _, h1, Sc.rows_set h0 h2 1 _, Sc.rows_set h0 h3 1 _⟩
end
set_option maxHeartbeats 4000000 in
set_option maxRecDepth 100000 in
/-- bad: a fault is put behind the tokens. -/
theorem scanner_bad.calls (g : Nat) (s : ByteArray) (p : Int) (T N : List S27) (a1 : Int) (w0 w : World) (hI : Sc w0.heap.size w g s p T N) (hB : Below w0.heap.size w0 w) (hl : T.length < 4398046511104) :
    Calls Tryd.prog 39 #[.pointer (some ⟨g, 0, none⟩), .int .i64 a1] w fun e w' => e = .returned (.bool false) ∧ Sc w0.heap.size w' g s p (T ++ [⟨7, (⟨#[]⟩ : ByteArray), a1⟩]) N ∧ Below w0.heap.size w0 w' := by
  have hu27 := Tryd.underlying27
  obtain ⟨tv, nv, h0, h1, h2, h3⟩ := hI
  have c2 : w.cell? ⟨g, 2, none⟩ = some tv := (blk_cell h0 2).trans rfl
  have HB := Aside0.mk hB
  obtain ⟨A2, k2, e2⟩ := Kd.R_slice h2
  subst e2
  go_enter Tryd.func39, Tryd.ntmps39
  go_wp2_with ((with_reducible refine gate_builtin (b := .append) (xs := #[.tmp 9, .tmp 12]) rfl ?_); (try (refine gate_guard (by rfl) ?_; dsimp only)); at_builtin; refine Kd.R_append k27 (w0 := w0) w0.heap.size rfl (.tmp 9) (.tmp 12) 24 27 (.agg #[(.int .i64 0), (.string ⟨#[]⟩), (.int .i64 0)]) 32 rfl Tryd.underlying24 info27 rfl (by decide) (by omega) (.slice A2 T.length k2) T (⟨7, (⟨#[]⟩ : ByteArray), a1⟩ : S27) [.int .i64 7, .string (⟨#[]⟩ : ByteArray), .int .i64 a1] (fun k => some k ≠ (nv : Value).ownBlock) (fun _ => False) rfl rfl ?aP (fun _ hk => hk.elim) ?aF ?aO ?aB ?aS ?aL ?_; (case aP => exact k27_mkM _ _ _ (⟨7, (⟨#[]⟩ : ByteArray), a1⟩ : S27)); (case aB => exact HB.out); (case aF => intro k hk e; have := Kd.R_lt h3 k e.symm; omega); (case aO => exact h2); (case aS => exact below_size HB.out); (case aL => omega); intro v1 w1 ho hb hg hat; obtain ⟨Az, kz, ez⟩ := Kd.R_slice ho; subst ez; simp only [List.length_append, List.length_cons, List.length_nil, Nat.zero_add] at ho hat; have b1 := blk_grown h0 hg (Sc.ne h0 h2); have f1 := blk_frozen b1 2; have d0 : w1.cell? ⟨g, 0, none⟩ = some (.string s) := (blk_cell b1 0).trans rfl; have d1 : w1.cell? ⟨g, 1, none⟩ = some (.int .i64 p) := (blk_cell b1 1).trans rfl; have f1_ := blk_frozen b1 1; have c1 : w1.cell? ⟨g, 2, none⟩ = some (.slice A2 T.length k2) := (blk_cell b1 2).trans rfl)
  go_ret
  exact ⟨rfl, Sc.put_tok h1 h0 h2 h3 ho hg hat, below_set hb h1⟩
set_option maxHeartbeats 4000000 in
set_option maxRecDepth 100000 in
/-- put: a token is put behind the tokens, and the place is behind it. -/
theorem scanner_put.calls (g : Nat) (s : ByteArray) (p : Int) (T N : List S27) (a1 a2 a3 : Int) (w0 w : World) (hI : Sc w0.heap.size w g s p T N) (hB : Below w0.heap.size w0 w) (hl : T.length < 4398046511104) (q0 : 0 ≤ a2) (q1 : a2 ≤ a3) (q2 : a3 ≤ (s.size : Int)) :
    Calls Tryd.prog 38 #[.pointer (some ⟨g, 0, none⟩), .int .i64 a1, .int .i64 a2, .int .i64 a3] w fun e w' => e = .returned (.tuple #[]) ∧ Sc w0.heap.size w' g s a3 (T ++ [⟨a1, s.extract a2.toNat a3.toNat, a2⟩]) N ∧ Below w0.heap.size w0 w' := by
  have hu27 := Tryd.underlying27
  obtain ⟨tv, nv, h0, h1, h2, h3⟩ := hI
  obtain ⟨A2, k2, e2⟩ := Kd.R_slice h2
  subst e2
  have c0 : w.cell? ⟨g, 0, none⟩ = some (.string s) := (blk_cell h0 0).trans rfl
  have c2 : w.cell? ⟨g, 2, none⟩ = some (.slice A2 T.length k2) := (blk_cell h0 2).trans rfl
  have r0 : (0 ≤ a2) = True := eq_true q0
  have r1 : (a2 ≤ a3) = True := eq_true q1
  have r2 : (a3 ≤ (s.size : Int)) = True := eq_true q2
  go_enter Tryd.func38, Tryd.ntmps38
  go_wp2
  clear c0 c2
  replace h0 := blk_drew h0
  replace h2 := Kd.R_drew h2
  replace h3 := Kd.R_drew h3
  replace hB := below_drew1 hB
  refine start_ (n := 20) (S := fun w' => w'.cell? ⟨g, 0, none⟩ = some (.string s) ∧ w'.cell? ⟨g, 2, none⟩ = some (.slice A2 T.length k2)) (ds := [19]) #[false, false, false, false, false, false, false, false, false, false, false, false, false, false, false, false, false, false, false, false] (by kernel_rfl) rfl rfl ⟨(blk_cell h0 0).trans rfl, (blk_cell h0 2).trans rfl⟩ (fun hHeld => ?_)
  generalize w.drew = wd at h0 h2 h3 hB hHeld ⊢
  refine pure_ (i := 0) (N := some 8) (v := ?_) (a' := ?_) #[true, false, false, false, false, false, false, false, false, false, false, false, false, false, false, false, false, false, false, false] rfl rfl (by kernel_rfl) (fun _ _ _ h => h) (Or.inl ⟨by rfl, ?_⟩) ?_ ?_
  rotate_left
  · intro w'
    go_simp
    with_reducible rfl
  rotate_left
  · simp only [Act.put, List.setIfInBounds_toArray, List.set_cons_zero, List.set_cons_succ, i64_w, i32_w]
    rfl
  refine pure_ (i := 1) (N := some 9) (v := ?_) (a' := ?_) #[true, true, false, false, false, false, false, false, false, false, false, false, false, false, false, false, false, false, false, false] rfl rfl (by kernel_rfl) (fun _ _ _ h => h) (Or.inl ⟨by rfl, ?_⟩) ?_ ?_
  rotate_left
  · intro w'
    go_simp
    with_reducible rfl
  rotate_left
  · simp only [Act.put, List.setIfInBounds_toArray, List.set_cons_zero, List.set_cons_succ, i64_w, i32_w]
    rfl
  refine pure_ (i := 2) (N := some 10) (v := ?_) (a' := ?_) #[true, true, true, false, false, false, false, false, false, false, false, false, false, false, false, false, false, false, false, false] rfl rfl (by kernel_rfl) (fun _ _ _ h => h) (Or.inl ⟨by rfl, ?_⟩) ?_ ?_
  rotate_left
  · intro w'
    go_simp
    with_reducible rfl
  rotate_left
  · simp only [Act.put, List.setIfInBounds_toArray, List.set_cons_zero, List.set_cons_succ, i64_w, i32_w]
    rfl
  refine pure_ (i := 3) (N := some 11) (v := ?_) (a' := ?_) #[true, true, true, true, false, false, false, false, false, false, false, false, false, false, false, false, false, false, false, false] rfl rfl (by kernel_rfl) (fun _ _ _ h => h) (Or.inl ⟨by rfl, ?_⟩) ?_ ?_
  rotate_left
  · intro w'
    go_simp
    with_reducible rfl
  rotate_left
  · simp only [Act.put, List.setIfInBounds_toArray, List.set_cons_zero, List.set_cons_succ, i64_w, i32_w]
    rfl
  refine pure_ (i := 5) (N := some 13) (v := ?_) (a' := ?_) #[true, true, true, true, false, true, false, false, false, false, false, false, false, false, false, false, false, false, false, false] rfl rfl (by kernel_rfl) (fun _ _ _ h => h) (Or.inl ⟨by rfl, ?_⟩) ?_ ?_
  rotate_left
  · intro w'
    go_simp
    with_reducible rfl
  rotate_left
  · simp only [Act.put, List.setIfInBounds_toArray, List.set_cons_zero, List.set_cons_succ, i64_w, i32_w]
    rfl
  refine pure_ (i := 6) (N := some 14) (v := ?_) (a' := ?_) #[true, true, true, true, false, true, true, false, false, false, false, false, false, false, false, false, false, false, false, false] rfl rfl (by kernel_rfl) (fun _ _ _ h => h) (Or.inl ⟨by rfl, ?_⟩) ?_ ?_
  rotate_left
  · intro w'
    go_simp
    with_reducible rfl
  rotate_left
  · simp only [Act.put, List.setIfInBounds_toArray, List.set_cons_zero, List.set_cons_succ, i64_w, i32_w]
    rfl
  refine pure_ (i := 7) (N := some 15) (v := ?_) (a' := ?_) #[true, true, true, true, false, true, true, true, false, false, false, false, false, false, false, false, false, false, false, false] rfl rfl (by kernel_rfl) (fun _ _ _ h => h) (Or.inl ⟨by rfl, ?_⟩) ?_ ?_
  rotate_left
  · intro w'
    go_simp
    with_reducible rfl
  rotate_left
  · simp only [Act.put, List.setIfInBounds_toArray, List.set_cons_zero, List.set_cons_succ, i64_w, i32_w]
    rfl
  refine pure_ (i := 8) (N := some 16) (v := ?_) (a' := ?_) #[true, true, true, true, false, true, true, true, true, false, false, false, false, false, false, false, false, false, false, false] rfl rfl (by kernel_rfl) (fun _ _ _ h => h) (Or.inl ⟨by rfl, ?_⟩) ?_ ?_
  rotate_left
  · intro w'
    go_simp
    with_reducible rfl
  rotate_left
  · simp only [Act.put, List.setIfInBounds_toArray, List.set_cons_zero, List.set_cons_succ, i64_w, i32_w]
    rfl
  refine pure_ (i := 10) (N := some 18) (v := ?_) (a' := ?_) #[true, true, true, true, false, true, true, true, true, false, true, false, false, false, false, false, false, false, false, false] rfl rfl (by kernel_rfl) (fun _ _ _ h => h) (Or.inl ⟨by rfl, ?_⟩) ?_ ?_
  rotate_left
  · intro w'
    go_simp
    with_reducible rfl
  rotate_left
  · simp only [Act.put, List.setIfInBounds_toArray, List.set_cons_zero, List.set_cons_succ, i64_w, i32_w]
    rfl
  refine pure_ (i := 11) (N := some 19) (v := ?_) (a' := ?_) #[true, true, true, true, false, true, true, true, true, false, true, true, false, false, false, false, false, false, false, false] rfl rfl (by kernel_rfl) (fun _ _ _ h => h) (Or.inl ⟨by rfl, ?_⟩) ?_ ?_
  rotate_left
  · intro w'
    go_simp
    with_reducible rfl
  rotate_left
  · simp only [Act.put, List.setIfInBounds_toArray, List.set_cons_zero, List.set_cons_succ, i64_w, i32_w]
    rfl
  refine pure_ (i := 13) (N := some 21) (v := ?_) (a' := ?_) #[true, true, true, true, false, true, true, true, true, false, true, true, false, true, false, false, false, false, false, false] rfl rfl (by kernel_rfl) (fun _ _ _ h => h) (Or.inl ⟨by rfl, ?_⟩) ?_ ?_
  rotate_left
  · intro w'
    go_simp
    with_reducible rfl
  rotate_left
  · simp only [Act.put, List.setIfInBounds_toArray, List.set_cons_zero, List.set_cons_succ, i64_w, i32_w]
    rfl
  refine take_ (i := 4) (N := some 12) (v := ?_) (a' := ?_) #[true, true, true, true, true, true, true, true, true, false, true, true, false, true, false, false, false, false, false, false] rfl rfl (by kernel_rfl) (fun _ _ _ h => h) (Or.inl ⟨by rfl, ?_⟩) hHeld ?_ ?_
  rotate_left
  · rintro w' ⟨s0, s1⟩
    go_simp
    with_reducible rfl
  rotate_left
  · simp only [Act.put, List.setIfInBounds_toArray, List.set_cons_zero, List.set_cons_succ, i64_w, i32_w]
    rfl
  refine take_ (i := 9) (N := some 17) (v := ?_) (a' := ?_) #[true, true, true, true, true, true, true, true, true, true, true, true, false, true, false, false, false, false, false, false] rfl rfl (by kernel_rfl) (fun _ _ _ h => h) (Or.inl ⟨by rfl, ?_⟩) hHeld ?_ ?_
  rotate_left
  · rintro w' ⟨s0, s1⟩
    go_simp
    with_reducible rfl
  rotate_left
  · simp only [Act.put, List.setIfInBounds_toArray, List.set_cons_zero, List.set_cons_succ, i64_w, i32_w]
    rfl
  refine pure_ (i := 12) (N := some 20) (v := ?_) (a' := ?_) #[true, true, true, true, true, true, true, true, true, true, true, true, true, true, false, false, false, false, false, false] rfl rfl (by kernel_rfl) (fun _ _ _ h => h) (Or.inl ⟨by rfl, ?_⟩) ?_ ?_
  rotate_left
  · intro w'
    go_simp
    with_reducible rfl
  rotate_left
  · simp only [Act.put, List.setIfInBounds_toArray, List.set_cons_zero, List.set_cons_succ, i64_w, i32_w]
    rfl
  refine pure_ (i := 14) (N := some 22) (v := ?_) (a' := ?_) #[true, true, true, true, true, true, true, true, true, true, true, true, true, true, true, false, false, false, false, false] rfl rfl (by kernel_rfl) (fun _ _ _ h => h) (Or.inl ⟨by rfl, ?_⟩) ?_ ?_
  rotate_left
  · intro w'
    go_simp
    with_reducible rfl
  rotate_left
  · simp only [Act.put, List.setIfInBounds_toArray, List.set_cons_zero, List.set_cons_succ, i64_w, i32_w]
    rfl
  refine one_ (i := 15) (N := some 23) #[true, true, true, true, true, true, true, true, true, true, true, true, true, true, true, true, false, false, false, false] rfl rfl (by kernel_rfl) (by decide) (fun K hK => ?_)
  refine value_ (w1 := ?_) (v := ?_) (by rfl) rfl ?_ ?_
  rotate_left 2
  · go_simp
    constructor
    · rfl
    · rfl
  refine hK.out _ _ ⟨(blk_cell (blk_alloc h0 _) 0).trans rfl, (blk_cell (blk_alloc h0 _) 2).trans rfl⟩ (fun hHeld => ?_)
  clear hK K
  refine norm_ (a' := ?_) ?_ ?_
  rotate_left
  · show Act.put _ (some 23) _ = _
    simp only [Act.put, List.setIfInBounds_toArray, List.set_cons_zero, List.set_cons_succ, i64_w, i32_w]
    rfl
  refine one_ (i := 16) (N := some 24) #[true, true, true, true, true, true, true, true, true, true, true, true, true, true, true, true, true, false, false, false] rfl rfl (by kernel_rfl) (by decide) (fun K hK => ?_)
  refine Kd.R_append_step k27 (w0 := w0) w0.heap.size (by rfl) (.tmp 12) (.tmp 23) 24 27 (.agg #[(.int .i64 0), (.string ⟨#[]⟩), (.int .i64 0)]) 32 rfl Tryd.underlying24 info27 rfl (by decide) (by omega) (.slice A2 T.length k2) T (⟨a1, s.extract a2.toNat a3.toNat, a2⟩ : S27) [.int .i64 a1, .string (s.extract a2.toNat a3.toNat), .int .i64 a2] (fun k => some k ≠ (nv : Value).ownBlock) (fun _ => False) rfl rfl ?aP (fun _ hk => hk.elim) ?aF ?aO ?aB ?aS ?aL ?_
  (case aP => exact k27_mkM _ _ _ (⟨a1, s.extract a2.toNat a3.toNat, a2⟩ : S27))
  (case aB => exact hB)
  (case aF => intro k hk e; have := Kd.R_lt h3 k e.symm; omega)
  (case aO => exact h2)
  (case aS => exact below_size hB)
  (case aL => omega)
  intro v1 w1 ho hb hg hat
  obtain ⟨Az, kz, ez⟩ := Kd.R_slice ho
  subst ez
  simp only [List.length_append, List.length_cons, List.length_nil, Nat.zero_add] at ho hat
  have b1 := blk_grown h0 hg (Sc.ne h0 h2)
  have f1_0 := blk_frozen b1 0
  have f1_1 := blk_frozen b1 1
  have f1_2 := blk_frozen b1 2
  have f1_3 := blk_frozen b1 3
  have d1_0 : w1.cell? ⟨g, 0, none⟩ = some (.string s) := (blk_cell b1 0).trans rfl
  have d1_1 : w1.cell? ⟨g, 1, none⟩ = some (.int .i64 p) := (blk_cell b1 1).trans rfl
  have d1_2 : w1.cell? ⟨g, 2, none⟩ = some (.slice A2 T.length k2) := (blk_cell b1 2).trans rfl
  have d1_3 : w1.cell? ⟨g, 3, none⟩ = some (nv) := (blk_cell b1 3).trans rfl
  refine hK.out _ _ ⟨d1_0, d1_2⟩ (fun hHeld => ?_)
  clear hK K
  refine norm_ (a' := ?_) ?_ ?_
  rotate_left
  · show Act.put _ (some 24) _ = _
    simp only [Act.put, List.setIfInBounds_toArray, List.set_cons_zero, List.set_cons_succ, i64_w, i32_w]
    rfl
  refine pure_ (i := 17) (N := some 25) (v := ?_) (a' := ?_) #[true, true, true, true, true, true, true, true, true, true, true, true, true, true, true, true, true, true, false, false] rfl rfl (by kernel_rfl) (fun _ _ _ h => h) (Or.inl ⟨by rfl, ?_⟩) ?_ ?_
  rotate_left
  · intro w'
    go_simp
    with_reducible rfl
  rotate_left
  · simp only [Act.put, List.setIfInBounds_toArray, List.set_cons_zero, List.set_cons_succ, i64_w, i32_w]
    rfl
  refine pure_ (i := 18) (N := some 26) (v := ?_) (a' := ?_) #[true, true, true, true, true, true, true, true, true, true, true, true, true, true, true, true, true, true, true, false] rfl rfl (by kernel_rfl) (fun _ _ _ h => h) (Or.inl ⟨by rfl, ?_⟩) ?_ ?_
  rotate_left
  · intro w'
    go_simp
    with_reducible rfl
  rotate_left
  · simp only [Act.put, List.setIfInBounds_toArray, List.set_cons_zero, List.set_cons_succ, i64_w, i32_w]
    rfl
  refine last_ (i := 19) (N := none) #[true, true, true, true, true, true, true, true, true, true, true, true, true, true, true, true, true, true, true, true] rfl rfl (by kernel_rfl) (by decide) (fun K hK => ?_)
  refine skip_ (w1 := ?_) (by rfl) rfl ?_ ?_
  rotate_left
  · go_simp
    rfl
  refine hK.out _ _ ?_
  clear hK K
  refine done_ (by kernel_rfl) ?_
  go_wp2
  refine bodyPost_end (results_none rfl _ _ _) rfl ?_
  exact ⟨rfl, (Sc.put_tok h1 h0 h2 h3 ho hg hat).at_set a3, below_set (below_set hb h1) h1⟩
end Go.Proofs.YtfolmcfcmonkhaaDoor.PAll
