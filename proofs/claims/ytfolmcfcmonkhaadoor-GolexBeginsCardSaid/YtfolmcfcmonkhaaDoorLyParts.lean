/- A text and another one behind a line feed: what the scanner tells of both. -/
import Derived.Test.YtfolmcfcmonkhaaDoorLyNext
namespace Go.Proofs.YtfolmcfcmonkhaaDoor.Fr
open Go Go.RowKit Go.Proofs.YtfolmcfcmonkhaaDoor.PAll Go.Proofs.YtfolmcfcmonkhaaDoorW.PrintWords Go.Proofs.YtfolmcfcmonkhaaDoorW.PrintLast Go.Proofs.YtfolmcfcmonkhaaDoorPw Go.Proofs.YtfolmcfcmonkhaaDoor
set_option linter.unusedVariables false
set_option linter.unusedSimpArgs false
theorem un_bad {e : List Int} (st : List Int) : ∀ (n : Nat) (esc : Bool) (i : Nat) (l : List Int) (o : Nat), l.length ≤ n → Byt l → un e esc st i l = .bad o → o ≤ i + l.length
  | n, esc, i, l, o, hn, hb, h => by
    rw [un_eq] at h
    by_cases h0 : l = []
    · rw [if_pos h0] at h; cases h
    rw [if_neg h0] at h
    split at h
    · cases h
    split at h
    · cases h
    have lp := List.length_pos_iff.2 h0
    have sp := sn_pos hb h0
    have hn' : n ≠ 0 := by omega
    obtain ⟨m, rfl⟩ := Nat.exists_eq_succ_of_ne_zero hn'
    rw [unB] at h
    by_cases c : sr l < 0
    · rw [if_pos c] at h
      have := Un.bad.inj h
      omega
    rw [if_neg c] at h
    by_cases c4 : esc = true ∧ sr l = 92
    · rw [if_pos c4, unC, dp_sn hb h0] at h
      have hb2 := byt_drop hb (sn l)
      by_cases h5 : l.drop (sn l) = []
      · rw [if_pos h5] at h; cases h
      rw [if_neg h5] at h
      split at h
      · cases h
      have sp2 := sn_pos hb2 h5
      rw [List.length_drop] at sp2
      split at h
      · have := Un.bad.inj h
        omega
      rw [dp_sn hb2 h5] at h
      have := un_bad st m true _ _ o (by rw [List.length_drop, List.length_drop]; omega) (byt_drop hb2 _) h
      rw [List.length_drop, List.length_drop] at this
      omega
    · rw [if_neg c4, dp_sn hb h0] at h
      have := un_bad st m esc _ _ o (by rw [List.length_drop]; omega) (byt_drop hb _) h
      rw [List.length_drop] at this
      omega
theorem lc_bad : ∀ (n c : Nat) (l : List Int) (o : Nat), l.length ≤ n → Byt l → lc c l = .bad o → o ≤ c + l.length
  | n, c, l, o, hn, hb, h => by
    rw [lc] at h
    by_cases h0 : l = []
    · rw [dif_pos h0] at h; cases h
    rw [dif_neg h0] at h
    split at h
    · cases h
    split at h
    · have := Th.bad.inj h
      omega
    have lp := List.length_pos_iff.2 h0
    have sp := sn_pos hb h0
    have hn' : n ≠ 0 := by omega
    obtain ⟨m, rfl⟩ := Nat.exists_eq_succ_of_ne_zero hn'
    rw [dp_sn hb h0] at h
    have := lc_bad m _ _ o (by rw [List.length_drop]; omega) (byt_drop hb _) h
    rw [List.length_drop] at this
    omega
theorem qt_bad {kd q : Int} {l : List Int} {o : Nat} (hb : Byt l) (h0 : l ≠ []) (h : qt kd q l = .bad o) : o ≤ l.length := by
  have lp := List.length_pos_iff.2 h0
  rw [qt, dp_eq (Nat.le_refl 1)] at h
  split at h
  · split at h
    · have := Th.bad.inj h; omega
    · cases h
  · have := Th.bad.inj h; omega
  · next o' e =>
    have := Th.bad.inj h
    have u := un_bad _ _ _ 1 _ o' (Nat.le_refl _) (byt_drop hb 1) e
    rw [List.length_drop] at u
    omega
theorem next_bad {l : List Int} {o : Nat} (hb : Byt l) (h0 : l ≠ []) (h : next l = .bad o) : o ≤ l.length := by
  have lp := List.length_pos_iff.2 h0
  rw [next] at h
  by_cases c1 : sr l < 0
  · rw [if_pos c1] at h
    have := Th.bad.inj h; omega
  rw [if_neg c1] at h
  by_cases c2 : sr l = 10
  · rw [if_pos c2] at h; cases h
  rw [if_neg c2] at h
  by_cases c3 : sr l = 32 ∨ sr l = 9 ∨ sr l = 13
  · rw [if_pos c3] at h; cases h
  rw [if_neg c3] at h
  by_cases c4 : ([47, 47] : List Int).isPrefixOf l = true
  · rw [if_pos c4] at h
    have := lc_bad _ 0 _ o (Nat.le_refl _) hb h
    omega
  rw [if_neg c4] at h
  by_cases c5 : ([47, 42] : List Int).isPrefixOf l = true
  · rw [if_pos c5, bc] at h
    obtain ⟨t, rfl⟩ := pre2 c5
    split at h
    · cases h
    · have := Th.bad.inj h; omega
    · next o' e =>
      have := Th.bad.inj h
      have u := un_bad _ _ _ 2 _ o' (Nat.le_refl _) (byt_drop hb 2) e
      rw [List.length_drop] at u
      simp only [List.length_cons] at u lp ⊢
      omega
  rw [if_neg c5] at h
  repeat' (split at h)
  all_goals (first | (cases h; done) | exact qt_bad hb h0 h | (have := Th.bad.inj h; omega))
/-- Where tokens stand. -/
theorem lx_at : ∀ (n : Nat) (l : List Int) (a : Nat) (p : Bool), l.length ≤ n → Byt l → ∀ t ∈ (lx l a p).1, (a : Int) ≤ t.f2 ∧ t.f2 ≤ ((a + l.length : Nat) : Int)
  | n, l, a, p, hn, hb, t, ht => by
    have sm : ∀ b, t ∈ semi b a → (a : Int) ≤ t.f2 ∧ t.f2 ≤ ((a + l.length : Nat) : Int) := by
      intro b h
      unfold semi at h
      split at h
      · simp at h
        rw [h]
        dsimp only
        omega
      · cases h
    by_cases h0 : l = []
    · subst h0
      rw [lx_nil] at ht
      rcases List.mem_append.1 ht with h | h
      · exact sm _ h
      · simp at h
        rw [h]
        simp
    have lp := List.length_pos_iff.2 h0
    have hn' : n ≠ 0 := by omega
    obtain ⟨m, rfl⟩ := Nat.exists_eq_succ_of_ne_zero hn'
    have down : ∀ k b q, 1 ≤ k → k ≤ l.length → b = a + k → t ∈ (lx (l.drop k) b q).1 → (a : Int) ≤ t.f2 ∧ t.f2 ≤ ((a + l.length : Nat) : Int) := by
      rintro k b q hk hk2 rfl h
      have := lx_at m (l.drop k) (a + k) q (by rw [List.length_drop]; omega) (byt_drop hb k) t h
      rw [List.length_drop] at this
      omega
    cases e : next l with
    | bad o =>
      have := next_bad hb h0 e
      rw [lx_bad h0 _ _ e] at ht
      simp only [List.mem_singleton] at ht
      rw [ht]
      dsimp only
      omega
    | blank =>
      rw [lx_blank h0 _ _ e] at ht
      exact down 1 _ _ (Nat.le_refl _) lp rfl ht
    | feed =>
      rw [lx_feed h0 _ _ e] at ht
      rcases List.mem_append.1 ht with h | h
      · exact sm _ h
      · exact down 1 _ _ (Nat.le_refl _) lp rfl h
    | note k f =>
      have sz := note_size hb e
      rw [lx_note h0 _ _ (by omega) e] at ht
      rcases List.mem_append.1 ht with h | h
      · exact sm _ h
      · exact down k _ _ (by omega) sz.2 rfl h
    | tok kd k =>
      have sz := tok_size hb e
      rw [lx_tok h0 _ _ (by omega) e] at ht
      rcases List.mem_cons.1 ht with h | h
      · rw [h]
        dsimp only
        omega
      · exact down k _ _ (by omega) sz.2 rfl h
def shift (d : Nat) (t : S27) : S27 := ⟨t.f0, t.f1, t.f2 + (d : Int)⟩
theorem semi_shift (b : Bool) (a d : Nat) : semi b (a + d) = (semi b a).map (shift d) := by
  unfold semi shift
  split <;> simp
theorem lx_shift (d : Nat) : ∀ (n : Nat) (l : List Int) (a : Nat) (p : Bool), l.length ≤ n → Byt l → (lx l (a + d) p).1 = (lx l a p).1.map (shift d)
  | n, l, a, p, hn, hb => by
    by_cases h0 : l = []
    · subst h0
      rw [lx_nil, lx_nil, List.map_append, semi_shift]
      simp [shift]
    have lp := List.length_pos_iff.2 h0
    have hn' : n ≠ 0 := by omega
    obtain ⟨m, rfl⟩ := Nat.exists_eq_succ_of_ne_zero hn'
    have down : ∀ k q, 1 ≤ k → (lx (l.drop k) (a + d + k) q).1 = (lx (l.drop k) (a + k) q).1.map (shift d) := by
      intro k q hk
      rw [show a + d + k = a + k + d by omega]
      exact lx_shift d m (l.drop k) (a + k) q (by rw [List.length_drop]; omega) (byt_drop hb k)
    cases e : next l with
    | bad o =>
      rw [lx_bad h0 _ _ e, lx_bad h0 _ _ e]
      simp only [shift, List.map_cons, List.map_nil, List.cons.injEq, S27.mk.injEq, and_true, true_and]
      omega
    | blank =>
      rw [lx_blank h0 _ _ e, lx_blank h0 _ _ e]
      exact down 1 _ (Nat.le_refl _)
    | feed =>
      rw [lx_feed h0 _ _ e, lx_feed h0 _ _ e]
      dsimp only
      rw [List.map_append, semi_shift, down 1 _ (Nat.le_refl _)]
    | note k f =>
      have sz := note_size hb e
      rw [lx_note h0 _ _ (by omega) e, lx_note h0 _ _ (by omega) e]
      dsimp only
      rw [List.map_append, semi_shift, down k _ (by omega)]
    | tok kd k =>
      have sz := tok_size hb e
      rw [lx_tok h0 _ _ (by omega) e, lx_tok h0 _ _ (by omega) e]
      dsimp only
      rw [List.map_cons, down k _ (by omega)]
      have e2 : endsT ⟨kd, strOfNums (l.take k), ((a + d : Nat) : Int)⟩ = endsT ⟨kd, strOfNums (l.take k), (a : Int)⟩ := rfl
      rw [e2]
      simp [shift]
theorem lx_ne (n : Nat) (l : List Int) (a : Nat) (p : Bool) (hn : l.length ≤ n) (hb : Byt l) : (lx l a p).1 ≠ [] := by
  induction n generalizing l a p with
  | zero =>
    rw [List.length_eq_zero_iff.1 (by omega : l.length = 0), lx_nil]
    simp
  | succ m ih =>
    by_cases h0 : l = []
    · rw [h0, lx_nil]; simp
    have lp := List.length_pos_iff.2 h0
    cases e : next l with
    | bad o => rw [lx_bad h0 _ _ e]; simp
    | blank =>
      rw [lx_blank h0 _ _ e]
      exact ih _ _ _ (by rw [List.length_drop]; omega) (byt_drop hb _)
    | feed =>
      rw [lx_feed h0 _ _ e]
      have := ih (l.drop 1) (a + 1) false (by rw [List.length_drop]; omega) (byt_drop hb _)
      exact fun h => this (List.append_eq_nil_iff.1 h).2
    | note k f =>
      have sz := note_size hb e
      rw [lx_note h0 _ _ (by omega) e]
      have := ih (l.drop k) (a + k) (p && !f) (by rw [List.length_drop]; omega) (byt_drop hb _)
      exact fun h => this (List.append_eq_nil_iff.1 h).2
    | tok kd k =>
      have sz := tok_size hb e
      rw [lx_tok h0 _ _ (by omega) e]
      simp
theorem app_last {S L I : List S27} {t : S27} (h : S ++ L = I ++ [t]) (hL : L ≠ []) : ∃ I', L = I' ++ [t] ∧ I = S ++ I' := by
  have e := List.dropLast_concat_getLast hL
  rw [← e, ← List.append_assoc] at h
  obtain ⟨h1, h2⟩ := List.append_inj' h rfl
  refine ⟨L.dropLast, ?_, h1.symm⟩
  rw [← h2]
  exact e.symm
theorem not_bad {l : List Int} (h : ∀ o, next l ≠ .bad o) : 0 ≤ sr l := by
  apply Int.not_lt.1
  intro c
  apply h 0
  rw [next, if_pos c]
/-- A token's last byte, and a comment's, is no line feed. -/
theorem nm_ten : ∀ (n : Nat) (l : List Int), l.length ≤ n → Byt l → (10 : Int) ∉ l.take (nm l)
  | n, l, hn, hb => by
    rw [nm]
    by_cases c : l ≠ [] ∧ (isL (sr l) || isD (sr l)) = true
    · have lp := List.length_pos_iff.2 c.1
      have hn' : n ≠ 0 := by omega
      obtain ⟨m, rfl⟩ := Nat.exists_eq_succ_of_ne_zero hn'
      have sp := sn_pos hb c.1
      rw [dif_pos c, dp_sn hb c.1, List.take_add, List.mem_append]
      rintro (h | h)
      · have c2 := c.2
        rcases sg_cases hb c.1 with ⟨g, _⟩ | ⟨r, t, g1, g2, g3, g4, g5⟩
        · rw [g] at c2; exact absurd c2 (by decide)
        · rw [g4] at c2
          have ne : r ≠ 10 := by rintro rfl; exact absurd c2 (by decide)
          rw [g5, g3, List.take_left] at h
          by_cases c1 : r < 128
          · rw [utf_ascii c1] at h
            simp at h
            omega
          · have := utf_high g1 (by omega) _ h
            omega
      · exact nm_ten m (l.drop (sn l)) (by rw [List.length_drop]; omega) (byt_drop hb _) h
    · rw [dif_neg c]
      simp
theorem nl_ten (hex : Bool) : ∀ (p : Int) (l : List Int), (10 : Int) ∉ l.take (nl hex p l)
  | p, [] => by simp
  | p, b :: t => by
    rw [nl]
    split
    · next c =>
      rw [Nat.add_comm, List.take_succ_cons, List.mem_cons]
      rintro (h | h)
      · rw [← h, okN_brk hex p (.inr (.inr (.inr rfl)))] at c
        cases c
      · exact nl_ten hex b t h
    · simp
theorem signs_ten : ∀ z ∈ signsI, (10 : Int) ∉ z := fun z hz => (signs_three z hz).2.2.2.2.2
theorem op_ten (l : List Int) : (10 : Int) ∉ l.take (op l) := by
  rw [op_eq]
  have key : ∀ L : List (List Int), (∀ z ∈ L, (10 : Int) ∉ z) → (10 : Int) ∉ l.take (opL L l) := by
    intro L
    induction L with
    | nil => intro _; simp [opL]
    | cons w L ih =>
      intro h
      rw [opL_cons]
      by_cases c : w.isPrefixOf l = true
      · rw [if_pos c]
        rw [pre_iff, decide_eq_true_eq] at c
        rw [c.2]
        exact h w (by simp)
      · rw [if_neg c]
        exact ih (fun z hz => h z (by simp [hz]))
  exact key _ signs_ten
/-- A token of a text that ends with a line feed ends ahead of it. -/
theorem tok_short {u : List Int} {k : Int} {n : Nat} (hb : Byt (u ++ [10])) (h : next (u ++ [10]) = .tok k n) : n ≤ u.length := by
  have sz := tok_size hb h
  rw [List.length_append, List.length_singleton] at sz
  apply Nat.le_of_not_lt
  intro c
  have en : n = (u ++ [10]).length := by rw [List.length_append, List.length_singleton]; omega
  have all : (u ++ [10]).take n = u ++ [10] := by rw [en, List.take_length]
  obtain ⟨h1, _, _, _, _, h6⟩ := tok_inv hb h
  have q : ∀ kd q, qt kd q (u ++ [10]) = .tok k n → q ≠ 10 → False := by
    intro kd q e hq
    obtain ⟨_, g1, g2, g3, _⟩ := qt_inv hb e
    have hb2 := byt_drop hb 1
    obtain ⟨_, _, g4⟩ := un_le _ _ _ 1 _ _ hb2 (Nat.le_refl _) g3
    have lu : 1 ≤ u.length := by omega
    rw [List.drop_append_of_le_length lu] at g4
    have e1 : (u.drop 1 ++ [10]).take (n - 1) = u.drop 1 ++ [10] := List.take_of_length_le (by rw [List.length_append, List.length_drop, List.length_singleton]; omega)
    rw [e1] at g4
    have e2 : n - 1 - ([q] : List Int).length = (u.drop 1).length := by rw [List.length_drop, List.length_singleton]; omega
    rw [e2, List.drop_left] at g4
    exact hq (List.head_eq_of_cons_eq g4).symm
  rcases h6 with ⟨_, _, e⟩ | ⟨_, _, _, e⟩ | ⟨_, _, ⟨_, e⟩ | ⟨_, e⟩ | ⟨_, e⟩ | ⟨e, _, e2⟩ | ⟨_, _, _, _, _, e, _⟩⟩
  · have := nm_ten _ _ (Nat.le_refl _) hb
    rw [← e, all] at this
    simp at this
  · have := nl_ten (isHex (u ++ [10])) 0 (u ++ [10])
    rw [← e, all] at this
    simp at this
  · exact q _ _ e (by decide)
  · exact q _ _ e (by decide)
  · exact q _ _ e (by decide)
  · have : u = [] := List.length_eq_zero_iff.1 (by omega)
    rw [this, List.nil_append, (sg_ascii (b := 10) (by decide) []).1] at e
    exact absurd e (by decide)
  · have := op_ten (u ++ [10])
    rw [← e, all] at this
    simp at this
theorem note_short {u : List Int} {n : Nat} {f : Bool} (hb : Byt (u ++ [10])) (h : next (u ++ [10]) = .note n f) : n ≤ u.length := by
  have sz := note_size hb h
  rw [List.length_append, List.length_singleton] at sz
  apply Nat.le_of_not_lt
  intro c
  have en : n = (u ++ [10]).length := by rw [List.length_append, List.length_singleton]; omega
  rcases note_inv h with ⟨h1, h2⟩ | ⟨_, h1, h2⟩
  · have g := (lc_le _ 0 _ hb (Nat.le_refl _) _ _ h2).2.2.2.2
    rw [Nat.sub_zero, en, List.take_length] at g
    simp at g
  · obtain ⟨g1, g2, g3, g4⟩ := bc_inv hb (by rw [List.length_append, List.length_singleton]; omega) h2
    obtain ⟨_, _, g5⟩ := un_le _ _ _ 2 _ _ (byt_drop hb 2) (Nat.le_refl _) g4
    have lu : 2 ≤ u.length := by omega
    rw [List.drop_append_of_le_length lu] at g5
    have e1 : (u.drop 2 ++ [10]).take (n - 2) = u.drop 2 ++ [10] := List.take_of_length_le (by rw [List.length_append, List.length_drop, List.length_singleton]; omega)
    rw [e1] at g5
    have l2 : (u.drop 2).length = n - 3 := by rw [List.length_drop]; omega
    have e3 := congrArg List.getLast? g5
    rw [List.drop_append_of_le_length (by rw [l2]; simp; omega)] at e3
    simp at e3
theorem parts {B : List Int} (hB : Byt B) : ∀ (n : Nat) (u : List Int) (p : Nat) (prev : Bool) (I : List S27) (t : S27), u.length ≤ n → Byt u → (lx (u ++ [10]) p prev).1 = I ++ [t] → t.f0 = 0 →
    (lx (u ++ 10 :: B) p prev).1 = I ++ (lx B (p + u.length + 1) false).1
  | n, u, p, prev, I, t, hn, hu, h, ht => by
    have hb : Byt (u ++ [10]) := byt_append hu (fun x hx => by simp at hx; omega)
    have hb' : Byt (u ++ 10 :: B) := byt_append hu (fun x hx => (List.mem_cons.1 hx).elim (fun h => by omega) (hB x))
    by_cases h0 : u = []
    · subst h0
      rw [List.nil_append, lx_feed (by simp) _ _ (n_6 _), List.drop_succ_cons, List.drop_zero, lx_nil] at h
      rw [List.nil_append, lx_feed (by simp) _ _ (n_6 _), List.drop_succ_cons, List.drop_zero]
      have h : semi prev p ++ [(⟨0, (⟨#[]⟩ : ByteArray), ((p + 1 : Nat) : Int)⟩ : S27)] = I ++ [t] := h
      rw [(List.append_inj' h rfl).1]
      rfl
    have lp := List.length_pos_iff.2 h0
    have ne : ∀ z, u ++ z ≠ [] := fun z hz => h0 (List.append_eq_nil_iff.1 hz).1
    have hn' : n ≠ 0 := by omega
    obtain ⟨m, rfl⟩ := Nat.exists_eq_succ_of_ne_zero hn'
    have down : ∀ k q J, 1 ≤ k → k ≤ u.length → (lx (u.drop k ++ [10]) (p + k) q).1 = J ++ [t] → (lx (u.drop k ++ 10 :: B) (p + k) q).1 = J ++ (lx B (p + u.length + 1) false).1 := by
      intro k q J h1 h2 h3
      have := parts hB m (u.drop k) (p + k) q J t (by rw [List.length_drop]; omega) (byt_drop hu k) h3 ht
      rw [List.length_drop, show p + k + (u.length - k) + 1 = p + u.length + 1 by omega] at this
      exact this
    have ten : ∀ k, Byt (u.drop k ++ [10]) := fun k => byt_append (byt_drop hu k) (fun x hx => by simp at hx; omega)
    have dr : ∀ k z, k ≤ u.length → (u ++ z).drop k = u.drop k ++ z := fun k z hk => List.drop_append_of_le_length hk
    have tk : ∀ k z, k ≤ u.length → (u ++ z).take k = u.take k := fun k z hk => List.take_append_of_le_length hk
    have hd : ∀ z r, sr (u ++ z) = r → 0 < r ∧ r < 128 → Byt (u ++ z) → ∃ u', u = r :: u' := by
      intro z r e hr hbz
      obtain ⟨t', g1, g2, g3⟩ := sr_low hbz (by omega) (by omega)
      cases u with
      | nil => exact absurd rfl h0
      | cons b u' =>
        rw [e, List.cons_append] at g1
        exact ⟨u', by rw [List.head_eq_of_cons_eq g1]⟩
    cases e : next (u ++ [10]) with
    | bad o =>
      rw [lx_bad (ne _) _ _ e] at h
      have := (List.append_inj' (s₁ := []) h rfl).2
      rw [← List.head_eq_of_cons_eq this] at ht
      exact absurd ht (show ¬ (7 : Int) = 0 by decide)
    | blank =>
      have e2 : next (u ++ 10 :: B) = .blank := by
        have bi := blank_inv e
        obtain ⟨r, hr⟩ : ∃ r, sr (u ++ [10]) = r := ⟨_, rfl⟩
        rw [hr] at bi
        obtain ⟨u', rfl⟩ := hd [10] r hr (by omega) hb
        exact next_byte _ bi
      rw [lx_blank (ne _) _ _ e, dr 1 _ lp] at h
      rw [lx_blank (ne _) _ _ e2, dr 1 _ lp]
      exact down 1 _ _ (Nat.le_refl _) lp h
    | feed =>
      have e2 : next (u ++ 10 :: B) = .feed := by
        obtain ⟨u', rfl⟩ := hd [10] _ (feed_inv e) (by decide) hb
        exact n_6 _
      rw [lx_feed (ne _) _ _ e, dr 1 _ lp] at h
      rw [lx_feed (ne _) _ _ e2, dr 1 _ lp]
      obtain ⟨J, j1, rfl⟩ := app_last h (lx_ne _ _ _ _ (Nat.le_refl _) (ten 1))
      dsimp only
      rw [down 1 _ J (Nat.le_refl _) lp j1, List.append_assoc]
    | note k f =>
      have sz := note_size hb e
      have sh := note_short hb e
      have e2 : next (u ++ 10 :: B) = .note k f := by
        have := note_loc (x := u.take k) (r := u.drop k ++ [10]) (r' := u.drop k ++ 10 :: B) (n := k) (f := f) (by rw [← List.append_assoc, List.take_append_drop]; exact hb) (by rw [← List.append_assoc, List.take_append_drop]; exact e) (by rw [List.length_take]; omega) (by
          right; right
          cases c : u.drop k with
          | nil => exact ⟨10, [], B, rfl, rfl⟩
          | cons b v => exact ⟨b, v ++ [10], v ++ 10 :: B, rfl, rfl⟩)
        rw [← List.append_assoc, List.take_append_drop] at this
        exact this
      rw [lx_note (ne _) _ _ (by omega) e, dr k _ sh] at h
      rw [lx_note (ne _) _ _ (by omega) e2, dr k _ sh]
      obtain ⟨J, j1, rfl⟩ := app_last h (lx_ne _ _ _ _ (Nat.le_refl _) (ten k))
      dsimp only
      rw [down k _ J (by omega) sh j1, List.append_assoc]
    | tok kd k =>
      have sz := tok_size hb e
      have sh := tok_short hb e
      rw [lx_tok (ne _) _ _ (by omega) e, dr k _ sh, tk k _ sh] at h
      obtain ⟨J, j1, rfl⟩ := app_last (S := [_]) h (lx_ne _ _ _ _ (Nat.le_refl _) (ten k))
      have e2 : next (u ++ 10 :: B) = .tok kd k := by
        have := tok_loc (x := u.take k) (r := u.drop k ++ [10]) (r' := u.drop k ++ 10 :: B) (k := kd) (n := k) (by rw [← List.append_assoc, List.take_append_drop]; exact hb) (by rw [← List.append_assoc, List.take_append_drop]; exact e) (by rw [List.length_take]; omega) (by
          cases c : u.drop k with
          | nil => exact .inl (.inr ⟨10, B, rfl, .inr (.inr (.inr rfl))⟩)
          | cons b v =>
            refine .inr ⟨b, v ++ [10], v ++ 10 :: B, rfl, rfl, ?_, fun _ => ?_⟩
            · have p0 : 0 ≤ sr (u.drop k ++ [10]) := by
                apply not_bad
                intro o eo
                rw [lx_bad (by simp) _ _ eo] at j1
                have := (List.append_inj' (s₁ := []) j1 rfl).2
                rw [← List.head_eq_of_cons_eq this] at ht
                exact absurd ht (show ¬ (7 : Int) = 0 by decide)
              have si := sign_in (ten k) rfl (by rw [c]; simp) (.inr (by decide)) p0
              obtain ⟨d, v', g1, g2, g3, g4, g5⟩ := sign_split (ten k) p0 si
              rw [c] at g3 g4
              rw [g4, g3, List.append_assoc, (sg_at g1 g2 _).1]
            · cases v with
              | nil => simp [List.isPrefixOf]
              | cons b2 v => exact pre_loc (y := b :: b2 :: v) [10] (10 :: B) (by simp))
        rw [← List.append_assoc, List.take_append_drop] at this
        exact this
      rw [lx_tok (ne _) _ _ (by omega) e2, dr k _ sh, tk k _ sh]
      dsimp only
      rw [down k _ J (by omega) sh j1]
      rfl
theorem skp_ten (A B : List Int) : skp (A ++ 10 :: B) = skp (A ++ [10]) ∧ skp (A ++ [10]) ≤ A.length := by
  unfold skp
  have u : utf 65279 = [239, 187, 191] := by decide
  rw [u]
  match A with
  | [] => simp [List.isPrefixOf]
  | [a] => simp [List.isPrefixOf]
  | [a, b] => simp [List.isPrefixOf]
  | a :: b :: c :: A =>
    rw [pre_loc (y := a :: b :: c :: A) [10] (10 :: B) (by simp)]
    refine ⟨rfl, ?_⟩
    split <;> simp
/-- What the scanner tells of a text, a line feed and another text. -/
theorem lex_parts (a b : ByteArray) (I : List S27) (t : S27) (hs : skp (bytesOf b) = 0) (h : (lexB (a ++ (⟨#[10]⟩ : ByteArray))).1 = I ++ [t]) (ht : t.f0 = 0) :
    (lexB ((a ++ (⟨#[10]⟩ : ByteArray)) ++ b)).1 = I ++ (lexB b).1.map (shift (a.size + 1)) := by
  have e1 : bytesOf (a ++ (⟨#[10]⟩ : ByteArray)) = bytesOf a ++ [10] := by rw [bytesOf_append]; rfl
  have e2 : bytesOf ((a ++ (⟨#[10]⟩ : ByteArray)) ++ b) = bytesOf a ++ 10 :: bytesOf b := by rw [bytesOf_append, e1, List.append_assoc]; rfl
  obtain ⟨k1, k2⟩ := skp_ten (bytesOf a) (bytesOf b)
  unfold lexB at h ⊢
  rw [e1, List.drop_append_of_le_length k2] at h
  rw [e2, k1, List.drop_append_of_le_length k2, hs, List.drop_zero]
  rw [parts (byt_bytesOf b) _ _ _ _ I t (Nat.le_refl _) (byt_drop (byt_bytesOf a) _) h ht, List.length_drop, bytesOf_length] at *
  rw [show skp (bytesOf a ++ [10]) + (a.size - skp (bytesOf a ++ [10])) + 1 = 0 + (a.size + 1) by omega]
  rw [lx_shift _ _ _ _ _ (Nat.le_refl _) (byt_bytesOf b)]
end Go.Proofs.YtfolmcfcmonkhaaDoor.Fr
