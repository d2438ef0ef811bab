/- A text and another one behind a line feed: what the scanner tells of both. -/
import Derived.Test.YtfolmcfcmonkhaaDoorLyNext
namespace Go.Proofs.YtfolmcfcmonkhaaDoor.Fr
open Go Go.RowKit Go.Proofs.YtfolmcfcmonkhaaDoor.PAll Go.Proofs.YtfolmcfcmonkhaaDoorW.PrintWords Go.Proofs.YtfolmcfcmonkhaaDoorW.PrintLast Go.Proofs.YtfolmcfcmonkhaaDoorPw Go.Proofs.YtfolmcfcmonkhaaDoor
set_option linter.unusedVariables false
set_option linter.unusedSimpArgs false
theorem un_bad {e : List Int} (st : List Int) : ∀ (n : Nat) (esc : Bool) (i : Nat) (l : List Int) (o : Nat), l.length ≤ n → Byt l → un e esc st i l = .bad o → o ≤ i + l.length
  | n, esc, i, l, o, hn, hb, h => by
    rw [un_eq] at h
    by_cases h0 : l = []
    · rw [if_pos h0] at h; cases h
    rw [if_neg h0] at h
    split at h
    · cases h
    split at h
    · cases h
    have lp := List.length_pos_iff.2 h0
    have sp := sn_pos hb h0
    have hn' : n ≠ 0 := by omega
    obtain ⟨m, rfl⟩ := Nat.exists_eq_succ_of_ne_zero hn'
    rw [unB] at h
    by_cases c : sr l < 0
    · rw [if_pos c] at h
      have := Un.bad.inj h
      omega
    rw [if_neg c] at h
    by_cases c4 : esc = true ∧ sr l = 92
    · rw [if_pos c4, unC, dp_sn hb h0] at h
      have hb2 := byt_drop hb (sn l)
      by_cases h5 : l.drop (sn l) = []
      · rw [if_pos h5] at h; cases h
      rw [if_neg h5] at h
      split at h
      · cases h
      have sp2 := sn_pos hb2 h5
      rw [List.length_drop] at sp2
      split at h
      · have := Un.bad.inj h
        omega
      rw [dp_sn hb2 h5] at h
      have := un_bad st m true _ _ o (by rw [List.length_drop, List.length_drop]; omega) (byt_drop hb2 _) h
      rw [List.length_drop, List.length_drop] at this
      omega
    · rw [if_neg c4, dp_sn hb h0] at h
      have := un_bad st m esc _ _ o (by rw [List.length_drop]; omega) (byt_drop hb _) h
      rw [List.length_drop] at this
      omega
theorem lc_bad : ∀ (n c : Nat) (l : List Int) (o : Nat), l.length ≤ n → Byt l → lc c l = .bad o → o ≤ c + l.length
  | n, c, l, o, hn, hb, h => by
    rw [lc] at h
    by_cases h0 : l = []
    · rw [dif_pos h0] at h; cases h
    rw [dif_neg h0] at h
    split at h
    · cases h
    split at h
    · have := Th.bad.inj h
      omega
    have lp := List.length_pos_iff.2 h0
    have sp := sn_pos hb h0
    have hn' : n ≠ 0 := by omega
    obtain ⟨m, rfl⟩ := Nat.exists_eq_succ_of_ne_zero hn'
    rw [dp_sn hb h0] at h
    have := lc_bad m _ _ o (by rw [List.length_drop]; omega) (byt_drop hb _) h
    rw [List.length_drop] at this
    omega
theorem qt_bad {kd q : Int} {l : List Int} {o : Nat} (hb : Byt l) (h0 : l ≠ []) (h : qt kd q l = .bad o) : o ≤ l.length := by
  have lp := List.length_pos_iff.2 h0
  rw [qt, dp_eq (Nat.le_refl 1)] at h
  split at h
  · split at h
    · have := Th.bad.inj h; omega
    · cases h
  · have := Th.bad.inj h; omega
  · next o' e =>
    have := Th.bad.inj h
    have u := un_bad _ _ _ 1 _ o' (Nat.le_refl _) (byt_drop hb 1) e
    rw [List.length_drop] at u
    omega
theorem next_bad {l : List Int} {o : Nat} (hb : Byt l) (h0 : l ≠ []) (h : next l = .bad o) : o ≤ l.length := by
  have lp := List.length_pos_iff.2 h0
  rw [next] at h
  by_cases c1 : sr l < 0
  · rw [if_pos c1] at h
    have := Th.bad.inj h; omega
  rw [if_neg c1] at h
  by_cases c2 : sr l = 10
  · rw [if_pos c2] at h; cases h
  rw [if_neg c2] at h
  by_cases c3 : sr l = 32 ∨ sr l = 9 ∨ sr l = 13
  · rw [if_pos c3] at h; cases h
  rw [if_neg c3] at h
  by_cases c4 : ([47, 47] : List Int).isPrefixOf l = true
  · rw [if_pos c4] at h
    have := lc_bad _ 0 _ o (Nat.le_refl _) hb h
    omega
  rw [if_neg c4] at h
  by_cases c5 : ([47, 42] : List Int).isPrefixOf l = true
  · rw [if_pos c5, bc] at h
    obtain ⟨t, rfl⟩ := pre2 c5
    split at h
    · cases h
    · have := Th.bad.inj h; omega
    · next o' e =>
      have := Th.bad.inj h
      have u := un_bad _ _ _ 2 _ o' (Nat.le_refl _) (byt_drop hb 2) e
      rw [List.length_drop] at u
      simp only [List.length_cons] at u lp ⊢
      omega
  rw [if_neg c5] at h
  repeat' (split at h)
  all_goals (first | (cases h; done) | exact qt_bad hb h0 h | (have := Th.bad.inj h; omega))
/-- Where tokens stand. -/
theorem lx_at : ∀ (n : Nat) (l : List Int) (a : Nat) (p : Bool), l.length ≤ n → Byt l → ∀ t ∈ (lx l a p).1, (a : Int) ≤ t.f2 ∧ t.f2 ≤ ((a + l.length : Nat) : Int)
  | n, l, a, p, hn, hb, t, ht => by
    have sm : ∀ b, t ∈ semi b a → (a : Int) ≤ t.f2 ∧ t.f2 ≤ ((a + l.length : Nat) : Int) := by
      intro b h
      unfold semi at h
      split at h
      · simp at h
        rw [h]
        dsimp only
        omega
      · cases h
    by_cases h0 : l = []
    · subst h0
      rw [lx_nil] at ht
      rcases List.mem_append.1 ht with h | h
      · exact sm _ h
      · simp at h
        rw [h]
        simp
    have lp := List.length_pos_iff.2 h0
    have hn' : n ≠ 0 := by omega
    obtain ⟨m, rfl⟩ := Nat.exists_eq_succ_of_ne_zero hn'
    have down : ∀ k b q, 1 ≤ k → k ≤ l.length → b = a + k → t ∈ (lx (l.drop k) b q).1 → (a : Int) ≤ t.f2 ∧ t.f2 ≤ ((a + l.length : Nat) : Int) := by
      rintro k b q hk hk2 rfl h
      have := lx_at m (l.drop k) (a + k) q (by rw [List.length_drop]; omega) (byt_drop hb k) t h
      rw [List.length_drop] at this
      omega
    cases e : next l with
    | bad o =>
      have := next_bad hb h0 e
      rw [lx_bad h0 _ _ e] at ht
      simp only [List.mem_singleton] at ht
      rw [ht]
      dsimp only
      omega
    | blank =>
      rw [lx_blank h0 _ _ e] at ht
      exact down 1 _ _ (Nat.le_refl _) lp rfl ht
    | feed =>
      rw [lx_feed h0 _ _ e] at ht
      rcases List.mem_append.1 ht with h | h
      · exact sm _ h
      · exact down 1 _ _ (Nat.le_refl _) lp rfl h
    | note k f =>
      have sz := note_size hb e
      rw [lx_note h0 _ _ (by omega) e] at ht
      rcases List.mem_append.1 ht with h | h
      · exact sm _ h
      · exact down k _ _ (by omega) sz.2 rfl h
    | tok kd k =>
      have sz := tok_size hb e
      rw [lx_tok h0 _ _ (by omega) e] at ht
      rcases List.mem_cons.1 ht with h | h
      · rw [h]
        dsimp only
        omega
      · exact down k _ _ (by omega) sz.2 rfl h
theorem lx_ne (n : Nat) (l : List Int) (a : Nat) (p : Bool) (hn : l.length ≤ n) (hb : Byt l) : (lx l a p).1 ≠ [] := by
  induction n generalizing l a p with
  | zero =>
    rw [List.length_eq_zero_iff.1 (by omega : l.length = 0), lx_nil]
    simp
  | succ m ih =>
    by_cases h0 : l = []
    · rw [h0, lx_nil]; simp
    have lp := List.length_pos_iff.2 h0
    cases e : next l with
    | bad o => rw [lx_bad h0 _ _ e]; simp
    | blank =>
      rw [lx_blank h0 _ _ e]
      exact ih _ _ _ (by rw [List.length_drop]; omega) (byt_drop hb _)
    | feed =>
      rw [lx_feed h0 _ _ e]
      have := ih (l.drop 1) (a + 1) false (by rw [List.length_drop]; omega) (byt_drop hb _)
      exact fun h => this (List.append_eq_nil_iff.1 h).2
    | note k f =>
      have sz := note_size hb e
      rw [lx_note h0 _ _ (by omega) e]
      have := ih (l.drop k) (a + k) (p && !f) (by rw [List.length_drop]; omega) (byt_drop hb _)
      exact fun h => this (List.append_eq_nil_iff.1 h).2
    | tok kd k =>
      have sz := tok_size hb e
      rw [lx_tok h0 _ _ (by omega) e]
      simp
theorem app_last {S L I : List S27} {t : S27} (h : S ++ L = I ++ [t]) (hL : L ≠ []) : ∃ I', L = I' ++ [t] ∧ I = S ++ I' := by
  have e := List.dropLast_concat_getLast hL
  rw [← e, ← List.append_assoc] at h
  obtain ⟨h1, h2⟩ := List.append_inj' h rfl
  refine ⟨L.dropLast, ?_, h1.symm⟩
  rw [← h2]
  exact e.symm
end Go.Proofs.YtfolmcfcmonkhaaDoor.Fr

