/- What stands at a place hangs on its own bytes, and on little behind them. -/
import Derived.Test.YtfolmcfcmonkhaaDoorLyB
namespace Go.Proofs.YtfolmcfcmonkhaaDoor.Fr
open Go Go.RowKit Go.Proofs.YtfolmcfcmonkhaaDoor.PAll Go.Proofs.YtfolmcfcmonkhaaDoorW.PrintWords Go.Proofs.YtfolmcfcmonkhaaDoorW.PrintLast Go.Proofs.YtfolmcfcmonkhaaDoorPw Go.Proofs.YtfolmcfcmonkhaaDoor
set_option linter.unusedVariables false
set_option linter.unusedSimpArgs false
theorem pre_loc {e y : List Int} (r r' : List Int) (h : e.length ≤ y.length) : e.isPrefixOf (y ++ r') = e.isPrefixOf (y ++ r) := by
  rw [pre_iff, pre_iff, List.take_append_of_le_length h, List.take_append_of_le_length h, decide_eq_decide, List.length_append, List.length_append]
  constructor
  · exact fun g => ⟨by omega, g.2⟩
  · exact fun g => ⟨by omega, g.2⟩
theorem sg_at {c : Int} (h : Sgn c) (hm : c ≠ 65279) (t : List Int) : sr (utf c ++ t) = c ∧ sn (utf c ++ t) = (utf c).length := by
  have e := sg_utf h hm t
  unfold sr sn
  rw [e]
  exact ⟨rfl, by simp⟩
theorem sign_split {x r : List Int} (hb : Byt (x ++ r)) (h : 0 ≤ sr (x ++ r)) (h2 : sn (x ++ r) ≤ x.length) : ∃ c x', Sgn c ∧ c ≠ 65279 ∧ x = utf c ++ x' ∧ sr (x ++ r) = c ∧ sn (x ++ r) = (utf c).length := by
  rcases sg_cases hb (sr_ne h) with ⟨e, _⟩ | ⟨c, t, g1, g2, g3, g4, g5⟩
  · omega
  · refine ⟨c, x.drop (utf c).length, g1, g2, ?_, g4, g5⟩
    have e1 := congrArg (List.take (utf c).length) g3
    rw [List.take_left, List.take_append_of_le_length (by omega)] at e1
    rw [← e1]
    conv => lhs; rw [← List.take_append_drop (utf c).length x]
    rw [List.length_take, Nat.min_eq_left (by omega)]
theorem byt_right {a b : List Int} (h : Byt (a ++ b)) : Byt b := fun x hx => h x (List.mem_append.2 (.inr hx))
theorem byt_left {a b : List Int} (h : Byt (a ++ b)) : Byt a := fun x hx => h x (List.mem_append.2 (.inl hx))
/-- The bytes of a sign that stands, and what stands behind. -/
theorem sg_drop {c : Int} (h : Sgn c) (hm : c ≠ 65279) (t : List Int) : dp (utf c ++ t) (sn (utf c ++ t)) = t := by
  have u := utf_len c
  rw [(sg_at h hm t).2, dp_eq u.1, List.drop_left]
theorem nm_stop {r : List Int} (h : (isL (sr r) || isD (sr r)) = false) : nm r = 0 := by
  rw [nm, dif_neg]
  rintro ⟨_, g⟩
  rw [h] at g
  cases g
theorem nm_loc : ∀ (n : Nat) (x r r' : List Int), x.length ≤ n → Byt (x ++ r) → nm (x ++ r) = x.length → (isL (sr r') || isD (sr r')) = false → nm (x ++ r') = x.length
  | n, x, r, r', hn, hb, h, hr => by
    by_cases h0 : x = []
    · subst h0
      exact nm_stop hr
    have lx := List.length_pos_iff.2 h0
    have hn' : n ≠ 0 := by omega
    obtain ⟨m, rfl⟩ := Nat.exists_eq_succ_of_ne_zero hn'
    by_cases c0 : x ++ r ≠ [] ∧ (isL (sr (x ++ r)) || isD (sr (x ++ r))) = true
    · have h' := h
      rw [nm, dif_pos c0] at h'
      have p0 : 0 ≤ sr (x ++ r) := by
        have := c0.2
        unfold isL isD at this
        simp at this
        omega
      obtain ⟨c, x', g1, g2, rfl, g4, g5⟩ := sign_split hb p0 (by omega)
      rw [List.append_assoc] at h' g4 g5 hb c0
      rw [sg_drop g1 g2, g5, List.length_append] at h'
      have ih := nm_loc m x' r r' (by rw [List.length_append] at hn; have := utf_len c; omega) (byt_right hb) (by omega) hr
      have u := utf_len c
      rw [List.append_assoc, nm, dif_pos ⟨by intro e; have := congrArg List.length e; rw [List.length_append] at this; simp at this; rw [this.1] at u; simp at u, by rw [(sg_at g1 g2 _).1, ← g4]; exact c0.2⟩, sg_drop g1 g2, (sg_at g1 g2 _).2, ih, List.length_append]
    · rw [nm, dif_neg c0] at h
      omega
theorem nm_end : ∀ (n : Nat) (x r : List Int), x.length ≤ n → Byt (x ++ r) → nm (x ++ r) = x.length → (isL (sr r) || isD (sr r)) = false
  | n, x, r, hn, hb, h => by
    by_cases h0 : x = []
    · subst h0
      rw [List.nil_append] at h hb
      rw [nm] at h
      by_cases c : r ≠ [] ∧ (isL (sr r) || isD (sr r)) = true
      · rw [dif_pos c] at h
        have := sn_pos hb c.1
        simp at h
        omega
      · by_cases c1 : r = []
        · rw [c1, sg_nil.1]; decide
        · cases e : (isL (sr r) || isD (sr r)) with
          | false => rfl
          | true => exact absurd ⟨c1, e⟩ c
    have lx := List.length_pos_iff.2 h0
    have hn' : n ≠ 0 := by omega
    obtain ⟨m, rfl⟩ := Nat.exists_eq_succ_of_ne_zero hn'
    by_cases c0 : x ++ r ≠ [] ∧ (isL (sr (x ++ r)) || isD (sr (x ++ r))) = true
    · have h' := h
      rw [nm, dif_pos c0] at h'
      have p0 : 0 ≤ sr (x ++ r) := by
        have := c0.2
        unfold isL isD at this
        simp at this
        omega
      obtain ⟨c, x', g1, g2, rfl, g4, g5⟩ := sign_split hb p0 (by omega)
      rw [List.append_assoc] at h' g5 hb
      rw [sg_drop g1 g2, g5, List.length_append] at h'
      exact nm_end m x' r (by rw [List.length_append] at hn; have := utf_len c; omega) (byt_right hb) (by omega)
    · rw [nm, dif_neg c0] at h
      omega
/-- The last byte, or what stood ahead. -/
def lst : Int → List Int → Int
  | p, [] => p
  | _, b :: x => lst b x
theorem nl_loc (hex : Bool) (r r' : List Int) : ∀ (p : Int) (x : List Int), nl hex p (x ++ r) = x.length → (∀ b t, r' = b :: t → okN hex (lst p x) b = false) → nl hex p (x ++ r') = x.length
  | p, [], h, hr => by
    cases r' with
    | nil => rfl
    | cons b t => rw [List.nil_append, nl, show okN hex p b = false from hr b t rfl]; rfl
  | p, b :: x, h, hr => by
    rw [List.cons_append, nl] at h ⊢
    by_cases c : okN hex p b = true
    · rw [if_pos c, List.length_cons] at h ⊢
      rw [nl_loc hex r r' b x (by omega) hr]
      omega
    · rw [if_neg c, List.length_cons] at h
      omega
theorem nl_end (hex : Bool) (r : List Int) : ∀ (p : Int) (x : List Int), nl hex p (x ++ r) = x.length → ∀ b t, r = b :: t → okN hex (lst p x) b = false
  | p, [], h, b, t, e => by
    subst e
    rw [List.nil_append, nl] at h
    cases c : okN hex p b with
    | false => exact c
    | true => rw [if_pos c] at h; simp at h
  | p, y :: x, h, b, t, e => by
    rw [List.cons_append, nl] at h
    by_cases c : okN hex p y = true
    · rw [if_pos c, List.length_cons] at h
      exact nl_end hex r y x (by omega) b t e
    · rw [if_neg c, List.length_cons] at h
      omega
theorem un_loc {e : List Int} (st : List Int) (hst : st.length ≤ e.length) (r r' : List Int) : ∀ (n : Nat) (esc : Bool) (i : Nat) (y : List Int) (j : Nat), y.length ≤ n → Byt (y ++ r) → un e esc st i (y ++ r) = .ok j → 1 ≤ e.length → j ≤ i + y.length → un e esc st i (y ++ r') = .ok j
  | n, esc, i, y, j, hn, hb, h, he, hj => by
    have ul := un_le esc st _ i (y ++ r) j hb (Nat.le_refl _) h
    have ly : e.length ≤ y.length := by omega
    have hn' : n ≠ 0 := by omega
    obtain ⟨m, rfl⟩ := Nat.exists_eq_succ_of_ne_zero hn'
    have ne : ∀ z : List Int, y ++ z ≠ [] := fun z hz => by
      have := (List.append_eq_nil_iff.1 hz).1
      rw [this, List.length_nil] at ly
      omega
    rw [un_eq] at h ⊢
    rw [if_neg (ne _)] at h ⊢
    rw [pre_loc r r' ly]
    by_cases c1 : e.isPrefixOf (y ++ r) = true
    · rw [if_pos c1] at h ⊢
      exact h
    rw [if_neg c1] at h ⊢
    rw [pre_loc r r' (by omega : st.length ≤ y.length)]
    by_cases c2 : st ≠ [] ∧ st.isPrefixOf (y ++ r) = true
    · rw [if_pos c2] at h; cases h
    rw [if_neg c2] at h ⊢
    rw [unB] at h ⊢
    by_cases c3 : sr (y ++ r) < 0
    · rw [if_pos c3] at h; cases h
    rw [if_neg c3] at h
    have sp := sn_pos hb (ne r)
    -- what is left is read from behind the sign
    have cut : ∀ (esc' : Bool) (k : Nat) (z : List Int), Byt z → un e esc' st k z = .ok j → k + e.length ≤ j := fun esc' k z hz hu => (un_le esc' st _ k z j hz (Nat.le_refl _) hu).1
    by_cases c4 : esc = true ∧ sr (y ++ r) = 92
    · rw [if_pos c4, unC] at h
      have hb2 := byt_dp hb (sn (y ++ r))
      by_cases c5 : dp (y ++ r) (sn (y ++ r)) = []
      · rw [if_pos c5] at h; cases h
      rw [if_neg c5] at h
      by_cases c6 : sr (dp (y ++ r) (sn (y ++ r))) = 10
      · rw [if_pos c6] at h; cases h
      rw [if_neg c6] at h
      by_cases c7 : sr (dp (y ++ r) (sn (y ++ r))) < 0
      · rw [if_pos c7] at h; cases h
      rw [if_neg c7] at h
      have q := cut _ _ _ (byt_dp hb2 _) h
      obtain ⟨c, y', g1, g2, rfl, g4, g5⟩ := sign_split hb (by omega) (by omega)
      rw [List.append_assoc] at h hb g4 g5 c4 c6 c7 q
      rw [sg_drop g1 g2] at h c6 c7 q
      obtain ⟨d, y2, k1, k2, rfl, k4, k5⟩ := sign_split (x := y') (r := r) (byt_right hb) (by omega) (by rw [List.length_append] at hj; omega)
      rw [List.append_assoc] at h k4 k5 hb c6 c7 g5
      rw [sg_drop k1 k2, g5, k5] at h
      have ih := un_loc st hst r r' m true _ y2 j (by rw [List.length_append, List.length_append] at hn; have := utf_len c; omega) (byt_right (byt_right hb)) h he (by rw [List.length_append, List.length_append] at hj; omega)
      rw [List.append_assoc, List.append_assoc, (sg_at g1 g2 _).1, if_neg (by have := g1.1; omega), if_pos ⟨c4.1, by rw [← c4.2, g4]⟩, unC, sg_drop g1 g2, (sg_at g1 g2 _).2]
      have u := utf_len d
      rw [if_neg (by intro e0; have := congrArg List.length e0; rw [List.length_append] at this; simp at this; rw [this.1] at u; simp at u), (sg_at k1 k2 _).1, if_neg (by rw [← k4]; exact c6), if_neg (by rw [← k4]; exact c7), sg_drop k1 k2, (sg_at k1 k2 _).2]
      exact ih
    · rw [if_neg c4] at h
      have q := cut _ _ _ (byt_dp hb _) h
      obtain ⟨c, y', g1, g2, rfl, g4, g5⟩ := sign_split hb (by omega) (by omega)
      rw [List.append_assoc] at h hb g4 g5 c4
      rw [sg_drop g1 g2, g5] at h
      have ih := un_loc st hst r r' m esc _ y' j (by rw [List.length_append] at hn; have := utf_len c; omega) (byt_right hb) h he (by rw [List.length_append] at hj; omega)
      rw [List.append_assoc, (sg_at g1 g2 _).1, if_neg (by have := g1.1; omega), if_neg (by rw [← g4]; exact c4), sg_drop g1 g2, (sg_at g1 g2 _).2]
      exact ih
theorem lc_loc : ∀ (n c : Nat) (y r r' : List Int) (m : Nat) (f : Bool), y.length ≤ n → Byt (y ++ r) → lc c (y ++ r) = .note m f → m = c + y.length → (r' = [] ∨ r'.headD 0 = 10) → lc c (y ++ r') = .note m f
  | n, c, y, r, r', m, f, hn, hb, h, hm, hr => by
    by_cases h0 : y = []
    · subst h0
      have g := (lc_le _ _ _ hb (Nat.le_refl _) _ _ h).2.2.1
      rw [g, hm, List.nil_append, lc]
      rcases hr with hr | hr
      · rw [dif_pos hr]; rfl
      · by_cases h1 : r' = []
        · rw [dif_pos h1]; rfl
        · rw [dif_neg h1, if_pos hr]; rfl
    have ly := List.length_pos_iff.2 h0
    have hn' : n ≠ 0 := by omega
    obtain ⟨k, rfl⟩ := Nat.exists_eq_succ_of_ne_zero hn'
    have ne : ∀ z : List Int, y ++ z ≠ [] := fun z hz => h0 (List.append_eq_nil_iff.1 hz).1
    have hd : ∀ z : List Int, (y ++ z).headD 0 = y.headD 0 := fun z => by cases y with | nil => exact absurd rfl h0 | cons a b => rfl
    rw [lc, dif_neg (ne _), hd] at h ⊢
    by_cases c1 : y.headD 0 = 10
    · rw [if_pos c1] at h
      have := (Th.note.inj h).1
      omega
    rw [if_neg c1] at h ⊢
    by_cases c2 : sr (y ++ r) < 0
    · rw [if_pos c2] at h; cases h
    rw [if_neg c2] at h
    have g := lc_le _ _ _ (byt_dp hb _) (Nat.le_refl _) _ _ h
    obtain ⟨d, y', g1, g2, rfl, g4, g5⟩ := sign_split hb (by omega) (by omega)
    rw [List.append_assoc] at h hb g5
    rw [sg_drop g1 g2, g5] at h
    have ih := lc_loc k _ y' r r' m f (by rw [List.length_append] at hn; have := utf_len d; omega) (byt_right hb) h (by rw [List.length_append] at hm; omega) hr
    rw [List.append_assoc, (sg_at g1 g2 _).1, if_neg (by have := g1.1; omega), sg_drop g1 g2, (sg_at g1 g2 _).2]
    exact ih
end Go.Proofs.YtfolmcfcmonkhaaDoor.Fr
