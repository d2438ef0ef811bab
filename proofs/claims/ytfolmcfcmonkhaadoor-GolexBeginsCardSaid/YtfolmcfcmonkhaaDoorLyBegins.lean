/- The tokens up to one behind which another one stands whole: what is behind doesn't matter. -/
import Derived.Test.YtfolmcfcmonkhaaDoorLyParts
namespace Go.Proofs.YtfolmcfcmonkhaaDoor.Fr
open Go Go.RowKit Go.Proofs.YtfolmcfcmonkhaaDoor.PAll Go.Proofs.YtfolmcfcmonkhaaDoorW.PrintWords Go.Proofs.YtfolmcfcmonkhaaDoorW.PrintLast Go.Proofs.YtfolmcfcmonkhaaDoorPw Go.Proofs.YtfolmcfcmonkhaaDoor
set_option linter.unusedVariables false
set_option linter.unusedSimpArgs false
theorem rd_succ (t : S27) (T : List S27) (j : Nat) : rd_T27 (t :: T) ((j + 1 : Nat) : Int) = rd_T27 T (j : Int) := by
  unfold rd_T27
  rw [Int.toNat_natCast, Int.toNat_natCast, List.getD_cons_succ]
theorem rd_zero (t : S27) (T : List S27) : rd_T27 (t :: T) ((0 : Nat) : Int) = t := rfl
def Wr (t : S27) : Prop := t.f1.toList ≠ ([] : List UInt8)
/-- Where a token ends. -/
def fin (t : S27) : Nat := (t.f2 + (t.f1.size : Int)).toNat
theorem semi_cases {b : Bool} {a : Nat} {R : List S27} {k : Nat} (h : k + 1 < (semi b a ++ R).length) (hw : Wr (rd_T27 (semi b a ++ R) (k : Int))) :
    (semi b a = [] ∧ k + 1 < R.length ∧ rd_T27 (semi b a ++ R) (k : Int) = rd_T27 R (k : Int) ∧ rd_T27 (semi b a ++ R) ((k + 1 : Nat) : Int) = rd_T27 R ((k + 1 : Nat) : Int)) ∨
    ∃ s j, semi b a = [s] ∧ k = j + 1 ∧ j + 1 < R.length ∧ rd_T27 (semi b a ++ R) (k : Int) = rd_T27 R (j : Int) ∧ rd_T27 (semi b a ++ R) ((k + 1 : Nat) : Int) = rd_T27 R ((j + 1 : Nat) : Int) := by
  unfold semi at h hw ⊢
  cases b with
  | false => exact .inl ⟨rfl, h, rfl, rfl⟩
  | true =>
    right
    rw [if_pos rfl] at h hw ⊢
    cases k with
    | zero => exact absurd (by rw [ba_toList]; rfl) hw
    | succ j =>
      refine ⟨_, j, rfl, rfl, ?_, rd_succ _ _ _, rd_succ _ _ _⟩
      simp at h
      omega
/-- A token that is written ends within what is left, behind its beginning. -/
theorem lx_fin : ∀ (n : Nat) (l : List Int) (a : Nat) (p : Bool), l.length ≤ n → Byt l → ∀ t ∈ (lx l a p).1, Wr t → a + 1 ≤ fin t ∧ fin t ≤ a + l.length ∧ t.f2 + (t.f1.size : Int) = (fin t : Int)
  | n, l, a, p, hn, hb, t, ht, hw => by
    have sm : ∀ b, t ∈ semi b a → False := by
      intro b h
      unfold semi at h
      split at h
      · simp at h
        rw [h] at hw
        exact hw (by rw [ba_toList])
      · cases h
    by_cases h0 : l = []
    · subst h0
      rw [lx_nil] at ht
      rcases List.mem_append.1 ht with h | h
      · exact (sm _ h).elim
      · simp at h
        rw [h] at hw
        exact absurd (by rw [ba_toList]) hw
    have lp := List.length_pos_iff.2 h0
    have hn' : n ≠ 0 := by omega
    obtain ⟨m, rfl⟩ := Nat.exists_eq_succ_of_ne_zero hn'
    have down : ∀ k b q, 1 ≤ k → k ≤ l.length → b = a + k → t ∈ (lx (l.drop k) b q).1 → a + 1 ≤ fin t ∧ fin t ≤ a + l.length ∧ t.f2 + (t.f1.size : Int) = (fin t : Int) := by
      rintro k b q hk hk2 rfl h
      have := lx_fin m (l.drop k) (a + k) q (by rw [List.length_drop]; omega) (byt_drop hb k) t h hw
      rw [List.length_drop] at this
      exact ⟨by omega, by omega, this.2.2⟩
    cases e : next l with
    | bad o =>
      rw [lx_bad h0 _ _ e] at ht
      simp only [List.mem_singleton] at ht
      rw [ht] at hw
      exact absurd (by rw [ba_toList]) hw
    | blank =>
      rw [lx_blank h0 _ _ e] at ht
      exact down 1 _ _ (Nat.le_refl _) lp rfl ht
    | feed =>
      rw [lx_feed h0 _ _ e] at ht
      rcases List.mem_append.1 ht with h | h
      · exact (sm _ h).elim
      · exact down 1 _ _ (Nat.le_refl _) lp rfl h
    | note k f =>
      have sz := note_size hb e
      rw [lx_note h0 _ _ (by omega) e] at ht
      rcases List.mem_append.1 ht with h | h
      · exact (sm _ h).elim
      · exact down k _ _ (by omega) sz.2 rfl h
    | tok kd k =>
      have sz := tok_size hb e
      rw [lx_tok h0 _ _ (by omega) e] at ht
      rcases List.mem_cons.1 ht with h | h
      · have ss : (strOfNums (l.take k)).size = k := by rw [str_size (byt_take hb k), List.length_take]; omega
        have f : fin t = a + k := by
          unfold fin
          rw [h]
          dsimp only
          rw [ss]
          omega
        rw [f]
        refine ⟨by omega, by omega, ?_⟩
        rw [h]
        dsimp only
        rw [ss]
        omega
      · exact down k _ _ (by omega) sz.2 rfl h
/-- What stands at a place is there: how many bytes it has. -/
def tsize : Th → Nat
  | .bad _ => 0
  | .blank => 1
  | .feed => 1
  | .note n _ => n
  | .tok _ n => n
/-- The first sign of what stands is within it. -/
theorem first_sign {l : List Int} (hb : Byt l) (h : ∀ o, next l ≠ .bad o) : 0 ≤ sr l ∧ sn l ≤ tsize (next l) := by
  have p0 := not_bad h
  refine ⟨p0, ?_⟩
  have low : sr l < 128 → sn l = 1 := fun hh => (sr_low hb p0 hh).choose_spec.2.1
  cases e : next l with
  | bad o => exact absurd e (h o)
  | blank => rw [low (by have := blank_inv e; omega)]; exact Nat.le_refl _
  | feed => rw [low (by have := feed_inv e; omega)]; exact Nat.le_refl _
  | note n f =>
    have sz := note_size hb e
    rw [low (by
      have hd := (note_feed hb e).1
      rw [(head_low hb (b := 47) (by decide) hd).1]
      decide)]
    show 1 ≤ n
    omega
  | tok k n =>
    have sz := tok_size hb e
    show sn l ≤ n
    obtain ⟨h1, _, _, _, _, h6⟩ := tok_inv hb e
    cases c : isL (sr l) with
    | true =>
      rcases h6 with ⟨_, _, e⟩ | ⟨e, _⟩ | ⟨e, _⟩
      · rw [nm, dif_pos ⟨sr_ne h1, by rw [c]; rfl⟩] at e
        omega
      · rw [e] at c; cases c
      · rw [e] at c; cases c
    | false => rw [low (low_isL c)]; exact sz.1
/-- The first token that is written ends behind what stands first. -/
theorem fin_next : ∀ (n : Nat) (l : List Int) (a : Nat) (p : Bool), l.length ≤ n → Byt l → ∀ t ∈ (lx l a p).1, Wr t → (∀ o, next l ≠ .bad o) ∧ a + tsize (next l) ≤ fin t
  | n, l, a, p, hn, hb, t, ht, hw => by
    have sm : ∀ b, t ∈ semi b a → False := by
      intro b h
      unfold semi at h
      split at h
      · simp at h
        rw [h] at hw
        exact hw (by rw [ba_toList])
      · cases h
    by_cases h0 : l = []
    · subst h0
      rw [lx_nil] at ht
      rcases List.mem_append.1 ht with h | h
      · exact (sm _ h).elim
      · simp at h
        rw [h] at hw
        exact absurd (by rw [ba_toList]) hw
    have lp := List.length_pos_iff.2 h0
    cases e : next l with
    | bad o =>
      rw [lx_bad h0 _ _ e] at ht
      simp only [List.mem_singleton] at ht
      rw [ht] at hw
      exact absurd (by rw [ba_toList]) hw
    | blank =>
      rw [lx_blank h0 _ _ e] at ht
      have := lx_fin _ _ _ _ (Nat.le_refl _) (byt_drop hb 1) t ht hw
      exact ⟨(fun o h => by cases h), (by show a + 1 ≤ _; omega)⟩
    | feed =>
      rw [lx_feed h0 _ _ e] at ht
      rcases List.mem_append.1 ht with h | h
      · exact (sm _ h).elim
      · have := lx_fin _ _ _ _ (Nat.le_refl _) (byt_drop hb 1) t h hw
        exact ⟨(fun o h => by cases h), (by show a + 1 ≤ _; omega)⟩
    | note k f =>
      have sz := note_size hb e
      rw [lx_note h0 _ _ (by omega) e] at ht
      rcases List.mem_append.1 ht with h | h
      · exact (sm _ h).elim
      · have := lx_fin _ _ _ _ (Nat.le_refl _) (byt_drop hb k) t h hw
        exact ⟨(fun o h => by cases h), (by show a + k ≤ _; omega)⟩
    | tok kd k =>
      have sz := tok_size hb e
      rw [lx_tok h0 _ _ (by omega) e] at ht
      refine ⟨(fun o h => by cases h), ?_⟩
      show a + k ≤ fin t
      rcases List.mem_cons.1 ht with h | h
      · have ss : (strOfNums (l.take k)).size = k := by rw [str_size (byt_take hb k), List.length_take]; omega
        unfold fin
        rw [h]
        dsimp only
        rw [ss]
        omega
      · have := lx_fin _ _ _ _ (Nat.le_refl _) (byt_drop hb k) t h hw
        omega
/-- What is left, and what is left when all behind a place is another text, begin with the same sign. -/
theorem rel_cut {x r O : List Int} {m : Nat} (hb : Byt r) (h : ∀ o, next r ≠ .bad o) (hm : tsize (next r) ≤ m) (hml : m ≤ r.length) (h46 : x = [46] → r.headD 0 = 46 → 2 ≤ m) : Rel x r (r.take m ++ O) := by
  obtain ⟨p0, s1⟩ := first_sign hb h
  have sp := sn_pos hb (sr_ne p0)
  have lm : (r.take m).length = m := by rw [List.length_take]; omega
  have e : r = r.take m ++ r.drop m := (List.take_append_drop m r).symm
  right
  cases c : r with
  | nil => rw [c] at sp; simp at sp; omega
  | cons b t =>
    obtain ⟨k, rfl⟩ : ∃ k, m = k + 1 := ⟨m - 1, by omega⟩
    refine ⟨b, t, t.take k ++ O, rfl, rfl, ?_, ?_⟩
    · have e2 : sr (r.take (k + 1) ++ r.drop (k + 1)) = sr r := by rw [← e]
      have e3 : sn (r.take (k + 1) ++ r.drop (k + 1)) = sn r := by rw [← e]
      obtain ⟨d, v, g1, g2, g3, g4, g5⟩ := sign_split (x := r.take (k + 1)) (r := r.drop (k + 1)) (by rw [← e]; exact hb) (by rw [e2]; exact p0) (by rw [e3, lm]; omega)
      have e4 : sr (r.take (k + 1) ++ O) = sr r := by rw [g3, List.append_assoc, (sg_at g1 g2 _).1, ← g4, e2]
      rw [c] at e4
      rw [List.take_succ_cons] at e4
      rw [List.take_succ_cons, e4]
    · intro hx
      by_cases hh : b = 46
      · have m2 := h46 hx (by rw [c]; exact hh)
        rw [← c]
        conv => rhs; rw [e]
        exact pre_loc (r.drop (k + 1)) O (by rw [lm]; exact m2)
      · have : ((46 : Int) == b) = false := by simpa using fun h : 46 = b => hh h.symm
        simp [List.isPrefixOf, this]
theorem rd_mem' {T : List S27} {j : Nat} (c : j < T.length) : rd_T27 T (j : Int) ∈ T := by
  have := rd_cons T j c
  exact List.mem_of_mem_drop (this ▸ List.mem_cons_self)
theorem begins (O : List Int) (hO : Byt O) : ∀ (n : Nat) (l : List Int) (a : Nat) (p : Bool) (k m : Nat), l.length ≤ n → Byt l → k + 1 < (lx l a p).1.length → Wr (rd_T27 (lx l a p).1 (k : Int)) → (rd_T27 (lx l a p).1 (k : Int)).f1.toList ≠ ([46] : List UInt8) → Wr (rd_T27 (lx l a p).1 ((k + 1 : Nat) : Int)) → a + m = fin (rd_T27 (lx l a p).1 ((k + 1 : Nat) : Int)) →
    ∃ R, (lx (l.take m ++ O) a p).1 = (lx l a p).1.take (k + 1) ++ R
  | n, l, a, p, k, m, hn, hb, hk, hw, h46, hw2, hm => by
    have fn := fin_next _ l a p (Nat.le_refl _) hb _ (rd_mem' hk) hw2
    have ff := lx_fin _ l a p (Nat.le_refl _) hb _ (rd_mem' hk) hw2
    have m1 : 1 ≤ m := by omega
    have ml : m ≤ l.length := by omega
    have h0 : l ≠ [] := by rintro rfl; simp at ml; omega
    have lp := List.length_pos_iff.2 h0
    have hn' : n ≠ 0 := by omega
    obtain ⟨n', rfl⟩ := Nat.exists_eq_succ_of_ne_zero hn'
    have ht : Byt (l.take m ++ O) := byt_append (byt_take hb m) hO
    have ne : l.take m ++ O ≠ [] := by
      intro h
      have := congrArg List.length (List.append_eq_nil_iff.1 h).1
      rw [List.length_take, List.length_nil] at this
      omega
    have dr : ∀ q, q ≤ m → (l.take m ++ O).drop q = (l.drop q).take (m - q) ++ O := by
      intro q hq
      rw [List.drop_append_of_le_length (by rw [List.length_take]; omega), List.drop_take]
    have tk : ∀ q, q ≤ m → (l.take m ++ O).take q = l.take q := by
      intro q hq
      rw [List.take_append_of_le_length (by rw [List.length_take]; omega), List.take_take, Nat.min_eq_left hq]
    have cut : ∀ q, q ≤ m → l.take m ++ O = l.take q ++ ((l.drop q).take (m - q) ++ O) := by
      intro q hq
      rw [← tk q hq, ← dr q hq, List.take_append_drop]
    cases e : next l with
    | bad o => exact absurd e (fn.1 o)
    | blank =>
      have e2 : next (l.take m ++ O) = .blank := by
        have bi := blank_inv e
        obtain ⟨t, g1, g2, g3⟩ := sr_low hb (by omega) (by omega)
        obtain ⟨r, hr⟩ : ∃ r, sr l = r := ⟨_, rfl⟩
        rw [hr] at bi g1
        obtain ⟨m', rfl⟩ : ∃ m', m = m' + 1 := ⟨m - 1, by omega⟩
        rw [g1, List.take_succ_cons]
        exact next_byte _ bi
      rw [lx_blank ne _ _ e2, dr 1 m1]
      rw [lx_blank h0 _ _ e] at hk hw h46 hw2 hm ⊢
      exact begins O hO n' (l.drop 1) (a + 1) p k (m - 1) (by rw [List.length_drop]; omega) (byt_drop hb 1) hk hw h46 hw2 (by omega)
    | feed =>
      have e2 : next (l.take m ++ O) = .feed := by
        have bi := feed_inv e
        obtain ⟨t, g1, g2, g3⟩ := sr_low hb (by omega) (by omega)
        rw [bi] at g1
        obtain ⟨m', rfl⟩ : ∃ m', m = m' + 1 := ⟨m - 1, by omega⟩
        rw [g1, List.take_succ_cons]
        exact n_6 _
      rw [lx_feed ne _ _ e2, dr 1 m1]
      rw [lx_feed h0 _ _ e] at hk hw h46 hw2 hm ⊢
      rcases semi_cases hk hw with ⟨s0, s1, s2, s3⟩ | ⟨s, j, s0, rfl, s1, s2, s3⟩
      · dsimp only at hw h46 hw2 hm ⊢
        rw [s2] at hw h46
        rw [s3] at hw2 hm
        rw [s0]
        exact begins O hO n' (l.drop 1) (a + 1) false k (m - 1) (by rw [List.length_drop]; omega) (byt_drop hb 1) s1 hw h46 hw2 (by omega)
      · dsimp only at hw h46 hw2 hm ⊢
        rw [s2] at hw h46
        rw [s3] at hw2 hm
        rw [s0]
        obtain ⟨R, hR⟩ := begins O hO n' (l.drop 1) (a + 1) false j (m - 1) (by rw [List.length_drop]; omega) (byt_drop hb 1) s1 hw h46 hw2 (by omega)
        exact ⟨R, by rw [hR]; rfl⟩
    | note q f =>
      have sz := note_size hb e
      rw [e] at fn
      have qm : q ≤ m := by have := fn.2; have : a + q ≤ _ := this; omega
      have inside : ∀ j, Wr (rd_T27 (lx (l.drop q) (a + q) (p && !f)).1 ((j + 1 : Nat) : Int)) → j + 1 < (lx (l.drop q) (a + q) (p && !f)).1.length → a + m = fin (rd_T27 (lx (l.drop q) (a + q) (p && !f)).1 ((j + 1 : Nat) : Int)) → next (l.take m ++ O) = .note q f ∧ a + q + (m - q) = a + m := by
        intro j w1 w2 w3
        have f2 := lx_fin _ _ _ _ (Nat.le_refl _) (byt_drop hb q) _ (rd_mem' w2) w1
        refine ⟨?_, by omega⟩
        rw [cut q qm]
        refine note_loc (r := l.drop q) (by rw [List.take_append_drop]; exact hb) (by rw [List.take_append_drop]; exact e) (by rw [List.length_take]; omega) (.inr (.inr ?_))
        rw [List.length_drop] at f2
        cases c : l.drop q with
        | nil => have := congrArg List.length c; rw [List.length_drop] at this; simp at this; omega
        | cons b t =>
          obtain ⟨z, hz⟩ : ∃ z, m - q = z + 1 := ⟨m - q - 1, by omega⟩
          exact ⟨b, t, t.take z ++ O, rfl, by rw [hz]; rfl⟩
      rw [lx_note h0 _ _ (by omega) e] at hk hw h46 hw2 hm ⊢
      rcases semi_cases hk hw with ⟨s0, s1, s2, s3⟩ | ⟨s, j, s0, rfl, s1, s2, s3⟩
      · dsimp only at hw h46 hw2 hm ⊢
        rw [s2] at hw h46
        rw [s3] at hw2 hm
        obtain ⟨e2, e3⟩ := inside k hw2 s1 hm
        rw [lx_note ne _ _ (by omega) e2, dr q qm]
        dsimp only
        rw [s0]
        exact begins O hO n' (l.drop q) (a + q) _ k (m - q) (by rw [List.length_drop]; omega) (byt_drop hb q) s1 hw h46 hw2 (by omega)
      · dsimp only at hw h46 hw2 hm ⊢
        rw [s2] at hw h46
        rw [s3] at hw2 hm
        obtain ⟨e2, e3⟩ := inside j hw2 s1 hm
        rw [lx_note ne _ _ (by omega) e2, dr q qm]
        dsimp only
        rw [s0]
        obtain ⟨R, hR⟩ := begins O hO n' (l.drop q) (a + q) _ j (m - q) (by rw [List.length_drop]; omega) (byt_drop hb q) s1 hw h46 hw2 (by omega)
        exact ⟨R, by rw [hR]; rfl⟩
    | tok kd q =>
      have sz := tok_size hb e
      rw [e] at fn
      have qm : q ≤ m := by have := fn.2; have : a + q ≤ _ := this; omega
      rw [lx_tok h0 _ _ (by omega) e] at hk hw h46 hw2 hm ⊢
      dsimp only at hk hw h46 hw2 hm ⊢
      rw [List.length_cons] at hk
      rw [rd_succ] at hw2 hm
      have w1 : k < (lx (l.drop q) (a + q) (endsT ⟨kd, strOfNums (l.take q), (a : Int)⟩)).1.length := by omega
      have f2 := lx_fin _ _ _ _ (Nat.le_refl _) (byt_drop hb q) _ (rd_mem' w1) hw2
      have g2 := fin_next _ _ _ _ (Nat.le_refl _) (byt_drop hb q) _ (rd_mem' w1) hw2
      rw [List.length_drop] at f2
      -- a point: what stands behind is more than a point
      have two : l.take q = [46] → (l.drop q).headD 0 = 46 → 2 ≤ m - q := by
        intro hx hh
        have q1 : q = 1 := by
          have := congrArg List.length hx
          rw [List.length_take, List.length_singleton] at this
          omega
        cases k with
        | zero =>
          exfalso
          apply h46
          rw [rd_zero, hx, ba_toList]
          rfl
        | succ j =>
          have hbr := byt_drop hb q
          have hr := head_low hbr (b := 46) (by decide) hh
          have r0 : l.drop q ≠ [] := by
            intro h
            rw [h] at hh
            exact absurd hh (by decide)
          cases e' : next (l.drop q) with
          | bad o => exact absurd e' (g2.1 o)
          | blank => have := blank_inv e'; rw [hr.1] at this; exact absurd this (by decide)
          | feed => have := feed_inv e'; rw [hr.1] at this; exact absurd this (by decide)
          | note q' f => have := (note_feed hbr e').1; rw [hh] at this; exact absurd this (by decide)
          | tok kd' q' =>
            have sz' := tok_size hbr e'
            rw [lx_tok r0 _ _ (by omega) e'] at w1 hw2 hm
            dsimp only at w1 hw2 hm
            rw [rd_succ] at hw2 hm
            rw [List.length_cons] at w1
            have f3 := lx_fin _ _ _ _ (Nat.le_refl _) (byt_drop hbr q') _ (rd_mem' (by omega : j < _)) hw2
            omega
      have e2 : next (l.take m ++ O) = .tok kd q := by
        rw [cut q qm]
        exact tok_loc (r := l.drop q) (by rw [List.take_append_drop]; exact hb) (by rw [List.take_append_drop]; exact e) (by rw [List.length_take]; omega) (rel_cut (byt_drop hb q) g2.1 (by omega) (by rw [List.length_drop]; omega) two)
      rw [lx_tok ne _ _ (by omega) e2, dr q qm, tk q qm]
      dsimp only
      cases k with
      | zero => exact ⟨_, rfl⟩
      | succ j =>
        rw [rd_succ] at hw h46
        obtain ⟨R, hR⟩ := begins O hO n' (l.drop q) (a + q) _ j (m - q) (by rw [List.length_drop]; omega) (byt_drop hb q) (by omega) hw h46 hw2 (by omega)
        exact ⟨R, by rw [hR]; rfl⟩
theorem lex_begins (s o : ByteArray) (k e : Nat) (hk : k + 1 < (lexB s).1.length) (hw : Wr (rd_T27 (lexB s).1 (k : Int))) (h46 : (rd_T27 (lexB s).1 (k : Int)).f1.toList ≠ ([46] : List UInt8)) (hw2 : Wr (rd_T27 (lexB s).1 ((k + 1 : Nat) : Int))) (he : e = fin (rd_T27 (lexB s).1 ((k + 1 : Nat) : Int))) :
    ∃ R, (lexB (s.extract 0 e ++ o)).1 = (lexB s).1.take (k + 1) ++ R := by
  have hl := bytesOf_length s
  have hb := byt_bytesOf s
  have hbo := byt_bytesOf o
  have hbd := byt_drop hb (skp (bytesOf s))
  have f1 : skp (bytesOf s) + 1 ≤ e ∧ e ≤ s.size := by
    have := lx_fin _ _ _ _ (Nat.le_refl _) hbd _ (rd_mem' hk) hw2
    have hs := skp_le (bytesOf s)
    rw [List.length_drop, hl] at this
    unfold lexB at he
    omega
  have e1 : bytesOf (s.extract 0 e ++ o) = (bytesOf s).take e ++ bytesOf o := by rw [bytesOf_append, bytesOf_extract, List.drop_zero]
  have le : ((bytesOf s).take e).length = e := by rw [List.length_take]; omega
  have sk : skp ((bytesOf s).take e ++ bytesOf o) = skp (bytesOf s) := by
    have u3 : (utf 65279).length = 3 := by decide
    by_cases c : skp (bytesOf s) = 0
    · have fn := fin_next _ _ _ _ (Nat.le_refl _) hbd _ (rd_mem' hk) hw2
      have fn2 : skp (bytesOf s) + tsize (next ((bytesOf s).drop (skp (bytesOf s)))) ≤ e := by rw [he]; exact fn.2
      rw [c, List.drop_zero] at fn fn2
      obtain ⟨p0, s1⟩ := first_sign hb fn.1
      have es : bytesOf s = (bytesOf s).take e ++ (bytesOf s).drop e := (List.take_append_drop _ _).symm
      obtain ⟨d, v, g1, g2, g3, g4, g5⟩ := sign_split (x := (bytesOf s).take e) (r := (bytesOf s).drop e) (by rw [← es]; exact hb) (by rw [← es]; exact p0) (by rw [← es, le]; omega)
      rw [c]
      unfold skp
      rw [if_neg]
      intro h
      rw [List.isPrefixOf_iff_prefix] at h
      obtain ⟨t, ht⟩ := h
      have q1 : sr ((bytesOf s).take e ++ bytesOf o) = -1 := by
        rw [← ht]
        unfold sr
        rw [sg_mark]
      rw [g3, List.append_assoc, (sg_at g1 g2 _).1] at q1
      have := g1.1
      omega
    · have c3 : skp (bytesOf s) = 3 := by
        unfold skp at c ⊢
        split at c
        · next h => rw [if_pos h]
        · exact absurd rfl c
      unfold skp
      rw [pre_loc (y := (bytesOf s).take e) ((bytesOf s).drop e) (bytesOf o) (by rw [le, u3]; omega), List.take_append_drop]
  unfold lexB at hk hw h46 hw2 he ⊢
  rw [e1, sk, List.drop_append_of_le_length (by rw [le]; omega), List.drop_take]
  exact begins (bytesOf o) hbo _ _ _ _ k (e - skp (bytesOf s)) (Nat.le_refl _) hbd hk hw h46 hw2 (by omega)
end Go.Proofs.YtfolmcfcmonkhaaDoor.Fr
