/- What stands at a place, turned round: blanks, line feeds, comments. -/
import Derived.Test.YtfolmcfcmonkhaaDoorLyA
namespace Go.Proofs.YtfolmcfcmonkhaaDoor.Fr
open Go Go.RowKit Go.Proofs.YtfolmcfcmonkhaaDoor.PAll Go.Proofs.YtfolmcfcmonkhaaDoorW.PrintWords Go.Proofs.YtfolmcfcmonkhaaDoorW.PrintLast Go.Proofs.YtfolmcfcmonkhaaDoorPw Go.Proofs.YtfolmcfcmonkhaaDoor
set_option linter.unusedVariables false
set_option linter.unusedSimpArgs false
theorem lc_note : ∀ (m c : Nat) (l : List Int), l.length ≤ m → lc c l ≠ .feed ∧ lc c l ≠ .blank := by
  intro m
  induction m with
  | zero =>
    intro c l hl
    rw [lc, dif_pos (List.length_eq_zero_iff.1 (by omega))]
    exact ⟨(by intro h; cases h), (by intro h; cases h)⟩
  | succ m ih =>
    intro c l hl
    rw [lc]
    by_cases h0 : l = []
    · rw [dif_pos h0]
      exact ⟨(by intro h; cases h), (by intro h; cases h)⟩
    rw [dif_neg h0]
    split
    · exact ⟨(by intro h; cases h), (by intro h; cases h)⟩
    split
    · exact ⟨(by intro h; cases h), (by intro h; cases h)⟩
    have := dp_len h0 (sn l)
    exact ih _ _ (by omega)
theorem bc_note (l : List Int) : bc l ≠ .feed ∧ bc l ≠ .blank := by
  rw [bc]
  constructor <;> (intro h; split at h <;> cases h)
theorem blank_inv {l : List Int} (h : next l = .blank) : sr l = 32 ∨ sr l = 9 ∨ sr l = 13 := by
  rw [next] at h
  by_cases c1 : sr l < 0
  · rw [if_pos c1] at h; cases h
  rw [if_neg c1] at h
  by_cases c2 : sr l = 10
  · rw [if_pos c2] at h; cases h
  rw [if_neg c2] at h
  by_cases c3 : sr l = 32 ∨ sr l = 9 ∨ sr l = 13
  · exact c3
  rw [if_neg c3] at h
  exfalso
  repeat' (split at h)
  all_goals (first | (cases h; done) | exact qt_not.2 h | exact (lc_note _ _ _ (Nat.le_refl _)).2 h | exact (bc_note _).2 h)
theorem feed_inv {l : List Int} (h : next l = .feed) : sr l = 10 := by
  rw [next] at h
  by_cases c1 : sr l < 0
  · rw [if_pos c1] at h; cases h
  rw [if_neg c1] at h
  by_cases c2 : sr l = 10
  · exact c2
  rw [if_neg c2] at h
  exfalso
  repeat' (split at h)
  all_goals (first | (cases h; done) | exact qt_not.1 h | exact (lc_note _ _ _ (Nat.le_refl _)).1 h | exact (bc_note _).1 h)
theorem head_bt {s : ByteArray} {a : Nat} {r : Int} (ha : a < s.size) (h : sr ((bytesOf s).drop a) = r) (hr : 0 < r ∧ r < 128) : bt s (a : Int) = r := by
  obtain ⟨t, g1, g2, g3⟩ := sr_low (byt_drop (byt_bytesOf s) a) (by omega) (by omega)
  rw [drop_bt ha] at g1
  rw [List.head_eq_of_cons_eq g1, ← drop_bt ha]
  exact h
theorem lx_len : ∀ (n : Nat) (l : List Int) (a : Nat) (p : Bool), Byt l → l.length ≤ n → (lx l a p).1.length ≤ 2 * l.length + 2 ∧ (lx l a p).2.length ≤ l.length
  | n, l, a, p, hb, hn => by
    have sl := fun (b : Bool) => semi_len b a
    by_cases h0 : l = []
    · subst h0
      have := sl p
      rw [lx_nil, List.length_append, List.length_singleton]
      simp
      omega
    have lp := List.length_pos_iff.2 h0
    have hn' : n ≠ 0 := by omega
    obtain ⟨m, rfl⟩ := Nat.exists_eq_succ_of_ne_zero hn'
    cases e : next l with
    | bad o => rw [lx_bad h0 _ _ e]; simp
    | blank =>
      rw [lx_blank h0 _ _ e]
      have := lx_len m (l.drop 1) (a + 1) p (byt_drop hb 1) (by rw [List.length_drop]; omega)
      rw [List.length_drop] at this
      omega
    | feed =>
      rw [lx_feed h0 _ _ e, List.length_append]
      have := lx_len m (l.drop 1) (a + 1) false (byt_drop hb 1) (by rw [List.length_drop]; omega)
      rw [List.length_drop] at this
      have := sl p
      dsimp only
      omega
    | note k f =>
      have sz := note_size hb e
      rw [lx_note h0 _ _ (by omega) e, List.length_append, List.length_cons]
      have := lx_len m (l.drop k) (a + k) (p && !f) (byt_drop hb k) (by rw [List.length_drop]; omega)
      rw [List.length_drop] at this
      have := sl (p && f)
      omega
    | tok kd k =>
      have sz := tok_size hb e
      rw [lx_tok h0 _ _ (by omega) e, List.length_cons]
      have := lx_len m (l.drop k) (a + k) (endsT ⟨kd, strOfNums (l.take k), (a : Int)⟩) (byt_drop hb k) (by rw [List.length_drop]; omega)
      rw [List.length_drop] at this
      dsimp only
      omega
end Go.Proofs.YtfolmcfcmonkhaaDoor.Fr

