/- A token put alone, with blanks around it. -/
import Derived.Test.YtfolmcfcmonkhaaDoorLyNext
namespace Go.Proofs.YtfolmcfcmonkhaaDoor.Fr
open Go Go.RowKit Go.Proofs.YtfolmcfcmonkhaaDoor.PAll Go.Proofs.YtfolmcfcmonkhaaDoorW.PrintWords Go.Proofs.YtfolmcfcmonkhaaDoorW.PrintLast Go.Proofs.YtfolmcfcmonkhaaDoorPw Go.Proofs.YtfolmcfcmonkhaaDoor
set_option linter.unusedVariables false
set_option linter.unusedSimpArgs false
theorem nil_toList : (⟨#[]⟩ : ByteArray).toList = ([] : List UInt8) := by rw [ba_toList]
theorem semi_mem {b : Bool} {a : Nat} {t : S27} (h : t ∈ semi b a) : t.f1.toList = ([] : List UInt8) := by
  unfold semi at h
  split at h
  · simp at h
    rw [h]
    exact nil_toList
  · cases h
/-- Each token that is written stands by itself. -/
theorem written : ∀ (n : Nat) (l : List Int) (a : Nat) (p : Bool), l.length ≤ n → Byt l → ∀ t ∈ (lx l a p).1, t.f1.toList = ([] : List UInt8) ∨ ∃ x r, Byt (x ++ r) ∧ t.f1 = strOfNums x ∧ next (x ++ r) = .tok t.f0 x.length ∧ x.length ≤ l.length
  | n, l, a, p, hn, hb, t, ht => by
    by_cases h0 : l = []
    · subst h0
      rw [lx_nil] at ht
      rcases List.mem_append.1 ht with h | h
      · exact .inl (semi_mem h)
      · simp at h
        rw [h]
        exact .inl nil_toList
    have lp := List.length_pos_iff.2 h0
    have hn' : n ≠ 0 := by omega
    obtain ⟨m, rfl⟩ := Nat.exists_eq_succ_of_ne_zero hn'
    have down : ∀ k q b, 1 ≤ k → t ∈ (lx (l.drop k) b q).1 → t.f1.toList = ([] : List UInt8) ∨ ∃ x r, Byt (x ++ r) ∧ t.f1 = strOfNums x ∧ next (x ++ r) = .tok t.f0 x.length ∧ x.length ≤ l.length := by
      intro k q b hk h
      rcases written m (l.drop k) b q (by rw [List.length_drop]; omega) (byt_drop hb k) t h with g | ⟨x, r, g1, g2, g3, g4⟩
      · exact .inl g
      · exact .inr ⟨x, r, g1, g2, g3, by rw [List.length_drop] at g4; omega⟩
    cases e : next l with
    | bad o =>
      rw [lx_bad h0 _ _ e] at ht
      simp at ht
      rw [ht]
      exact .inl nil_toList
    | blank =>
      rw [lx_blank h0 _ _ e] at ht
      exact down 1 _ _ (Nat.le_refl _) ht
    | feed =>
      rw [lx_feed h0 _ _ e] at ht
      rcases List.mem_append.1 ht with h | h
      · exact .inl (semi_mem h)
      · exact down 1 _ _ (Nat.le_refl _) h
    | note k f =>
      have sz := note_size hb e
      rw [lx_note h0 _ _ (by omega) e] at ht
      rcases List.mem_append.1 ht with h | h
      · exact .inl (semi_mem h)
      · exact down k _ _ (by omega) h
    | tok kd k =>
      have sz := tok_size hb e
      rw [lx_tok h0 _ _ (by omega) e] at ht
      rcases List.mem_cons.1 ht with h | h
      · right
        refine ⟨l.take k, l.drop k, by rw [List.take_append_drop]; exact hb, by rw [h], ?_, by rw [List.length_take]; omega⟩
        rw [List.take_append_drop, h, List.length_take, Nat.min_eq_left sz.2]
        exact e
      · exact down k _ _ (by omega) h
/-- What the scanner tells of a token put alone. -/
theorem alone {x r : List Int} {k : Int} (hb : Byt (x ++ r)) (h : next (x ++ r) = .tok k x.length) : ∃ b : Bool, (lexB (((⟨#[32]⟩ : ByteArray) ++ strOfNums x) ++ (⟨#[32]⟩ : ByteArray))).1 = ⟨k, strOfNums x, 1⟩ :: (semi b (x.length + 2) ++ [⟨0, (⟨#[]⟩ : ByteArray), ((x.length + 2 : Nat) : Int)⟩]) := by
  have hx := byt_left hb
  have sz := tok_size hb h
  have e1 : bytesOf (((⟨#[32]⟩ : ByteArray) ++ strOfNums x) ++ (⟨#[32]⟩ : ByteArray)) = 32 :: (x ++ [32]) := by
    rw [bytesOf_append, bytesOf_append, bytes_str hx]
    rfl
  have h2 : next (x ++ [32]) = .tok k x.length := tok_loc hb h rfl (.inl (.inr ⟨32, [], rfl, .inl rfl⟩))
  have sk : skp (32 :: (x ++ [32])) = 0 := by
    unfold skp
    rw [if_neg]
    rw [show utf 65279 = [239, 187, 191] by decide]
    simp [List.isPrefixOf]
  have ne : x ++ [32] ≠ [] := by simp
  refine ⟨endsT ⟨k, strOfNums x, ((0 + 1 : Nat) : Int)⟩, ?_⟩
  unfold lexB
  rw [e1, sk, List.drop_zero, lx_blank (by simp) _ _ (n_2 _)]
  rw [List.drop_succ_cons, List.drop_zero, lx_tok ne _ _ sz.1 h2, List.take_left, List.drop_left]
  rw [lx_blank (by simp) _ _ (n_2 _)]
  rw [List.drop_succ_cons, List.drop_zero, lx_nil, show 0 + 1 + x.length + 1 = x.length + 2 by omega]
  rfl
end Go.Proofs.YtfolmcfcmonkhaaDoor.Fr
