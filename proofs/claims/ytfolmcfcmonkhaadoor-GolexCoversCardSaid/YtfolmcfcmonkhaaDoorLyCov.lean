/- Tokens and comments stand as they are in the text, one behind the other, and between them only blanks and line feeds. -/
import Derived.Test.YtfolmcfcmonkhaaDoorLyParts
namespace Go.Proofs.YtfolmcfcmonkhaaDoor.Fr
open Go Go.RowKit Go.Proofs.YtfolmcfcmonkhaaDoor.PAll Go.Proofs.YtfolmcfcmonkhaaDoorW.PrintWords Go.Proofs.YtfolmcfcmonkhaaDoorW.PrintLast Go.Proofs.YtfolmcfcmonkhaaDoorPw Go.Proofs.YtfolmcfcmonkhaaDoor
set_option linter.unusedVariables false
set_option linter.unusedSimpArgs false
/-- A token that isn't written. -/
def Emp (t : S27) : Prop := t.f1.toList = ([] : List UInt8)
def AllEmp (E : List S27) : Prop := ∀ t ∈ E, Emp t
theorem emp_semi (b : Bool) (a : Nat) : AllEmp (semi b a) := by
  intro t ht
  unfold semi at ht
  split at ht
  · simp at ht
    rw [ht]
    show (⟨#[]⟩ : ByteArray).toList = _
    rw [ba_toList]
  · cases ht
theorem AllEmp.app {a b : List S27} (h : AllEmp a) (k : AllEmp b) : AllEmp (a ++ b) := fun t ht => (List.mem_append.1 ht).elim (h t) (k t)
/-- Only blanks and line feeds. -/
def Bk (s : ByteArray) (a b : Nat) : Prop := ∀ k : Nat, a ≤ k → k < b → (bt s (k : Int) = 10 ∨ (bt s (k : Int) = 32 ∨ bt s (k : Int) = 9 ∨ bt s (k : Int) = 13))
theorem Bk.cons {s : ByteArray} {a b : Nat} (h : bt s (a : Int) = 10 ∨ (bt s (a : Int) = 32 ∨ bt s (a : Int) = 9 ∨ bt s (a : Int) = 13)) (k : Bk s (a + 1) b) : Bk s a b := by
  intro j h1 h2
  by_cases c : j = a
  · subst c; exact h
  · exact k j (by omega) h2
theorem Bk.trans {s : ByteArray} {a b c : Nat} (h : Bk s a b) (k : Bk s b c) : Bk s a c := by
  intro j h1 h2
  by_cases d : j < b
  · exact h j h1 d
  · exact k j (by omega) h2
/-- What stands next: a token, a comment, or the end. -/
inductive Nx (s : ByteArray) (p : Nat) (A C : List S27) : Prop where
  | tok (q n : Nat) (kd : Int) (b : Bool) (E : List S27) (h1 : p ≤ q) (h2 : Bk s p q) (h3 : 1 ≤ n) (h4 : q + n ≤ s.size) (h5 : AllEmp E)
      (h6 : A = E ++ ⟨kd, s.extract q (q + n), (q : Int)⟩ :: (lx ((bytesOf s).drop (q + n)) (q + n) b).1) (h7 : C = (lx ((bytesOf s).drop (q + n)) (q + n) b).2)
  | note (q n : Nat) (b : Bool) (E : List S27) (h1 : p ≤ q) (h2 : Bk s p q) (h3 : 1 ≤ n) (h4 : q + n ≤ s.size) (h5 : AllEmp E)
      (h6 : A = E ++ (lx ((bytesOf s).drop (q + n)) (q + n) b).1) (h7 : C = ⟨0, s.extract q (q + n), (q : Int)⟩ :: (lx ((bytesOf s).drop (q + n)) (q + n) b).2)
  | fin (h1 : AllEmp A) (h2 : C = []) (I : List S27) (t : S27) (h3 : A = I ++ [t]) (h4 : (t.f0 = 0 ∧ t.f2 = (s.size : Int) ∧ Bk s p s.size) ∨ (t.f0 = 7 ∧ (p : Int) ≤ t.f2))
theorem nx_pre {s : ByteArray} {p p' : Nat} {E A C : List S27} (hE : AllEmp E) (hp : p ≤ p') (hb : Bk s p p') (h : Nx s p' A C) : Nx s p (E ++ A) C := by
  cases h with
  | tok q n kd b E' h1 h2 h3 h4 h5 h6 h7 => exact .tok q n kd b (E ++ E') (by omega) (hb.trans h2) h3 h4 (hE.app h5) (by rw [h6, List.append_assoc]) h7
  | note q n b E' h1 h2 h3 h4 h5 h6 h7 => exact .note q n b (E ++ E') (by omega) (hb.trans h2) h3 h4 (hE.app h5) (by rw [h6, List.append_assoc]) h7
  | fin h1 h2 I t h3 h4 =>
    refine .fin (hE.app h1) h2 (E ++ I) t (by rw [h3, List.append_assoc]) ?_
    rcases h4 with ⟨a, b, c⟩ | ⟨a, b⟩
    · exact .inl ⟨a, b, hb.trans c⟩
    · exact .inr ⟨a, by omega⟩
theorem nx_lx {s : ByteArray} : ∀ (n p : Nat) (b : Bool), s.size - p ≤ n → p ≤ s.size → Nx s p (lx ((bytesOf s).drop p) p b).1 (lx ((bytesOf s).drop p) p b).2
  | n, p, b, hn, hp => by
    have hl := bytesOf_length s
    have hb := byt_drop (byt_bytesOf s) p
    by_cases h0 : s.size ≤ p
    · rw [drop_nil h0, lx_nil]
      have e0 : Emp ⟨0, (⟨#[]⟩ : ByteArray), (p : Int)⟩ := by
        show (⟨#[]⟩ : ByteArray).toList = _
        rw [ba_toList]
      refine .fin ((emp_semi b p).app (fun t ht => by rw [List.mem_singleton] at ht; rw [ht]; exact e0)) rfl _ _ rfl (.inl ⟨rfl, by show (p : Int) = _; omega, fun j h1 h2 => by omega⟩)
    have hp' : p < s.size := Nat.lt_of_not_le h0
    have dn : (bytesOf s).drop p ≠ [] := by rw [drop_bt hp']; simp
    have l1 : ((bytesOf s).drop p).length = s.size - p := by rw [List.length_drop, hl]
    have hn' : n ≠ 0 := by omega
    obtain ⟨m, rfl⟩ := Nat.exists_eq_succ_of_ne_zero hn'
    cases e : next ((bytesOf s).drop p) with
    | bad o =>
      rw [lx_bad dn _ _ e]
      have e0 : Emp ⟨7, (⟨#[]⟩ : ByteArray), ((p + o : Nat) : Int)⟩ := by
        show (⟨#[]⟩ : ByteArray).toList = _
        rw [ba_toList]
      exact .fin (fun t ht => by rw [List.mem_singleton] at ht; rw [ht]; exact e0) rfl [] _ rfl (.inr ⟨rfl, by show (p : Int) ≤ ((p + o : Nat) : Int); omega⟩)
    | blank =>
      rw [lx_blank dn _ _ e, List.drop_drop]
      have hh : bt s (p : Int) = 10 ∨ (bt s (p : Int) = 32 ∨ bt s (p : Int) = 9 ∨ bt s (p : Int) = 13) := by
        rcases blank_inv e with h | h | h
        · exact .inr (.inl (head_bt hp' h (by decide)))
        · exact .inr (.inr (.inl (head_bt hp' h (by decide))))
        · exact .inr (.inr (.inr (head_bt hp' h (by decide))))
      exact nx_pre (E := []) (fun _ h => by cases h) (Nat.le_succ p) (Bk.cons hh (fun j h1 h2 => by omega)) (nx_lx m (p + 1) b (by omega) hp')
    | feed =>
      rw [lx_feed dn _ _ e, List.drop_drop]
      exact nx_pre (emp_semi b p) (Nat.le_succ p) (Bk.cons (.inl (head_bt hp' (feed_inv e) (by decide))) (fun j h1 h2 => by omega)) (nx_lx m (p + 1) false (by omega) hp')
    | note k f =>
      have sz := note_size hb e
      rw [l1] at sz
      rw [lx_note dn _ _ (by omega) e, List.drop_drop]
      exact .note p k _ _ (Nat.le_refl _) (fun j h1 h2 => by omega) (by omega) (by omega) (emp_semi _ _) rfl (by rw [part_eq])
    | tok kd k =>
      have sz := tok_size hb e
      rw [l1] at sz
      rw [lx_tok dn _ _ (by omega) e, List.drop_drop]
      exact .tok p k kd _ [] (Nat.le_refl _) (fun j h1 h2 => by omega) (by omega) (by omega) (fun _ h => by cases h) (by rw [part_eq]; rfl) rfl
/-- Where comments stand. -/
theorem lx_at2 : ∀ (n : Nat) (l : List Int) (a : Nat) (p : Bool), l.length ≤ n → Byt l → ∀ t ∈ (lx l a p).2, (a : Int) ≤ t.f2
  | n, l, a, p, hn, hb, t, ht => by
    by_cases h0 : l = []
    · subst h0
      rw [lx_nil] at ht
      cases ht
    have lp := List.length_pos_iff.2 h0
    have hn' : n ≠ 0 := by omega
    obtain ⟨m, rfl⟩ := Nat.exists_eq_succ_of_ne_zero hn'
    have down : ∀ k b q, 1 ≤ k → b = a + k → t ∈ (lx (l.drop k) b q).2 → (a : Int) ≤ t.f2 := by
      rintro k b q hk rfl h
      have := lx_at2 m (l.drop k) (a + k) q (by rw [List.length_drop]; omega) (byt_drop hb k) t h
      omega
    cases e : next l with
    | bad o => rw [lx_bad h0 _ _ e] at ht; cases ht
    | blank => rw [lx_blank h0 _ _ e] at ht; exact down 1 _ _ (Nat.le_refl _) rfl ht
    | feed => rw [lx_feed h0 _ _ e] at ht; exact down 1 _ _ (Nat.le_refl _) rfl ht
    | note k f =>
      have sz := note_size hb e
      rw [lx_note h0 _ _ (by omega) e] at ht
      rcases List.mem_cons.1 ht with h | h
      · rw [h]; exact Int.le_refl _
      · exact down k _ _ (by omega) rfl h
    | tok kd k =>
      have sz := tok_size hb e
      rw [lx_tok h0 _ _ (by omega) e] at ht
      exact down k _ _ (by omega) rfl ht
/-- The last token: the end, or a fault, and none stands behind it. -/
theorem lx_last : ∀ (n : Nat) (l : List Int) (a : Nat) (p : Bool), l.length ≤ n → Byt l → ∃ I t, (lx l a p).1 = I ++ [t] ∧ ((t.f0 = 0 ∧ t.f2 = ((a + l.length : Nat) : Int)) ∨ t.f0 = 7) ∧ ∀ x ∈ I, x.f2 ≤ t.f2
  | n, l, a, p, hn, hb => by
    have sm : ∀ b, ∀ x ∈ semi b a, x.f2 = (a : Int) := by
      intro b x h
      unfold semi at h
      split at h
      · simp at h; rw [h]
      · cases h
    by_cases h0 : l = []
    · subst h0
      rw [lx_nil]
      exact ⟨_, _, rfl, .inl ⟨rfl, by simp⟩, fun x hx => by rw [sm _ x hx]; exact Int.le_refl _⟩
    have lp := List.length_pos_iff.2 h0
    have hn' : n ≠ 0 := by omega
    obtain ⟨m, rfl⟩ := Nat.exists_eq_succ_of_ne_zero hn'
    have down : ∀ k q (E : List S27), 1 ≤ k → k ≤ l.length → (∀ x ∈ E, x.f2 = (a : Int)) → ∃ I t, E ++ (lx (l.drop k) (a + k) q).1 = I ++ [t] ∧ ((t.f0 = 0 ∧ t.f2 = ((a + l.length : Nat) : Int)) ∨ t.f0 = 7) ∧ ∀ x ∈ I, x.f2 ≤ t.f2 := by
      intro k q E h1 h2 hE
      obtain ⟨I, t, g1, g2, g3⟩ := lx_last m (l.drop k) (a + k) q (by rw [List.length_drop]; omega) (byt_drop hb k)
      have ta := (lx_at _ _ _ _ (Nat.le_refl _) (byt_drop hb k) t (by rw [g1]; simp)).1
      refine ⟨E ++ I, t, by rw [g1, List.append_assoc], ?_, ?_⟩
      · rcases g2 with ⟨a1, a2⟩ | g2
        · refine .inl ⟨a1, ?_⟩
          rw [a2, List.length_drop]
          congr 1
          omega
        · exact .inr g2
      · intro x hx
        rcases List.mem_append.1 hx with h | h
        · rw [hE x h]; omega
        · exact g3 x h
    cases e : next l with
    | bad o =>
      rw [lx_bad h0 _ _ e]
      exact ⟨[], _, rfl, .inr rfl, fun x hx => by cases hx⟩
    | blank => rw [lx_blank h0 _ _ e]; exact down 1 _ [] (Nat.le_refl _) lp (fun x hx => by cases hx)
    | feed => rw [lx_feed h0 _ _ e]; exact down 1 _ _ (Nat.le_refl _) lp (sm _)
    | note k f =>
      have sz := note_size hb e
      rw [lx_note h0 _ _ (by omega) e]
      exact down k _ _ (by omega) sz.2 (sm _)
    | tok kd k =>
      have sz := tok_size hb e
      rw [lx_tok h0 _ _ (by omega) e]
      exact down k _ [_] (by omega) sz.2 (fun x hx => by rw [List.mem_singleton] at hx; rw [hx])
end Go.Proofs.YtfolmcfcmonkhaaDoor.Fr
