/- Patterns of chapter 19: one pattern has one list of parts; single signs, stars and places. -/
import Derived.Test.YtdcbmpjofacbhaaGlB
namespace Go.Proofs.Ytdcbmpjofacbhaa.Fr
open Go Go.RowKit Go.Proofs.Ytdcbmpjofacbhaa.PAll Go.Proofs.YtdcbmpjofacbhaaW.PrintWords Go.Proofs.YtdcbmpjofacbhaaW.PrintLast Go.Proofs.YtdcbmpjofacbhaaPw
theorem cls_uniq : ∀ (rs rs' : List S43) (l r r' : List Int), Cls rs l r → Cls rs' l r' → rs = rs' ∧ r = r' := by
  intro rs
  induction rs with
  | nil =>
    intro rs' l r r' h k
    have h : l = 93 :: r := h
    cases rs' with
    | nil => have k : l = 93 :: r' := k; rw [h] at k; injection k with _ k; exact ⟨rfl, k⟩
    | cons r2 rs' => obtain ⟨t, k, _⟩ := k; exact absurd (by rw [h]; rfl) (rng_head k).2
  | cons a rs ih2 =>
    intro rs' l r r' h k
    obtain ⟨t1, h1, h2⟩ := h
    cases rs' with
    | nil => have k : l = 93 :: r' := k; exact absurd (by rw [k]; rfl) (rng_head h1).2
    | cons r2 rs' =>
      obtain ⟨t2, k1, k2⟩ := k
      rw [h1] at k1
      injection k1 with k1
      injection k1 with k3 k4
      subst k3; subst k4
      obtain ⟨e1, e2⟩ := ih2 rs' t1 r r' h2 k2
      exact ⟨by rw [e1], e2⟩
theorem class_uniq {l r r' : List Int} {nt nt' : Bool} {rs rs' : List S43} (h : ClassL l nt rs r) (k : ClassL l nt' rs' r') : nt = nt' ∧ rs = rs' ∧ r = r' := by
  rcases h with ⟨_, ⟨a1, m1, a2, a3⟩ | ⟨a1, a2, a3⟩⟩ <;> rcases k with ⟨_, ⟨b1, m2, b2, b3⟩ | ⟨b1, b2, b3⟩⟩
  · rw [a2] at b2
    injection b2 with _ b2
    subst b2
    obtain ⟨u1, u2⟩ := cls_uniq _ _ _ _ _ a3 b3
    exact ⟨by rw [a1, b1], u1, u2⟩
  · exact absurd (by rw [a2]; rfl) b2
  · exact absurd (by rw [b2]; rfl) a2
  · obtain ⟨u1, u2⟩ := cls_uniq _ _ _ _ _ a3 b3
    exact ⟨by rw [a1, b1], u1, u2⟩
theorem item_uniq {p q : S38} {l r r' : List Int} (h : Item p l r) (k : Item q l r') : p = q ∧ r = r' := by
  rcases h with ⟨h1, h2⟩ | ⟨h1, h2⟩ | ⟨l1, nt, rs, h1, h2, h3⟩ | ⟨c, t, d, h1, h2, h3, h4, h5, h6⟩ <;>
    rcases k with ⟨k1, k2⟩ | ⟨k1, k2⟩ | ⟨l2, nt', rs', k1, k2, k3⟩ | ⟨c', t', d', k1, k2, k3, k4, k5, k6⟩ <;> rw [h1] at k1
  · injection k1 with _ k1; exact ⟨by rw [h2, k2], k1⟩
  · injection k1 with k1; omega
  · injection k1 with k1; omega
  · injection k1 with k1; exact absurd k1.symm k2
  · injection k1 with k1; omega
  · injection k1 with _ k1; exact ⟨by rw [h2, k2], k1⟩
  · injection k1 with k1; omega
  · injection k1 with k1; exact absurd k1.symm k3
  · injection k1 with k1; omega
  · injection k1 with k1; omega
  · injection k1 with _ k1
    subst k1
    obtain ⟨u1, u2, u3⟩ := class_uniq h3 k3
    exact ⟨by rw [h2, k2, u1, u2], u3⟩
  · injection k1 with k1; exact absurd k1.symm k4
  · injection k1 with k1; exact absurd k1 h2
  · injection k1 with k1; exact absurd k1 h3
  · injection k1 with k1; exact absurd k1 h4
  · rw [h5] at k5
    injection k5 with k5
    injection k5 with k7 k8
    exact ⟨by rw [h6, k6, k7], k8⟩
theorem parses_uniq : ∀ (P Q : List S38) (l : List Int), Parses P l → Parses Q l → P = Q
  | [], [], l, _, _ => rfl
  | [], q :: Q, l, h, ⟨r, k, _⟩ => by
    have h : l = [] := h
    subst h
    rcases k with ⟨h1, _⟩ | ⟨h1, _⟩ | ⟨l1, nt, rs, h1, _⟩ | ⟨c, t', d, h1, _⟩ <;> cases h1
  | p :: P, [], l, ⟨r, k, _⟩, h => by
    have h : l = [] := h
    subst h
    rcases k with ⟨h1, _⟩ | ⟨h1, _⟩ | ⟨l1, nt, rs, h1, _⟩ | ⟨c, t', d, h1, _⟩ <;> cases h1
  | p :: P, q :: Q, l, ⟨r, h1, h2⟩, ⟨r', k1, k2⟩ => by
    obtain ⟨e1, e2⟩ := item_uniq h1 k1
    subst e1; subst e2
    rw [parses_uniq P Q r h2 k2]
/-- A pattern whose parts are known. -/
theorem match_of {pat : ByteArray} {P : List S38} (h : Parses P (bytesOf pat)) (name : ByteArray) (hp : pat.size ≤ 65536) (hn : name.size ≤ 65536) :
    ∃ r, Ev (fun k => glob_Match.f k pat name) (r, 0) ∧ (r = true ↔ reach (bytesOf name) P 0 name.size) := by
  rcases Match_ev pat name hp hn with ⟨Q, r, h1, h2, h3⟩ | ⟨h1, _⟩
  · rw [parses_uniq P Q _ h h1]
    exact ⟨r, h2, h3⟩
  · exact absurd h (h1 P)
theorem reach_in (L : List Int) : ∀ (P : List S38) (i j : Nat), i ≤ L.length → reach L P i j → i ≤ j ∧ j ≤ L.length
  | [], i, j, h, k => by have k : i = j := k; omega
  | p :: P, i, j, h, ⟨m, h1, h2⟩ => by
    have hm : i ≤ m ∧ m ≤ L.length := by
      rcases h1 with ⟨_, h3, h4, _⟩ | ⟨_, h3, h4, _⟩ <;> omega
    have := reach_in L P m j hm.2 h2
    omega
/-- One sign. -/
def litP (c : Int) : S38 := ⟨false, false, [⟨c, c⟩]⟩
theorem holds_lit (c x : Int) : holdsP (litP c) x = decide (x = c) := by
  unfold holdsP litP
  dsimp only
  by_cases h : x = 47 ∧ (false = true ∨ ([⟨c, c⟩] : List S43).length ≠ 1 ∨ (rd_T43 [⟨c, c⟩] 0).f0 ≠ 47 ∨ (rd_T43 [⟨c, c⟩] 0).f1 ≠ 47)
  · rw [if_pos h]
    have hc : c ≠ 47 := by
      rcases h.2 with h | h | h | h
      · cases h
      · exact absurd rfl h
      · exact h
      · exact h
    exact (decide_eq_false (by omega)).symm
  · rw [if_neg h]
    simp only [List.any_cons, List.any_nil, rng, Bool.or_false, Bool.bne_false]
    rw [Bool.eq_iff_iff, Bool.and_eq_true, decide_eq_true_iff, decide_eq_true_iff, decide_eq_true_iff]
    omega
theorem step_lit (L : List Int) (c : Int) (i j : Nat) : step L (litP c) i j ↔ j = i + 1 ∧ i < L.length ∧ L.getD i 0 = c := by
  unfold step
  rw [holds_lit, decide_eq_true_iff]
  constructor
  · rintro (⟨h, _⟩ | ⟨_, h⟩)
    · cases h
    · exact h
  · intro h
    exact .inr ⟨rfl, h⟩
theorem reach_lits (L : List Int) : ∀ (l : List Int) (i j : Nat), i ≤ L.length → (reach L (l.map litP) i j ↔ j = i + l.length ∧ ∃ r, L.drop i = l ++ r)
  | [], i, j, h => ⟨fun k => ⟨by have k : i = j := k; simp [k], L.drop i, rfl⟩, fun k => k.1.symm⟩
  | c :: l, i, j, h => by
    constructor
    · rintro ⟨m, h1, h2⟩
      obtain ⟨h3, h4, h5⟩ := (step_lit L c i m).1 h1
      subst h3
      obtain ⟨h6, r, h7⟩ := (reach_lits L l (i + 1) j (by omega)).1 h2
      refine ⟨by simp; omega, r, ?_⟩
      rw [drop_rdOf 0 L i h4, h7]
      show rdOf 0 L (i : Int) :: (l ++ r) = c :: (l ++ r)
      rw [← h5]
      rfl
    · rintro ⟨h1, r, h2⟩
      have hi : i < L.length := by
        have := congrArg List.length h2
        simp at this
        omega
      rw [drop_rdOf 0 L i hi] at h2
      injection h2 with h3 h4
      exact ⟨i + 1, (step_lit L c i (i + 1)).2 ⟨rfl, hi, h3⟩, (reach_lits L l (i + 1) j (by omega)).2 ⟨by simp at h1; omega, r, h4⟩⟩
/-- What stands for a name, sign by sign. -/
def quoteL (l : List Int) : List Int := l.flatMap fun c => [92, c]
theorem quote_append (l : List Int) (c : Int) : quoteL (l ++ [c]) = quoteL l ++ [92, c] := by simp [quoteL]
theorem quote_length (l : List Int) : (quoteL l).length = 2 * l.length := by
  induction l with
  | nil => rfl
  | cons c l ih => simp only [quoteL, List.flatMap_cons, List.length_append, List.length_cons, List.length_nil] at ih ⊢; omega
theorem byt_quote {l : List Int} (h : Byt l) : Byt (quoteL l) := by
  intro x hx
  obtain ⟨c, h1, h2⟩ := List.mem_flatMap.1 hx
  rcases List.mem_cons.1 h2 with rfl | h2
  · omega
  · rw [List.mem_singleton.1 h2]; exact h c h1
theorem parses_quote : ∀ l : List Int, Parses (l.map litP) (quoteL l)
  | [] => rfl
  | c :: l => ⟨quoteL l, .inr (.inr (.inr ⟨92, c :: quoteL l, c, rfl, by omega, by omega, by omega, rfl, rfl⟩)), parses_quote l⟩
/-- A list with a sign put behind. -/
theorem take_snoc {l : List Int} {i : Nat} (h : i < l.length) : l.take (i + 1) = l.take i ++ [l.getD i 0] := by
  rw [List.take_add_one, List.getElem?_eq_getElem h, List.getD_eq_getElem?_getD, List.getElem?_eq_getElem h]
  rfl
end Go.Proofs.Ytdcbmpjofacbhaa.Fr
