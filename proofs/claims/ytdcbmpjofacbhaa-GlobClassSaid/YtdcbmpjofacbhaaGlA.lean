/- Names of patterns, as chapter 19 tells them: what the parts so far can have, place by place. -/
import Derived.Test.YtdcbmpjofacbhaaPAllx5
import Derived.Test.YtdcbmpjofacbhaaPw
namespace Go.Proofs.Ytdcbmpjofacbhaa.Fr
open Go Go.RowKit Go.Proofs.Ytdcbmpjofacbhaa.PAll Go.Proofs.YtdcbmpjofacbhaaW.PrintWords Go.Proofs.YtdcbmpjofacbhaaW.PrintLast Go.Proofs.YtdcbmpjofacbhaaPw
def rng (c : Int) (r : S43) : Bool := decide (r.f0 ≤ c) && decide (c ≤ r.f1)
def holdsP (p : S38) (c : Int) : Bool :=
  if c = 47 ∧ (p.f1 = true ∨ p.f2.length ≠ 1 ∨ (rd_T43 p.f2 0).f0 ≠ 47 ∨ (rd_T43 p.f2 0).f1 ≠ 47) then false else (p.f2.any (rng c) != p.f1)
theorem drop_rd43 (l : List S43) (i : Nat) (h : i < l.length) : l.drop i = rd_T43 l (i : Int) :: l.drop (i + 1) := by
  rw [List.drop_eq_getElem_cons h]
  congr 1
  simp [rd_T43, List.getD_eq_getElem?_getD, List.getElem?_eq_getElem h]
theorem holds_l0 (c : Int) (l : List S43) (hl : l.length < 9223372036854775807) (st nt : Bool) : ∀ (d i : Nat) (x : Bool), i + d = l.length →
    Ev (fun k => glob_part_holds.l0 k c x l (l.length : Int) (i : Int) st nt l) ((x || (l.drop i).any (rng c)) != nt)
  | 0, i, x, hd => Ev.step (fun _ => glob_part_holds.l0.eq_2 ..) (ev_neg (by omega) (ev_ret (by rw [List.drop_of_length_le (by omega)]; simp)))
  | d + 1, i, x, hd => by
    rw [drop_rd43 l i (by omega), List.any_cons]
    refine Ev.step (fun _ => glob_part_holds.l0.eq_2 ..) (ev_pos (by omega) (ev_pos (by omega) (ev_pos (by omega) ?_)))
    rw [w64 (x := (i : Int) + 1) (by omega) (by omega)]
    cases x with
    | true =>
      have ih := holds_l0 c l hl st nt d (i + 1) true (by omega)
      simp only [Bool.true_or] at ih ⊢
      exact ev_pos trivial ih
    | false =>
      refine ev_neg (by simp) ?_
      by_cases h : (rd_T43 l (i : Int)).f0 ≤ c
      · have ih := holds_l0 c l hl st nt d (i + 1) (decide (c ≤ (rd_T43 l (i : Int)).f1)) (by omega)
        have e : rng c (rd_T43 l (i : Int)) = decide (c ≤ (rd_T43 l (i : Int)).f1) := by unfold rng; rw [decide_eq_true h, Bool.true_and]
        rw [e, Bool.false_or]
        exact ev_pos h ih
      · have ih := holds_l0 c l hl st nt d (i + 1) false (by omega)
        have e : rng c (rd_T43 l (i : Int)) = false := by unfold rng; rw [decide_eq_false h, Bool.false_and]
        rw [e, Bool.false_or]
        exact ev_neg h ih
theorem holds_ev (p : S38) (c : Int) (hl : p.f2.length < 9223372036854775807) : Ev (fun k => glob_part_holds.f k p.f0 p.f1 p.f2 c) (holdsP p c) := by
  have no : Ev (fun k => glob_part_holds.j0 k c true p.f0 p.f1 p.f2) false := Ev.step (fun _ => glob_part_holds.j0.eq_2 ..) (ev_pos rfl (Ev.now _))
  have yes : Ev (fun k => glob_part_holds.j0 k c false p.f0 p.f1 p.f2) (p.f2.any (rng c) != p.f1) := by
    have := holds_l0 c p.f2 hl p.f0 p.f1 p.f2.length 0 false (by omega)
    refine Ev.step (fun _ => glob_part_holds.j0.eq_2 ..) (ev_neg (by simp) ?_)
    simpa using this
  have hP : ∀ b : Bool, holdsP p c = b → Ev (fun k => glob_part_holds.f k p.f0 p.f1 p.f2 c) b := by
    intro b hb
    unfold holdsP at hb
    by_cases h : c = 47
    · refine ev_pos h ?_
      by_cases h1 : p.f1 = true
      · rw [if_pos ⟨h, .inl h1⟩] at hb
        subst hb
        exact ev_pos h1 no
      refine ev_neg h1 ?_
      by_cases h2 : p.f2.length = 1
      · refine ev_pos (by omega) (ev_pos (by omega) ?_)
        by_cases h3 : (rd_T43 p.f2 0).f0 ≠ 47 ∨ (rd_T43 p.f2 0).f1 ≠ 47
        · rw [if_pos ⟨h, .inr (.inr h3)⟩] at hb
          subst hb
          have : (!((rd_T43 p.f2 0).f0 == 47) || (!((rd_T43 p.f2 0).f1 == 47))) = true := by
            rcases h3 with h3 | h3 <;> simp [h3]
          rw [this]
          exact no
        · rw [if_neg (fun hc => h3 ((hc.2.resolve_left h1).resolve_left (fun hn => hn h2)))] at hb
          subst hb
          have h4 : (rd_T43 p.f2 0).f0 = 47 ∧ (rd_T43 p.f2 0).f1 = 47 := by
            refine ⟨?_, ?_⟩
            · exact Classical.byContradiction fun h => h3 (.inl h)
            · exact Classical.byContradiction fun h => h3 (.inr h)
          have : (!((rd_T43 p.f2 0).f0 == 47) || (!((rd_T43 p.f2 0).f1 == 47))) = false := by simp [h4]
          rw [this]
          exact yes
      · rw [if_pos ⟨h, .inr (.inl h2)⟩] at hb
        subst hb
        exact ev_neg (by omega) no
    · rw [if_neg (fun hc => h hc.1)] at hb
      subst hb
      exact ev_neg h yes
  exact hP _ rfl
/-- A part has what stands from a place to another one. -/
def step (l : List Int) (p : S38) (i j : Nat) : Prop :=
  (p.f0 = true ∧ i ≤ j ∧ j ≤ l.length ∧ ∀ k, i ≤ k → k < j → l.getD k 0 ≠ 47) ∨ (p.f0 = false ∧ j = i + 1 ∧ i < l.length ∧ holdsP p (l.getD i 0) = true)
def reach (l : List Int) : List S38 → Nat → Nat → Prop
  | [], i, j => i = j
  | p :: P, i, j => ∃ m, step l p i m ∧ reach l P m j
theorem reach_append (l : List Int) : ∀ (P Q : List S38) (i j : Nat), reach l (P ++ Q) i j ↔ ∃ m, reach l P i m ∧ reach l Q m j
  | [], Q, i, j => ⟨fun h => ⟨i, rfl, h⟩, fun ⟨m, h1, h2⟩ => by have h1 : i = m := h1; subst h1; exact h2⟩
  | p :: P, Q, i, j => by
    constructor
    · rintro ⟨m, h1, h2⟩
      obtain ⟨q, h3, h4⟩ := (reach_append l P Q m j).1 h2
      exact ⟨q, ⟨m, h1, h3⟩, h4⟩
    · rintro ⟨q, ⟨m, h1, h3⟩, h4⟩
      exact ⟨m, h1, (reach_append l P Q m j).2 ⟨q, h3, h4⟩⟩
theorem reach_snoc (l : List Int) (P : List S38) (p : S38) (i j : Nat) : reach l (P ++ [p]) i j ↔ ∃ m, reach l P i m ∧ step l p m j := by
  rw [reach_append]
  constructor
  · rintro ⟨m, h1, q, h2, h3⟩
    have h3 : q = j := h3
    subst h3
    exact ⟨m, h1, h2⟩
  · rintro ⟨m, h1, h2⟩
    exact ⟨m, h1, j, h2, rfl⟩
/-- Bools by places. -/
def Tells (n : Nat) (b : List Bool) (R : Nat → Prop) : Prop := b.length = n + 1 ∧ ∀ j, j ≤ n → (rdOf false b (j : Int) = true ↔ R j)
theorem rd_set (b : List Bool) (i j : Nat) (h : i < b.length) : rdOf false (b.set i true) (j : Int) = if i = j then true else rdOf false b (j : Int) := by
  unfold rdOf
  rw [Int.toNat_natCast, List.getD_eq_getElem?_getD, List.getD_eq_getElem?_getD, List.getElem?_set]
  by_cases e : i = j
  · subst e
    rw [if_pos rfl, if_pos h, if_pos rfl]
    rfl
  · rw [if_neg e, if_neg e]
theorem tells_set {n : Nat} {b : List Bool} {R R' : Nat → Prop} (h : Tells n b R) (i : Nat) (hi : i ≤ n) (hR : ∀ j, j ≤ n → (R' j ↔ j = i ∨ R j)) : Tells n (b.set i true) R' := by
  refine ⟨by rw [List.length_set]; exact h.1, fun j hj => ?_⟩
  rw [rd_set b i j (by have := h.1; omega), hR j hj]
  by_cases e : i = j
  · rw [if_pos e]; exact ⟨fun _ => .inl e.symm, fun _ => rfl⟩
  · rw [if_neg e, h.2 j hj]; exact ⟨.inr, fun h => h.resolve_left (fun h => e h.symm)⟩
theorem match_l2 (s : ByteArray) (hs : s.size ≤ 65536) (P : List S38) (q : Nat) (can : List Bool) (i : Nat) (st nt : Bool) (rs : List S43) (R : Nat → Prop) (r : Bool) (hi : i ≤ s.size)
    (hcl : ∀ m j, R m → i ≤ m → m ≤ j → j ≤ s.size → (∀ k, i ≤ k → k < j → (bytesOf s).getD k 0 ≠ 47) → R j)
    (fin : ∀ b, Tells s.size b (fun j => R j ∨ (i ≤ j ∧ ∀ k, i ≤ k → k < j → (bytesOf s).getD k 0 ≠ 47)) → Ev (fun k => glob_match.l1 k s b P (P.length : Int) (q : Int) can (can.length : Int) (wrap64 ((i : Int) + 1)) st nt rs) r) :
    ∀ (d m : Nat) (b : List Bool), m + d = s.size → i ≤ m → (∀ k, i ≤ k → k < m → (bytesOf s).getD k 0 ≠ 47) → Tells s.size b (fun j => R j ∨ (i ≤ j ∧ j ≤ m)) →
      Ev (fun k => glob_match.l2 k s b (m : Int) P (P.length : Int) (q : Int) can (can.length : Int) (i : Int) st nt rs) r
  | 0, m, b, hd, him, hno, hb => by
    refine Ev.step (fun _ => glob_match.l2.eq_2 ..) (ev_neg (by omega) (fin b ⟨hb.1, fun j hj => ?_⟩))
    rw [hb.2 j hj]
    exact ⟨fun h => h.imp id (fun h => ⟨h.1, fun k h1 h2 => hno k h1 (by omega)⟩), fun h => h.imp id (fun h => ⟨h.1, by omega⟩)⟩
  | d + 1, m, b, hd, him, hno, hb => by
    have hbt : bt s (m : Int) = (bytesOf s).getD m 0 := (bytesOf_getD s m).symm
    refine Ev.step (fun _ => glob_match.l2.eq_2 ..) (ev_pos (by omega) (ev_pos (by omega) ?_))
    rw [hbt]
    by_cases c : (bytesOf s).getD m 0 = 47
    · refine ev_pos c (fin b ⟨hb.1, fun j hj => ?_⟩)
      rw [hb.2 j hj]
      refine ⟨fun h => h.imp id (fun h => ⟨h.1, fun k h1 h2 => hno k h1 (by omega)⟩), fun h => h.imp id (fun h => ⟨h.1, ?_⟩)⟩
      exact Classical.byContradiction fun hm => h.2 m him (by omega) c
    · refine ev_neg c ?_
      rw [w64 (x := (m : Int) + 1) (by omega) (by omega), show (m : Int) + 1 = ((m + 1 : Nat) : Int) by omega]
      have hlen := hb.1
      refine ev_pos (by omega) (ev_pos (by omega) ?_)
      have hno' : ∀ k, i ≤ k → k < m + 1 → (bytesOf s).getD k 0 ≠ 47 := fun k h1 h2 => by
        by_cases e : k = m
        · subst e; exact c
        · exact hno k h1 (by omega)
      by_cases c2 : rdOf false b ((m + 1 : Nat) : Int) = true
      · refine ev_pos c2 (fin b ⟨hb.1, fun j hj => ?_⟩)
        have hR : R (m + 1) := ((hb.2 (m + 1) (by omega)).1 c2).resolve_right (fun h => by omega)
        rw [hb.2 j hj]
        refine ⟨fun h => h.imp id (fun h => ⟨h.1, fun k h1 h2 => hno k h1 (by omega)⟩), fun h => ?_⟩
        rcases h with h | h
        · exact .inl h
        · by_cases hjm : j ≤ m
          · exact .inr ⟨h.1, hjm⟩
          · exact .inl (hcl (m + 1) j hR (by omega) (by omega) hj h.2)
      · refine ev_neg c2 ?_
        rw [Int.toNat_natCast]
        exact match_l2 s hs P q can i st nt rs R r hi hcl fin d (m + 1) _ (by omega) (by omega) hno' (tells_set hb (m + 1) (by omega) (fun j hj => ⟨fun h => by
          rcases h with h | h
          · exact .inr (.inl h)
          · by_cases e : j = m + 1
            · exact .inl e
            · exact .inr (.inr ⟨h.1, by omega⟩), fun h => by
          rcases h with h | h | h
          · exact .inr ⟨by omega, by omega⟩
          · exact .inl h
          · exact .inr ⟨h.1, by omega⟩⟩))
theorem match_l1 (s : ByteArray) (hs : s.size ≤ 65536) (P : List S38) (q : Nat) (can : List Bool) (C : Nat → Prop) (hcan : Tells s.size can C) (p : S38) (hp : p.f2.length < 9223372036854775807) (r : Bool)
    (fin : ∀ b, Tells s.size b (fun j => ∃ m, m ≤ s.size ∧ C m ∧ step (bytesOf s) p m j) → Ev (fun k => glob_match.l0 k s b P (P.length : Int) (wrap64 ((q : Int) + 1))) r) :
    ∀ (d i : Nat) (b : List Bool), i + d = s.size + 1 → Tells s.size b (fun j => ∃ m, m < i ∧ C m ∧ step (bytesOf s) p m j) →
      Ev (fun k => glob_match.l1 k s b P (P.length : Int) (q : Int) can (can.length : Int) (i : Int) p.f0 p.f1 p.f2) r
  | 0, i, b, hd, hb => by
    have hl := hcan.1
    refine Ev.step (fun _ => glob_match.l1.eq_2 ..) (ev_neg (by omega) (fin b ⟨hb.1, fun j hj => ?_⟩))
    rw [hb.2 j hj]
    exact ⟨fun ⟨m, h1, h2⟩ => ⟨m, by omega, h2⟩, fun ⟨m, h1, h2⟩ => ⟨m, by omega, h2⟩⟩
  | d + 1, i, b, hd, hb => by
    have hl := hcan.1
    have hlb := hb.1
    have hz := bytesOf_length s
    have ih : ∀ b', Tells s.size b' (fun j => ∃ m, m < i + 1 ∧ C m ∧ step (bytesOf s) p m j) → Ev (fun k => glob_match.l1 k s b' P (P.length : Int) (q : Int) can (can.length : Int) (wrap64 ((i : Int) + 1)) p.f0 p.f1 p.f2) r := fun b' h => by
      rw [w64 (x := (i : Int) + 1) (by omega) (by omega), show (i : Int) + 1 = ((i + 1 : Nat) : Int) by omega]
      exact match_l1 s hs P q can C hcan p hp r fin d (i + 1) b' (by omega) h
    have same : (¬ C i ∨ ∀ j, j ≤ s.size → ¬ step (bytesOf s) p i j) → Tells s.size b (fun j => ∃ m, m < i + 1 ∧ C m ∧ step (bytesOf s) p m j) := fun h => ⟨hb.1, fun j hj => by
      rw [hb.2 j hj]
      refine ⟨fun ⟨m, h1, h2⟩ => ⟨m, by omega, h2⟩, fun ⟨m, h1, h2, h3⟩ => ⟨m, ?_, h2, h3⟩⟩
      by_cases e : m = i
      · subst e
        rcases h with h | h
        · exact absurd h2 h
        · exact absurd h3 (h j hj)
      · omega⟩
    refine Ev.step (fun _ => glob_match.l1.eq_2 ..) (ev_pos (by omega) (ev_pos (by omega) (ev_pos (by omega) ?_)))
    by_cases c : rdOf false can (i : Int) = true
    case neg => exact ev_neg c (ih b (same (.inl (fun h => c ((hcan.2 i (by omega)).2 h)))))
    have hC : C i := (hcan.2 i (by omega)).1 c
    refine ev_pos c ?_
    by_cases c2 : p.f0 = true
    · refine ev_pos c2 (ev_pos (by omega) ?_)
      rw [Int.toNat_natCast]
      have hstep : ∀ m j, step (bytesOf s) p m j ↔ m ≤ j ∧ j ≤ s.size ∧ ∀ k, m ≤ k → k < j → (bytesOf s).getD k 0 ≠ 47 := fun m j => by
        unfold step
        rw [hz, c2]
        simp
      refine match_l2 s hs P q can i p.f0 p.f1 p.f2 (fun j => ∃ m, m < i ∧ C m ∧ step (bytesOf s) p m j) r (by omega) ?_ ?_ (s.size - i) i _ (by omega) (Nat.le_refl _) (fun k h1 h2 => by omega) (tells_set hb i (by omega) (fun j hj => ?_))
      · rintro m j ⟨m', h1, h2, h3⟩ h4 h5 h6 h7
        rw [hstep] at h3
        refine ⟨m', h1, h2, ?_⟩
        rw [hstep]
        exact ⟨by omega, h6, fun k h8 h9 => by
          by_cases e : k < m
          · exact h3.2.2 k h8 e
          · exact h7 k (by omega) h9⟩
      · intro b' hb'
        refine ih b' ⟨hb'.1, fun j hj => ?_⟩
        rw [hb'.2 j hj]
        constructor
        · rintro (⟨m, h1, h2⟩ | h)
          · exact ⟨m, by omega, h2⟩
          · exact ⟨i, by omega, hC, (hstep i j).2 ⟨h.1, hj, h.2⟩⟩
        · rintro ⟨m, h1, h2, h3⟩
          by_cases e : m = i
          · subst e
            have := (hstep m j).1 h3
            exact .inr ⟨this.1, this.2.2⟩
          · exact .inl ⟨m, by omega, h2, h3⟩
      · constructor
        · rintro (h | h)
          · exact .inr h
          · exact .inl (by omega)
        · rintro (h | h)
          · exact .inr ⟨by omega, by omega⟩
          · exact .inl h
    · refine ev_neg c2 ?_
      have hstep : ∀ m j, step (bytesOf s) p m j ↔ j = m + 1 ∧ m < s.size ∧ holdsP p ((bytesOf s).getD m 0) = true := fun m j => by
        unfold step
        rw [hz]
        simp [c2]
      by_cases c3 : (i : Int) < (s.size : Int)
      · refine ev_pos c3 ?_
        rw [show bt s (i : Int) = (bytesOf s).getD i 0 from (bytesOf_getD s i).symm]
        refine ev_call (holds_ev p _ hp) ?_
        by_cases c4 : holdsP p ((bytesOf s).getD i 0) = true
        · have e1 : wrap64 ((i : Int) + 1) = ((i + 1 : Nat) : Int) := by rw [w64 (by omega) (by omega)]; omega
          refine ev_pos c4 (ev_pos (by rw [e1]; omega) (ev_pos (by rw [e1]; omega) ?_))
          refine ih _ ?_
          rw [e1, Int.toNat_natCast]
          refine tells_set hb (i + 1) (by omega) (fun j hj => ?_)
          constructor
          · rintro ⟨m, h1, h2, h3⟩
            by_cases e : m = i
            · subst e
              exact .inl ((hstep m j).1 h3).1
            · exact .inr ⟨m, by omega, h2, h3⟩
          · rintro (h | ⟨m, h1, h2⟩)
            · exact ⟨i, by omega, hC, (hstep i j).2 ⟨h, by omega, c4⟩⟩
            · exact ⟨m, by omega, h2⟩
        · exact ev_neg c4 (ih b (same (.inr (fun j _ h => c4 ((hstep i j).1 h).2.2))))
      · exact ev_neg c3 (ih b (same (.inr (fun j _ h => by have := ((hstep i j).1 h).2.1; omega))))
theorem rd38_take (P : List S38) (q : Nat) (h : q < P.length) : P.take (q + 1) = P.take q ++ [rd_T38 P (q : Int)] := by
  rw [List.take_succ_eq_append_getElem h]
  congr 2
  simp [rd_T38, List.getD_eq_getElem?_getD, List.getElem?_eq_getElem h]
theorem reach_le (l : List Int) : ∀ (P : List S38) (i j : Nat), i ≤ l.length → reach l P i j → j ≤ l.length
  | [], i, j, h, hr => by have hr : i = j := hr; omega
  | p :: P, i, j, h, ⟨m, h1, h2⟩ => reach_le l P m j (by rcases h1 with h1 | h1 <;> omega) h2
theorem match_l0 (s : ByteArray) (hs : s.size ≤ 65536) (P : List S38) (hP : ∀ p ∈ P, p.f2.length < 9223372036854775807) (hPl : P.length < 9223372036854775807) : ∀ (d q : Nat) (can : List Bool), q + d = P.length → Tells s.size can (fun j => reach (bytesOf s) (P.take q) 0 j) →
    ∃ r, Ev (fun k => glob_match.l0 k s can P (P.length : Int) (q : Int)) r ∧ (r = true ↔ reach (bytesOf s) P 0 s.size)
  | 0, q, can, hd, hc => by
    have hl := hc.1
    refine ⟨_, Ev.step (fun _ => glob_match.l0.eq_2 ..) (ev_neg (by omega) (ev_pos (by omega) (ev_pos (by omega) (Ev.now _)))), ?_⟩
    rw [hc.2 s.size (Nat.le_refl _), List.take_of_length_le (by omega)]
  | d + 1, q, can, hd, hc => by
    have hz := bytesOf_length s
    have hmem : rd_T38 P (q : Int) ∈ P := by
      have := rd38_take P q (by omega)
      exact List.mem_of_mem_take (i := q + 1) (by rw [this]; simp)
    have key : ∀ b, Tells s.size b (fun j => ∃ m, m ≤ s.size ∧ reach (bytesOf s) (P.take q) 0 m ∧ step (bytesOf s) (rd_T38 P (q : Int)) m j) → ∃ r, Ev (fun k => glob_match.l0 k s b P (P.length : Int) (wrap64 ((q : Int) + 1))) r ∧ (r = true ↔ reach (bytesOf s) P 0 s.size) := fun b hb => by
      rw [w64 (x := (q : Int) + 1) (by omega) (by omega), show (q : Int) + 1 = ((q + 1 : Nat) : Int) by omega]
      refine match_l0 s hs P hP hPl d (q + 1) b (by omega) ⟨hb.1, fun j hj => ?_⟩
      rw [hb.2 j hj, rd38_take P q (by omega)]
      dsimp only
      rw [reach_snoc]
      exact ⟨fun ⟨m, _, h⟩ => ⟨m, h⟩, fun ⟨m, h1, h2⟩ => ⟨m, by rw [← hz]; exact reach_le _ _ 0 m (by omega) h1, h1, h2⟩⟩
    have e1 : wrap64 ((s.size : Int) + 1) = ((s.size + 1 : Nat) : Int) := by rw [w64 (by omega) (by omega)]; omega
    have ne : Tells s.size (List.replicate (s.size + 1) false) (fun j => ∃ m, m < 0 ∧ reach (bytesOf s) (P.take q) 0 m ∧ step (bytesOf s) (rd_T38 P (q : Int)) m j) := ⟨by simp, fun j hj => by
      have : rdOf false (List.replicate (s.size + 1) false) (j : Int) = false := by
        unfold rdOf
        rw [Int.toNat_natCast, List.getD_eq_getElem?_getD, List.getElem?_replicate]
        split <;> rfl
      rw [this]
      exact ⟨(fun h => by cases h), (fun ⟨m, h, _⟩ => by omega)⟩⟩
    by_cases hr : reach (bytesOf s) P 0 s.size
    · refine ⟨true, Ev.step (fun _ => glob_match.l0.eq_2 ..) (ev_pos (by omega) (ev_pos (by omega) (ev_pos (by omega) (ev_pos (by rw [e1]; omega) (ev_pos (by rw [e1, Int.toNat_natCast]; omega) ?_))))), ⟨fun _ => hr, fun _ => rfl⟩⟩
      rw [e1, Int.toNat_natCast]
      exact match_l1 s hs P q can _ hc (rd_T38 P (q : Int)) (hP _ hmem) true (fun b hb => by
        obtain ⟨r, h1, h2⟩ := key b hb
        rw [show r = true from h2.2 hr] at h1
        exact h1) (s.size + 1) 0 _ (by omega) ne
    · refine ⟨false, Ev.step (fun _ => glob_match.l0.eq_2 ..) (ev_pos (by omega) (ev_pos (by omega) (ev_pos (by omega) (ev_pos (by rw [e1]; omega) (ev_pos (by rw [e1, Int.toNat_natCast]; omega) ?_))))), ⟨(fun h => by cases h), (fun h => absurd h hr)⟩⟩
      rw [e1, Int.toNat_natCast]
      exact match_l1 s hs P q can _ hc (rd_T38 P (q : Int)) (hP _ hmem) false (fun b hb => by
        obtain ⟨r, h1, h2⟩ := key b hb
        rw [show r = false from by cases r with | false => rfl | true => exact absurd (h2.1 rfl) hr] at h1
        exact h1) (s.size + 1) 0 _ (by omega) ne
theorem match_ev (s : ByteArray) (hs : s.size ≤ 65536) (P : List S38) (hP : ∀ p ∈ P, p.f2.length < 9223372036854775807) (hPl : P.length < 9223372036854775807) : ∃ r, Ev (fun k => glob_match.f k P s) r ∧ (r = true ↔ reach (bytesOf s) P 0 s.size) := by
  have e1 : wrap64 ((s.size : Int) + 1) = ((s.size + 1 : Nat) : Int) := by rw [w64 (by omega) (by omega)]; omega
  have ne : Tells s.size ((List.replicate (s.size + 1) false).set 0 true) (fun j => reach (bytesOf s) (P.take 0) 0 j) :=
    tells_set (R := fun _ => False) ⟨by simp, fun j hj => by
      have : rdOf false (List.replicate (s.size + 1) false) (j : Int) = false := by
        unfold rdOf
        rw [Int.toNat_natCast, List.getD_eq_getElem?_getD, List.getElem?_replicate]
        split <;> rfl
      rw [this]
      exact ⟨(fun h => by cases h), False.elim⟩⟩ 0 (by omega) (fun j _ => ⟨fun h => .inl (Eq.symm h), fun h => h.elim (fun h => Eq.symm h) False.elim⟩)
  obtain ⟨r, h1, h2⟩ := match_l0 s hs P hP hPl P.length 0 _ (by omega) ne
  refine ⟨r, ev_pos (by rw [e1]; omega) (ev_pos (by rw [e1, Int.toNat_natCast]; omega) (ev_some (ev_pos (by rw [e1, Int.toNat_natCast]; simp) ?_))), h2⟩
  rw [e1, Int.toNat_natCast]
  exact h1
end Go.Proofs.Ytdcbmpjofacbhaa.Fr
