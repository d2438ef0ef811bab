/- The laws of chapter 19. -/
import Derived.Test.YtdcbmpjofacbhaaGlC
import Derived.Test.YtdcbmpjofacbhaaPAllx6
import Derived.Test.YtdcbmpjofacbhaaPAllx7
import Derived.Test.YtdcbmpjofacbhaaPAllx8
import Derived.Test.YtdcbmpjofacbhaaPAllx9
namespace Go.Proofs.Ytdcbmpjofacbhaa.Fr
open Go Go.RowKit Go.Proofs.Ytdcbmpjofacbhaa.PAll Go.Proofs.YtdcbmpjofacbhaaW.PrintWords Go.Proofs.YtdcbmpjofacbhaaW.PrintLast Go.Proofs.YtdcbmpjofacbhaaPw
theorem alive_ev : Ev (fun k => seichelaw19_alive.f k) true := Ev.of (fun k => seichelaw19_alive.mono k) (k := 400) (by kernel_rfl)
/-! Names that are quoted. -/
theorem quotes_l0 (s o : ByteArray) (hs : s.size ≤ 512) (ho : o.size ≤ 512) : ∀ (d i : Nat), i + d = s.size → Ev (fun k => seichelaw19_GlobQuotes.l0 k s o (strOfNums (quoteL ((bytesOf s).take i))) (i : Int)) true
  | 0, i, hd => by
    rw [List.take_of_length_le (by rw [bytesOf_length]; omega)]
    have hb := byt_quote (byt_bytesOf s)
    have hsz : (strOfNums (quoteL (bytesOf s))).size ≤ 65536 := by rw [strOfNums_size, quote_length, bytesOf_length]; omega
    have hp : Parses ((bytesOf s).map litP) (bytesOf (strOfNums (quoteL (bytesOf s)))) := by rw [bytes_str hb]; exact parses_quote _
    obtain ⟨r1, e1, f1⟩ := match_of hp s hsz (by omega)
    obtain ⟨r2, e2, f2⟩ := match_of hp o hsz (by omega)
    rw [reach_lits _ _ _ _ (Nat.zero_le _), bytesOf_length] at f1 f2
    refine Ev.step (fun _ => seichelaw19_GlobQuotes.l0.eq_2 ..) (ev_neg (by omega) (ev_call e1 (ev_call e2 (ev_pos rfl (ev_pos rfl (ev_pos ?_ (ev_ret ?_)))))))
    · exact f1.2 ⟨by omega, [], by simp⟩
    · show (r2 == (s.toList == o.toList)) = true
      rw [ba_beq]
      have : r2 = decide (s = o) := by
        rw [Bool.eq_iff_iff, f2, decide_eq_true_iff]
        constructor
        · rintro ⟨h1, r, h2⟩
          rw [List.drop_zero] at h2
          have h3 := congrArg List.length h2
          rw [List.length_append, bytesOf_length, bytesOf_length] at h3
          obtain rfl : r = [] := List.eq_nil_of_length_eq_zero (by omega)
          exact bytes_inj (by rw [h2, List.append_nil])
        · rintro rfl
          exact ⟨by omega, [], by simp⟩
      rw [this]
      simp
  | d + 1, i, hd => by
    have ih := quotes_l0 s o hs ho d (i + 1) (by omega)
    have hi : i < (bytesOf s).length := by rw [bytesOf_length]; omega
    have hz : (strOfNums (quoteL ((bytesOf s).take i))).size = 2 * i := by rw [strOfNums_size, quote_length, List.length_take]; omega
    have e : (strOfNums (quoteL ((bytesOf s).take i)) ++ (⟨#[92]⟩ : ByteArray)) ++ s.extract i (i + 1) = strOfNums (quoteL ((bytesOf s).take (i + 1))) := by
      apply bytes_inj
      rw [bytesOf_append, bytesOf_append, bytes_str (byt_quote (byt_take (byt_bytesOf s) _)), bytes_str (byt_quote (byt_take (byt_bytesOf s) _)), bytesOf_extract, take_snoc hi, quote_append,
        List.drop_append_of_le_length (by rw [List.length_take]; omega), List.drop_of_length_le (by rw [List.length_take]; omega), List.append_assoc]
      rfl
    have hz2 : (strOfNums (quoteL ((bytesOf s).take i)) ++ (⟨#[92]⟩ : ByteArray)).size + (s.extract i (i + 1)).size ≤ 9223372036854775807 := by
      rw [ByteArray.size_append, ByteArray.size_extract, hz]
      show 2 * i + 1 + _ ≤ _
      omega
    refine Ev.step (fun _ => seichelaw19_GlobQuotes.l0.eq_2 ..) (ev_pos (by omega) (ev_pos (by omega) (ev_pos (by omega) ?_)))
    rw [w64 (x := (i : Int) + 1) (by omega) (by omega)]
    refine ev_pos (by omega) (ev_pos (by omega) ?_)
    rw [show ((i : Int) + 1).toNat = i + 1 by omega, show ((i : Int)).toNat = i by omega, e]
    exact ev_pos hz2 ih
theorem GlobQuotes : seichelaw19_GlobQuotes.Pure := by
  intro a0 a1 _ _
  refine Ev.rounds (g := fun k => seichelaw19_GlobQuotes.f k a0 a1) (ev_call alive_ev (ev_pos rfl ?_))
  have done : Ev (fun k => seichelaw19_GlobQuotes.j0 k a0 a1 true) true := Ev.step (fun _ => seichelaw19_GlobQuotes.j0.eq_2 ..) (ev_pos rfl (Ev.now _))
  by_cases c : (a0.size : Int) > 512
  · exact ev_pos c done
  refine ev_neg c ?_
  by_cases c2 : (a1.size : Int) > 512
  · rw [decide_eq_true c2]; exact done
  rw [decide_eq_false c2]
  exact Ev.step (fun _ => seichelaw19_GlobQuotes.j0.eq_2 ..) (ev_neg (by simp) (quotes_l0 a0 a1 (by omega) (by omega) a0.size 0 (by omega)))
/-! Patterns and names, one behind the other. -/
theorem getD_left (X Y : List Int) (i : Nat) (h : i < X.length) : (X ++ Y).getD i 0 = X.getD i 0 := by
  rw [List.getD_eq_getElem?_getD, List.getD_eq_getElem?_getD, List.getElem?_append_left h]
theorem getD_right (X Y : List Int) (i : Nat) : (X ++ Y).getD (X.length + i) 0 = Y.getD i 0 := by
  rw [List.getD_eq_getElem?_getD, List.getD_eq_getElem?_getD, List.getElem?_append_right (by omega)]
  congr 2
  omega
theorem reach_left (X Y : List Int) : ∀ (P : List S38) (i j : Nat), i ≤ X.length → reach X P i j → reach (X ++ Y) P i j
  | [], _, _, _, h => h
  | p :: P, i, j, hi, ⟨m, h1, h2⟩ => by
    have hm : m ≤ X.length := by rcases h1 with ⟨_, _, h, _⟩ | ⟨_, h, h', _⟩ <;> omega
    refine ⟨m, ?_, reach_left X Y P m j hm h2⟩
    rcases h1 with ⟨h3, h4, h5, h6⟩ | ⟨h3, h4, h5, h6⟩
    · refine .inl ⟨h3, h4, by rw [List.length_append]; omega, fun k k1 k2 => ?_⟩
      rw [getD_left X Y k (by omega)]
      exact h6 k k1 k2
    · refine .inr ⟨h3, h4, by rw [List.length_append]; omega, ?_⟩
      rw [getD_left X Y i h5]
      exact h6
theorem reach_right (X Y : List Int) : ∀ (P : List S38) (i j : Nat), reach Y P i j → reach (X ++ Y) P (X.length + i) (X.length + j)
  | [], i, j, h => by have h : i = j := h; subst h; rfl
  | p :: P, i, j, ⟨m, h1, h2⟩ => by
    refine ⟨X.length + m, ?_, reach_right X Y P m j h2⟩
    rcases h1 with ⟨h3, h4, h5, h6⟩ | ⟨h3, h4, h5, h6⟩
    · refine .inl ⟨h3, by omega, by rw [List.length_append]; omega, fun k k1 k2 => ?_⟩
      have := getD_right X Y (k - X.length)
      rw [show X.length + (k - X.length) = k by omega] at this
      rw [this]
      exact h6 _ (by omega) (by omega)
    · refine .inr ⟨h3, by omega, by rw [List.length_append]; omega, ?_⟩
      rw [getD_right X Y i]
      exact h6
def starP : S38 := ⟨true, false, []⟩
theorem step_star (L : List Int) (i j : Nat) : step L starP i j ↔ i ≤ j ∧ j ≤ L.length ∧ ∀ k, i ≤ k → k < j → L.getD k 0 ≠ 47 := by
  constructor
  · rintro (⟨_, h⟩ | ⟨h, _⟩)
    · exact h
    · cases h
  · intro h
    exact .inl ⟨rfl, h⟩
theorem parses_star : Parses [starP] [42] := ⟨[], .inl ⟨rfl, rfl⟩, rfl⟩
/-- A / stands before a place. -/
def cut (L : List Int) (i : Nat) : Bool := (L.take i).any (fun x => x == 47)
theorem cut_succ (L : List Int) (i : Nat) (h : i < L.length) : cut L (i + 1) = (cut L i || (L.getD i 0 == 47)) := by
  unfold cut
  rw [take_snoc h, List.any_append]
  simp
theorem cut_iff (L : List Int) : ∀ (i : Nat), i ≤ L.length → (cut L i = false ↔ ∀ k, k < i → L.getD k 0 ≠ 47)
  | 0, _ => by simp [cut]
  | i + 1, h => by
    rw [cut_succ L i (by omega), Bool.or_eq_false_iff, cut_iff L i (by omega), beq_eq_false_iff_ne]
    constructor
    · rintro ⟨h1, h2⟩ k hk
      by_cases e : k = i
      · rw [e]; exact h2
      · exact h1 k (by omega)
    · intro h1
      exact ⟨fun k hk => h1 k (by omega), h1 i (by omega)⟩
theorem joins_l0 (x : ByteArray) (hx : x.size ≤ 65536) : ∀ (d i : Nat), i + d = x.size → Ev (fun k => seichelaw19_GlobJoins.l0 k x (cut (bytesOf x) i) (i : Int)) true
  | 0, i, hd => by
    have hp : Parses [starP] (bytesOf (⟨#[42]⟩ : ByteArray)) := parses_star
    obtain ⟨r, e, f⟩ := match_of hp x (by show (1 : Nat) ≤ _; omega) hx
    refine Ev.step (fun _ => seichelaw19_GlobJoins.l0.eq_2 ..) (ev_neg (by omega) (ev_call e (ev_pos rfl (ev_ret ?_))))
    show (r != cut (bytesOf x) i) = true
    have : (r = true) ↔ cut (bytesOf x) i = false := by
      rw [f, cut_iff _ _ (by rw [bytesOf_length]; omega)]
      constructor
      · rintro ⟨m, h1, h2⟩ k hk
        have h2 : m = x.size := h2
        exact ((step_star _ _ _).1 h1).2.2 k (by omega) (by omega)
      · intro h
        exact ⟨x.size, (step_star _ _ _).2 ⟨by omega, by rw [bytesOf_length]; omega, fun k _ hk => h k (by omega)⟩, rfl⟩
    cases hr : r <;> cases hc : cut (bytesOf x) i <;> simp [hr, hc] at this ⊢
  | d + 1, i, hd => by
    have ih := joins_l0 x hx d (i + 1) (by omega)
    rw [cut_succ _ _ (by rw [bytesOf_length]; omega), bytesOf_getD] at ih
    refine Ev.step (fun _ => seichelaw19_GlobJoins.l0.eq_2 ..) (ev_pos (by omega) ?_)
    rw [w64 (x := (i : Int) + 1) (by omega) (by omega)]
    cases hc : cut (bytesOf x) i with
    | true =>
      rw [hc, Bool.true_or] at ih
      exact ev_pos rfl ih
    | false =>
      rw [hc, Bool.false_or] at ih
      exact ev_neg (by simp) (ev_pos (by omega) ih)
theorem GlobJoins : seichelaw19_GlobJoins.Pure := by
  intro a0 a1 a2 a3 _ _ _ _
  refine Ev.rounds (g := fun k => seichelaw19_GlobJoins.f k a0 a1 a2 a3) (ev_call alive_ev (ev_pos rfl ?_))
  have done : Ev (fun k => seichelaw19_GlobJoins.j0 k a0 a1 a2 a3 true) true := Ev.step (fun _ => seichelaw19_GlobJoins.j0.eq_2 ..) (ev_pos rfl (Ev.now _))
  by_cases c : (a0.size : Int) > 100
  · exact ev_pos c done
  refine ev_neg c ?_
  by_cases c1 : (a1.size : Int) > 100
  · exact ev_pos c1 done
  refine ev_neg c1 ?_
  by_cases c2 : (a2.size : Int) > 100
  · exact ev_pos c2 done
  refine ev_neg c2 ?_
  by_cases c3 : (a3.size : Int) > 100
  · rw [decide_eq_true c3]; exact done
  rw [decide_eq_false c3]
  have last : Ev (fun k => seichelaw19_GlobJoins.j1 k a2 false) true := Ev.step (fun _ => seichelaw19_GlobJoins.j1.eq_2 ..) (ev_neg (by simp) (joins_l0 a2 (by omega) a2.size 0 (by omega)))
  refine Ev.step (fun _ => seichelaw19_GlobJoins.j0.eq_2 ..) (ev_neg (by simp) ?_)
  have s1 : (a0 ++ a1).size ≤ 65536 := by rw [ByteArray.size_append]; omega
  have s2 : (a2 ++ a3).size ≤ 65536 := by rw [ByteArray.size_append]; omega
  have any : ∃ r e, Ev (fun k => glob_Match.f k (a0 ++ a1) (a2 ++ a3)) (r, e) := by
    rcases Match_ev (a0 ++ a1) (a2 ++ a3) s1 s2 with ⟨_, r, _, h, _⟩ | ⟨_, h⟩
    · exact ⟨_, _, h⟩
    · exact ⟨_, _, h⟩
  obtain ⟨r3, e3, h3⟩ := any
  have b1 : a0.size + a1.size ≤ 9223372036854775807 := by omega
  have b2 : a2.size + a3.size ≤ 9223372036854775807 := by omega
  rcases Match_ev a0 a2 (by omega) (by omega) with ⟨P, r1, p1, h1, f1⟩ | ⟨_, h1⟩
  rotate_left
  · rcases Match_ev a1 a3 (by omega) (by omega) with ⟨Q, r2, p2, h2, f2⟩ | ⟨_, h2⟩
    · exact ev_call h1 (ev_call h2 (ev_pos b1 (ev_pos b2 (ev_call h3 (ev_neg (by simp) last)))))
    · exact ev_call h1 (ev_call h2 (ev_pos b1 (ev_pos b2 (ev_call h3 (ev_neg (by simp) last)))))
  rcases Match_ev a1 a3 (by omega) (by omega) with ⟨Q, r2, p2, h2, f2⟩ | ⟨_, h2⟩
  rotate_left
  · exact ev_call h1 (ev_call h2 (ev_pos b1 (ev_pos b2 (ev_call h3 (ev_pos rfl (ev_neg (by simp) last))))))
  cases r1 with
  | false => exact ev_call h1 (ev_call h2 (ev_pos b1 (ev_pos b2 (ev_call h3 (ev_pos rfl (ev_pos rfl (ev_neg (by simp) last)))))))
  | true =>
    cases r2 with
    | false => exact ev_call h1 (ev_call h2 (ev_pos b1 (ev_pos b2 (ev_call h3 (ev_pos rfl (ev_pos rfl (ev_pos rfl (ev_neg (by simp) last))))))))
    | true =>
      have hp : Parses (P ++ Q) (bytesOf (a0 ++ a1)) := by rw [bytesOf_append]; exact parses_append P Q _ _ p1 p2
      obtain ⟨r, h4, f4⟩ := match_of hp (a2 ++ a3) s1 s2
      have hr : r = true := by
        rw [f4, bytesOf_append, reach_append, ByteArray.size_append]
        have k1 := reach_left (bytesOf a2) (bytesOf a3) P 0 a2.size (Nat.zero_le _) (f1.1 rfl)
        have k2 := reach_right (bytesOf a2) (bytesOf a3) Q 0 a3.size (f2.1 rfl)
        rw [bytesOf_length] at k2
        exact ⟨a2.size, k1, k2⟩
      subst hr
      exact ev_call h1 (ev_call h2 (ev_pos b1 (ev_pos b2 (ev_call h4 (ev_pos rfl (ev_pos rfl (ev_pos rfl (ev_pos rfl (ev_pos rfl last)))))))))
/-! Many stars. -/
theorem item_lit (c : Int) (t : List Int) (h1 : c ≠ 42) (h2 : c ≠ 63) (h3 : c ≠ 91) (h4 : c ≠ 92) : Item (litP c) (c :: t) t :=
  .inr (.inr (.inr ⟨c, t, c, rfl, h1, h2, h3, by rw [oneL_cons, if_neg h4], rfl⟩))
def starsL : Nat → List Int
  | 0 => []
  | n + 1 => 42 :: 97 :: starsL n
def starsP : Nat → List S38
  | 0 => []
  | n + 1 => starP :: litP 97 :: starsP n
theorem stars_length : ∀ n, (starsL n).length = 2 * n
  | 0 => rfl
  | n + 1 => by
    have := stars_length n
    simp only [starsL, List.length_cons]
    omega
theorem stars_snoc : ∀ n, starsL n ++ [42, 97] = starsL (n + 1)
  | 0 => rfl
  | n + 1 => by
    show 42 :: 97 :: (starsL n ++ [42, 97]) = _
    rw [stars_snoc n]
    rfl
theorem byt_stars : ∀ n, Byt (starsL n)
  | 0 => fun x hx => by cases hx
  | n + 1 => fun x hx => by
    rcases List.mem_cons.1 hx with rfl | hx
    · omega
    rcases List.mem_cons.1 hx with rfl | hx
    · omega
    · exact byt_stars n x hx
theorem parses_stars (P : List S38) (l : List Int) (h : Parses P l) : ∀ n, Parses (starsP n ++ P) (starsL n ++ l)
  | 0 => h
  | n + 1 => ⟨97 :: (starsL n ++ l), .inl ⟨rfl, rfl⟩, starsL n ++ l, item_lit 97 _ (by omega) (by omega) (by omega) (by omega), parses_stars P l h n⟩
theorem reach_stars_len (L : List Int) : ∀ (n i j : Nat), reach L (starsP n) i j → i + n ≤ j ∧ (n = 0 → i = j)
  | 0, i, j, h => by have h : i = j := h; omega
  | n + 1, i, j, ⟨m, h1, m2, h2, h3⟩ => by
    have k1 := (step_star _ _ _).1 h1
    have k2 := (step_lit _ _ _ _).1 h2
    have k3 := reach_stars_len L n m2 j h3
    omega
theorem reach_stars (L : List Int) (N : Nat) (hN : N ≤ L.length) (hL : ∀ k, k < N → L.getD k 0 = 97) : ∀ (n i j : Nat), i + (n + 1) ≤ j → j ≤ N → reach L (starsP (n + 1)) i j
  | 0, i, j, h1, h2 => ⟨j - 1, (step_star _ _ _).2 ⟨by omega, by omega, fun k _ hk => by rw [hL k (by omega)]; omega⟩, j, (step_lit _ _ _ _).2 ⟨by omega, by omega, hL _ (by omega)⟩, rfl⟩
  | n + 1, i, j, h1, h2 => ⟨i, (step_star _ _ _).2 ⟨by omega, by omega, fun k _ hk => by omega⟩, i + 1, (step_lit _ _ _ _).2 ⟨by omega, by omega, hL _ (by omega)⟩, reach_stars L N hN hL n (i + 1) j (by omega) h2⟩
theorem long_l1 (s n : Nat) (c : Int) (hc : 0 ≤ c ∧ c < 256) (hs : s ≤ 60) (hn : n ≤ 512) (c1 : c ≠ 42) (c2 : c ≠ 63) (c3 : c ≠ 91) (c4 : c ≠ 92) (c5 : c ≠ 47) : ∀ (d i : Nat), i + d = n →
    Ev (fun k => seichelaw19_GlobLong.l1 k (s : Int) (n : Int) c (strOfNums (starsL s)) (strOfNums (List.replicate i 97)) (i : Int)) true
  | 0, i, hd => by
    obtain rfl : i = n := by omega
    have bc : Byt [c] := fun x hx => by rw [List.mem_singleton.1 hx]; exact hc
    have br : ∀ n, Byt (List.replicate n (97 : Int)) := fun n x hx => by rw [List.eq_of_mem_replicate hx]; omega
    have z1 : (strOfNums (starsL s)).size = 2 * s := by rw [strOfNums_size, stars_length]
    have z2 : (strOfNums (List.replicate i (97 : Int))).size = i := by rw [strOfNums_size, List.length_replicate]
    have z3 : (strOfNums [c]).size = 1 := by rw [strOfNums_size]; rfl
    have one : Parses [litP c] [c] := ⟨[], item_lit c [] c1 c2 c3 c4, rfl⟩
    have hp : Parses (starsP s ++ [litP c]) (bytesOf (strOfNums (starsL s) ++ strOfNums [c])) := by
      rw [bytesOf_append, bytes_str (byt_stars s), bytes_str bc]
      exact parses_stars [litP c] [c] one s
    have hL : bytesOf (strOfNums (List.replicate i 97) ++ strOfNums [c]) = List.replicate i 97 ++ [c] := by rw [bytesOf_append, bytes_str (br i), bytes_str bc]
    obtain ⟨r, e, f⟩ := match_of hp (strOfNums (List.replicate i 97) ++ strOfNums [c]) (by rw [ByteArray.size_append]; omega) (by rw [ByteArray.size_append]; omega)
    rw [hL, reach_snoc, ByteArray.size_append, z2, z3] at f
    have hl : (List.replicate i (97 : Int) ++ [c]).length = i + 1 := by simp
    have h97 : ∀ k, k < i → (List.replicate i (97 : Int) ++ [c]).getD k 0 = 97 := fun k hk => by
      rw [getD_left _ _ k (by rw [List.length_replicate]; exact hk), List.getD_eq_getElem?_getD, List.getElem?_replicate, if_pos hk]
      rfl
    have hlast : (List.replicate i (97 : Int) ++ [c]).getD i 0 = c := by
      have := getD_right (List.replicate i (97 : Int)) [c] 0
      rw [List.length_replicate] at this
      exact this
    have hr : r = true ↔ (s = 0 ∧ i = 0) ∨ (0 < s ∧ s ≤ i) := by
      rw [f]
      constructor
      · rintro ⟨m, h1, h2⟩
        have k1 := reach_stars_len _ s 0 m h1
        have k2 := (step_lit _ _ _ _).1 h2
        omega
      · intro h
        refine ⟨i, ?_, (step_lit _ _ _ _).2 ⟨rfl, by omega, hlast⟩⟩
        rcases h with ⟨rfl, rfl⟩ | ⟨h1, h2⟩
        · rfl
        · obtain ⟨s', rfl⟩ : ∃ s', s = s' + 1 := ⟨s - 1, by omega⟩
          exact reach_stars _ i (by omega) h97 s' 0 i (by omega) (by omega)
    refine Ev.step (fun _ => seichelaw19_GlobLong.l1.eq_2 ..) (ev_neg (by omega) (ev_some (ev_pos (by omega) (ev_pos (by omega) (ev_call e (ev_pos rfl ?_))))))
    have fin : Ev (fun _ => if (s : Int) = 0 then (if (i : Int) = 0 then some (r == true) else (if (s : Int) > 0 then some (r == decide ((i : Int) ≥ s)) else some (r == false))) else (if (s : Int) > 0 then some (r == decide ((i : Int) ≥ s)) else some (r == false))) true := by
      by_cases s0 : (s : Int) = 0
      · by_cases i0 : (i : Int) = 0
        · exact ev_pos s0 (ev_pos i0 (ev_ret (by rw [hr.2 (by omega)]; rfl)))
        · exact ev_pos s0 (ev_neg i0 (ev_neg (by omega) (ev_ret (by
            have : r = false := by
              cases r with
              | false => rfl
              | true => have := hr.1 rfl; omega
            rw [this]; rfl))))
      · refine ev_neg s0 (ev_pos (by omega) (ev_ret ?_))
        have : r = decide ((i : Int) ≥ s) := by
          rw [Bool.eq_iff_iff, hr, decide_eq_true_iff]
          omega
        rw [this]
        simp
    by_cases c97 : c = 97
    · exact ev_pos c97 fin
    · exact ev_neg c97 fin
  | d + 1, i, hd => by
    have ih := long_l1 s n c hc hs hn c1 c2 c3 c4 c5 d (i + 1) (by omega)
    have br : ∀ n, Byt (List.replicate n (97 : Int)) := fun n x hx => by rw [List.eq_of_mem_replicate hx]; omega
    have z2 : (strOfNums (List.replicate i (97 : Int))).size = i := by rw [strOfNums_size, List.length_replicate]
    have e : strOfNums (List.replicate i (97 : Int)) ++ (⟨#[97]⟩ : ByteArray) = strOfNums (List.replicate (i + 1) 97) := by
      apply bytes_inj
      rw [bytesOf_append, bytes_str (br i), bytes_str (br (i + 1)), List.replicate_succ']
      rfl
    refine Ev.step (fun _ => seichelaw19_GlobLong.l1.eq_2 ..) (ev_pos (by omega) (ev_pos (by omega) ?_))
    rw [w64 (x := (i : Int) + 1) (by omega) (by omega), e]
    exact ih
theorem long_l0 (s n : Nat) (c : Int) (hc : 0 ≤ c ∧ c < 256) (hs : s ≤ 60) (hn : n ≤ 512) (c1 : c ≠ 42) (c2 : c ≠ 63) (c3 : c ≠ 91) (c4 : c ≠ 92) (c5 : c ≠ 47) : ∀ (d i : Nat), i + d = s →
    Ev (fun k => seichelaw19_GlobLong.l0 k (s : Int) (n : Int) c (strOfNums (starsL i)) (⟨#[]⟩ : ByteArray) (i : Int)) true
  | 0, i, hd => by
    obtain rfl : i = s := by omega
    exact Ev.step (fun _ => seichelaw19_GlobLong.l0.eq_2 ..) (ev_neg (by omega) (long_l1 i n c hc hs hn c1 c2 c3 c4 c5 n 0 (by omega)))
  | d + 1, i, hd => by
    have ih := long_l0 s n c hc hs hn c1 c2 c3 c4 c5 d (i + 1) (by omega)
    have z1 : (strOfNums (starsL i)).size = 2 * i := by rw [strOfNums_size, stars_length]
    have e : strOfNums (starsL i) ++ (⟨#[42, 97]⟩ : ByteArray) = strOfNums (starsL (i + 1)) := by
      apply bytes_inj
      rw [bytesOf_append, bytes_str (byt_stars i), bytes_str (byt_stars (i + 1)), ← stars_snoc]
      rfl
    refine Ev.step (fun _ => seichelaw19_GlobLong.l0.eq_2 ..) (ev_pos (by omega) (ev_pos (by omega) ?_))
    rw [w64 (x := (i : Int) + 1) (by omega) (by omega), e]
    exact ih
theorem byte_wf {c : Int} (h : (Lit.int .u8 c).wf = true) : 0 ≤ c ∧ c < 256 := byt_wf (l := [c]) (fun x hx => by rw [List.mem_singleton.1 hx]; exact h) c (by simp)
theorem GlobLong : seichelaw19_GlobLong.Pure := by
  intro a0 a1 a2 _ _ h2
  have hc := byte_wf h2
  refine Ev.rounds (g := fun k => seichelaw19_GlobLong.f k a0 a1 a2) (ev_call alive_ev (ev_pos rfl ?_))
  have done : Ev (fun k => seichelaw19_GlobLong.j0 k a0 a1 a2 true) true := Ev.step (fun _ => seichelaw19_GlobLong.j0.eq_2 ..) (ev_pos rfl (Ev.now _))
  by_cases d1 : a0 < 0
  · exact ev_pos d1 done
  refine ev_neg d1 ?_
  by_cases d2 : a0 > 60
  · exact ev_pos d2 done
  refine ev_neg d2 ?_
  by_cases d3 : a1 < 0
  · exact ev_pos d3 done
  refine ev_neg d3 ?_
  by_cases d4 : a1 > 512
  · exact ev_pos d4 done
  refine ev_neg d4 ?_
  by_cases c4 : a2 = 92
  · exact ev_pos c4 done
  refine ev_neg c4 ?_
  by_cases c1 : a2 = 42
  · exact ev_pos c1 done
  refine ev_neg c1 ?_
  by_cases c2 : a2 = 63
  · exact ev_pos c2 done
  refine ev_neg c2 ?_
  by_cases c3 : a2 = 91
  · exact ev_pos c3 done
  refine ev_neg c3 ?_
  by_cases c5 : a2 = 47
  · rw [show (a2 == 47) = true by simp [c5]]; exact done
  rw [show (a2 == 47) = false by simp [c5]]
  have h := long_l0 a0.toNat a1.toNat a2 hc (by omega) (by omega) c1 c2 c3 c4 c5 a0.toNat 0 (by omega)
  rw [show (a0.toNat : Int) = a0 by omega, show (a1.toNat : Int) = a1 by omega] at h
  exact Ev.step (fun _ => seichelaw19_GlobLong.j0.eq_2 ..) (ev_neg (by simp) h)
/-! Marks. -/
def anyP : S38 := ⟨false, true, []⟩
theorem step_any (L : List Int) (i j : Nat) : step L anyP i j ↔ j = i + 1 ∧ i < L.length ∧ L.getD i 0 ≠ 47 := by
  have h : ∀ x : Int, holdsP anyP x = true ↔ x ≠ 47 := fun x => by
    unfold holdsP anyP
    by_cases h : x = 47
    · rw [if_pos ⟨h, .inl rfl⟩]; simp [h]
    · rw [if_neg (fun k => h k.1)]; simp [h]
  constructor
  · rintro (⟨h1, _⟩ | ⟨_, h1, h2, h3⟩)
    · cases h1
    · exact ⟨h1, h2, (h _).1 h3⟩
  · rintro ⟨h1, h2, h3⟩
    exact .inr ⟨rfl, h1, h2, (h _).2 h3⟩
theorem reach_any (L : List Int) : ∀ (n i j : Nat), i ≤ L.length → (reach L (List.replicate n anyP) i j ↔ j = i + n ∧ j ≤ L.length ∧ ∀ k, i ≤ k → k < j → L.getD k 0 ≠ 47)
  | 0, i, j, hi => ⟨fun h => by have h : i = j := h; exact ⟨by omega, by omega, fun k _ _ => by omega⟩, fun h => h.1.symm⟩
  | n + 1, i, j, hi => by
    rw [List.replicate_succ]
    constructor
    · rintro ⟨m, h1, h2⟩
      obtain ⟨h3, h4, h5⟩ := (step_any _ _ _).1 h1
      obtain ⟨h6, h7, h8⟩ := (reach_any L n m j (by omega)).1 h2
      refine ⟨by omega, h7, fun k k1 k2 => ?_⟩
      by_cases e : k = i
      · rw [e]; exact h5
      · exact h8 k (by omega) k2
    · rintro ⟨h1, h2, h3⟩
      exact ⟨i + 1, (step_any _ _ _).2 ⟨rfl, by omega, h3 i (Nat.le_refl _) (by omega)⟩, (reach_any L n (i + 1) j (by omega)).2 ⟨by omega, h2, fun k k1 k2 => h3 k (by omega) k2⟩⟩
theorem parses_any : ∀ n, Parses (List.replicate n anyP) (List.replicate n (63 : Int))
  | 0 => rfl
  | n + 1 => ⟨List.replicate n 63, .inr (.inl ⟨rfl, rfl⟩), parses_any n⟩
theorem byt_any (n : Nat) : Byt (List.replicate n (63 : Int)) := fun x hx => by rw [List.eq_of_mem_replicate hx]; omega
theorem counts_l1 (s : ByteArray) (n : Nat) (hs : s.size ≤ 200) (hn : n ≤ 200) : ∀ (d i : Nat), i + d = s.size →
    Ev (fun k => seichelaw19_GlobCounts.l1 k s (n : Int) (strOfNums (List.replicate n 63)) (cut (bytesOf s) i) (i : Int)) true
  | 0, i, hd => by
    have hi : i = s.size := by omega
    have hl := bytesOf_length s
    have z1 : (strOfNums (List.replicate n (63 : Int))).size = n := by rw [strOfNums_size, List.length_replicate]
    have b1 : bytesOf (strOfNums (List.replicate n (63 : Int))) = List.replicate n 63 := bytes_str (byt_any n)
    have b42 : bytesOf (⟨#[42]⟩ : ByteArray) = [42] := rfl
    have z42 : (⟨#[42]⟩ : ByteArray).size = 1 := rfl
    have p1 : Parses (List.replicate n anyP) (bytesOf (strOfNums (List.replicate n 63))) := by rw [b1]; exact parses_any n
    have p2 : Parses ([starP] ++ List.replicate n anyP) (bytesOf ((⟨#[42]⟩ : ByteArray) ++ strOfNums (List.replicate n 63))) := by rw [bytesOf_append, b1, b42]; exact parses_append _ _ _ _ parses_star (parses_any n)
    have p3 : Parses (List.replicate n anyP ++ [starP]) (bytesOf (strOfNums (List.replicate n 63) ++ (⟨#[42]⟩ : ByteArray))) := by rw [bytesOf_append, b1, b42]; exact parses_append _ _ _ _ (parses_any n) parses_star
    obtain ⟨r1, e1, f1⟩ := match_of p1 s (by omega) (by omega)
    obtain ⟨r2, e2, f2⟩ := match_of p2 s (by rw [ByteArray.size_append]; omega) (by omega)
    obtain ⟨r3, e3, f3⟩ := match_of p3 s (by rw [ByteArray.size_append]; omega) (by omega)
    have hcut := cut_iff (bytesOf s) i (by omega)
    have g1 : r1 = true ↔ n = s.size ∧ cut (bytesOf s) i = false := by
      rw [f1, reach_any _ _ _ _ (Nat.zero_le _), hcut]
      constructor
      · rintro ⟨h1, h2, h3⟩
        exact ⟨by omega, fun k hk => h3 k (Nat.zero_le _) (by omega)⟩
      · rintro ⟨h1, h2⟩
        exact ⟨by omega, by omega, fun k _ hk => h2 k (by omega)⟩
    have g2 : r2 = true ↔ n ≤ s.size ∧ cut (bytesOf s) i = false := by
      rw [f2, hcut]
      constructor
      · rintro ⟨m, h1, h2⟩
        have k1 := (step_star _ _ _).1 h1
        have k2 := (reach_any _ _ _ _ (by omega)).1 h2
        refine ⟨by omega, fun k hk => ?_⟩
        by_cases c : k < m
        · exact k1.2.2 k (Nat.zero_le _) c
        · exact k2.2.2 k (by omega) (by omega)
      · rintro ⟨h1, h2⟩
        exact ⟨s.size - n, (step_star _ _ _).2 ⟨by omega, by omega, fun k _ hk => h2 k (by omega)⟩, (reach_any _ _ _ _ (by omega)).2 ⟨by omega, by omega, fun k _ hk => h2 k (by omega)⟩⟩
    have g3 : r3 = true ↔ n ≤ s.size ∧ cut (bytesOf s) i = false := by
      rw [f3, hcut, reach_snoc]
      constructor
      · rintro ⟨m, h1, h2⟩
        have k1 := (reach_any _ _ _ _ (Nat.zero_le _)).1 h1
        have k2 := (step_star _ _ _).1 h2
        refine ⟨by omega, fun k hk => ?_⟩
        by_cases c : k < m
        · exact k1.2.2 k (Nat.zero_le _) c
        · exact k2.2.2 k (by omega) (by omega)
      · rintro ⟨h1, h2⟩
        exact ⟨n, (reach_any _ _ _ _ (Nat.zero_le _)).2 ⟨by omega, by omega, fun k _ hk => h2 k (by omega)⟩, (step_star _ _ _).2 ⟨by omega, by omega, fun k _ hk => h2 k (by omega)⟩⟩
    have h32 : r3 = r2 := by rw [Bool.eq_iff_iff, g2, g3]
    refine Ev.step (fun _ => seichelaw19_GlobCounts.l1.eq_2 ..) (ev_neg (by omega) (ev_call e1 (ev_pos (by omega) (ev_call e2 (ev_pos (by omega) (ev_call e3 (ev_pos rfl (ev_pos rfl (ev_pos rfl ?_)))))))))
    by_cases hc : cut (bytesOf s) i = true
    · have k1 : r1 = false := by
        cases hr : r1 with
        | false => rfl
        | true => have := (g1.1 hr).2; rw [hc] at this; cases this
      have k2 : r2 = false := by
        cases hr : r2 with
        | false => rfl
        | true => have := (g2.1 hr).2; rw [hc] at this; cases this
      exact ev_pos hc (ev_pos (by rw [k1]; rfl) (ev_pos (by rw [k2]; rfl) (ev_ret (by rw [h32]; simp))))
    · have hc' : cut (bytesOf s) i = false := by simpa using hc
      have k1 : r1 = ((n : Int) == (s.size : Int)) := by
        rw [Bool.eq_iff_iff, g1, beq_iff_eq]
        exact ⟨fun h => by omega, fun h => ⟨by omega, hc'⟩⟩
      have k2 : r2 = decide ((n : Int) ≤ (s.size : Int)) := by
        rw [Bool.eq_iff_iff, g2, decide_eq_true_iff]
        exact ⟨fun h => by omega, fun h => ⟨by omega, hc'⟩⟩
      exact ev_neg hc (ev_pos (by rw [k1]; simp) (ev_pos (by rw [k2]; simp) (ev_ret (by rw [h32]; simp))))
  | d + 1, i, hd => by
    have ih := counts_l1 s n hs hn d (i + 1) (by omega)
    rw [cut_succ _ _ (by rw [bytesOf_length]; omega), bytesOf_getD] at ih
    refine Ev.step (fun _ => seichelaw19_GlobCounts.l1.eq_2 ..) (ev_pos (by omega) ?_)
    rw [w64 (x := (i : Int) + 1) (by omega) (by omega)]
    cases hc : cut (bytesOf s) i with
    | true =>
      rw [hc, Bool.true_or] at ih
      exact ev_pos rfl ih
    | false =>
      rw [hc, Bool.false_or] at ih
      exact ev_neg (by simp) (ev_pos (by omega) ih)
theorem counts_l0 (s : ByteArray) (n : Nat) (hs : s.size ≤ 200) (hn : n ≤ 200) : ∀ (d i : Nat), i + d = n →
    Ev (fun k => seichelaw19_GlobCounts.l0 k s (n : Int) (strOfNums (List.replicate i 63)) (i : Int)) true
  | 0, i, hd => by
    obtain rfl : i = n := by omega
    exact Ev.step (fun _ => seichelaw19_GlobCounts.l0.eq_2 ..) (ev_neg (by omega) (counts_l1 s i hs hn s.size 0 (by omega)))
  | d + 1, i, hd => by
    have ih := counts_l0 s n hs hn d (i + 1) (by omega)
    have z1 : (strOfNums (List.replicate i (63 : Int))).size = i := by rw [strOfNums_size, List.length_replicate]
    have e : strOfNums (List.replicate i (63 : Int)) ++ (⟨#[63]⟩ : ByteArray) = strOfNums (List.replicate (i + 1) 63) := by
      apply bytes_inj
      rw [bytesOf_append, bytes_str (byt_any i), bytes_str (byt_any (i + 1)), List.replicate_succ']
      rfl
    refine Ev.step (fun _ => seichelaw19_GlobCounts.l0.eq_2 ..) (ev_pos (by omega) (ev_pos (by omega) ?_))
    rw [w64 (x := (i : Int) + 1) (by omega) (by omega), e]
    exact ih
theorem GlobCounts : seichelaw19_GlobCounts.Pure := by
  intro a0 a1 _ _
  refine Ev.rounds (g := fun k => seichelaw19_GlobCounts.f k a0 a1) (ev_call alive_ev (ev_pos rfl ?_))
  have done : Ev (fun k => seichelaw19_GlobCounts.j0 k a0 a1 true) true := Ev.step (fun _ => seichelaw19_GlobCounts.j0.eq_2 ..) (ev_pos rfl (Ev.now _))
  by_cases c : (a0.size : Int) > 200
  · exact ev_pos c done
  refine ev_neg c ?_
  by_cases c1 : a1 < 0
  · exact ev_pos c1 done
  refine ev_neg c1 ?_
  by_cases c2 : a1 > 200
  · rw [decide_eq_true c2]; exact done
  rw [decide_eq_false c2]
  have h := counts_l0 a0 a1.toNat (by omega) (by omega) a1.toNat 0 (by omega)
  rw [show (a1.toNat : Int) = a1 by omega] at h
  exact Ev.step (fun _ => seichelaw19_GlobCounts.j0.eq_2 ..) (ev_neg (by simp) h)
end Go.Proofs.Ytdcbmpjofacbhaa.Fr
