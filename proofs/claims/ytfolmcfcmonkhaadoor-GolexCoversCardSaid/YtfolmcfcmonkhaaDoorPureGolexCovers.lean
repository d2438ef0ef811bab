/- GolexCovers: the law's loop over tokens and comments answers true. -/
import Derived.Test.YtfolmcfcmonkhaaDoorPAllxC
import Derived.Test.YtfolmcfcmonkhaaDoorLyCov
import Derived.Test.YtfolmcfcmonkhaaDoorLyG
namespace Go.Proofs.YtfolmcfcmonkhaaDoor.Pure
open Go Go.RowKit Go.Proofs.YtfolmcfcmonkhaaDoor.PAll Go.Proofs.YtfolmcfcmonkhaaDoor.Fr Go.Proofs.YtfolmcfcmonkhaaDoorW.PrintWords Go.Proofs.YtfolmcfcmonkhaaDoorW.PrintLast Go.Proofs.YtfolmcfcmonkhaaDoorPw Go.Proofs.YtfolmcfcmonkhaaDoor
set_option linter.unusedVariables false
set_option linter.unusedSimpArgs false
/-- Without the tokens ahead that aren't written. -/
def dropE : List S27 → List S27
  | [] => []
  | t :: r => if t.f1.toList = ([] : List UInt8) then dropE r else t :: r
theorem dropE_app {E : List S27} (h : AllEmp E) (Y : List S27) : dropE (E ++ Y) = dropE Y := by
  induction E with
  | nil => rfl
  | cons t E ih =>
    rw [List.cons_append, dropE, if_pos (show t.f1.toList = ([] : List UInt8) from h t (by simp))]
    exact ih (fun x hx => h x (by simp [hx]))
theorem dropE_wr {t : S27} (h : ¬ Emp t) (r : List S27) : dropE (t :: r) = t :: r := by rw [dropE, if_neg (show ¬ t.f1.toList = ([] : List UInt8) from h)]
theorem dropE_all {E : List S27} (h : AllEmp E) : dropE E = [] := by
  have := dropE_app h []
  rw [List.append_nil] at this
  exact this
theorem dropE_split : ∀ X : List S27, ∃ E, AllEmp E ∧ X = E ++ dropE X ∧ (∀ t r, dropE X = t :: r → ¬ Emp t)
  | [] => ⟨[], (fun _ h => by cases h), rfl, (fun _ _ h => by cases h)⟩
  | x :: X => by
    rw [dropE]
    by_cases c : x.f1.toList = ([] : List UInt8)
    · rw [if_pos c]
      obtain ⟨E, h1, h2, h3⟩ := dropE_split X
      refine ⟨x :: E, fun t ht => ?_, ?_, h3⟩
      · rcases List.mem_cons.1 ht with h | h
        · rw [h]; exact c
        · exact h1 t h
      · rw [List.cons_append, ← h2]
    · rw [if_neg c]
      exact ⟨[], (fun _ h => by cases h), rfl, fun t r h => by rw [← List.head_eq_of_cons_eq h]; exact c⟩
theorem dropE_idem (X : List S27) : dropE (dropE X) = dropE X := by
  obtain ⟨E, h1, h2, h3⟩ := dropE_split X
  cases e : dropE X with
  | nil => rfl
  | cons t r => exact dropE_wr (h3 t r e) r
theorem dropE_mem {X : List S27} {t : S27} (h : t ∈ dropE X) : t ∈ X := by
  obtain ⟨E, h1, h2, h3⟩ := dropE_split X
  rw [h2]
  exact List.mem_append.2 (.inr h)
theorem blank_l0 {x : ByteArray} (hx : x.size ≤ 1048576) (h : ∀ k : Nat, k < x.size → bt x (k : Int) = 10 ∨ (bt x (k : Int) = 32 ∨ bt x (k : Int) = 9 ∨ bt x (k : Int) = 13)) : ∀ (n j : Nat), x.size - j ≤ n → j ≤ x.size → Ev (fun k => seichelaw11_blank.l0 k x (j : Int)) true
  | n, j, hn, hj => by
    refine Ev.step (fun _ => seichelaw11_blank.l0.eq_2 ..) ?_
    by_cases c : j < x.size
    · have hn' : n ≠ 0 := by omega
      obtain ⟨m, rfl⟩ := Nat.exists_eq_succ_of_ne_zero hn'
      have w : wrap64 ((j : Int) + 1) = ((j + 1 : Nat) : Int) := by rw [w64 (by omega) (by omega)]; omega
      have ih := blank_l0 hx h m (j + 1) (by omega) (by omega)
      rw [← w] at ih
      have q1 : (j : Int) < (x.size : Int) := Int.ofNat_lt.2 c
      have hh := h j c
      have br := bt_range x (j : Int)
      have wb : wrap64 (bt x (j : Int)) = bt x (j : Int) := w64 (by omega) (by omega)
      rw [wb]
      refine ev_pos q1 (ev_pos (Int.natCast_nonneg _) ?_)
      by_cases c1 : bt x (j : Int) = 10
      · exact ev_pos c1 ih
      · refine ev_neg c1 (ev_call (ev_eq ?_) (ev_pos (decide_eq_true (hh.resolve_left c1)) ih))
        unfold seicheref10_Blank.f
        repeat' split
        all_goals (congr 1; rw [Bool.eq_iff_iff]; simp [*])
    · exact ev_neg (by omega) (ev_ret rfl)
theorem bt_extract {s : ByteArray} {a b j : Nat} (h1 : a + j < b) (h2 : b ≤ s.size) : bt (s.extract a b) (j : Int) = bt s ((a + j : Nat) : Int) := by
  rw [← bytesOf_getD, ← bytesOf_getD, bytesOf_extract]
  have hl := bytesOf_length s
  rw [List.getD_eq_getElem?_getD, List.getD_eq_getElem?_getD, List.getElem?_drop, List.getElem?_take_of_lt h1]
theorem blank_ev {s : ByteArray} (hs : s.size ≤ 1048576) {a b : Nat} (hab : a ≤ b) (hb : b ≤ s.size) (h : Bk s a b) : Ev (fun k => seichelaw11_blank.f k (s.extract a b)) true := by
  have sz : (s.extract a b).size = b - a := by rw [ByteArray.size_extract]; omega
  exact blank_l0 (by omega) (fun k hk => by rw [bt_extract (by omega) hb]; exact h _ (by omega) (by omega)) _ 0 (Nat.le_refl _) (Nat.zero_le _)
theorem drop_cons {L : List S27} {i : Nat} {t : S27} {r : List S27} (h : L.drop i = t :: r) : i < L.length ∧ rd_T27 L (i : Int) = t ∧ L.drop (i + 1) = r := by
  have c : i < L.length := by
    have := congrArg List.length h
    rw [List.length_drop, List.length_cons] at this
    omega
  have rc := rd_cons L i c
  rw [h] at rc
  exact ⟨c, (List.head_eq_of_cons_eq rc).symm, (List.tail_eq_of_cons_eq rc).symm⟩
theorem drop_nil' {L : List S27} {i : Nat} (h : L.drop i = []) : L.length ≤ i := by
  have := congrArg List.length h
  rw [List.length_drop, List.length_nil] at this
  omega
section
variable {s : ByteArray} {T N : List S27}
/-- What is asked at the end. -/
theorem end_ev (hs : s.size ≤ 2048) (hT : T.length ≤ 9000000) (hN : N.length ≤ 9000000) (stop : Nat) (tl : S27) (J : List S27) {at_ : Nat} (hst : at_ ≤ stop) (hat : at_ ≤ s.size) (hTl : T = J ++ [tl]) (h : tl.f0 = 7 ∨ Bk s at_ s.size) :
    Ev (fun k => if ((at_ : Nat) : Int) ≤ ((stop : Nat) : Int) then (if 0 ≤ (wrap64 ((T.length : Int) - 1)) then (if (wrap64 ((T.length : Int) - 1)) < (T.length : Int) then (if ((rd_T27 T (wrap64 ((T.length : Int) - 1))).f0) = 7 then (some true) else (if 0 ≤ ((at_ : Nat) : Int) then (if ((at_ : Nat) : Int) ≤ (s.size : Int) then ((seichelaw11_blank.f k (s.extract ((at_ : Nat) : Int).toNat s.size)).bind fun t131 => (some t131)) else (none)) else (none))) else (none)) else (none)) else (none)) true := by
  have ln : T.length = J.length + 1 := by rw [hTl]; simp
  have w : wrap64 ((T.length : Int) - 1) = (J.length : Int) := by rw [w64 (by omega) (by omega)]; omega
  have rl : rd_T27 T (J.length : Int) = tl := by
    rw [hTl]
    have := rd_app J [tl] 0
    rw [Nat.add_zero] at this
    rw [this]
    rfl
  rw [w, rl]
  have q1 : ((at_ : Nat) : Int) ≤ ((stop : Nat) : Int) := Int.ofNat_le.2 hst
  have q2 : (J.length : Int) < (T.length : Int) := by omega
  refine ev_pos q1 (ev_pos (Int.natCast_nonneg _) (ev_pos q2 ?_))
  by_cases c : tl.f0 = 7
  · exact ev_pos c (ev_ret rfl)
  · refine ev_neg c (ev_pos (Int.natCast_nonneg _) (ev_pos (Int.ofNat_le.2 hat) ?_))
    rw [Int.toNat_natCast]
    exact ev_call (blank_ev (Nat.le_trans hs (by decide)) hat (Nat.le_refl _) (h.resolve_left c)) (ev_ret rfl)
/-- What is asked of one token, or comment. -/
theorem item_ev (hs : s.size ≤ 2048) (hT : T.length ≤ 9000000) (hN : N.length ≤ 9000000) (t : S27) (a q n : Nat) (h1 : t.f1 = s.extract q (q + n)) (h2 : t.f2 = (q : Int)) (ha : a ≤ q) (hb : Bk s a q) (hn : q + n ≤ s.size) {K : Nat → Option Bool} (go : Ev K true) :
    Ev (fun k => if t.f2 < (a : Int) then none else if t.f2 > (wrap64 ((s.size : Int) - (t.f1.size : Int))) then none else (if 0 ≤ t.f2 then (if t.f2 ≤ (wrap64 (t.f2 + (t.f1.size : Int))) then (if (wrap64 (t.f2 + (t.f1.size : Int))) ≤ (s.size : Int) then (if (s.extract (t.f2 : Int).toNat ((wrap64 (t.f2 + (t.f1.size : Int))) : Int).toNat).toList = t.f1.toList then (if 0 ≤ (a : Int) then (if (a : Int) ≤ t.f2 then (if t.f2 ≤ (s.size : Int) then ((seichelaw11_blank.f k (s.extract (a : Int).toNat (t.f2 : Int).toNat)).bind fun t137 => (if t137 = true then K k else none)) else (none)) else (none)) else (none)) else (none)) else (none)) else (none)) else (none))) true := by
  have sz : t.f1.size = n := by rw [h1, ByteArray.size_extract]; omega
  rw [h2, sz]
  have w1 : wrap64 ((s.size : Int) - (n : Int)) = (s.size : Int) - (n : Int) := w64 (by omega) (by omega)
  have w2 : wrap64 ((q : Int) + (n : Int)) = ((q + n : Nat) : Int) := by rw [w64 (by omega) (by omega)]; omega
  rw [w1, w2, Int.toNat_natCast, Int.toNat_natCast, Int.toNat_natCast]
  have q1 : ¬ (q : Int) < (a : Int) := by omega
  have q2 : ¬ (q : Int) > (s.size : Int) - (n : Int) := by omega
  have q3 : (q : Int) ≤ ((q + n : Nat) : Int) := by omega
  have q4 : ((q + n : Nat) : Int) ≤ (s.size : Int) := by omega
  have q5 : (a : Int) ≤ (q : Int) := by omega
  have q6 : (q : Int) ≤ (s.size : Int) := by omega
  refine ev_neg q1 (ev_neg q2 (ev_pos (Int.natCast_nonneg _) (ev_pos q3 (ev_pos q4 (ev_pos (by rw [h1]) (ev_pos (Int.natCast_nonneg _) (ev_pos q5 (ev_pos q6 ?_))))))))
  exact ev_call (blank_ev (Nat.le_trans hs (by decide)) ha (by omega) hb) (ev_pos rfl go)
/-- The tokens that aren't written are passed over. -/
theorem skip_l2 (hs : s.size ≤ 2048) (hT : T.length ≤ 9000000) (hN : N.length ≤ 9000000) (stop : Nat) (a kk : Nat) : ∀ (E : List S27) (i : Nat) (D : List S27), T.drop i = E ++ D → AllEmp E → (∀ t r, D = t :: r → ¬ Emp t) → i ≤ T.length → Ev (fun k => seichelaw11_GolexCovers.j5 k s T N (a : Int) (stop : Int) ((i + E.length : Nat) : Int) (kk : Int)) true → Ev (fun k => seichelaw11_GolexCovers.l2 k s T N (a : Int) (stop : Int) (i : Int) (kk : Int)) true
  | [], i, D, he, hE, hD, hi, go => by
    rw [List.length_nil, Nat.add_zero] at go
    refine Ev.step (fun _ => seichelaw11_GolexCovers.l2.eq_2 ..) ?_
    by_cases c : i < T.length
    · have rc := rd_cons T i c
      rw [he, List.nil_append] at rc
      exact ev_pos (Int.ofNat_lt.2 c) (ev_pos (Int.natCast_nonneg _) (ev_neg (hD _ _ rc) go))
    · exact ev_neg (by omega) go
  | t :: E, i, D, he, hE, hD, hi, go => by
    have c : i < T.length := by
      have := congrArg List.length he
      rw [List.length_drop, List.length_append, List.length_cons] at this
      omega
    have rc := rd_cons T i c
    rw [he, List.cons_append] at rc
    have e1 := List.head_eq_of_cons_eq rc
    have e2 := List.tail_eq_of_cons_eq rc
    have ht : Emp (rd_T27 T (i : Int)) := by rw [← e1]; exact hE t (by simp)
    have w : wrap64 ((i : Int) + 1) = ((i + 1 : Nat) : Int) := by rw [w64 (by omega) (by omega)]; omega
    have ih := skip_l2 hs hT hN stop a kk E (i + 1) D e2.symm (fun x hx => hE x (by simp [hx])) hD c (by rw [List.length_cons] at go; rw [show i + 1 + E.length = i + (E.length + 1) by omega]; exact go)
    rw [← w] at ih
    exact Ev.step (fun _ => seichelaw11_GolexCovers.l2.eq_2 ..) (ev_pos (Int.ofNat_lt.2 c) (ev_pos (Int.natCast_nonneg _) (ev_pos ht ih)))
theorem round_ev (hs : s.size ≤ 2048) (hT : T.length ≤ 9000000) (hN : N.length ≤ 9000000) (stop : Nat) (a i kk : Nat) (E D : List S27) (e2 : T.drop i = E ++ D) (e1 : AllEmp E) (e3 : ∀ t r, D = t :: r → ¬ Emp t) (hi : i ≤ T.length) (h5 : i < T.length ∨ kk < N.length)
    (g5 : Ev (fun k => seichelaw11_GolexCovers.j5 k s T N (a : Int) (stop : Int) ((i + E.length : Nat) : Int) (kk : Int)) true) : Ev (fun k => seichelaw11_GolexCovers.l1 k s T N (a : Int) (stop : Int) (i : Int) (kk : Int)) true := by
  have sk := skip_l2 hs hT hN stop a kk E i D e2 e1 e3 hi g5
  have j3 : ∀ f : Bool, f = true → Ev (fun k => seichelaw11_GolexCovers.j3 k s T N (a : Int) (stop : Int) (i : Int) (kk : Int) f) true := by
    rintro f rfl
    exact Ev.step (fun _ => seichelaw11_GolexCovers.j3.eq_2 ..) (ev_pos rfl sk)
  clear sk g5 e2 e3
  refine Ev.step (fun _ => seichelaw11_GolexCovers.l1.eq_2 ..) ?_
  by_cases c : i < T.length
  · exact ev_pos (Int.ofNat_lt.2 c) (j3 _ rfl)
  · have q : ¬ (i : Int) < (T.length : Int) := fun h => c (Int.ofNat_lt.1 h)
    exact ev_neg q (j3 _ (decide_eq_true (Int.ofNat_lt.2 (h5.resolve_left c))))
theorem tok_round (hs : s.size ≤ 2048) (hT : T.length ≤ 9000000) (hN : N.length ≤ 9000000) (stop : Nat) (a i kk q z : Nat) (kd : Int) (A1 : List S27) (h1 : a ≤ q) (h2 : Bk s a q) (h4 : q + z ≤ s.size) (d : T.drop i = ⟨kd, s.extract q (q + z), (q : Int)⟩ :: A1) (hC : ∀ x ∈ N.drop kk, (q : Int) < x.f2)
    (ih : Ev (fun k => seichelaw11_GolexCovers.l1 k s T N ((q + z : Nat) : Int) (stop : Int) ((i + 1 : Nat) : Int) (kk : Int)) true) : Ev (fun k => seichelaw11_GolexCovers.j5 k s T N (a : Int) (stop : Int) (i : Int) (kk : Int)) true := by
  obtain ⟨d1, d2, d3⟩ := drop_cons d
  have w : wrap64 ((i : Int) + 1) = ((i + 1 : Nat) : Int) := by clear d d2 d3 hC; rw [w64 (by omega) (by omega)]; omega
  have szx : (s.extract q (q + z)).size = z := by clear d d2 d3 hC; rw [ByteArray.size_extract]; omega
  have w2 : wrap64 ((q : Int) + (z : Int)) = ((q + z : Nat) : Int) := by clear d d2 d3 hC; rw [w64 (by omega) (by omega)]; omega
  have it := item_ev hs hT hN ⟨kd, s.extract q (q + z), (q : Int)⟩ a q z rfl rfl h1 h2 h4 ih
  have j6 : ∀ f : Bool, f = true → Ev (fun k => seichelaw11_GolexCovers.j6 k s T N (a : Int) (stop : Int) (i : Int) (kk : Int) f) true := by
    rintro f rfl
    refine Ev.step (fun _ => seichelaw11_GolexCovers.j6.eq_2 ..) (ev_pos rfl (ev_pos (Int.natCast_nonneg _) (ev_pos (Int.ofNat_lt.2 d1) ?_)))
    rw [d2]
    dsimp only at it ⊢
    rw [szx, w2] at it ⊢
    rw [w]
    exact it
  clear it ih
  refine Ev.step (fun _ => seichelaw11_GolexCovers.j5.eq_2 ..) (ev_pos (Int.ofNat_lt.2 d1) ?_)
  by_cases c : (kk : Int) ≥ (N.length : Int)
  · exact ev_pos c (j6 _ rfl)
  · have ck : kk < N.length := Nat.lt_of_not_le (fun h => c (Int.ofNat_le.2 h))
    have hm : rd_T27 N (kk : Int) ∈ N.drop kk := by rw [rd_cons N kk ck]; simp
    refine ev_neg c (ev_pos (Int.natCast_nonneg _) (ev_pos (Int.natCast_nonneg _) (ev_pos (Int.ofNat_lt.2 ck) (j6 _ (decide_eq_true ?_)))))
    rw [d2]
    exact hC _ hm
theorem note_round (hs : s.size ≤ 2048) (hT : T.length ≤ 9000000) (hN : N.length ≤ 9000000) (stop : Nat) (a i kk q z : Nat) (C1 : List S27) (h1 : a ≤ q) (h2 : Bk s a q) (h4 : q + z ≤ s.size) (d : N.drop kk = ⟨0, s.extract q (q + z), (q : Int)⟩ :: C1) (hA : ∀ x ∈ T.drop i, (q : Int) < x.f2)
    (ih : Ev (fun k => seichelaw11_GolexCovers.l1 k s T N ((q + z : Nat) : Int) (stop : Int) (i : Int) ((kk + 1 : Nat) : Int)) true) : Ev (fun k => seichelaw11_GolexCovers.j5 k s T N (a : Int) (stop : Int) (i : Int) (kk : Int)) true := by
  obtain ⟨d1, d2, d3⟩ := drop_cons d
  have w : wrap64 ((kk : Int) + 1) = ((kk + 1 : Nat) : Int) := by clear d d2 d3 hA; rw [w64 (by omega) (by omega)]; omega
  have szx : (s.extract q (q + z)).size = z := by clear d d2 d3 hA; rw [ByteArray.size_extract]; omega
  have w2 : wrap64 ((q : Int) + (z : Int)) = ((q + z : Nat) : Int) := by clear d d2 d3 hA; rw [w64 (by omega) (by omega)]; omega
  have it := item_ev hs hT hN ⟨0, s.extract q (q + z), (q : Int)⟩ a q z rfl rfl h1 h2 h4 ih
  have j6 : ∀ f : Bool, f = false → Ev (fun k => seichelaw11_GolexCovers.j6 k s T N (a : Int) (stop : Int) (i : Int) (kk : Int) f) true := by
    rintro f rfl
    refine Ev.step (fun _ => seichelaw11_GolexCovers.j6.eq_2 ..) (ev_neg Bool.false_ne_true (ev_pos (Int.ofNat_lt.2 d1) (ev_pos (Int.natCast_nonneg _) ?_)))
    rw [d2]
    dsimp only at it ⊢
    rw [szx, w2] at it ⊢
    rw [w]
    exact it
  clear it ih
  refine Ev.step (fun _ => seichelaw11_GolexCovers.j5.eq_2 ..) ?_
  by_cases c0 : i < T.length
  · have hm : rd_T27 T (i : Int) ∈ T.drop i := by rw [rd_cons T i c0]; simp
    have hq := hA _ hm
    have nk : ¬ (kk : Int) ≥ (N.length : Int) := fun h => Nat.not_le_of_lt d1 (Int.ofNat_le.1 h)
    refine ev_pos (Int.ofNat_lt.2 c0) (ev_neg nk (ev_pos (Int.natCast_nonneg _) (ev_pos (Int.natCast_nonneg _) (ev_pos (Int.ofNat_lt.2 d1) (j6 _ (decide_eq_false ?_))))))
    rw [d2]
    exact Int.not_lt.2 (Int.le_of_lt hq)
  · have q : ¬ (i : Int) < (T.length : Int) := fun h => c0 (Int.ofNat_lt.1 h)
    exact ev_neg q (j6 _ rfl)
theorem fin_round (hs : s.size ≤ 2048) (hT : T.length ≤ 9000000) (hN : N.length ≤ 9000000) (stop : Nat) (tl : S27) (J : List S27) (a i kk : Nat) (hst : a ≤ stop) (ha : a ≤ s.size) (hTl : T = J ++ [tl]) (h : tl.f0 = 7 ∨ Bk s a s.size) (le : T.length ≤ i) (lk : N.length ≤ kk) :
    Ev (fun k => seichelaw11_GolexCovers.j5 k s T N (a : Int) (stop : Int) (i : Int) (kk : Int)) true ∧ Ev (fun k => seichelaw11_GolexCovers.j3 k s T N (a : Int) (stop : Int) (i : Int) (kk : Int) false) true := by
  have hend := end_ev hs hT hN stop tl J hst ha hTl h
  have q1 : ¬ (i : Int) < (T.length : Int) := fun h => Nat.not_lt_of_le le (Int.ofNat_lt.1 h)
  have q2 : ¬ (kk : Int) < (N.length : Int) := fun h => Nat.not_lt_of_le lk (Int.ofNat_lt.1 h)
  refine ⟨Ev.step (fun _ => seichelaw11_GolexCovers.j5.eq_2 ..) (ev_neg q1 (Ev.step (fun _ => seichelaw11_GolexCovers.j6.eq_2 ..) (ev_neg Bool.false_ne_true (ev_neg q2 hend)))), ?_⟩
  exact Ev.step (fun _ => seichelaw11_GolexCovers.j3.eq_2 ..) (ev_neg Bool.false_ne_true hend)
theorem main_round (hs : s.size ≤ 2048) (hT : T.length ≤ 9000000) (hN : N.length ≤ 9000000) (stop : Nat) (tl : S27) (J : List S27) (hTl : T = J ++ [tl]) (hst : (tl.f0 = 7 → (stop : Int) = tl.f2) ∧ (tl.f0 ≠ 7 → stop = s.size)) (a i kk : Nat) (b : Bool) (ha : a ≤ s.size) (hi : i ≤ T.length) (hk : kk ≤ N.length)
    (hA : dropE (T.drop i) = dropE (lx ((bytesOf s).drop a) a b).1) (hC : N.drop kk = (lx ((bytesOf s).drop a) a b).2) (hJ : ∃ J', (lx ((bytesOf s).drop a) a b).1 = J' ++ [tl])
    (ih : ∀ (a' i' kk' : Nat) (b' : Bool), a < a' → a' ≤ s.size → i' ≤ T.length → kk' ≤ N.length → dropE (T.drop i') = dropE (lx ((bytesOf s).drop a') a' b').1 → N.drop kk' = (lx ((bytesOf s).drop a') a' b').2 → (∃ J', (lx ((bytesOf s).drop a') a' b').1 = J' ++ [tl]) →
      Ev (fun k => seichelaw11_GolexCovers.l1 k s T N (a' : Int) (stop : Int) (i' : Int) (kk' : Int)) true) :
    Ev (fun k => seichelaw11_GolexCovers.l1 k s T N (a : Int) (stop : Int) (i : Int) (kk : Int)) true := by
  have nx := nx_lx (s := s) _ a b (Nat.le_refl _) ha
  have hbd := byt_bytesOf s
  obtain ⟨J', hJ⟩ := hJ
  obtain ⟨E, e1, e2, e3⟩ := dropE_split (T.drop i)
  have el : i + E.length ≤ T.length := by
    have := congrArg List.length e2
    rw [List.length_drop, List.length_append] at this
    clear ih nx hA hC hJ e2 e3
    omega
  have e4 : T.drop (i + E.length) = dropE (T.drop i) := by
    have := congrArg (List.drop E.length) e2
    rw [List.drop_drop, List.drop_left] at this
    exact this
  have round := round_ev hs hT hN stop a i kk E _ e2 e1 e3 hi
  cases nx with
  | tok q z kd b' E' h1 h2 h3 h4 h5 h6 h7 =>
    have hw : ¬ Emp ⟨kd, s.extract q (q + z), (q : Int)⟩ := by
      show ¬ (s.extract q (q + z)).toList = _
      intro h
      have := congrArg List.length h
      have hz : (s.extract q (q + z)).data.toList.length = (s.extract q (q + z)).size := by rw [Array.length_toList]; rfl
      rw [ba_toList, hz, ByteArray.size_extract, List.length_nil] at this
      clear ih round e2 e3 e4 hA hC hJ h6 h7 h h2
      omega
    rw [hA, h6, dropE_app h5, dropE_wr hw] at e4
    obtain ⟨d1, d2, d3⟩ := drop_cons e4
    have last : ∃ J2, (lx ((bytesOf s).drop (q + z)) (q + z) b').1 = J2 ++ [tl] := by
      rw [h6] at hJ
      rw [show E' ++ (⟨kd, s.extract q (q + z), (q : Int)⟩ :: (lx ((bytesOf s).drop (q + z)) (q + z) b').1) = (E' ++ [⟨kd, s.extract q (q + z), (q : Int)⟩]) ++ (lx ((bytesOf s).drop (q + z)) (q + z) b').1 by simp] at hJ
      obtain ⟨J2, g, _⟩ := app_last hJ (lx_ne _ _ _ _ (Nat.le_refl _) (byt_drop hbd _))
      exact ⟨J2, g⟩
    have lt : a < q + z := Nat.lt_of_le_of_lt h1 (Nat.lt_add_of_pos_right h3)
    have go := ih (q + z) (i + E.length + 1) kk b' lt h4 d1 hk (by rw [d3]) (by rw [hC, h7]) last
    refine round (.inl (Nat.lt_of_le_of_lt (Nat.le_add_right _ _) d1)) (tok_round hs hT hN stop a (i + E.length) kk q z kd _ h1 h2 h4 e4 (fun x hx => ?_) go)
    rw [hC, h7] at hx
    have := lx_at2 _ _ _ _ (Nat.le_refl _) (byt_drop hbd (q + z)) x hx
    clear ih round e2 e3 e4 hA hC hJ h6 h7 go d2 d3 last
    omega
  | note q z b' E' h1 h2 h3 h4 h5 h6 h7 =>
    rw [h7] at hC
    obtain ⟨d1, d2, d3⟩ := drop_cons hC
    have last : ∃ J2, (lx ((bytesOf s).drop (q + z)) (q + z) b').1 = J2 ++ [tl] := by
      rw [h6] at hJ
      obtain ⟨J2, g, _⟩ := app_last hJ (lx_ne _ _ _ _ (Nat.le_refl _) (byt_drop hbd _))
      exact ⟨J2, g⟩
    rw [h6, dropE_app h5] at hA
    have lt : a < q + z := Nat.lt_of_le_of_lt h1 (Nat.lt_add_of_pos_right h3)
    have go := ih (q + z) (i + E.length) (kk + 1) b' lt h4 el d1 (by rw [e4, dropE_idem, hA]) d3 last
    refine round (.inr d1) (note_round hs hT hN stop a (i + E.length) kk q z _ h1 h2 h4 hC (fun x hx => ?_) go)
    rw [e4, hA] at hx
    have := (Fr.lx_at _ _ _ _ (Nat.le_refl _) (byt_drop hbd (q + z)) x (dropE_mem hx)).1
    clear ih round e2 e3 e4 hA hC hJ h6 h7 go d2 d3 last
    omega
  | fin h1 h2 I t h3 h4 =>
    have et : t = tl := by
      rw [h3] at hJ
      exact List.head_eq_of_cons_eq (List.append_inj' hJ rfl).2
    subst et
    rw [hA, dropE_all h1] at e4
    have le := drop_nil' e4
    rw [h2] at hC
    have lk := drop_nil' hC
    have f := fin_round hs hT hN stop t J a (i + E.length) kk (by
      rcases h4 with ⟨f0, f2, _⟩ | ⟨f0, f2⟩
      · rw [hst.2 (by rw [f0]; decide)]; exact ha
      · have := hst.1 f0
        clear ih round e2 e3 e4 hA hC hJ h3 h1
        omega) ha hTl (by
      rcases h4 with ⟨f0, f2, bk⟩ | ⟨f0, f2⟩
      · exact .inr bk
      · exact .inl f0) le lk
    by_cases c : i < T.length
    · exact round (.inl c) f.1
    · have f2 := (fin_round hs hT hN stop t J a i kk (by
        rcases h4 with ⟨f0, f2, _⟩ | ⟨f0, f2⟩
        · rw [hst.2 (by rw [f0]; decide)]; exact ha
        · have := hst.1 f0
          clear ih round e2 e3 e4 hA hC hJ h3 h1
          omega) ha hTl (by
        rcases h4 with ⟨f0, f2, bk⟩ | ⟨f0, f2⟩
        · exact .inr bk
        · exact .inl f0) (Nat.le_of_not_lt c) lk).2
      have q1 : ¬ (i : Int) < (T.length : Int) := fun h => c (Int.ofNat_lt.1 h)
      have d : decide ((kk : Int) < (N.length : Int)) = false := decide_eq_false (fun h => Nat.not_lt_of_le lk (Int.ofNat_lt.1 h))
      refine Ev.step (fun _ => seichelaw11_GolexCovers.l1.eq_2 ..) (ev_neg q1 ?_)
      rw [d]
      exact f2
theorem main_ev (hs : s.size ≤ 2048) (hT : T.length ≤ 9000000) (hN : N.length ≤ 9000000) (stop : Nat) (tl : S27) (J : List S27) (hTl : T = J ++ [tl]) (hst : (tl.f0 = 7 → (stop : Int) = tl.f2) ∧ (tl.f0 ≠ 7 → stop = s.size)) : ∀ (n a i kk : Nat) (b : Bool), s.size - a ≤ n → a ≤ s.size → i ≤ T.length → kk ≤ N.length →
    dropE (T.drop i) = dropE (lx ((bytesOf s).drop a) a b).1 → N.drop kk = (lx ((bytesOf s).drop a) a b).2 → (∃ J', (lx ((bytesOf s).drop a) a b).1 = J' ++ [tl]) →
    Ev (fun k => seichelaw11_GolexCovers.l1 k s T N (a : Int) (stop : Int) (i : Int) (kk : Int)) true := by
  intro n
  induction n with
  | zero => exact fun a i kk b hn ha hi hk hA hC hJ => main_round hs hT hN stop tl J hTl hst a i kk b ha hi hk hA hC hJ (fun a' _ _ _ g1 g2 => by exfalso; clear hA hC hJ; omega)
  | succ m ih => exact fun a i kk b hn ha hi hk hA hC hJ => main_round hs hT hN stop tl J hTl hst a i kk b ha hi hk hA hC hJ (fun a' i' kk' b' g1 g2 => ih a' i' kk' b' (by clear ih hA hC hJ; omega) g2)
/-- The tokens ahead of a fault stand ahead of it. -/
theorem ahead_ev (hs : s.size ≤ 2048) (hT : T.length ≤ 9000000) (hN : N.length ≤ 9000000) (tl : S27) (J : List S27) (x0 : Int) (x1 : ByteArray) (a : Int) (st : Int) (hTl : T = J ++ [tl]) (hle : ∀ x ∈ J, x.f2 ≤ tl.f2) (go : Ev (fun k => seichelaw11_GolexCovers.j1 k s T N a st) true) : ∀ (n j : Nat), J.length - j ≤ n → j ≤ J.length → Ev (fun k => seichelaw11_GolexCovers.l0 k s T N a st (j : Int) x0 x1 tl.f2) true
  | n, j, hn, hj => by
    have ln : T.length = J.length + 1 := by rw [hTl]; simp
    have w : wrap64 ((T.length : Int) - 1) = (J.length : Int) := by rw [w64 (by omega) (by omega)]; omega
    refine Ev.step (fun _ => seichelaw11_GolexCovers.l0.eq_2 ..) ?_
    rw [w]
    by_cases c : j < J.length
    · have hn' : n ≠ 0 := by omega
      obtain ⟨m, rfl⟩ := Nat.exists_eq_succ_of_ne_zero hn'
      have w1 : wrap64 ((j : Int) + 1) = ((j + 1 : Nat) : Int) := by rw [w64 (by omega) (by omega)]; omega
      have ih := ahead_ev hs hT hN tl J x0 x1 a st hTl hle go m (j + 1) (by omega) (by omega)
      rw [← w1] at ih
      have rj : rd_T27 T (j : Int) = rd_T27 J (j : Int) := by
        rw [hTl]
        unfold rd_T27
        rw [Int.toNat_natCast, List.getD_eq_getElem?_getD, List.getD_eq_getElem?_getD, List.getElem?_append_left c]
      have hle' := hle _ (rd_mem c)
      have q1 : (j : Int) < (J.length : Int) := Int.ofNat_lt.2 c
      have q2 : (j : Int) < (T.length : Int) := by omega
      refine ev_pos q1 (ev_pos (Int.natCast_nonneg _) (ev_pos q2 (ev_neg ?_ ih)))
      rw [rj]
      omega
    · exact ev_neg (by omega) go
end
theorem GolexCovers : seichelaw11_GolexCovers.Pure := by
  intro s _
  suffices h : Ev (fun q => seichelaw11_GolexCovers.f q s) true by
    obtain ⟨K, hk⟩ := h
    exact ⟨K, hk K (Nat.le_refl _)⟩
  unfold seichelaw11_GolexCovers.f
  refine ev_call (ev_eq alive_true) (ev_pos rfl ?_)
  by_cases c1 : (s.size : Int) > 2048
  · exact ev_pos c1 (ev_ret rfl)
  have hs : s.size ≤ 2048 := by omega
  have h1 : s.size ≤ 1048576 := Nat.le_trans hs (by decide)
  have e1 : golex_Lex.f s = some (lexB s).1 := by unfold golex_Lex.f; rw [if_pos h1]
  have e2 : golex_Notes.f s = some (lexB s).2 := by unfold golex_Notes.f; rw [if_pos h1]
  refine ev_neg c1 (ev_call (ev_eq e1) (ev_call (ev_eq e2) (ev_call (ev_eq (skip_f s)) ?_)))
  have hk := skp_le (bytesOf s)
  have hl := bytesOf_length s
  have hbd := byt_drop (byt_bytesOf s) (skp (bytesOf s))
  have lens := lx_len _ _ (skp (bytesOf s)) false hbd (Nat.le_refl _)
  obtain ⟨J, tl, g1, g2, g3⟩ := lx_last _ _ (skp (bytesOf s)) false (Nat.le_refl _) hbd
  have hat := Fr.lx_at _ _ (skp (bytesOf s)) false (Nat.le_refl _) hbd tl (by rw [g1]; simp)
  rw [List.length_drop, hl] at lens hat g2
  rw [hl] at hk
  have hT : (lexB s).1.length ≤ 9000000 := by unfold lexB; omega
  have hN : (lexB s).2.length ≤ 9000000 := by unfold lexB; omega
  have hTl : (lexB s).1 = J ++ [tl] := g1
  have ln : (lexB s).1.length = J.length + 1 := by rw [hTl]; simp
  have w : wrap64 (((lexB s).1.length : Int) - 1) = (J.length : Int) := by rw [w64 (by omega) (by omega)]; omega
  have rl : rd_T27 (lexB s).1 (J.length : Int) = tl := by
    rw [hTl]
    have := rd_app J [tl] 0
    rw [Nat.add_zero] at this
    rw [this]
    rfl
  have main : ∀ stop : Nat, ((tl.f0 = 7 → (stop : Int) = tl.f2) ∧ (tl.f0 ≠ 7 → stop = s.size)) → Ev (fun k => seichelaw11_GolexCovers.j1 k s (lexB s).1 (lexB s).2 (skp (bytesOf s) : Int) (stop : Int)) true := by
    intro stop hst
    refine Ev.step (fun _ => seichelaw11_GolexCovers.j1.eq_2 ..) ?_
    exact main_ev hs hT hN stop tl J hTl hst _ (skp (bytesOf s)) 0 0 false (Nat.le_refl _) hk.1 (Nat.zero_le _) (Nat.zero_le _) rfl rfl ⟨J, g1⟩
  rw [w, rl]
  have q1 : ¬ ((lexB s).1.length : Int) = 0 := by omega
  have q2 : (J.length : Int) < ((lexB s).1.length : Int) := by omega
  refine ev_neg q1 (ev_pos (Int.natCast_nonneg _) (ev_pos q2 ?_))
  by_cases c7 : tl.f0 = 7
  · refine ev_pos c7 ?_
    obtain ⟨st, hst⟩ : ∃ st : Nat, tl.f2 = (st : Int) := ⟨tl.f2.toNat, by omega⟩
    have mm := main st ⟨fun _ => hst.symm, fun h => absurd c7 h⟩
    rw [← hst] at mm
    exact ahead_ev hs hT hN tl J _ _ _ _ hTl g3 mm _ 0 (Nat.le_refl _) (Nat.zero_le _)
  · refine ev_neg c7 ?_
    rcases g2 with ⟨f0, f2⟩ | h
    · refine ev_pos f0 (ev_pos ?_ (main s.size ⟨fun h => absurd h c7, fun _ => rfl⟩))
      rw [f2]
      congr 1
      omega
    · exact absurd h c7
end Go.Proofs.YtfolmcfcmonkhaaDoor.Pure
