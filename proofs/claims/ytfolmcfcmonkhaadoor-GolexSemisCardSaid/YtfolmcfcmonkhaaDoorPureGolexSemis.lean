/- GolexSemis: the law's loop over the tokens answers true. -/
import Derived.Test.YtfolmcfcmonkhaaDoorLySemis
namespace Go.Proofs.YtfolmcfcmonkhaaDoor.Pure
open Go Go.RowKit Go.Proofs.YtfolmcfcmonkhaaDoor.PAll Go.Proofs.YtfolmcfcmonkhaaDoor.Fr Go.Proofs.YtfolmcfcmonkhaaDoorW.PrintWords Go.Proofs.YtfolmcfcmonkhaaDoorW.PrintLast Go.Proofs.YtfolmcfcmonkhaaDoorPw Go.Proofs.YtfolmcfcmonkhaaDoor
set_option linter.unusedVariables false
set_option linter.unusedSimpArgs false
section
variable {s : ByteArray} {T : List S27} {j : Nat}
theorem l1_ev (hs : s.size ≤ 1048576) (t : S27) (ht : t.f2 ≤ (s.size : Int)) (go : Ev (fun k => seichelaw11_GolexSemis.l0 k s T T (T.length : Int) (wrap64 ((j : Int) + 1))) true) : ∀ (n x : Nat), (t.f2 - (x : Int)).toNat ≤ n → (x ≤ s.size) → (∀ k : Nat, x ≤ k → (k : Int) < t.f2 → bt s (k : Int) ≠ 10) →
    Ev (fun k => seichelaw11_GolexSemis.l1 k s T (x : Int) T (T.length : Int) (j : Int) t.f0 t.f1 t.f2) true
  | n, x, hn, hx, hk => by
    refine Ev.step (fun _ => seichelaw11_GolexSemis.l1.eq_2 ..) ?_
    by_cases c : (x : Int) < t.f2
    · have hn' : n ≠ 0 := by omega
      obtain ⟨m, rfl⟩ := Nat.exists_eq_succ_of_ne_zero hn'
      have w : wrap64 ((x : Int) + 1) = ((x + 1 : Nat) : Int) := by rw [w64 (by omega) (by omega)]; omega
      have ih := l1_ev hs t ht go m (x + 1) (by omega) (by omega) (fun k h1 h2 => hk k (by omega) h2)
      rw [← w] at ih
      exact ev_pos c (ev_pos (by omega) (ev_pos (by omega) (ev_neg (hk x (Nat.le_refl _) c) ih)))
    · exact ev_neg c go
theorem row_ev (hs : s.size ≤ 1048576) (hT : T.length ≤ 9000000) (hj : j < T.length) (t : S27) (h : St s (if j = 0 then none else some (rd_T27 T ((j - 1 : Nat) : Int))) t)
    (go : Ev (fun k => seichelaw11_GolexSemis.l0 k s T T (T.length : Int) (wrap64 ((j : Int) + 1))) true) (b : Bool) (hb : b = true ↔ made t) :
    Ev (fun k => seichelaw11_GolexSemis.j1 k s T (j : Int) b T (T.length : Int) (j : Int) t.f0 t.f1 t.f2) true := by
  obtain ⟨h1, h2, h3⟩ := h
  have w : 0 < j → wrap64 ((j : Int) - 1) = ((j - 1 : Nat) : Int) := fun hh => by rw [w64 (by omega) (by omega)]; omega
  -- what stands behind
  have s4 : ∀ c : Bool, (c = true → 0 < j ∧ ¬ made t ∧ t.f0 ≠ 7 ∧ endsT (rd_T27 T ((j - 1 : Nat) : Int)) = true) → Ev (fun k => seichelaw11_GolexSemis.j4 k s T (j : Int) T (T.length : Int) (j : Int) c t.f0 t.f1 t.f2) true := by
    intro c hc
    refine Ev.step (fun _ => seichelaw11_GolexSemis.j4.eq_2 ..) ?_
    cases c with
    | false => exact ev_neg Bool.false_ne_true go
    | true =>
      obtain ⟨g1, g2, g3, g4⟩ := hc rfl
      rw [if_neg (by omega)] at h3
      obtain ⟨e1, e2, e3, e4⟩ := h3 _ rfl g2 g3 g4
      rw [w g1]
      refine ev_pos rfl (ev_pos (by omega) (ev_pos (by omega) ?_))
      generalize hp : rd_T27 T ((j - 1 : Nat) : Int) = p at e1 e2 e4 ⊢
      have e5 : wrap64 (p.f2 + (p.f1.size : Int)) = ((p.f2 + (p.f1.size : Int)).toNat : Int) := by rw [w64 (by omega) (by omega)]; omega
      rw [e5]
      exact l1_ev hs t e3 go _ _ (Nat.le_refl _) (by omega) (fun k a1 a2 => e4 k (by omega) a2)
  have s3 : ∀ c : Bool, c = false → Ev (fun k => seichelaw11_GolexSemis.j3 k s T (j : Int) b T (T.length : Int) (j : Int) c t.f0 t.f1 t.f2) true := by
    rintro c rfl
    refine Ev.step (fun _ => seichelaw11_GolexSemis.j3.eq_2 ..) (ev_neg Bool.false_ne_true ?_)
    by_cases c1 : (j : Int) > 0
    · refine ev_pos c1 ?_
      by_cases c2 : b = true
      · exact ev_pos c2 (s4 _ (fun h => absurd h Bool.false_ne_true))
      refine ev_neg c2 ?_
      by_cases c3 : t.f0 = 7
      · exact ev_pos c3 (s4 _ (fun h => absurd h Bool.false_ne_true))
      refine ev_neg c3 ?_
      rw [w (by omega)]
      exact ev_pos (by omega) (ev_pos (by omega) (ev_call (feeds_ev _) (s4 _ (fun h => ⟨by omega, fun hm => c2 (hb.2 hm), c3, h⟩))))
    · exact ev_neg c1 (s4 _ (fun h => absurd h Bool.false_ne_true))
  have s2 : ∀ c : Bool, c = false → Ev (fun k => seichelaw11_GolexSemis.j2 k s T (j : Int) b T (T.length : Int) (j : Int) c t.f0 t.f1 t.f2) true := by
    rintro c rfl
    refine Ev.step (fun _ => seichelaw11_GolexSemis.j2.eq_2 ..) (ev_neg Bool.false_ne_true ?_)
    by_cases c1 : t.f0 = 0
    · refine ev_pos c1 ?_
      by_cases c2 : (j : Int) > 0
      · rw [w (by omega)]
        rw [if_neg (by omega)] at h2
        refine ev_pos c2 (ev_pos (by omega) (ev_pos (by omega) (ev_call (feeds_ev _) (s3 _ (h2 _ rfl c1)))))
      · exact ev_neg c2 (s3 _ rfl)
    · exact ev_neg c1 (s3 _ rfl)
  refine Ev.step (fun _ => seichelaw11_GolexSemis.j1.eq_2 ..) ?_
  by_cases c1 : b = true
  · refine ev_pos c1 ?_
    obtain ⟨q', e1, e2, e3, e4⟩ := h1 (hb.1 c1)
    by_cases c2 : j = 0
    · rw [if_pos c2] at e1; cases e1
    rw [if_neg c2] at e1
    cases e1
    rw [w (by omega)]
    refine ev_neg (by omega) (ev_pos (by omega) (ev_pos (by omega) (ev_call (feeds_ev _) ?_)))
    refine ev_pos e2 ?_
    by_cases c3 : t.f2 < (s.size : Int)
    · refine ev_pos c3 (ev_pos e3 ?_)
      by_cases c4 : bt s t.f2 = 10
      · exact ev_pos c4 (s2 _ rfl)
      · refine ev_neg c4 (s2 _ ?_)
        have : bt s t.f2 = 47 := (e4 c3).resolve_left c4
        rw [this]
        rfl
    · exact ev_neg c3 (s2 _ rfl)
  · exact ev_neg c1 (s2 _ rfl)
theorem loop_ev (hs : s.size ≤ 1048576) (hT : T.length ≤ 9000000) (hC : Ch s none T) : ∀ (n j : Nat), T.length - j ≤ n → j ≤ T.length → Ev (fun k => seichelaw11_GolexSemis.l0 k s T T (T.length : Int) (j : Int)) true
  | n, j, hn, hj => by
    refine Ev.step (fun _ => seichelaw11_GolexSemis.l0.eq_2 ..) ?_
    by_cases c : j < T.length
    · have hn' : n ≠ 0 := by omega
      obtain ⟨m, rfl⟩ := Nat.exists_eq_succ_of_ne_zero hn'
      have w : wrap64 ((j : Int) + 1) = ((j + 1 : Nat) : Int) := by rw [w64 (by omega) (by omega)]; omega
      have ih := loop_ev hs hT hC m (j + 1) (by omega) (by omega)
      rw [← w] at ih
      have row := row_ev hs hT c (rd_T27 T (j : Int)) (ch_at T none j hC c) ih
      refine ev_pos (by omega) (ev_pos (by omega) (ev_pos (by omega) ?_))
      by_cases c6 : (rd_T27 T (j : Int)).f0 = 6
      · exact ev_pos c6 (row _ (by rw [beq_iff_eq]; exact ⟨fun h => ⟨c6, h⟩, fun h => h.2⟩))
      · exact ev_neg c6 (row _ ⟨fun h => absurd h Bool.false_ne_true, fun h => absurd h.1 c6⟩)
    · exact ev_neg (by omega) (ev_ret rfl)
end
theorem GolexSemis : seichelaw11_GolexSemis.Pure := by
  intro s _
  suffices h : Ev (fun k => seichelaw11_GolexSemis.f k s) true by
    obtain ⟨K, hk⟩ := h
    exact ⟨K, hk K (Nat.le_refl _)⟩
  unfold seichelaw11_GolexSemis.f
  refine ev_call (ev_eq alive_true) (ev_pos rfl ?_)
  by_cases c : (s.size : Int) > 2048
  · exact ev_pos c (ev_ret rfl)
  refine ev_neg c ?_
  have e : golex_Lex.f s = some (lexB s).1 := by unfold golex_Lex.f; rw [if_pos (by omega)]
  refine ev_call (ev_eq e) ?_
  exact loop_ev (by omega) (lex_len s (by omega)) (ch_lexB s) _ 0 (Nat.le_refl _) (Nat.zero_le _)
end Go.Proofs.YtfolmcfcmonkhaaDoor.Pure
